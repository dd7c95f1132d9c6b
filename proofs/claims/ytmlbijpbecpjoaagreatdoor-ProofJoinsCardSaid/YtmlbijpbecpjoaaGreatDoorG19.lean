/-
  Rc19, Rc20, Rc21, Rc22, Rc23, Rc24, Rc25.
-/
import Derived.Test.YtmlbijpbecpjoaaGreatDoorG18
set_option linter.all false
open Go.Am.F
namespace Go.Am
set_option maxRecDepth 20000
def Uy (n:Qu) (ks:Qe) (o:Bool) (bs:Qa) (hl:ks.length < 100000000):call tb 120 [.str n,.sl o 4 (Qb ks)] bs=some (.agg (Qf (.mk 3 n 0 ks)),bs):=by
 have hb:ks.length*56<=140737488355328:=WI (by omega);rw[zcc 120 rfl rfl];simp[f120C,hb,UV]
def N2 {α:Type} (n:Nat) (a b:List α): (a.take n ++ b).take n=(a ++ b).take n:=by
 rw[Pm,Pm,K0,Xf,Nat.min_self];congr 2;omega
def QnG {l:Qj} {p:Pw} {bs:Qa} (hN: -1000<=p.2/\p.2<=1000) (c:AC) (K:Kn) (X:Out): ∀(k:Nat) (acc:Qe) (i n:Nat) (o:Bool) (ρ:Ql),l[n]? =some p->i+k=p.2.toNat->acc.length<=9->ρ 0= .sl o 5 (QE l)->ρ 3= .sl true 4 (Qb acc)->ρ 4= .int .i64 n->ρ 5= .int .i64 i->
  (∀ρ':Ql,ρ' 0= .sl o 5 (QE l)->ρ' 4= .int .i64 n->ρ' 3= .sl true 4 (Qb ((acc ++ List.replicate k p.1).take 9))->R tb c ρ' bs K=X)->
  R tb (.loop f260l0) ρ bs (Qq 2 (Qq 1 (QH tb c K)))=X:=by
 intro k
 induction k with
 | zero=>
  intro acc i n o ρ hg hi ha h0 h3 h4 h5 h;have hn: ¬(i:Int) < p.2:=by omega
  rw[Qg f260l0.eq_1];simp[h0,h3,h4,h5,hg,hn];apply h <;> simp[h0,h3,h4,Yy ha]
 | succ k IH=>
  intro acc i n o ρ hg hi ha h0 h3 h4 h5 h;have hn: (i:Int) < p.2:=by omega
  have hw1:IntKind.i64.wrap ((i:Int)+1)=((i+1:Nat):Int):=by rw[Zb (by omega) (by omega)];omega
  rw[Qg f260l0.eq_1];by_cases c9:acc.length < 9
  ·have c9': (acc.length:Int) < 9:=by omega
   have hb: (acc.length+1)*56<=140737488355328:=WI (by omega);simp[h0,h3,h4,h5,hg,hn,hw1,hb,c9',ZV,ZB];refine IH (acc ++ [p.1]) (i+1) n o _ hg (by omega) (by simp;omega) ?_ ?_ ?_ ?_ ?_
   ·simp[h0]
   ·simp
   ·simp[h4]
   ·simp
   ·intro ρ' g0 g4 g3;rw[Ly]at g3;exact h ρ' g0 g4 g3
  ·have c9': ¬(acc.length:Int) < 9:=by omega
   have e: (acc ++ List.replicate (k+1) p.1).take 9=acc:=by rw[Pb (by omega),Yy ha]
   simp[h0,h3,h4,h5,hg,hn,c9'];apply h <;> simp[h0,h3,h4,e]
def QnI {l:Qj} {p:Pw} {bs:Qa} (hN: -1000<=p.2/\p.2<=1000) (c:AC) (K:Kn) (X:Out): ∀(k:Nat) (acc:Qe) (i n:Nat) (o:Bool) (ρ:Ql),l[n]? =some p->i+k=(-p.2).toNat->acc.length<=9->ρ 0= .sl o 5 (QE l)->ρ 3= .sl true 4 (Qb acc)->ρ 6= .int .i64 n->ρ 7= .int .i64 i->
  (∀ρ':Ql,ρ' 0= .sl o 5 (QE l)->ρ' 6= .int .i64 n->ρ' 3= .sl true 4 (Qb ((acc ++ List.replicate k (TM p.1)).take 9))->R tb c ρ' bs K=X)->
  R tb (.loop f260l2) ρ bs (Qq 6 (Qq 5 (QH tb c K)))=X:=by
 have hw:IntKind.i64.wrap (-p.2)= -p.2:=Zb (by omega) (by omega);intro k
 induction k with
 | zero=>
  intro acc i n o ρ hg hi ha h0 h3 h4 h5 h;have hn: ¬(i:Int) < -p.2:=by omega
  rw[Qg f260l2.eq_1];simp[h0,h3,h4,h5,hg,hw,hn];apply h <;> simp[h0,h3,h4,Yy ha]
 | succ k IH=>
  intro acc i n o ρ hg hi ha h0 h3 h4 h5 h;have hn: (i:Int) < -p.2:=by omega
  have hw1:IntKind.i64.wrap ((i:Int)+1)=((i+1:Nat):Int):=by rw[Zb (by omega) (by omega)];omega
  rw[Qg f260l2.eq_1];by_cases c9:acc.length < 9
  ·have c9': (acc.length:Int) < 9:=by omega
   have hb: (acc.length+1)*56<=140737488355328:=WI (by omega);have hc2:=Uy INV [p.1] false bs (by simp);simp only[INV]at hc2;simp[h0,h3,h4,h5,hg,hw,hn,hw1,hb,hc2,c9',ZV];rw[show Qf (Tm.mk 3 [105,110,118] 0 [p.1])=Qf (TM p.1)from rfl];simp[ZV,ZB];refine IH (acc ++ [TM p.1]) (i+1) n o _ hg (by omega) (by simp;omega) ?_ ?_ ?_ ?_ ?_
   ·simp[h0]
   ·simp[TM,INV]
   ·simp[h4]
   ·simp
   ·intro ρ' g0 g4 g3;rw[Ly]at g3;exact h ρ' g0 g4 g3
  ·have c9': ¬(acc.length:Int) < 9:=by omega
   have e: (acc ++ List.replicate (k+1) (TM p.1)).take 9=acc:=by rw[Pb (by omega),Yy ha]
   simp[h0,h3,h4,h5,hg,hw,hn,c9'];apply h <;> simp[h0,h3,h4,e]
def QnJ (l:Qj) (bs:Qa) (hl:l.length < 5000000) (hN: ∀q∈l,-1000<=q.2/\q.2<=1000):
  ∀(post pre:Qj) (o:Bool) (ρ:Ql),l=pre ++ post->ρ 0= .sl o 5 (QE l)->ρ 3= .sl true 4 (Qb ((WT l ++ Vd pre).take 9))->ρ 6= .int .i64 pre.length->
  R tb (.loop f260l3) ρ bs (Qq 4 (QH tb f260r2 (QP f260 bs)))=some (.sl false 4 (Qb ((Ye l).take 9)),bs):=by
 intro post
 induction post with
 | nil=>
  intro pre o ρ hk h0 h3 h6;simp only[QN]at hk;subst hk;rw[Qg f260l3.eq_1];simp[h0,h3,h6,f260r2,Ye]
 | cons p post IH=>
  intro pre o ρ hk h0 h3 h6;have hg:=Qx hk;have hll:=QL hk;have hw1:=wr1 pre.length (by omega);have hlt:=QO hk;have ih:=fun ρ=>IH (pre ++ [p]) o ρ (by rw[hk];simp);have hpN:=hN p (by rw[hk];simp);rw[Qg f260l3.eq_1];simp[h0,h3,h6,hlt];refine QnI hpN _ _ _ (-p.2).toNat ((WT l ++ Vd pre).take 9) 0 pre.length o _ hg (by omega) (by rw[Xf];omega) ?_ ?_ ?_ ?_ ?_
  ·simp[h0]
  ·simp[h3]
  ·simp[h6]
  ·simp
  ·intro ρ' g0 g6 g3;rw[N2,ZR,<- Dh]at g3;simp[f260r1,g6,hw1];apply ih <;> simp[g0,g3]
def QnH (l:Qj) (bs:Qa) (hl:l.length < 5000000) (hN: ∀q∈l,-1000<=q.2/\q.2<=1000):
  ∀(post pre:Qj) (o:Bool) (ρ:Ql),l=pre ++ post->ρ 0= .sl o 5 (QE l)->ρ 3= .sl true 4 (Qb ((WT pre).take 9))->ρ 4= .int .i64 pre.length->
  R tb (.loop f260l1) ρ bs (Qq 0 (QH tb f260r3 (QP f260 bs)))=some (.sl false 4 (Qb ((Ye l).take 9)),bs):=by
 intro post
 induction post with
 | nil=>
  intro pre o ρ hk h0 h3 h4;simp only[QN]at hk;subst hk;have h:=fun ρ=>QnJ l bs hl hN l [] o ρ rfl;rw[Qg f260l1.eq_1];simp[h0,h3,h4,f260r3];apply h <;> simp[h0,h3,Vd]
 | cons p post IH=>
  intro pre o ρ hk h0 h3 h4;have hg:=Qx hk;have hll:=QL hk;have hw1:=wr1 pre.length (by omega);have hlt:=QO hk;have ih:=fun ρ=>IH (pre ++ [p]) o ρ (by rw[hk];simp);have hpN:=hN p (by rw[hk];simp);rw[Qg f260l1.eq_1];simp[h0,h3,h4,hlt];refine QnG hpN _ _ _ p.2.toNat ((WT pre).take 9) 0 pre.length o _ hg (by omega) (by rw[Xf];omega) ?_ ?_ ?_ ?_ ?_
  ·simp[h0]
  ·simp[h3]
  ·simp[h4]
  ·simp
  ·intro ρ' g0 g4 g3;rw[N2,<- Dp]at g3;simp[f260r0,g4,hw1];apply ih <;> simp[g0,g3]
def Qhm (l:Qj) (o:Bool) (bs:Qa) (hl:l.length < 5000000) (hN: ∀q∈l,-1000<=q.2/\q.2<=1000):
  call tb 260 [.sl o 5 (QE l)] bs=some (.sl false 4 (Qb ((Ye l).take 9)),bs):=by
 have h:=fun ρ=>QnH l bs hl hN l [] false ρ rfl;rw[zcc 260 rfl rfl];simp[f260C];apply h <;> simp[WT,Qb]
def Qhl (l:Qj) (o:Bool) (bs:Qa) (hl:l.length < 5000000) (hk: ∀q∈l,q.1.mass < big) (hm: (∀q∈l,-8<=q.2/\q.2<=8)->Qt (Ye l) < big - 100):
  call tb 258 [.sl o 5 (QE l)] bs=some (Zm (Yl l),bs):=by
 have h1:=OP l false bs (by omega) hk;rw[zcc 258 rfl rfl];by_cases hv:ZY l=0
 ·obtain⟨hinv,_,_⟩:=Ur hv hk;have h2:=Qhm l false bs hl fun q hq=>(hinv.bd q hq).2;by_cases c8:8 < (Ye l).length
  ·have c8': (8:Int) < ((min 9 (Ye l).length:Nat):Int):=by omega
   have e:Yl l=(QG,3):=by simp[Yl,hv,c8]
   rw[e];simp[f258C,h1,hv,h2,c8',Zm,Q8]
  ·have hN8: ∀q∈l,-8<=q.2/\q.2<=8:=by
    intro q hq;have h3:=Ds hq;have h4:=Dj hq;simp only[Ye,Zo]at c8;omega
   have hm':=hm hN8;have hpm: (Z8 (Ye l)).mass < big:=by
    unfold big at *
    match h:Ye l with
    | []=>simp[Z8,QF,Qt,ONE]
    | [p]=>rw[h]at hm';simp[Z8,Qt]at hm' ⊢;omega
    | p:: q:: r=>rw[h]at hm' c8;simp[Z8,QF,Qt,MUL]at hm' c8 ⊢;omega
   have hvv:=WM (Z8 (Ye l)) bs hpm;have e:Yl l=if Zg (Z8 (Ye l))≠0 then(QG,Zg (Z8 (Ye l)))else(Z8 (Ye l),0):=by simp[Yl,hv,c8]
   rw[e];rw[Yy (by omega)]at h2;have ha:=Uy MUL (Ye l) false bs (by omega);have ha1:=Uy ONE [] true bs (by simp);simp only[MUL]at ha;simp only[ONE,Qb]at ha1;have c8': ¬(8:Int) < ((Ye l).length:Int):=by omega
   generalize hL:Ye l=L at *
   match L,hL with
   | [],hL=>
    simp only[Z8,ONE]at hvv;simp only[Qb]at ha h2;by_cases cv:Zg (.mk 3 [111,110,101] 0 [])=0
    ·rw[cv]at hvv;simp[f258C,h1,hv,h2,ha,ha1,hvv,cv,Zm,Z8,ONE]
    ·simp[f258C,h1,hv,h2,ha,ha1,hvv,cv,Zm,Q8,Z8,ONE]
   | [p],hL=>
    simp only[Z8]at hvv;by_cases cv:Zg p=0
    ·rw[cv]at hvv;simp[f258C,h1,hv,h2,ha,hvv,cv,Zm,Z8]
    ·simp[f258C,h1,hv,h2,ha,hvv,cv,Zm,Q8,Z8]
   | p:: q:: r,hL=>
    simp only[Z8,MUL]at hvv;have c8'': ¬(8:Int) < (r.length:Int)+1+1:=by simpa using c8'
    have n0: ¬(r.length:Int)+1+1=0:=by omega
    have n1: ¬(r.length:Int)+1+1=1:=by omega
    by_cases cv:Zg (.mk 3 [109,117,108] 0 (p:: q:: r))=0
    ·rw[cv]at hvv;simp[f258C,h1,hv,h2,ha,hvv,cv,c8'',n0,n1,Zm,Z8,MUL]
    ·simp[f258C,h1,hv,h2,ha,hvv,cv,c8'',n0,n1,Zm,Q8,Z8,MUL]
 ·have e:Yl l=(QG,ZY l):=by simp[Yl,hv]
  rw[e];simp[f258C,h1,hv,Zm,Q8]
def WP:QE []=[]:=rfl
def Wv (a:Qj):Qj->Qj
 | []=>a
 | q:: b=>Wv (Xd a q.1 q.2) b
def YQ (l:Qj):Int:=if l.any (fun q=>XV q.2)then 7 else if 200 < l.length then 3 else 0
def W5 (a b:Qj):Int:=if ZY a≠0 then ZY a else if ZY b≠0 then ZY b else YQ (Wv a b)
def XU (a b:Qj):Qj:=if W5 a b=0 then Wv a b else []
def Pn:=@List.any_append
def Qap (l:Qj) (bs:Qa) (hl:l.length < 100000000):
  ∀(post pre:Qj) (o:Bool) (ρ:Ql),l=pre ++ post->pre.any (fun q=>XV q.2)=false->ρ 0= .sl o 5 (QE l)->ρ 3= .int .i64 pre.length->
  R tb (.loop f263l0) ρ bs (Qq 0 (QH tb f263r0 (QP f263 bs)))=some (.int .i64 (YQ l),bs):=by
 intro post
 induction post with
 | nil=>
  intro pre o ρ hk hp h0 h3;simp only[QN]at hk;rw[<- hk]at h3 hp;rw[Qg f263l0.eq_1];by_cases c:200 < l.length
  ·have c': (200:Int) < (l.length:Int):=by omega
   simp[h0,h3,f263r0,YQ,hp,c,c',-List.any_eq_false,-List.any_eq_true]
  ·have c': ¬(200:Int) < (l.length:Int):=by omega
   simp[h0,h3,f263r0,YQ,hp,c,c',-List.any_eq_false,-List.any_eq_true]
 | cons p post IH=>
  intro pre o ρ hk hp h0 h3;have hg:=Qx hk;have hll:=QL hk;have hw1:=wr1 pre.length (by omega);have hlt:=QO hk;have hany:XV p.2=true->YQ l=7:=by
   intro h;have:l.any (fun q=>XV q.2)=true:=Rn.2 ⟨p,by rw[hk];simp,h⟩;simp only[YQ,this,Zl]
  rw[Qg f263l0.eq_1];by_cases c4:p.2 < -1000
  ·rw[hany (by simp[XV,c4])];simp[h0,h3,hg,hlt,c4]
  ·by_cases c5:1000 < p.2
   ·rw[hany (by simp[XV,c5])];simp[h0,h3,hg,hlt,c4,c5]
   ·have ih:=fun ρ=>IH (pre ++ [p]) o ρ (by rw[hk];simp) (by rw[Pn,hp];simp[XV,c4,c5]);simp[h0,h3,hg,hlt,hw1,c4,c5];apply ih <;> simp[h0]
def Qho (l:Qj) (o:Bool) (bs:Qa) (hl:l.length < 100000000):call tb 263 [.sl o 5 (QE l)] bs=some (.int .i64 (YQ l),bs):=by
 have h:=fun ρ=>Qap l bs hl l [] false ρ rfl rfl;rw[zcc 263 rfl rfl];simp[f263C];apply h <;> simp
def Qcx (b:Qj) (bs:Qa) (hb:b.length<=200) (hbm: ∀q∈b,q.1.mass < big/\q.2≠0/\ -1000<=q.2/\q.2<=1000) (X:Qj):
  ∀(post pre:Qj) (acc:Qj) (n:Nat) (o o2:Bool) (ρ:Ql),b=pre ++ post->Vz acc n->n+1000*post.length < 40000000->Wv acc post=X->ρ 1= .sl o 5 (QE b)->ρ 8= .sl o2 5 (QE acc)->ρ 9= .int .i64 pre.length->
  R tb (.loop f262l0) ρ bs (Qq 0 (QH tb f262r0 (QP f262 bs)))=some (.tup [.sl false 5 (QE (if YQ X=0 then X else [])),.int .i64 (YQ X)],bs):=by
 intro post
 induction post with
 | nil=>
  intro pre acc n o o2 ρ hk ha hn hX h1 h8 h9;simp only[QN]at hk;rw[<- hk]at h9;simp only[Wv]at hX;subst hX;have hal:=ha.len;have hr:=Qho acc false bs (by simp at hn;omega);rw[Qg f262l0.eq_1];by_cases c:YQ acc=0
  ·simp[h1,h8,h9,f262r0,hr,c]
  ·simp[h1,h8,h9,f262r0,hr,c,WP]
 | cons p post IH=>
  intro pre acc n o o2 ρ hk ha hn hX h1 h8 h9;have hg:=Qx hk;have hll:=QL hk;have hw1:=wr1 pre.length (by omega);have hlt:=QO hk;obtain⟨q1,q2,q3,q4⟩:=hbm p (by rw[hk];simp);simp only[ZL]at hn;have hc:=CV (m:=p.2) false bs ha (by omega) q1 (by omega);have ih:=fun ρ=>IH (pre ++ [p]) (Xd acc p.1 p.2) (n+1000) o false ρ (by rw[hk];simp) (ha.add (c:=1000) q1 q2 (by omega) (by omega)) (by omega) (by rw[<- hX];rfl);rw[Qg f262l0.eq_1];simp[h1,h8,h9,hg,hlt,hw1,hc];apply ih <;> simp[h1]
def CW (a b:Qj) (o o2:Bool) (bs:Qa) (ha:a.length < 100000000) (hb:b.length < 100000000) (hma: ∀q∈a,q.1.mass < big) (hmb: ∀q∈b,q.1.mass < big):
  call tb 262 [.sl o 5 (QE a),.sl o2 5 (QE b)] bs=some (.tup [.sl false 5 (QE (XU a b)),.int .i64 (W5 a b)],bs):=by
 have h1:=OP a false bs ha hma;have h2:=OP b false bs hb hmb;rw[zcc 262 rfl rfl];by_cases va:ZY a=0
 ·by_cases vb:ZY b=0
  ·obtain⟨ia,la,_⟩:=Ur va hma;obtain⟨ib,lb,_⟩:=Ur vb hmb;have h3:=fun ρ=>Qcx b bs lb (fun q hq=>by obtain⟨x1,x2,x3⟩:=ib.bd q hq;exact⟨x1,ib.nz q hq,x2,x3⟩) _ b [] a 1000 false true ρ rfl ia (by omega) rfl;have e1:W5 a b=YQ (Wv a b):=by simp[W5,va,vb]
   have e2:XU a b=if YQ (Wv a b)=0 then Wv a b else []:=by simp[XU,e1]
   have hb64:a.length*64<=140737488355328:=NA (by omega);rw[e1,e2];simp[f262C,h1,h2,va,vb,hb64];apply h3 <;> simp
  ·have e1:W5 a b=ZY b:=by simp[W5,va,vb]
   have e2:XU a b=[]:=by simp[XU,e1,vb]
   rw[e1,e2];simp[f262C,h1,h2,va,vb,WP]
 ·have e1:W5 a b=ZY a:=by simp[W5,va]
  have e2:XU a b=[]:=by simp[XU,e1,va]
  rw[e1,e2];simp[f262C,h1,va,WP]
def QnL {B0 B:Qa} {v:AV} {l:Qj} (p:Pw) (o:Bool) (h:PS B0 B v l) (hl:l.length < 50000000): ∃v' B',appM 64 5 v (.sl o 5 [Zq p]) B=some (v',B')/\PS B0 B' v' (l ++ [p]):=by
 obtain⟨M,id,sz,rfl,rfl,hc⟩:=h;have hb: (l.length+1)*64<=140737488355328:=NA (by omega);have hs:Wt 5 (.sl o 5 [Zq p]) (B0 ++ M)=some (1,Zq p):=by simp[Wt]
 rcases hc with⟨rfl,rfl,rfl⟩ | ⟨rfl,hid,t,hbx,hne⟩
 ·refine⟨.gs (B0 ++ M).length 0 5 1,B0 ++ (M ++ [Zq p]),?_,M ++ [Zq p],(B0 ++ M).length,5,rfl,rfl,.inr ⟨rfl,by simp,[],?_,?_⟩⟩
  ·simp[appM,hs]
  ·rw[<- ZR,YZ];simp[QW,YG]
  ·simp[QW,YG,Bm]
 ·have hlt:=WQ hbx;have hr:=Xu l;have hle:l.length*5<=(QW l ++ t).length:=by rw[Zo,hr];omega
  have hrow:QW (l ++ [p])=QW l ++ Zq p:=by simp[QW,Ua,OZ]
  have htk: (QW l ++ t).take (l.length*5)=QW l:=by rw[<- hr,OK]
  have hne2: ∀x:Qh,QW l ++ (Zq p ++ x)≠[]:=fun x e=>by
   have:=Wu List.length e;simp at this
  by_cases hroom: (l.length+1)*5<=(QW l ++ t).length
  ·refine⟨.gs id 0 5 (l.length+1),(B0 ++ M).set id (QW l ++ (Zq p ++ (QW l ++ t).drop (l.length*5+5))),?_,_,id,5,Wj hid _,by simp,.inr ⟨rfl,hid,(QW l ++ t).drop (l.length*5+5),?_,?_⟩⟩
   ·simp only[appM,hs,QC];rw[Qn ⟨by omega,hb⟩,Qm (by omega),Qm (by omega),Qn ⟨trivial,trivial⟩,hbx];simp only[QC];rw[Qn ⟨hne,hle⟩,Qn hroom];simp only[put,htk,W3];simp
   ·have:id < (B0 ++ M).length:=hlt;rw[Y8,Qn rfl,Qn this,hrow];simp
   ·rw[hrow,ZR];exact hne2 _
  ·refine⟨.gs (B0 ++ M).length 0 5 (l.length+1),(B0 ++ M).set id []++ [QW l ++ Zq p],?_,M.set (id - B0.length) []++ [QW l ++ Zq p],(B0 ++ M).length,5,?_,by simp,.inr ⟨rfl,by simp,[],?_,?_⟩⟩
   ·have hst: (QW l).map AV.strip=QW l:=Xx VO l;simp only[appM,hs,QC];rw[Qn ⟨by omega,hb⟩,Qm (by omega),Qm (by omega),Qn ⟨trivial,trivial⟩,hbx];simp only[QC];rw[Qn ⟨hne,hle⟩,Qm hroom,htk,hst]
   ·rw[Wj hid,ZR]
   ·have e: (B0 ++ M).length=((B0 ++ M).set id []).length:=by simp
    rw[hrow,QN,e,YZ]
   ·rw[hrow,QN];have:=hne2 [];simpa using this
def Ci (l:Qj) (B0 K:Qa) (hl:l.length < 40000000) (hm: ∀q∈l,q.1.mass < big):
  ∀(post pre:Qj) (B:Qa) (v:AV) (ρ:Ql),l=pre ++ post->PS B0 B v pre->ρ 3=v->ρ 6= .sl false 5 (QE l)->ρ 7= .int .i64 l.length->ρ 8= .int .i64 pre.length->
  Qeq B0 l (R tb (.loop f201l0) ρ B (Qq 0 (QH tb f201r0 (QP f201 K)))):=by
 intro post
 induction post with
 | nil=>
  intro pre B v ρ hk hps h3 h6 h7 h8;simp only[QN]at hk;subst hk;obtain⟨id,sz,rfl⟩:=Up hps;rw[Qg f201l0.eq_1];refine⟨_,B,?_,hps⟩;simp[h3,h6,h7,h8,f201r0]
 | cons p post IH=>
  intro pre B v ρ hk hps h3 h6 h7 h8;have hg:=Qx hk;have hll:=QL hk;have hw1:=wr1 pre.length (by omega);have hlt:=QO hk;have hc:=S9 p.1 B (hm p (by rw[hk];simp));obtain⟨v2,B2,ha,hps2⟩:=QnL p false hps (by omega);have ih:=fun ρ=>IH (pre ++ [p]) B2 v2 ρ (by rw[hk];simp) hps2;obtain⟨id,sz,rfl⟩:=Up hps;obtain⟨id2,sz2,rfl⟩:=Up hps2;have hf:Qf p.1 ++ [.int .i64 p.2]=Zq p:=rfl;rw[Qg f201l0.eq_1];simp[h3,h6,h7,h8,hg,hlt,hw1,hc,Pm,OI,hf,ha];apply ih <;> simp[h6,h7]
def CU (l:Qj) (o:Bool) (B0:Qa) (hl:l.length < 40000000) (hm: ∀q∈l,q.1.mass < big):Qeq B0 l (call tb 201 [.sl o 5 (QE l)] B0):=by
 have h:=fun ρ=>Ci l B0 B0 hl hm l [] B0 _ ρ rfl (Qdv B0);rw[zcc 201 rfl rfl];simp[f201C];apply h <;> simp
def Qg9 (p:Pw) (B:Qa):call tb 203 [.agg (Zq p)] B=some (.bool (XV p.2),B):=by
 rw[zcc 203 rfl rfl];by_cases c4:p.2 < -1000
 ·simp[f203C,XV,c4]
 ·by_cases c5:1000 < p.2
  ·simp[f203C,XV,c4,c5]
  ·simp[f203C,XV,c4,c5]
def N5 (b:Bool) (B:Qa) (r:Out):Prop:=∃i:Int,r=some (.int .i64 i,B)/\(0<=i↔b=true)
def QiK {B0 B:Qa} {v:AV} {l:Qj} (h:PS B0 B v l) (hl:l.length < 100000000):
  ∀(post pre:Qj) (ρ:Ql),l=pre ++ post->pre.any (fun q=>XV q.2)=false->ρ 0=v->ρ 1= .fn 203 []->ρ 7= .int .i64 l.length->ρ 8= .int .i64 pre.length->
  N5 (l.any fun q=>XV q.2) B (R tb (.loop f205l0) ρ B (Qq 0 (QH tb f205r0 (QP f205 B)))):=by
 obtain⟨M,id,sz,rfl,rfl,hc⟩:=h;have htk: (B0 ++ M).take (B0.length+M.length)=B0 ++ M:=Yy (by simp);intro post
 induction post with
 | nil=>
  intro pre ρ hk hp h0 h1 h7 h8;simp only[QN]at hk;rw[<- hk]at h8 hp;rw[Qg f205l0.eq_1];refine⟨-1,?_,by rw[hp];simp⟩;simp[h0,h1,h7,h8,f205r0,htk]
 | cons p post IH=>
  intro pre ρ hk hp h0 h1 h7 h8;have hg:=Qx hk;have hll:=QL hk;have hw1:=wr1 pre.length (by omega);have hlt:=QO hk;have hlt':pre.length < l.length:=by omega
  rcases hc with⟨rfl,rfl,rfl⟩ | ⟨rfl,hid,t,hbx,hne⟩
  ·simp at hlt'
  have r1:=Ip (l:=l) (OY hg t);have hle:pre.length*5+5<=(QW l ++ t).length:=by rw[Zo,Xu];omega
  have hcall:=Qg9 p (B0 ++ M);have ih:=fun ρ hpp=>IH (pre ++ [p]) ρ (by rw[hk];simp) hpp;generalize QW l ++ t=c at *;rw[Qg f205l0.eq_1];cases ho:XV p.2
  ·have ih2:=fun ρ=>ih ρ (by rw[Pn,hp];simp[ho]);simp[-getElem?_pos,h0,h1,h7,h8,hlt,hlt',hw1,hbx,hle,r1,hcall,ho,-List.any_eq_false,-List.any_eq_true];apply ih2 <;> simp[h0,h1,h7]
  ·have hany:l.any (fun q=>XV q.2)=true:=Rn.2 ⟨p,by rw[hk];simp,ho⟩;refine⟨pre.length,?_,by rw[hany];simp⟩;simp[-getElem?_pos,h0,h1,h7,h8,hlt,hlt',hbx,hle,r1,hcall,ho,htk]
def Qha {B0 B:Qa} {v:AV} {l:Qj} (h:PS B0 B v l) (hl:l.length < 100000000):call tb 204 [v,.fn 203 []] B=some (.bool (l.any fun q=>XV q.2),B):=by
 have h1:=fun ρ=>QiK h hl l [] ρ rfl rfl;obtain⟨id,sz,rfl⟩:=Up h;have h2:N5 (l.any fun q=>XV q.2) B (call tb 205 [.gs id 0 sz l.length,.fn 203 []] B):=by
  rw[zcc 205 rfl rfl];simp[f205C,-List.any_eq_false,-List.any_eq_true];apply h1 <;> simp
 obtain⟨i,hi,hb⟩:=h2;rw[zcc 204 rfl rfl];simp[f204C,hi,-List.any_eq_false,-List.any_eq_true];cases hx:l.any fun q=>XV q.2
 ·rw[hx]at hb;simp at hb;simpa using hb
 ·rw[hx]at hb;simp at hb;simpa using hb
def Qjf {B0 B:Qa} {v:AV} {l:Qj} (h:PS B0 B v l) (n:Nat): ∃o M2,(B0 ++ M2).length=B.length/\X6 B (B0 ++ M2)=true/\∀ρ:Ql,ρ n=v->Yk {env:=ρ,bs:=B} n 5=some (.sl o 5 (QE l),{env:=upd ρ n .undef,bs:=B0 ++ M2}):=by
 obtain⟨M,id,sz,rfl,rfl,hc⟩:=h;rcases hc with⟨rfl,rfl,rfl⟩ | ⟨rfl,hid,t,hb,hne⟩
 ·exact⟨true,M,rfl,P3 _,fun ρ hn=>by simp[Yk,hn,QE]⟩
 ·by_cases hl:l.length=0
  ·have:l=[]:=YE hl;subst this;exact⟨false,M,rfl,P3 _,fun ρ hn=>by simp[Yk,hn,QE]⟩
  ·refine⟨true,M.set (id - B0.length) [],by simp,by rw[<- Wj hid];exact Eu _ _,fun ρ hn=> ?_⟩;have hle:0+l.length*5<=(QW l ++ t).length:=by rw[Zo,Xu];omega
   have hch:ZX (QW l ++ t) 0 5 l.length=QE l:=Wh (f:=Zq) (k:=5) W3 VO l t;simp only[Yk,hn];rw[Qn ⟨trivial,by omega⟩,Qm hl,hb];simp only[QC];rw[Qn hle,hch,Wj hid];rfl
def Qol (B0:Qa) (l:Qj) (r:Out):Prop:=∃M,r=some (.tup [.sl false 5 (QE (if YQ l=0 then l else [])),.int .i64 (YQ l)],B0 ++ M)
def Qg8 {B0 B:Qa} {v:AV} {l:Qj} (h:PS B0 B v l) (hl:l.length < 100000000):Qol B0 l (call tb 202 [v] B):=by
 have h1:=Qha h hl;obtain⟨o,M2,hlen,hchk,hf⟩:=Qjf h 9;obtain⟨M,hM⟩: ∃M,B=B0 ++ M:=by obtain⟨M,_,_,h,_⟩:=h;exact⟨M,h⟩
 subst hM;have htk: (B0 ++ M2).take (B0.length+M.length)=B0 ++ M2:=Yy (by rw[hlen];simp);have htk0: (B0 ++ M).take (B0.length+M.length)=B0 ++ M:=Yy (by simp);have hgp:=Nm l;obtain⟨id,sz,rfl⟩:=Up h;rw[zcc 202 rfl rfl];cases ha:l.any fun q=>XV q.2
 ·rw[ha]at h1;by_cases c:200 < l.length
  ·have c': (200:Int) < (l.length:Int):=by omega
   have e:YQ l=3:=by simp only[YQ,ha,c,Zl];rfl
   refine⟨M,?_⟩;rw[e];simp[f202C,h1,c',WP,htk0]
  ·have c': ¬(200:Int) < (l.length:Int):=by omega
   have e:YQ l=0:=by simp only[YQ,ha,c,Zd];rfl
   refine⟨M2,?_⟩;rw[e];simp[f202C,h1,c',hf,htk,hchk]
 ·rw[ha]at h1;have e:YQ l=7:=by simp only[YQ,ha,Zl]
  refine⟨M,?_⟩;rw[e];simp[f202C,h1,WP,htk0]
def Qfv (b:Qj) (B0:Qa) (hb:b.length<=200) (hbm: ∀q∈b,q.1.mass < big/\q.2≠0/\ -1000<=q.2/\q.2<=1000) (X:Qj):
  ∀(post pre:Qj) (acc:Qj) (n:Nat) (B:Qa) (v:AV) (ρ:Ql),b=pre ++ post->PS B0 B v acc->Vz acc n->n+1000*post.length < 40000000->Wv acc post=X->ρ 8=v->ρ 23= .sl false 5 (QE b)->ρ 24= .int .i64 b.length->ρ 25= .int .i64 pre.length->
  R tb (.loop f200l0) ρ B (Qq 0 (QH tb f200r0 (QP f200 B0)))=some (.tup [.sl false 5 (QE (if YQ X=0 then X else [])),.int .i64 (YQ X)],B0):=by
 intro post
 induction post with
 | nil=>
  intro pre acc n B v ρ hk hps ha hn hX h8 h23 h24 h25;simp only[QN]at hk;rw[<- hk]at h25;simp only[Wv]at hX;subst hX;have hal:=ha.len;obtain⟨M,hr⟩:=Qg8 hps (by simp at hn;omega);obtain⟨id,sz,rfl⟩:=Up hps;rw[Qg f200l0.eq_1];generalize (if YQ acc=0 then acc else [])=X at *;simp[h8,h23,h24,h25,f200r0,hr]
 | cons p post IH=>
  intro pre acc n B v ρ hk hps ha hn hX h8 h23 h24 h25;have hg:=Qx hk;have hll:=QL hk;have hw1:=wr1 pre.length (by omega);have hlt:=QO hk;obtain⟨q1,q2,q3,q4⟩:=hbm p (by rw[hk];simp);simp only[ZL]at hn;have hal:=ha.len;obtain⟨v2,B2,hc,hps2⟩:=CR (p:=p) hps (by omega) (fun q hq=>by obtain⟨a1,a2,a3⟩:=ha.bd q hq;exact⟨a1,by omega,by omega⟩) q1 (by omega) ha.asc;have ih:=fun ρ=>IH (pre ++ [p]) (Xd acc p.1 p.2) (n+1000) B2 v2 ρ (by rw[hk];simp) hps2 (ha.add (c:=1000) q1 q2 (by omega) (by omega)) (by omega) (by rw[<- hX];rfl);obtain⟨id,sz,rfl⟩:=Up hps;obtain⟨id2,sz2,rfl⟩:=Up hps2;rw[Qg f200l0.eq_1];simp[h8,h23,h24,h25,hg,hlt,hw1,hc];apply ih <;> simp[h23,h24]
def CT (a b:Qj) (o o2:Bool) (bs:Qa) (ha:a.length < 100000000) (hb:b.length < 100000000) (hma: ∀q∈a,q.1.mass < big) (hmb: ∀q∈b,q.1.mass < big):
  call tb 200 [.sl o 5 (QE a),.sl o2 5 (QE b)] bs=some (.tup [.sl false 5 (QE (XU a b)),.int .i64 (W5 a b)],bs):=by
 have h1:=OO a false bs ha hma;have h2:=OO b false bs hb hmb;rw[zcc 200 rfl rfl];by_cases va:ZY a=0
 ·by_cases vb:ZY b=0
  ·obtain⟨ia,la,_⟩:=Ur va hma;obtain⟨ib,lb,_⟩:=Ur vb hmb;obtain⟨v,B,hc,hps⟩:=CU a false bs (by omega) hma;have h3:=fun ρ=>Qfv b bs lb (fun q hq=>by obtain⟨x1,x2,x3⟩:=ib.bd q hq;exact⟨x1,ib.nz q hq,x2,x3⟩) _ b [] a 1000 B v ρ rfl hps ia (by omega) rfl;obtain⟨id,sz,rfl⟩:=Up hps;have e1:W5 a b=YQ (Wv a b):=by simp[W5,va,vb]
   have e2:XU a b=if YQ (Wv a b)=0 then Wv a b else []:=by simp[XU,e1]
   rw[e1,e2];simp[f200C,h1,h2,va,vb,hc];apply h3 <;> simp
  ·have e1:W5 a b=ZY b:=by simp[W5,va,vb]
   have e2:XU a b=[]:=by simp[XU,e1,vb]
   rw[e1,e2];simp[f200C,h1,h2,va,vb,WP]
 ·have e1:W5 a b=ZY a:=by simp[W5,va]
  have e2:XU a b=[]:=by simp[XU,e1,va]
  rw[e1,e2];simp[f200C,h1,va,WP]
@[simp] def QpY (x y:Tm) (a:Qe) (h:1 < (Qb (x:: y:: a)).length): (Qb (x:: y:: a))[1]=Qf y:=by simp[Qb]
def Yu:Qu:=[112,97,105,114]
def ENC:Qu:=[101,110,99]
def Xi:Qu:=[97,101,110,99]
def PK:Qu:=[112,107]
def YL:Qu:=[115,105,103,110]
def EXP:Qu:=[101,120,112]
def FST:Qu:=[102,115,116]
def SND:Qu:=[115,110,100]
def DEC:Qu:=[100,101,99]
def Ya:Qu:=[97,100,101,99]
def Yt:Qu:=[111,112,101,110]
def READ:Qu:=[114,101,97,100]
def Yv (n:Qu) (m:Nat):Bool:=
 if n=Yu\/n=ENC\/n=Xi\/n=YL\/n=EXP\/n=DEC\/n=Ya\/n=Yt then decide (m=2)
 else if n=PK\/n=FST\/n=SND\/n=READ then decide (m=1)else true
mutual
def Zh:Tm->Bool
 | .mk k n s ks=>(!(k == 3) || ((s == 0) && Yv n ks.length)) && ZZ ks
def ZZ:List Tm->Bool
 | []=>true
 | t:: ts=>Zh t && ZZ ts
end
def Ke (t:Tm):Zh t=((!(t.kind == 3) || ((t.sort == 0) && Yv t.name t.kids.length)) && ZZ t.kids):=by cases t;simp[Zh]
def XX: ∀{l:Qe},ZZ l=true↔∀x∈l,Zh x=true
 | []=>by simp[ZZ]
 | t:: ts=>by simp[ZZ,XX (l:=ts)]
def VR {t:Tm} (h:Zh t=true):ZZ t.kids=true:=by rw[Ke]at h;simp at h;exact h.2
def UY {t:Tm} (h:Zh t=true) (hk:t.kind=3):t.sort=0/\Yv t.name t.kids.length=true:=by
 rw[Ke]at h;simp[hk]at h;exact h.1
def Wf {t:Tm} {n:Qu} (h:Zh t=true) (hb:isB t n=true) (hn:Yv n t.kids.length=decide (t.kids.length=2)): ∃x y,t.kids=[x,y]:=by
 obtain⟨hk,rfl⟩:=TX.1 hb;have:=(UY h hk).2;rw[hn]at this;simp at this
 match hh:t.kids with
 | [x,y]=>exact⟨x,y,rfl⟩
 | []=>rw[hh]at this;simp at this
 | [_]=>rw[hh]at this;simp at this
 | _:: _:: _:: _=>rw[hh]at this;simp at this
def kid (t:Tm) (i:Nat):Tm:=t.kids.getD i QG
def pkT (t:Tm):Tm:= .mk 3 PK 0 [t]
def Mi:=@List.length_eq_one_iff
def BA {u:Tm} (h:Zh u=true) (key:Tm):decide (Qp u (pkT key)=0)=(isB u PK && decide (Qp (kid u 0) key=0)):=by
 cases hb:isB u PK
 ·have: ¬Qp u (pkT key)=0:=by
   intro e;have:=Y7 _ _ e;subst this;simp[isB,pkT]at hb
  simp[this]
 ·obtain⟨hk,hn⟩:=TX.1 hb;obtain⟨hs,ha⟩:=UY h hk;rw[hn]at ha;have h1:u.kids.length=1:=by simpa[Yv,PK,Yu,ENC,Xi,YL,EXP,DEC,Ya,Yt]using ha
  obtain⟨x,hx⟩:=Mi.1 h1;have hu:u=pkT x:=by rw[<- Tm.eta u,hk,hn,hs,hx];rfl
  subst hu;have:kid (pkT x) 0=x:=rfl;rw[this];have e1:Qp (pkT x) (pkT key)=0↔Qp x key=0:=by
   constructor
   ·intro e;have:=Y7 _ _ e;injection this with _ _ _ h4
    injection h4 with h4
    subst h4;exact Vg _
   ·intro e;have:=Y7 _ _ e;subst this;exact Vg _
  simp[e1]
def Za (n:Qu) (us:Qe):Tm:=
 let a:=us.getD 0 QG
 let key:=us.getD 1 QG
 let out:Tm:= .mk 3 n 0 us
 if n=FST then(if isB a Yu then kid a 0 else out)
 else if n=SND then(if isB a Yu then kid a 1 else out)
 else if n=DEC then(if isB a ENC && decide (Qp (kid a 1) key=0)then kid a 0 else out)
 else if n=Ya then(if isB a Xi && decide (Qp (kid a 1) (pkT key)=0)then kid a 0 else out)
 else if n=Yt then(if isB a YL && decide (Qp key (pkT (kid a 1))=0)then kid a 0 else out)
 else if n=READ then(if isB a YL then kid a 0 else out)
 else out
def Lm (x y:Tm) (bs:Qa) (hx:x.mass < big) (hy:y.mass < big):call tb 177 [.agg (Qf x),.agg (Qf y)] bs=some (.bool (decide (Qp x y=0)),bs):=by
 have h:=call_Compare x y bs hx hy;rw[zcc 177 rfl rfl];simp[f177C,h]
def Ul (n:Qu):Bool:=n == FST || n == SND || n == DEC || n == Ya || n == Yt || n == READ
def QeX (n:Qu) (a:Tm) (bs:Qa) (hn:n=FST\/n=SND\/n=READ) (hg:Zh a=true) (hm:a.mass < big):
  call tb 176 [.agg (Qf (.mk 3 n 0 [a]))] bs=some (.agg (Qf (Za n [a])),bs):=by
 have h1:=fun m=>MH a m bs;rw[zcc 176 rfl rfl];rcases hn with rfl | rfl | rfl
 ·cases hb:isB a Yu
  ·have h2:=h1 Yu;rw[hb]at h2;simp only[Yu]at h2
   have e:Za FST [a]= .mk 3 FST 0 [a]:=by simp[Za,hb]
   rw[e];simp only[FST];simp[f176C,h2]
  ·have h2:=h1 Yu;rw[hb]at h2;simp only[Yu]at h2
   obtain⟨x,y,hk⟩:=Wf hg hb (by simp[Yv]);have e:Za FST [a]=x:=by simp[Za,hb,kid,hk]
   rw[e];simp only[FST];simp[f176C,h2,hk]
 ·cases hb:isB a Yu
  ·have h2:=h1 Yu;rw[hb]at h2;simp only[Yu]at h2
   have e:Za SND [a]= .mk 3 SND 0 [a]:=by simp[Za,hb,SND,FST]
   rw[e];simp only[SND];simp[f176C,h2]
  ·have h2:=h1 Yu;rw[hb]at h2;simp only[Yu]at h2
   obtain⟨x,y,hk⟩:=Wf hg hb (by simp[Yv]);have e:Za SND [a]=y:=by simp[Za,hb,kid,hk,SND,FST]
   rw[e];simp only[SND];simp[f176C,h2,hk]
 ·cases hb:isB a YL
  ·have h2:=h1 YL;rw[hb]at h2;simp only[YL]at h2
   have e:Za READ [a]= .mk 3 READ 0 [a]:=by simp[Za,hb,SND,FST,DEC,Ya,Yt,READ]
   rw[e];simp only[READ];simp[f176C,h2]
  ·have h2:=h1 YL;rw[hb]at h2;simp only[YL]at h2
   obtain⟨x,y,hk⟩:=Wf hg hb (by simp[Yv]);have e:Za READ [a]=x:=by simp[Za,hb,kid,hk,SND,FST,DEC,Ya,Yt,READ]
   rw[e];simp only[READ];simp[f176C,h2,hk]
def QeY (n:Qu) (a key:Tm) (bs:Qa) (hn:n=DEC\/n=Ya\/n=Yt) (hg:Zh a=true) (hgk:Zh key=true) (hm:a.mass < big - 10) (hmk:key.mass < big - 10):
  call tb 176 [.agg (Qf (.mk 3 n 0 [a,key]))] bs=some (.agg (Qf (Za n [a,key])),bs):=by
 have h1:=fun t m=>MH t m bs;rw[zcc 176 rfl rfl];rcases hn with rfl | rfl | rfl
 ·cases hb:isB a ENC
  ·have h2:=h1 a ENC;rw[hb]at h2;simp only[ENC]at h2
   have e:Za DEC [a,key]= .mk 3 DEC 0 [a,key]:=by simp[Za,hb,SND,FST,DEC]
   rw[e];simp only[DEC];simp[f176C,h2]
  ·have h2:=h1 a ENC;rw[hb]at h2;simp only[ENC]at h2
   obtain⟨x,y,hk⟩:=Wf hg hb (by simp[Yv]);have hma:=QF a;rw[hk]at hma;simp only[Qt]at hma;have h3:=Lm y key bs (by omega) (by omega);by_cases hc:Qp y key=0
   ·have e:Za DEC [a,key]=x:=by simp[Za,hb,kid,hk,hc,SND,FST,DEC]
    rw[e];simp only[DEC];simp[f176C,h2,h3,hc,hk]
   ·have e:Za DEC [a,key]= .mk 3 DEC 0 [a,key]:=by simp[Za,hb,kid,hk,hc,SND,FST,DEC]
    rw[e];simp only[DEC];simp[f176C,h2,h3,hc,hk]
 ·cases hb:isB a Xi
  ·have h2:=h1 a Xi;rw[hb]at h2;simp only[Xi]at h2
   have e:Za Ya [a,key]= .mk 3 Ya 0 [a,key]:=by simp[Za,hb,SND,FST,DEC,Ya]
   rw[e];simp only[Ya];simp[f176C,h2]
  ·have h2:=h1 a Xi;rw[hb]at h2;simp only[Xi]at h2
   obtain⟨x,y,hk⟩:=Wf hg hb (by simp[Yv]);have hma:=QF a;have hgy:Zh y=true:=by
    have:=VR hg;rw[hk]at this;simp[ZZ]at this;exact this.2
   rw[hk]at hma;simp only[Qt]at hma;have hpk:=BA hgy key;have h4:=h1 y PK;have e0:Za Ya [a,key]=if isB y PK && decide (Qp (kid y 0) key=0)then x else .mk 3 Ya 0 [a,key]:=by
    rw[<- hpk];simp[Za,hb,kid,hk,SND,FST,DEC,Ya]
   rw[e0];cases hbp:isB y PK
   ·rw[hbp]at h4;simp only[PK]at h4
    simp only[Ya];simp[f176C,h2,h4,hk]
   ·rw[hbp]at h4;simp only[PK]at h4
    obtain⟨hyk,hyn⟩:=TX.1 hbp;have har:=(UY hgy hyk).2;rw[hyn]at har;have hl1:y.kids.length=1:=by simpa[Yv,PK,Yu,ENC,Xi,YL,EXP,DEC,Ya,Yt]using har
    obtain⟨z,hz⟩:=Mi.1 hl1;have hmy:=QF y;rw[hz]at hmy;simp only[Qt]at hmy;have h3:=Lm z key bs (by omega) (by omega);have hk0:kid y 0=z:=by simp[kid,hz]
    rw[hk0];by_cases hc:Qp z key=0
    ·simp only[Ya];simp[f176C,h2,h3,h4,hc,hk,hz]
    ·simp only[Ya];simp[f176C,h2,h3,h4,hc,hk,hz]
 ·cases hb:isB a YL
  ·have h2:=h1 a YL;rw[hb]at h2;simp only[YL]at h2
   have e:Za Yt [a,key]= .mk 3 Yt 0 [a,key]:=by simp[Za,hb,SND,FST,DEC,Ya,Yt]
   rw[e];simp only[Yt];simp[f176C,h2]
  ·have h2:=h1 a YL;rw[hb]at h2;simp only[YL]at h2
   obtain⟨x,y,hk⟩:=Wf hg hb (by simp[Yv]);have hma:=QF a;rw[hk]at hma;simp only[Qt]at hma;have hpk:=BA hgk y;have h4:=h1 key PK;have e0:Za Yt [a,key]=if isB key PK && decide (Qp (kid key 0) y=0)then x else .mk 3 Yt 0 [a,key]:=by
    rw[<- hpk];simp[Za,hb,kid,hk,SND,FST,DEC,Ya,Yt]
   rw[e0];cases hbp:isB key PK
   ·rw[hbp]at h4;simp only[PK]at h4
    simp only[Yt];simp[f176C,h2,h4,hk]
   ·rw[hbp]at h4;simp only[PK]at h4
    obtain⟨hyk,hyn⟩:=TX.1 hbp;have har:=(UY hgk hyk).2;rw[hyn]at har;have hl1:key.kids.length=1:=by simpa[Yv,PK,Yu,ENC,Xi,YL,EXP,DEC,Ya,Yt]using har
    obtain⟨z,hz⟩:=Mi.1 hl1;have hmy:=QF key;rw[hz]at hmy;simp only[Qt]at hmy;have h3:=Lm y z bs (by omega) (by omega);have hk0:kid key 0=z:=by simp[kid,hz]
    have hsym: (Qp z y=0)=(Qp y z=0):=by
     have:=WN y z;rw[WL];omega
    rw[hk0];by_cases hc:Qp y z=0
    ·simp only[Yt];simp[f176C,h2,h3,h4,hc,hk,hz,hsym]
    ·simp only[Yt];simp[f176C,h2,h3,h4,hc,hk,hz,hsym]
def Dn (t:Tm): (pkT t).mass=t.mass+4:=by simp only[pkT,Tm.mass,Qt,PK,ZL,Yz];omega
def Qen (t:Tm) (bs:Qa) (r:Out):Prop:=∃b,r=some (.tup [.agg (Qf t),.bool b],bs)
def Qcv (n:Qu) (a:Tm) (bs:Qa) (hn:n=FST\/n=SND\/n=READ) (hg:Zh a=true) (hm:a.mass < big):
  Qen (Za n [a]) bs (call tb 243 [.agg (Qf (.mk 3 n 0 [a]))] bs):=by
 have h1:=fun m=>Py a m bs;rw[zcc 243 rfl rfl];rcases hn with rfl | rfl | rfl
 ·cases hb:isB a Yu
  ·have h2:=h1 Yu;rw[hb]at h2;simp only[Yu]at h2
   have e:Za FST [a]= .mk 3 FST 0 [a]:=by simp[Za,hb]
   rw[e];refine⟨false,?_⟩;simp only[FST];simp[f243C,h2]
  ·have h2:=h1 Yu;rw[hb]at h2;simp only[Yu]at h2
   obtain⟨x,y,hk⟩:=Wf hg hb (by simp[Yv]);have e:Za FST [a]=x:=by simp[Za,hb,kid,hk]
   rw[e];refine⟨true,?_⟩;simp only[FST];simp[f243C,h2,hk]
 ·cases hb:isB a Yu
  ·have h2:=h1 Yu;rw[hb]at h2;simp only[Yu]at h2
   have e:Za SND [a]= .mk 3 SND 0 [a]:=by simp[Za,hb,SND,FST]
   rw[e];refine⟨false,?_⟩;simp only[SND];simp[f243C,h2]
  ·have h2:=h1 Yu;rw[hb]at h2;simp only[Yu]at h2
   obtain⟨x,y,hk⟩:=Wf hg hb (by simp[Yv]);have e:Za SND [a]=y:=by simp[Za,hb,kid,hk,SND,FST]
   rw[e];refine⟨true,?_⟩;simp only[SND];simp[f243C,h2,hk]
 ·cases hb:isB a YL
  ·have h2:=h1 YL;rw[hb]at h2;simp only[YL]at h2
   have e:Za READ [a]= .mk 3 READ 0 [a]:=by simp[Za,hb,SND,FST,DEC,Ya,Yt,READ]
   rw[e];refine⟨false,?_⟩;simp only[READ];simp[f243C,h2]
  ·have h2:=h1 YL;rw[hb]at h2;simp only[YL]at h2
   obtain⟨x,y,hk⟩:=Wf hg hb (by simp[Yv]);have e:Za READ [a]=x:=by simp[Za,hb,kid,hk,SND,FST,DEC,Ya,Yt,READ]
   rw[e];refine⟨true,?_⟩;simp only[READ];simp[f243C,h2,hk]
def Qcw (n:Qu) (a key:Tm) (bs:Qa) (hn:n=DEC\/n=Ya\/n=Yt) (hg:Zh a=true) (hm:a.mass < big - 10) (hmk:key.mass < big - 10):
  Qen (Za n [a,key]) bs (call tb 243 [.agg (Qf (.mk 3 n 0 [a,key]))] bs):=by
 have h1:=fun t m=>Py t m bs;rw[zcc 243 rfl rfl];rcases hn with rfl | rfl | rfl
 ·cases hb:isB a ENC
  ·have h2:=h1 a ENC;rw[hb]at h2;simp only[ENC]at h2
   have e:Za DEC [a,key]= .mk 3 DEC 0 [a,key]:=by simp[Za,hb,SND,FST,DEC]
   rw[e];refine⟨false,?_⟩;simp only[DEC];simp[f243C,h2]
  ·have h2:=h1 a ENC;rw[hb]at h2;simp only[ENC]at h2
   obtain⟨x,y,hk⟩:=Wf hg hb (by simp[Yv]);have hma:=QF a;rw[hk]at hma;simp only[Qt]at hma;have h3:=Y3 y key bs (by omega) (by omega);by_cases hc:Qp y key=0
   ·have e:Za DEC [a,key]=x:=by simp[Za,hb,kid,hk,hc,SND,FST,DEC]
    rw[e];refine⟨true,?_⟩;simp only[DEC];simp[f243C,h2,h3,hc,hk]
   ·have e:Za DEC [a,key]= .mk 3 DEC 0 [a,key]:=by simp[Za,hb,kid,hk,hc,SND,FST,DEC]
    rw[e];refine⟨false,?_⟩;simp only[DEC];simp[f243C,h2,h3,hc,hk]
 ·cases hb:isB a Xi
  ·have h2:=h1 a Xi;rw[hb]at h2;simp only[Xi]at h2
   have e:Za Ya [a,key]= .mk 3 Ya 0 [a,key]:=by simp[Za,hb,SND,FST,DEC,Ya]
   rw[e];refine⟨false,?_⟩;simp only[Ya];simp[f243C,h2]
  ·have h2:=h1 a Xi;rw[hb]at h2;simp only[Xi]at h2
   obtain⟨x,y,hk⟩:=Wf hg hb (by simp[Yv]);have hma:=QF a;rw[hk]at hma;simp only[Qt]at hma;have hpm: (pkT key).mass < big:=by rw[Dn];unfold big at *;omega
   have h3:=Y3 y (pkT key) bs (by omega) hpm;have h4:=Uy PK [key] false bs (by simp);simp only[pkT,PK]at h3 h4;by_cases hc:Qp y (pkT key)=0
   ·have e:Za Ya [a,key]=x:=by simp[Za,hb,kid,hk,hc,SND,FST,DEC,Ya]
    rw[e];refine⟨true,?_⟩;simp only[pkT,PK]at hc;simp only[Ya];simp[f243C,h2,h3,h4,hc,hk,ZV]
   ·have e:Za Ya [a,key]= .mk 3 Ya 0 [a,key]:=by simp[Za,hb,kid,hk,hc,SND,FST,DEC,Ya]
    rw[e];refine⟨false,?_⟩;simp only[pkT,PK]at hc;simp only[Ya];simp[f243C,h2,h3,h4,hc,hk,ZV]
 ·cases hb:isB a YL
  ·have h2:=h1 a YL;rw[hb]at h2;simp only[YL]at h2
   have e:Za Yt [a,key]= .mk 3 Yt 0 [a,key]:=by simp[Za,hb,SND,FST,DEC,Ya,Yt]
   rw[e];refine⟨false,?_⟩;simp only[Yt];simp[f243C,h2]
  ·have h2:=h1 a YL;rw[hb]at h2;simp only[YL]at h2
   obtain⟨x,y,hk⟩:=Wf hg hb (by simp[Yv]);have hma:=QF a;rw[hk]at hma;simp only[Qt]at hma;have hpm: (pkT y).mass < big:=by rw[Dn];unfold big at *;omega
   have h3:=Y3 key (pkT y) bs (by omega) hpm;have h4:=Uy PK [y] false bs (by simp);simp only[pkT,PK]at h3 h4;by_cases hc:Qp key (pkT y)=0
   ·have e:Za Yt [a,key]=x:=by simp[Za,hb,kid,hk,hc,SND,FST,DEC,Ya,Yt]
    rw[e];refine⟨true,?_⟩;simp only[pkT,PK]at hc;simp only[Yt];simp[f243C,h2,h3,h4,hc,hk,ZV]
   ·have e:Za Yt [a,key]= .mk 3 Yt 0 [a,key]:=by simp[Za,hb,kid,hk,hc,SND,FST,DEC,Ya,Yt]
    rw[e];refine⟨false,?_⟩;simp only[pkT,PK]at hc;simp only[Yt];simp[f243C,h2,h3,h4,hc,hk,ZV]
def KM (l:Qj) (M:Nat):Prop:=∀q∈l,q.1.mass<=M
def BD {l:Qj} {t:Tm} {m:Int} {M:Nat} (h:KM l M) (ht:t.mass<=M):KM (Xd l t m) M:=by
 intro q hq;rcases SO hq with hq | rfl | ⟨_,_,rfl,_⟩
 ·exact h q hq
 ·exact ht
 ·exact ht
def QiN: ∀(t:Tm) (l:Qj) (m:Int) (M:Nat),KM l M->t.mass<=M->KM (Vp l t m) M:=by
 refine Yn ?_;intro k n s ks ih l m M h hm;have hme:=QF (.mk k n s ks);simp only[Zx,Z7]at hme;have hL: ∀(xs:Qe) (l:Qj) (m:Int),(∀x∈xs,x∈ks)->KM l M->KM (VY l xs m) M:=by
  intro xs
  induction xs with
  | nil=>intro l m _ h;simpa[VY]using h
  | cons x xs IH=>
   intro l m hx h;simp only[VY];exact IH _ m (fun y hy=>hx y (by simp[hy])) (ih x (hx x (by simp)) l m M h (by have:=Q4 (hx x (by simp));omega))
 rw[OQ];split
 ·exact hL ks l _ (fun x hx=>hx) h
 ·exact BD h hm
def Jv: ∀(b a:Qj) (M:Nat),KM a M->KM b M->KM (Wv a b) M
 | [],a,M,h,_=>h
 | q:: b,a,M,h,hb=>Jv b _ M (BD h (hb q (by simp))) fun x hx=>hb x (by simp[hx])
def PG (t:Tm) (M:Nat) (h:t.mass<=M):KM (ofP t) M:=by
 unfold ofP;split
 ·exact QiN t [] 1 M (fun q hq=>by simp at hq) h
 ·intro q hq;simp at hq
def S2 (t:Tm): (ofP t).length<=200:=by
 unfold ofP;split
 ·rename_i h;unfold ofE at h;split at h
  ·rename_i h1;exact absurd h h1
  ·split at h
   ·split at h
    ·cases h
    ·omega
   ·cases h
 ·simp
def Qao {l:Qj} (h:YQ l=0):l.length<=200:=by
 unfold YQ at h;split at h
 ·cases h
 ·split at h
  ·cases h
  ·omega
def Kk (a b:Qj): (XU a b).length<=200:=by
 unfold XU;split
 ·rename_i h;unfold W5 at h;split at h
  ·rename_i h1;exact absurd h h1
  ·split at h
   ·rename_i h1;exact absurd h h1
   ·exact Qao h
 ·simp
def Ik {a b:Qj} {M:Nat} (ha:KM a M) (hb:KM b M):KM (XU a b) M:=by
 unfold XU;split
 ·exact Jv b a M ha hb
 ·intro q hq;simp at hq
def I9 (n:Nat) (t:Tm):Qt (List.replicate n t)=n*t.mass:=by
 induction n with
 | zero=>simp[Qt]
 | succ n ih=>rw[OG,Qt,ih,Vw];omega
def Qdg (t:Tm): (TM t).mass=t.mass+5:=by simp only[TM,Tm.mass,Qt,INV,ZL,Yz];omega
def FW:=@Nat.mul_le_mul
def JC: ∀{l:Qj} {M:Nat},KM l M->(∀q∈l,q.2<=8)->Qt (WT l)<=l.length* (8*M)
 | [],M,_,_=>by simp[WT,Qt]
 | p:: l,M,h,hb=>by
  have h1:=JC (l:=l) (M:=M) (fun q hq=>h q (by simp[hq])) fun q hq=>hb q (by simp[hq]);have h2:=h p (by simp);have h3:=hb p (by simp);have h4:p.2.toNat* p.1.mass<=8*M:=FW (by omega) h2;have e:WT (p:: l)=List.replicate p.2.toNat p.1 ++ WT l:=by simp[WT]
  rw[e,Vr,I9,ZL,Vw];omega
def JA: ∀{l:Qj} {M:Nat},KM l M->(∀q∈l,-8<=q.2)->Qt (Vd l)<=l.length* (8* (M+5))
 | [],M,_,_=>by simp[Vd,Qt]
 | p:: l,M,h,hb=>by
  have h1:=JA (l:=l) (M:=M) (fun q hq=>h q (by simp[hq])) fun q hq=>hb q (by simp[hq]);have h2:=h p (by simp);have h3:=hb p (by simp);have h4: (-p.2).toNat* (TM p.1).mass<=8* (M+5):=FW (by omega) (by rw[Qdg];omega);have e:Vd (p:: l)=List.replicate (-p.2).toNat (TM p.1)++ Vd l:=by simp[Vd]
  rw[e,Vr,I9,ZL,Vw];omega
def JB {l:Qj} (h:KM l 25000000) (hl:l.length<=200) (hb: ∀q∈l,-8<=q.2/\q.2<=8):Qt (Ye l) < big - 100:=by
 have h1:=JC h fun q hq=>(hb q hq).2;have h2:=JA h fun q hq=>(hb q hq).1;have h3:l.length* (8*25000000)<=200* (8*25000000):=Z5 _ hl;have h4:l.length* (8* (25000000+5))<=200* (8* (25000000+5)):=Z5 _ hl;unfold Ye;rw[Vr];unfold big;omega
def L0 {l:Qj} (o:Bool) (bs:Qa) (h:KM l 25000000) (hl:l.length<=200):call tb 196 [.sl o 5 (QE l)] bs=some (Zm (Yl l),bs):=
 Qg6 l o bs (by omega) (fun q hq=>by have:=h q hq;unfold big;omega) (JB h hl)
def L2 {l:Qj} (o:Bool) (bs:Qa) (h:KM l 25000000) (hl:l.length<=200):call tb 258 [.sl o 5 (QE l)] bs=some (Zm (Yl l),bs):=
 Qhl l o bs (by omega) (fun q hq=>by have:=h q hq;unfold big;omega) (JB h hl)
def V0 (b:Tm) (p:Qj):Tm×Int:=if p=[]then(b,0)else if(Yl p).2≠0 then(QG,(Yl p).2)else(.mk 3 EXP 0 [b,(Yl p).1],0)
def Wp (b e:Tm):Tm×Int:=
 if ofE e≠0 then(QG,ofE e)
 else if isB b EXP then
  if ofE (kid b 1)≠0 then(QG,ofE (kid b 1))else if W5 (ofP (kid b 1)) (ofP e)≠0 then(QG,W5 (ofP (kid b 1)) (ofP e))else V0 (kid b 0) (XU (ofP (kid b 1)) (ofP e))
 else V0 b (ofP e)
def Xm (t:Tm):Tm×Int:=if ofE t≠0 then(QG,ofE t)else Yl (ofP t)
def Zp (t:Tm) (e:Int):Zm (t,e)= .tup [.agg (Qf t),.int .i64 e]:=rfl
def Qhj (t:Tm) (bs:Qa) (hm:t.mass < 20000000):call tb 252 [.agg (Qf t)] bs=some (Zm (Xm t),bs):=by
 have h1:=RQ t bs (by omega);have h2:=L2 false bs (PG t 25000000 (by omega)) (S2 t);rw[zcc 252 rfl rfl];by_cases c:ofE t=0
 ·have e:Xm t=Yl (ofP t):=by simp[Xm,c]
  rw[e];simp only[Zm]at h2 ⊢;simp[f252C,h1,h2,c]
 ·have e:Xm t=(QG,ofE t):=by simp[Xm,c]
  rw[e];simp[f252C,h1,c,Zp,Q8]
def Qg7 (b e:Tm) (bs:Qa) (hg:Zh b=true) (hb:b.mass < 20000000) (he:e.mass < 20000000):call tb 199 [.agg (Qf b),.agg (Qf e)] bs=some (Zm (Wp b e),bs):=by
 have h1:=RP e bs (by omega);have h2:=MH b EXP bs;have ke:=PG e 25000000 (by omega);have le:=S2 e;rw[zcc 199 rfl rfl];by_cases c1:ofE e=0
 ·cases hx:isB b EXP
  ·rw[hx]at h2;simp only[EXP]at h2
   have h4:=L0 false bs ke le;have e0:Wp b e=V0 b (ofP e):=by simp[Wp,c1,hx]
   rw[e0];generalize ofP e=p at *
   match p with
   | []=>
    simp only[WP]at h1;simp[f199C,h1,h2,c1,V0,Zp]
   | q:: r=>
    have n0: ¬(r.length:Int)+1=0:=by omega
    by_cases c2: (Yl (q:: r)).2=0
    ·have h5:=Eh EXP [b,(Yl (q:: r)).1] false bs;simp only[Zm,Qb]at h4 h5;simp only[EXP]at h5;simp[f199C,h1,h2,h4,h5,c1,c2,n0,V0,Zp,EXP]
    ·simp only[Zm]at h4;simp[f199C,h1,h2,h4,c1,c2,n0,V0,Zp,Q8]
  ·obtain⟨x,y,hk⟩:=Wf hg hx (by simp[Yv]);rw[hx]at h2;simp only[EXP]at h2
   have hmb:=QF b;rw[hk]at hmb;simp only[Qt]at hmb;have k0:kid b 0=x:=by simp[kid,hk]
   have k1:kid b 1=y:=by simp[kid,hk]
   have h3:=RP y bs (by omega);have ky:=PG y 25000000 (by omega);have ly:=S2 y;by_cases c2:ofE y=0
   ·have h4:=CT (ofP y) (ofP e) false false bs (by omega) (by omega) (fun q hq=>by have:=ky q hq;unfold big;omega) (fun q hq=>by have:=ke q hq;unfold big;omega);by_cases c3:W5 (ofP y) (ofP e)=0
    ·have h6:=L0 false bs (Ik ky ke) (Kk (ofP y) (ofP e));have e0:Wp b e=V0 x (XU (ofP y) (ofP e)):=by simp[Wp,c1,hx,k0,k1,c2,c3]
     rw[e0];generalize XU (ofP y) (ofP e)=p at *
     match p with
     | []=>
      simp only[WP]at h4;simp[f199C,h1,h2,h3,h4,hk,c1,c2,c3,V0,Zp]
     | q:: r=>
      have n0: ¬(r.length:Int)+1=0:=by omega
      by_cases c4: (Yl (q:: r)).2=0
      ·have h5:=Eh EXP [x,(Yl (q:: r)).1] false bs;simp only[Zm,Qb]at h6 h5;simp only[EXP]at h5;simp[f199C,h1,h2,h3,h4,h5,h6,hk,c1,c2,c3,c4,n0,V0,Zp,EXP]
      ·simp only[Zm]at h6;simp[f199C,h1,h2,h3,h4,h6,hk,c1,c2,c3,c4,n0,V0,Zp,Q8]
    ·have e0:Wp b e=(QG,W5 (ofP y) (ofP e)):=by simp[Wp,c1,hx,k1,c2,c3]
     rw[e0];simp[f199C,h1,h2,h3,h4,hk,c1,c2,c3,Zp,Q8]
   ·have e0:Wp b e=(QG,ofE y):=by simp[Wp,c1,hx,k1,c2]
    rw[e0];simp[f199C,h1,h2,h3,hk,c1,c2,Zp,Q8]
 ·have e0:Wp b e=(QG,ofE e):=by simp[Wp,c1]
  rw[e0];simp[f199C,h1,c1,Zp,Q8]
def Qhn (b e:Tm) (bs:Qa) (hg:Zh b=true) (hb:b.mass < 20000000) (he:e.mass < 20000000):call tb 261 [.agg (Qf b),.agg (Qf e)] bs=some (Zm (Wp b e),bs):=by
 have h1:=RQ e bs (by omega);have h2:=Py b EXP bs;have ke:=PG e 25000000 (by omega);have le:=S2 e;rw[zcc 261 rfl rfl];by_cases c1:ofE e=0
 ·cases hx:isB b EXP
  ·rw[hx]at h2;simp only[EXP]at h2
   have h4:=L2 false bs ke le;have e0:Wp b e=V0 b (ofP e):=by simp[Wp,c1,hx]
   rw[e0];generalize ofP e=p at *
   match p with
   | []=>
    simp only[WP]at h1;simp[f261C,h1,h2,c1,V0,Zp]
   | q:: r=>
    have n0: ¬(r.length:Int)+1=0:=by omega
    by_cases c2: (Yl (q:: r)).2=0
    ·have h5:=Uy EXP [b,(Yl (q:: r)).1] false bs (by simp);simp only[Zm,Qb]at h4 h5;simp only[EXP]at h5;simp[f261C,h1,h2,h4,h5,c1,c2,n0,V0,Zp,EXP]
    ·simp only[Zm]at h4;simp[f261C,h1,h2,h4,c1,c2,n0,V0,Zp,Q8]
  ·obtain⟨x,y,hk⟩:=Wf hg hx (by simp[Yv]);rw[hx]at h2;simp only[EXP]at h2
   have hmb:=QF b;rw[hk]at hmb;simp only[Qt]at hmb;have k0:kid b 0=x:=by simp[kid,hk]
   have k1:kid b 1=y:=by simp[kid,hk]
   have h3:=RQ y bs (by omega);have ky:=PG y 25000000 (by omega);have ly:=S2 y;by_cases c2:ofE y=0
   ·have h4:=CW (ofP y) (ofP e) false false bs (by omega) (by omega) (fun q hq=>by have:=ky q hq;unfold big;omega) (fun q hq=>by have:=ke q hq;unfold big;omega);by_cases c3:W5 (ofP y) (ofP e)=0
    ·have h6:=L2 false bs (Ik ky ke) (Kk (ofP y) (ofP e));have e0:Wp b e=V0 x (XU (ofP y) (ofP e)):=by simp[Wp,c1,hx,k0,k1,c2,c3]
     rw[e0];generalize XU (ofP y) (ofP e)=p at *
     match p with
     | []=>
      simp only[WP]at h4;simp[f261C,h1,h2,h3,h4,hk,c1,c2,c3,V0,Zp]
     | q:: r=>
      have n0: ¬(r.length:Int)+1=0:=by omega
      by_cases c4: (Yl (q:: r)).2=0
      ·have h5:=Uy EXP [x,(Yl (q:: r)).1] false bs (by simp);simp only[Zm,Qb]at h6 h5;simp only[EXP]at h5;simp[f261C,h1,h2,h3,h4,h5,h6,hk,c1,c2,c3,c4,n0,V0,Zp,EXP]
      ·simp only[Zm]at h6;simp[f261C,h1,h2,h3,h4,h6,hk,c1,c2,c3,c4,n0,V0,Zp,Q8]
    ·have e0:Wp b e=(QG,W5 (ofP y) (ofP e)):=by simp[Wp,c1,hx,k1,c2,c3]
     rw[e0];simp[f261C,h1,h2,h3,h4,hk,c1,c2,c3,Zp,Q8]
   ·have e0:Wp b e=(QG,ofE y):=by simp[Wp,c1,hx,k1,c2]
    rw[e0];simp[f261C,h1,h2,h3,hk,c1,c2,Zp,Q8]
 ·have e0:Wp b e=(QG,ofE e):=by simp[Wp,c1]
  rw[e0];simp[f261C,h1,c1,Zp,Q8]
def LO {n:Qu} (h:WY n=true):n.length<=24:=by
 cases n with
 | nil=>simp
 | cons c r=>
  simp only[WY,Qo,Qv]at h;simp only[ZL];omega
def Dk {t:Tm} (h:RI t=0):t.name.length<=24/\t.kids.length<=8/\(t.kind=3->t.sort=0)/\(t.kind≠3->t.kids=[]):=by
 unfold RI at h;split at h
 ·rename_i hk;split at h
  ·cases h
  ·rename_i h1;split at h
   ·cases h
   ·rename_i h2;have h3:t.kids.length=0:=by omega
    exact⟨LO (by simpa using h2),by omega,fun e=>by omega,fun _=>YE h3⟩
 ·split at h
  ·rename_i hk;split at h
   ·cases h
   ·rename_i h1;split at h
    ·cases h
    ·rename_i h2;split at h
     ·cases h
     ·exact⟨LO (by simpa using h2),by omega,fun _=>by simpa using h1,fun e=>absurd hk e⟩
  ·cases h
mutual
theorem IZ: ∀t:Tm,Vb t=0->t.mass<=33*t.nodes
 | .mk k n s ks,h=>by
  simp only[Vb]at h;split at h
  ·rename_i h1;exact absurd h h1
  ·rename_i h1;obtain⟨a,b,_⟩:=Dk (t:= .mk k n s ks) (by simpa using h1);have:=IY ks h;simp only[Z7,Zx]at a b;simp only[Tm.mass,Tm.nodes];omega
theorem IY: ∀ts:List Tm,UX ts=0->Qt ts<=33*QB ts
 | [],_=>by simp[Qt,QB]
 | t:: ts,h=>by
  simp only[UX]at h;split at h
  ·rename_i h1;exact absurd h h1
  ·rename_i h1;have a:=IZ t (by simpa using h1);have b:=IY ts h;simp only[Qt,QB];omega
end
def RN {t:Tm} (h:Zg t=0):Vb t=0/\t.nodes<=400/\t.mass<=13200:=by
 unfold Zg at h;split at h
 ·rename_i h1;exact absurd h h1
 ·rename_i h1;split at h
  ·cases h
  ·have:=IZ t (by simpa using h1);exact⟨by simpa using h1,by omega,by omega⟩
def Qc5 {n:Qu} {y:Sy} (h:Yd n X7=some y) (m:Nat) (h1: ¬((m:Int) < y.l\/y.m < m)):Yv n m=true:=by
 unfold Yv;split
 ·rename_i hn;have:y.l=2/\y.m=2:=by rcases hn with rfl | rfl | rfl | rfl | rfl | rfl | rfl | rfl <;> simp[Yu,ENC,Xi,YL,EXP,DEC,Ya,Yt,Yd,X7]at h <;> subst h <;> simp
  simp;omega
 ·split
  ·rename_i hn;have:y.l=1/\y.m=1:=by rcases hn with rfl | rfl | rfl | rfl <;> simp[PK,FST,SND,READ,Yd,X7]at h <;> subst h <;> simp
   simp;omega
  ·rfl
mutual
theorem Jn: ∀t:Tm,Vb t=0->XQ t=0->Zh t=true
 | .mk k n s ks,h,hc=>by
  simp only[Vb]at h;split at h
  ·rename_i h1;exact absurd h h1
  ·rename_i h1;obtain⟨_,_,a,b⟩:=Dk (t:= .mk k n s ks) (by simpa using h1);simp only[Tg,S1,Zx]at a b;simp only[XQ]at hc;by_cases hk:k=3
   ·subst hk;rw[Qm (by simp)]at hc;cases hy:Yd n X7 with
    | none=>rw[hy]at hc;simp at hc
    | some y=>
     rw[hy]at hc;simp only at hc;split at hc
     ·cases hc
     ·rename_i h2;have har:=Qc5 hy ks.length h2;split at hc
      ·cases hc
      ·split at hc
       ·cases hc
       ·have:=LL ks h hc;simp[Zh,a rfl,har,this]
   ·have:=b hk;subst this;simp[Zh,hk,ZZ]
theorem LL: ∀ts:List Tm,UX ts=0->Sm ts=0->ZZ ts=true
 | [],_,_=>rfl
 | t:: ts,h,hc=>by
  simp only[UX]at h;simp only[Sm]at hc;split at h
  ·rename_i h1;exact absurd h h1
  ·rename_i h1;split at hc
   ·rename_i h2;exact absurd hc h2
   ·rename_i h2;simp[ZZ,Jn t (by simpa using h1) (by simpa using h2),LL ts h hc]
end
mutual
theorem Qc8: ∀(t y:Tm),Zh t=true->y∈YH t->Zh y=true
 | .mk k n s ks,y,h,hy=>by
  simp only[YH,ZS]at hy;rcases hy with rfl | hy
  ·exact h
  ·exact MU ks y (VR h) hy
theorem MU: ∀(ts:List Tm) (y:Tm),ZZ ts=true->y∈XA ts->Zh y=true
 | [],y,_,hy=>by simp[XA]at hy
 | t:: ts,y,h,hy=>by
  simp only[ZZ,Qo]at h;simp only[XA,Wc]at hy;rcases hy with hy | hy
  ·exact Qc8 t y h.1 hy
  ·exact MU ts y h.2 hy
end
def WR:Zh QG=true:=by simp[QG,Zh,ZZ]
def TK {n:Qu} {us:Qe} (ha:Yv n us.length=true) (h:ZZ us=true):Zh (.mk 3 n 0 us)=true:=by simp[Zh,ha,h]
def PC {t:Tm} (h:Zh t=true) (i:Nat):Zh (kid t i)=true:=by
 unfold kid;rw[U8];cases hg:t.kids[i]? with
 | none=>simpa using WR
 | some x=>exact XX.1 (VR h) x (WC hg)
def UZ (t:Tm) (i:Nat): (kid t i).mass<=t.mass:=by
 unfold kid;rw[U8];have:=QF t;cases hg:t.kids[i]? with
 | none=>simp[QG,Tm.mass,Qt];omega
 | some x=>have:=Q4 (WC hg);simp;omega
def Qda {us:Qe} (h:ZZ us=true):Zh (WA us).1=true:=by
 unfold WA;split
 ·exact WR
 ·split
  ·exact WR
  ·have hL: ∀y∈Yw [] us,Zh y=true:=fun y hy=>by
    rcases Ku us [] y hy with h1 | h1
    ·simp at h1
    ·exact MU us y h h1
   show Zh (tmX (Yw [] us))=true
   match hh:Yw [] us with
   | []=>simp[tmX,Zh,ZZ,Yv,Yh,Yu,ENC,Xi,YL,EXP,DEC,Ya,Yt,PK,FST,SND,READ]
   | [p]=>simp only[tmX];exact hL p (by rw[hh];simp)
   | p:: q:: r=>
    simp only[tmX];refine TK (by simp[Yv,XOR,Yu,ENC,Xi,YL,EXP,DEC,Ya,Yt,PK,FST,SND,READ]) (XX.2 fun x hx=>hL x (by rw[hh];exact hx))
def M5 (us:Qe): (WA us).1.mass<=13200:=by
 unfold WA;split
 ·simp[QG,Tm.mass,Qt]
 ·split
  ·simp[QG,Tm.mass,Qt]
  ·rename_i h;exact(RN (by simpa using h)).2.2
def T8:QG.mass=1:=by simp[QG,Tm.mass,Qt]
def KG (l:Qj):Prop:=∀q∈l,Zh q.1=true
def BC {l:Qj} {t:Tm} {m:Int} (h:KG l) (ht:Zh t=true):KG (Xd l t m):=by
 intro q hq;rcases SO hq with hq | rfl | ⟨_,_,rfl,_⟩
 ·exact h q hq
 ·exact ht
 ·exact ht
def QiL: ∀(t:Tm) (l:Qj) (m:Int),KG l->Zh t=true->KG (Vp l t m):=by
 refine Yn ?_;intro k n s ks ih l m h hm;have hk:=XX.1 (VR hm);have hL: ∀(xs:Qe) (l:Qj) (m:Int),(∀x∈xs,x∈ks)->KG l->KG (VY l xs m):=by
  intro xs
  induction xs with
  | nil=>intro l m _ h;simpa[VY]using h
  | cons x xs IH=>
   intro l m hx h;simp only[VY];exact IH _ m (fun y hy=>hx y (by simp[hy])) (ih x (hx x (by simp)) l m h (hk x (hx x (by simp))))
 rw[OQ];split
 ·exact hL ks l _ (fun x hx=>hx) h
 ·exact BC h hm
def Jt: ∀(b a:Qj),KG a->KG b->KG (Wv a b)
 | [],a,h,_=>h
 | q:: b,a,h,hb=>Jt b _ (BC h (hb q (by simp))) fun x hx=>hb x (by simp[hx])
def Ju {t:Tm} (h:Zh t=true):KG (ofP t):=by
 unfold ofP;split
 ·exact QiL t [] 1 (fun q hq=>by simp at hq) h
 ·intro q hq;simp at hq
def QiM {a b:Qj} (ha:KG a) (hb:KG b):KG (XU a b):=by
 unfold XU;split
 ·exact Jt b a ha hb
 ·intro q hq;simp at hq
def FR:=@List.mem_flatten
def Qc9 {l:Qj} (h:KG l):ZZ (Ye l)=true:=by
 refine XX.2 fun x hx=> ?_;simp only[Ye,WT,Vd,Wc,FR,W8]at hx;rcases hx with⟨_,⟨q,hq,rfl⟩,hx⟩ | ⟨_,⟨q,hq,rfl⟩,hx⟩
 ·rw[List.eq_of_mem_replicate hx];exact h q hq
 ·rw[List.eq_of_mem_replicate hx];exact TK (by simp[Yv,INV,Yu,ENC,Xi,YL,EXP,DEC,Ya,Yt,PK,FST,SND,READ]) (by simp[ZZ,h q hq])
def Jm {l:Qj} (h:KG l):Zh (Yl l).1=true:=by
 unfold Yl;split
 ·exact WR
 ·split
  ·exact WR
  ·split
   ·exact WR
   ·have hL:=Qc9 h
    show Zh (Z8 (Ye l))=true
    match hh:Ye l with
    | []=>simp[Z8,Zh,ZZ,Yv,ONE,Yu,ENC,Xi,YL,EXP,DEC,Ya,Yt,PK,FST,SND,READ]
    | [p]=>simp only[Z8];rw[hh]at hL;simpa[ZZ]using hL
    | p:: q:: r=>
     simp only[Z8];rw[hh]at hL;exact TK (by simp[Yv,MUL,Yu,ENC,Xi,YL,EXP,DEC,Ya,Yt,PK,FST,SND,READ]) hL
def JD (l:Qj): (Yl l).1.mass<=13200:=by
 unfold Yl;split
 ·simp[QG,Tm.mass,Qt]
 ·split
  ·simp[QG,Tm.mass,Qt]
  ·split
   ·simp[QG,Tm.mass,Qt]
   ·rename_i h;exact(RN (by simpa using h)).2.2
def Hu {t:Tm} (h:Zh t=true):Zh (Xm t).1=true:=by
 unfold Xm;split
 ·exact WR
 ·exact Jm (Ju h)
def Hx (t:Tm): (Xm t).1.mass<=13200:=by
 unfold Xm;split
 ·simp[QG,Tm.mass,Qt]
 ·exact JD _
def Bw {b:Tm} {p:Qj} (hb:Zh b=true) (hp:KG p):Zh (V0 b p).1=true/\(V0 b p).1.mass<=6+b.mass+13200:=by
 have h0:=JD p;unfold V0;split
 ·exact⟨hb,by simp;omega⟩
 ·split
  ·exact⟨WR,by show QG.mass<=_;rw[T8];omega⟩
  ·exact⟨TK (by simp[Yv]) (by simp[ZZ,hb,Jm hp]),by simp only[Tm.mass,Qt,EXP,ZL,Yz];omega⟩
def Qjd {b e:Tm} (hb:Zh b=true) (he:Zh e=true):Zh (Wp b e).1=true/\(Wp b e).1.mass<=6+b.mass+13200:=by
 have hz:Zh QG=true/\QG.mass<=6+b.mass+13200:=⟨WR,by show QG.mass<=_;rw[T8];omega⟩;have hk:=UZ b 0;unfold Wp;split
 ·exact hz
 ·split
  ·split
   ·exact hz
   ·split
    ·exact hz
    ·obtain⟨h1,h2⟩:=Bw (PC hb 0) (QiM (Ju (PC hb 1)) (Ju he));exact⟨h1,by omega⟩
  ·exact Bw hb (Ju he)
def QeW {n:Qu} {us:Qe} (ha:Yv n us.length=true) (h:ZZ us=true):Zh (Za n us)=true/\(Za n us).mass<=1+n.length+us.length+Qt us:=by
 have hout:Zh (.mk 3 n 0 us)=true/\(Tm.mk 3 n 0 us).mass<=1+n.length+us.length+Qt us:=⟨TK ha h,by simp[Tm.mass]⟩;have ha0:Zh (us.getD 0 QG)=true/\(us.getD 0 QG).mass<=1+Qt us:=by
  cases us with
  | nil=>exact⟨WR,by simp[QG,Tm.mass,Qt]⟩
  | cons x r=>simp only[ZZ,Qo]at h;exact⟨h.1,by simp[Qt];omega⟩
 have hkid: ∀i,Zh (kid (us.getD 0 QG) i)=true/\(kid (us.getD 0 QG) i).mass<=1+n.length+us.length+Qt us:=fun i=>⟨PC ha0.1 i,by have:=UZ (us.getD 0 QG) i;omega⟩;simp only[Za]
 repeat' split
 all_goals first | exact hout | exact hkid _
def Xa (n:Qu) (us:Qe):Tm×Int:=
 if Ul n then(Za n us,0)else if n=XOR then WA us else if n=MUL\/n=INV\/n=ONE then Xm (.mk 3 n 0 us)
 else if n=EXP then Wp (us.getD 0 QG) (us.getD 1 QG)else(.mk 3 n 0 us,0)
mutual
def Z0:Tm->Tm×Int
 | .mk k n s ks=>if k=3 then(if(YT ks).2=0 then Xa n (YT ks).1 else(QG,(YT ks).2))else(.mk k n s ks,0)
def YT:List Tm->List Tm×Int
 | []=>([],0)
 | t:: ts=>if(Z0 t).2=0 then(if(YT ts).2=0 then((Z0 t).1:: (YT ts).1,0)else([],(YT ts).2))else([],(Z0 t).2)
end
def Qfi {n:Qu} {us:Qe} (ha:Yv n us.length=true) (h:ZZ us=true):Zh (Xa n us).1=true/\(Xa n us).1.mass<=1+n.length+us.length+Qt us+13200:=by
 unfold Xa;split
 ·obtain⟨h1,h2⟩:=QeW ha h;exact⟨h1,by simp;omega⟩
 ·split
  ·exact⟨Qda h,by have:=M5 us;omega⟩
  ·split
   ·exact⟨Hu (TK ha h),by have:=Hx (.mk 3 n 0 us);omega⟩
   ·split
    ·rename_i hn;subst hn;have h2:us.length=2:=by simpa[Yv]using ha
     match us,h2,h with
     | [x,y],_,h=>
      simp only[ZZ,Qo]at h;obtain⟨h3,h4⟩:=Qjd h.1 h.2.1;exact⟨h3,by simp only[Qt,EXP,ZL,Yz]at *;simp at h4 ⊢;omega⟩
    ·exact⟨TK ha h,by simp[Tm.mass]⟩
mutual
theorem PJ: ∀t:Tm,Zh t=true->Zh (Z0 t).1=true/\(Z0 t).1.mass<=t.mass+13200*t.nodes
 | .mk k n s ks,h=>by
  have hk:=Dl ks (VR h);simp only[Z0];split
  ·rename_i hk3;subst hk3;split
   ·rename_i h2;obtain⟨h3,h4,h5⟩:=hk;have h5:=h5 h2;have har:=(UY h rfl).2;simp only[Z7,Zx]at har;obtain⟨h6,h7⟩:=Qfi (by rw[h5];exact har) h3;exact⟨h6,by simp only[Tm.mass,Tm.nodes];rw[h5]at h7;omega⟩
   ·exact⟨WR,by show QG.mass<=_;rw[T8];simp only[Tm.mass];omega⟩
  ·exact⟨h,Nat.le_add_right _ _⟩
theorem Dl: ∀ts:List Tm,ZZ ts=true->ZZ (YT ts).1=true/\Qt (YT ts).1<=Qt ts+13200*QB ts/\((YT ts).2=0->(YT ts).1.length=ts.length)
 | [],_=>by simp[YT,ZZ,Qt]
 | t:: ts,h=>by
  simp only[ZZ,Qo]at h;obtain⟨a1,a2⟩:=PJ t h.1;obtain⟨b1,b2,b3⟩:=Dl ts h.2;simp only[YT];split
  ·split
   ·rename_i h2;refine⟨by simp[ZZ,a1,b1],by simp only[Qt,QB];omega,fun _=>by simp[b3 h2]⟩
   ·rename_i h2;exact⟨rfl,by simp[Qt],fun e=>absurd e h2⟩
  ·rename_i h2;exact⟨rfl,by simp[Qt],fun e=>absurd e h2⟩
end
end Go.Am
