/-
  Rc19, Rc20, Rc21, Rc22, Rc23, Rc24, Rc25.
-/
import Derived.Test.YthagbooipdejlaaGreatDoorG18
set_option linter.all false
open Go.Am.F
namespace Go.Am
set_option maxRecDepth 20000
def UH (n:Qv) (ks:Qc) (o:Bool) (bs:Qa) (hl:ks.length < 100000000):call tb 120 [.str n,.sl o 4 (Qb ks)] bs=some (.agg (Qf (.mk 3 n 0 ks)),bs):=by
 have hb:ks.length*56<=140737488355328:=WM (by omega);rw[zcc 120 rfl rfl];simp[f120C,hb,U5]
def Mb {α:Type} (n:Nat) (a b:List α): (a.take n ++ b).take n=(a ++ b).take n:=by
 rw[Po,Po,Jh,Xi,Nat.min_self];congr 2;omega
def QoC {l:Qk} {p:Pw} {bs:Qa} (hN: -1000<=p.2/\p.2<=1000) (c:AC) (K:Kn) (X:Out): ∀(k:Nat) (acc:Qc) (i n:Nat) (o:Bool) (ρ:Ql),l[n]? =some p->i+k=p.2.toNat->acc.length<=9->ρ 0= .sl o 5 (QC l)->ρ 3= .sl true 4 (Qb acc)->ρ 4= .int .i64 n->ρ 5= .int .i64 i->
  (∀ρ':Ql,ρ' 0= .sl o 5 (QC l)->ρ' 4= .int .i64 n->ρ' 3= .sl true 4 (Qb ((acc ++ List.replicate k p.1).take 9))->R tb c ρ' bs K=X)->
  R tb (.loop f260l0) ρ bs (Qq 2 (Qq 1 (QI tb c K)))=X:=by
 intro k
 induction k with
 | zero=>
  intro acc i n o ρ hg hi ha h0 h3 h4 h5 h;have hn: ¬(i:Int) < p.2:=by omega
  rw[Qe f260l0.eq_1];simp[h0,h3,h4,h5,hg,hn];apply h <;> simp[h0,h3,h4,YD ha]
 | succ k IH=>
  intro acc i n o ρ hg hi ha h0 h3 h4 h5 h;have hn: (i:Int) < p.2:=by omega
  have hw1:IntKind.i64.wrap ((i:Int)+1)=((i+1:Nat):Int):=by rw[Zg (by omega) (by omega)];omega
  rw[Qe f260l0.eq_1];by_cases c9:acc.length < 9
  ·have c9': (acc.length:Int) < 9:=by omega
   have hb: (acc.length+1)*56<=140737488355328:=WM (by omega);simp[h0,h3,h4,h5,hg,hn,hw1,hb,c9',ZX,Zu];refine IH (acc ++ [p.1]) (i+1) n o _ hg (by omega) (by simp;omega) ?_ ?_ ?_ ?_ ?_
   ·simp[h0]
   ·simp
   ·simp[h4]
   ·simp
   ·intro ρ' g0 g4 g3;rw[LP]at g3;exact h ρ' g0 g4 g3
  ·have c9': ¬(acc.length:Int) < 9:=by omega
   have e: (acc ++ List.replicate (k+1) p.1).take 9=acc:=by rw[OD (by omega),YD ha]
   simp[h0,h3,h4,h5,hg,hn,c9'];apply h <;> simp[h0,h3,h4,e]
def QoE {l:Qk} {p:Pw} {bs:Qa} (hN: -1000<=p.2/\p.2<=1000) (c:AC) (K:Kn) (X:Out): ∀(k:Nat) (acc:Qc) (i n:Nat) (o:Bool) (ρ:Ql),l[n]? =some p->i+k=(-p.2).toNat->acc.length<=9->ρ 0= .sl o 5 (QC l)->ρ 3= .sl true 4 (Qb acc)->ρ 6= .int .i64 n->ρ 7= .int .i64 i->
  (∀ρ':Ql,ρ' 0= .sl o 5 (QC l)->ρ' 6= .int .i64 n->ρ' 3= .sl true 4 (Qb ((acc ++ List.replicate k (Ue p.1)).take 9))->R tb c ρ' bs K=X)->
  R tb (.loop f260l2) ρ bs (Qq 6 (Qq 5 (QI tb c K)))=X:=by
 have hw:IntKind.i64.wrap (-p.2)= -p.2:=Zg (by omega) (by omega);intro k
 induction k with
 | zero=>
  intro acc i n o ρ hg hi ha h0 h3 h4 h5 h;have hn: ¬(i:Int) < -p.2:=by omega
  rw[Qe f260l2.eq_1];simp[h0,h3,h4,h5,hg,hw,hn];apply h <;> simp[h0,h3,h4,YD ha]
 | succ k IH=>
  intro acc i n o ρ hg hi ha h0 h3 h4 h5 h;have hn: (i:Int) < -p.2:=by omega
  have hw1:IntKind.i64.wrap ((i:Int)+1)=((i+1:Nat):Int):=by rw[Zg (by omega) (by omega)];omega
  rw[Qe f260l2.eq_1];by_cases c9:acc.length < 9
  ·have c9': (acc.length:Int) < 9:=by omega
   have hb: (acc.length+1)*56<=140737488355328:=WM (by omega);have hc2:=UH INV [p.1] false bs (by simp);simp only[INV]at hc2;simp[h0,h3,h4,h5,hg,hw,hn,hw1,hb,hc2,c9',ZX];rw[show Qf (Tm.mk 3 [105,110,118] 0 [p.1])=Qf (Ue p.1)from rfl];simp[ZX,Zu];refine IH (acc ++ [Ue p.1]) (i+1) n o _ hg (by omega) (by simp;omega) ?_ ?_ ?_ ?_ ?_
   ·simp[h0]
   ·simp[Ue,INV]
   ·simp[h4]
   ·simp
   ·intro ρ' g0 g4 g3;rw[LP]at g3;exact h ρ' g0 g4 g3
  ·have c9': ¬(acc.length:Int) < 9:=by omega
   have e: (acc ++ List.replicate (k+1) (Ue p.1)).take 9=acc:=by rw[OD (by omega),YD ha]
   simp[h0,h3,h4,h5,hg,hw,hn,c9'];apply h <;> simp[h0,h3,h4,e]
def QoF (l:Qk) (bs:Qa) (hl:l.length < 5000000) (hN: ∀q∈l,-1000<=q.2/\q.2<=1000):
  ∀(post pre:Qk) (o:Bool) (ρ:Ql),l=pre ++ post->ρ 0= .sl o 5 (QC l)->ρ 3= .sl true 4 (Qb ((WC l ++ Va pre).take 9))->ρ 6= .int .i64 pre.length->
  R tb (.loop f260l3) ρ bs (Qq 4 (QI tb f260r2 (QK f260 bs)))=some (.sl false 4 (Qb ((Z2 l).take 9)),bs):=by
 intro post
 induction post with
 | nil=>
  intro pre o ρ hk h0 h3 h6;simp only[QF]at hk;subst hk;rw[Qe f260l3.eq_1];simp[h0,h3,h6,f260r2,Z2]
 | cons p post IH=>
  intro pre o ρ hk h0 h3 h6;have hg:=Qx hk;have hll:=QE hk;have hw1:=wr1 pre.length (by omega);have hlt:=QG hk;have ih:=fun ρ=>IH (pre ++ [p]) o ρ (by rw[hk];simp);have hpN:=hN p (by rw[hk];simp);rw[Qe f260l3.eq_1];simp[h0,h3,h6,hlt];refine QoE hpN _ _ _ (-p.2).toNat ((WC l ++ Va pre).take 9) 0 pre.length o _ hg (by omega) (by rw[Xi];omega) ?_ ?_ ?_ ?_ ?_
  ·simp[h0]
  ·simp[h3]
  ·simp[h6]
  ·simp
  ·intro ρ' g0 g6 g3;rw[Mb,ZW,<- DG]at g3;simp[f260r1,g6,hw1];apply ih <;> simp[g0,g3]
def QoD (l:Qk) (bs:Qa) (hl:l.length < 5000000) (hN: ∀q∈l,-1000<=q.2/\q.2<=1000):
  ∀(post pre:Qk) (o:Bool) (ρ:Ql),l=pre ++ post->ρ 0= .sl o 5 (QC l)->ρ 3= .sl true 4 (Qb ((WC pre).take 9))->ρ 4= .int .i64 pre.length->
  R tb (.loop f260l1) ρ bs (Qq 0 (QI tb f260r3 (QK f260 bs)))=some (.sl false 4 (Qb ((Z2 l).take 9)),bs):=by
 intro post
 induction post with
 | nil=>
  intro pre o ρ hk h0 h3 h4;simp only[QF]at hk;subst hk;have h:=fun ρ=>QoF l bs hl hN l [] o ρ rfl;rw[Qe f260l1.eq_1];simp[h0,h3,h4,f260r3];apply h <;> simp[h0,h3,Va]
 | cons p post IH=>
  intro pre o ρ hk h0 h3 h4;have hg:=Qx hk;have hll:=QE hk;have hw1:=wr1 pre.length (by omega);have hlt:=QG hk;have ih:=fun ρ=>IH (pre ++ [p]) o ρ (by rw[hk];simp);have hpN:=hN p (by rw[hk];simp);rw[Qe f260l1.eq_1];simp[h0,h3,h4,hlt];refine QoC hpN _ _ _ p.2.toNat ((WC pre).take 9) 0 pre.length o _ hg (by omega) (by rw[Xi];omega) ?_ ?_ ?_ ?_ ?_
  ·simp[h0]
  ·simp[h3]
  ·simp[h4]
  ·simp
  ·intro ρ' g0 g4 g3;rw[Mb,<- DN]at g3;simp[f260r0,g4,hw1];apply ih <;> simp[g0,g3]
def Qh2 (l:Qk) (o:Bool) (bs:Qa) (hl:l.length < 5000000) (hN: ∀q∈l,-1000<=q.2/\q.2<=1000):
  call tb 260 [.sl o 5 (QC l)] bs=some (.sl false 4 (Qb ((Z2 l).take 9)),bs):=by
 have h:=fun ρ=>QoD l bs hl hN l [] false ρ rfl;rw[zcc 260 rfl rfl];simp[f260C];apply h <;> simp[WC,Qb]
def Qh1 (l:Qk) (o:Bool) (bs:Qa) (hl:l.length < 5000000) (hk: ∀q∈l,q.1.mass < big) (hm: (∀q∈l,-8<=q.2/\q.2<=8)->Qu (Z2 l) < big - 100):
  call tb 258 [.sl o 5 (QC l)] bs=some (Zk (Yg l),bs):=by
 have h1:=OW l false bs (by omega) hk;rw[zcc 258 rfl rfl];by_cases hv:Z0 l=0
 ·obtain⟨hinv,_,_⟩:=UB hv hk;have h2:=Qh2 l false bs hl fun q hq=>(hinv.bd q hq).2;by_cases c8:8 < (Z2 l).length
  ·have c8': (8:Int) < ((min 9 (Z2 l).length:Nat):Int):=by omega
   have e:Yg l=(QJ,3):=by simp[Yg,hv,c8]
   rw[e];simp[f258C,h1,hv,h2,c8',Zk,Q5]
  ·have hN8: ∀q∈l,-8<=q.2/\q.2<=8:=by
    intro q hq;have h3:=DP hq;have h4:=DI hq;simp only[Z2,Zc]at c8;omega
   have hm':=hm hN8;have hpm: (ZY (Z2 l)).mass < big:=by
    unfold big at *
    match h:Z2 l with
    | []=>simp[ZY,QH,Qu,ONE]
    | [p]=>rw[h]at hm';simp[ZY,Qu]at hm' ⊢;omega
    | p:: q:: r=>rw[h]at hm' c8;simp[ZY,QH,Qu,MUL]at hm' c8 ⊢;omega
   have hvv:=WR (ZY (Z2 l)) bs hpm;have e:Yg l=if Q1 (ZY (Z2 l))≠0 then(QJ,Q1 (ZY (Z2 l)))else(ZY (Z2 l),0):=by simp[Yg,hv,c8]
   rw[e];rw[YD (by omega)]at h2;have ha:=UH MUL (Z2 l) false bs (by omega);have ha1:=UH ONE [] true bs (by simp);simp only[MUL]at ha;simp only[ONE,Qb]at ha1;have c8': ¬(8:Int) < ((Z2 l).length:Int):=by omega
   generalize hL:Z2 l=L at *
   match L,hL with
   | [],hL=>
    simp only[ZY,ONE]at hvv;simp only[Qb]at ha h2;by_cases cv:Q1 (.mk 3 [111,110,101] 0 [])=0
    ·rw[cv]at hvv;simp[f258C,h1,hv,h2,ha,ha1,hvv,cv,Zk,ZY,ONE]
    ·simp[f258C,h1,hv,h2,ha,ha1,hvv,cv,Zk,Q5,ZY,ONE]
   | [p],hL=>
    simp only[ZY]at hvv;by_cases cv:Q1 p=0
    ·rw[cv]at hvv;simp[f258C,h1,hv,h2,ha,hvv,cv,Zk,ZY]
    ·simp[f258C,h1,hv,h2,ha,hvv,cv,Zk,Q5,ZY]
   | p:: q:: r,hL=>
    simp only[ZY,MUL]at hvv;have c8'': ¬(8:Int) < (r.length:Int)+1+1:=by simpa using c8'
    have n0: ¬(r.length:Int)+1+1=0:=by omega
    have n1: ¬(r.length:Int)+1+1=1:=by omega
    by_cases cv:Q1 (.mk 3 [109,117,108] 0 (p:: q:: r))=0
    ·rw[cv]at hvv;simp[f258C,h1,hv,h2,ha,hvv,cv,c8'',n0,n1,Zk,ZY,MUL]
    ·simp[f258C,h1,hv,h2,ha,hvv,cv,c8'',n0,n1,Zk,Q5,ZY,MUL]
 ·have e:Yg l=(QJ,Z0 l):=by simp[Yg,hv]
  rw[e];simp[f258C,h1,hv,Zk,Q5]
def WT:QC []=[]:=rfl
def Wm (a:Qk):Qk->Qk
 | []=>a
 | q:: b=>Wm (YY a q.1 q.2) b
def YS (l:Qk):Int:=if l.any (fun q=>XW q.2)then 7 else if 200 < l.length then 3 else 0
def W9 (a b:Qk):Int:=if Z0 a≠0 then Z0 a else if Z0 b≠0 then Z0 b else YS (Wm a b)
def XA (a b:Qk):Qk:=if W9 a b=0 then Wm a b else []
def Sl:=@List.any_append
def QaW (l:Qk) (bs:Qa) (hl:l.length < 100000000):
  ∀(post pre:Qk) (o:Bool) (ρ:Ql),l=pre ++ post->pre.any (fun q=>XW q.2)=false->ρ 0= .sl o 5 (QC l)->ρ 3= .int .i64 pre.length->
  R tb (.loop f263l0) ρ bs (Qq 0 (QI tb f263r0 (QK f263 bs)))=some (.int .i64 (YS l),bs):=by
 intro post
 induction post with
 | nil=>
  intro pre o ρ hk hp h0 h3;simp only[QF]at hk;rw[<- hk]at h3 hp;rw[Qe f263l0.eq_1];by_cases c:200 < l.length
  ·have c': (200:Int) < (l.length:Int):=by omega
   simp[h0,h3,f263r0,YS,hp,c,c',-List.any_eq_false,-List.any_eq_true]
  ·have c': ¬(200:Int) < (l.length:Int):=by omega
   simp[h0,h3,f263r0,YS,hp,c,c',-List.any_eq_false,-List.any_eq_true]
 | cons p post IH=>
  intro pre o ρ hk hp h0 h3;have hg:=Qx hk;have hll:=QE hk;have hw1:=wr1 pre.length (by omega);have hlt:=QG hk;have hany:XW p.2=true->YS l=7:=by
   intro h;have:l.any (fun q=>XW q.2)=true:=UD.2 ⟨p,by rw[hk];simp,h⟩;simp only[YS,this,Zd]
  rw[Qe f263l0.eq_1];by_cases c4:p.2 < -1000
  ·rw[hany (by simp[XW,c4])];simp[h0,h3,hg,hlt,c4]
  ·by_cases c5:1000 < p.2
   ·rw[hany (by simp[XW,c5])];simp[h0,h3,hg,hlt,c4,c5]
   ·have ih:=fun ρ=>IH (pre ++ [p]) o ρ (by rw[hk];simp) (by rw[Sl,hp];simp[XW,c4,c5]);simp[h0,h3,hg,hlt,hw1,c4,c5];apply ih <;> simp[h0]
def Qh4 (l:Qk) (o:Bool) (bs:Qa) (hl:l.length < 100000000):call tb 263 [.sl o 5 (QC l)] bs=some (.int .i64 (YS l),bs):=by
 have h:=fun ρ=>QaW l bs hl l [] false ρ rfl rfl;rw[zcc 263 rfl rfl];simp[f263C];apply h <;> simp
def Qc6 (b:Qk) (bs:Qa) (hb:b.length<=200) (hbm: ∀q∈b,q.1.mass < big/\q.2≠0/\ -1000<=q.2/\q.2<=1000) (X:Qk):
  ∀(post pre:Qk) (acc:Qk) (n:Nat) (o o2:Bool) (ρ:Ql),b=pre ++ post->VE acc n->n+1000*post.length < 40000000->Wm acc post=X->ρ 1= .sl o 5 (QC b)->ρ 8= .sl o2 5 (QC acc)->ρ 9= .int .i64 pre.length->
  R tb (.loop f262l0) ρ bs (Qq 0 (QI tb f262r0 (QK f262 bs)))=some (.tup [.sl false 5 (QC (if YS X=0 then X else [])),.int .i64 (YS X)],bs):=by
 intro post
 induction post with
 | nil=>
  intro pre acc n o o2 ρ hk ha hn hX h1 h8 h9;simp only[QF]at hk;rw[<- hk]at h9;simp only[Wm]at hX;subst hX;have hal:=ha.len;have hr:=Qh4 acc false bs (by simp at hn;omega);rw[Qe f262l0.eq_1];by_cases c:YS acc=0
  ·simp[h1,h8,h9,f262r0,hr,c]
  ·simp[h1,h8,h9,f262r0,hr,c,WT]
 | cons p post IH=>
  intro pre acc n o o2 ρ hk ha hn hX h1 h8 h9;have hg:=Qx hk;have hll:=QE hk;have hw1:=wr1 pre.length (by omega);have hlt:=QG hk;obtain⟨q1,q2,q3,q4⟩:=hbm p (by rw[hk];simp);simp only[ZM]at hn;have hc:=Bp (m:=p.2) false bs ha (by omega) q1 (by omega);have ih:=fun ρ=>IH (pre ++ [p]) (YY acc p.1 p.2) (n+1000) o false ρ (by rw[hk];simp) (ha.add (c:=1000) q1 q2 (by omega) (by omega)) (by omega) (by rw[<- hX];rfl);rw[Qe f262l0.eq_1];simp[h1,h8,h9,hg,hlt,hw1,hc];apply ih <;> simp[h1]
def Bq (a b:Qk) (o o2:Bool) (bs:Qa) (ha:a.length < 100000000) (hb:b.length < 100000000) (hma: ∀q∈a,q.1.mass < big) (hmb: ∀q∈b,q.1.mass < big):
  call tb 262 [.sl o 5 (QC a),.sl o2 5 (QC b)] bs=some (.tup [.sl false 5 (QC (XA a b)),.int .i64 (W9 a b)],bs):=by
 have h1:=OW a false bs ha hma;have h2:=OW b false bs hb hmb;rw[zcc 262 rfl rfl];by_cases va:Z0 a=0
 ·by_cases vb:Z0 b=0
  ·obtain⟨ia,la,_⟩:=UB va hma;obtain⟨ib,lb,_⟩:=UB vb hmb;have h3:=fun ρ=>Qc6 b bs lb (fun q hq=>by obtain⟨x1,x2,x3⟩:=ib.bd q hq;exact⟨x1,ib.nz q hq,x2,x3⟩) _ b [] a 1000 false true ρ rfl ia (by omega) rfl;have e1:W9 a b=YS (Wm a b):=by simp[W9,va,vb]
   have e2:XA a b=if YS (Wm a b)=0 then Wm a b else []:=by simp[XA,e1]
   have hb64:a.length*64<=140737488355328:=NI (by omega);rw[e1,e2];simp[f262C,h1,h2,va,vb,hb64];apply h3 <;> simp
  ·have e1:W9 a b=Z0 b:=by simp[W9,va,vb]
   have e2:XA a b=[]:=by simp[XA,e1,vb]
   rw[e1,e2];simp[f262C,h1,h2,va,vb,WT]
 ·have e1:W9 a b=Z0 a:=by simp[W9,va]
  have e2:XA a b=[]:=by simp[XA,e1,va]
  rw[e1,e2];simp[f262C,h1,va,WT]
def QoI {B0 B:Qa} {v:AV} {l:Qk} (p:Pw) (o:Bool) (h:PS B0 B v l) (hl:l.length < 50000000): ∃v' B',appM 64 5 v (.sl o 5 [Zq p]) B=some (v',B')/\PS B0 B' v' (l ++ [p]):=by
 obtain⟨M,id,sz,rfl,rfl,hc⟩:=h;have hb: (l.length+1)*64<=140737488355328:=NI (by omega);have hs:X6 5 (.sl o 5 [Zq p]) (B0 ++ M)=some (1,Zq p):=by simp[X6]
 rcases hc with⟨rfl,rfl,rfl⟩ | ⟨rfl,hid,t,hbx,hne⟩
 ·refine⟨.gs (B0 ++ M).length 0 5 1,B0 ++ (M ++ [Zq p]),?_,M ++ [Zq p],(B0 ++ M).length,5,rfl,rfl,.inr ⟨rfl,by simp,[],?_,?_⟩⟩
  ·simp[appM,hs]
  ·rw[<- ZW,Yu];simp[QR,YB]
  ·simp[QR,YB,BQ]
 ·have hlt:=Wv hbx;have hr:=XB l;have hle:l.length*5<=(QR l ++ t).length:=by rw[Zc,hr];omega
  have hrow:QR (l ++ [p])=QR l ++ Zq p:=by simp[QR,Vn,R9]
  have htk: (QR l ++ t).take (l.length*5)=QR l:=by rw[<- hr,Ps]
  have hne2: ∀x:Qh,QR l ++ (Zq p ++ x)≠[]:=fun x e=>by
   have:=Wu List.length e;simp at this
  by_cases hroom: (l.length+1)*5<=(QR l ++ t).length
  ·refine⟨.gs id 0 5 (l.length+1),(B0 ++ M).set id (QR l ++ (Zq p ++ (QR l ++ t).drop (l.length*5+5))),?_,_,id,5,XX hid _,by simp,.inr ⟨rfl,hid,(QR l ++ t).drop (l.length*5+5),?_,?_⟩⟩
   ·simp only[appM,hs,QB];rw[Qn ⟨by omega,hb⟩,Qm (by omega),Qm (by omega),Qn ⟨trivial,trivial⟩,hbx];simp only[QB];rw[Qn ⟨hne,hle⟩,Qn hroom];simp only[put,htk,W7];simp
   ·have:id < (B0 ++ M).length:=hlt;rw[Xh,Qn rfl,Qn this,hrow];simp
   ·rw[hrow,ZW];exact hne2 _
  ·refine⟨.gs (B0 ++ M).length 0 5 (l.length+1),(B0 ++ M).set id []++ [QR l ++ Zq p],?_,M.set (id - B0.length) []++ [QR l ++ Zq p],(B0 ++ M).length,5,?_,by simp,.inr ⟨rfl,by simp,[],?_,?_⟩⟩
   ·have hst: (QR l).map AV.strip=QR l:=YM VT l;simp only[appM,hs,QB];rw[Qn ⟨by omega,hb⟩,Qm (by omega),Qm (by omega),Qn ⟨trivial,trivial⟩,hbx];simp only[QB];rw[Qn ⟨hne,hle⟩,Qm hroom,htk,hst]
   ·rw[XX hid,ZW]
   ·have e: (B0 ++ M).length=((B0 ++ M).set id []).length:=by simp
    rw[hrow,QF,e,Yu]
   ·rw[hrow,QF];have:=hne2 [];simpa using this
def CH (l:Qk) (B0 K:Qa) (hl:l.length < 40000000) (hm: ∀q∈l,q.1.mass < big):
  ∀(post pre:Qk) (B:Qa) (v:AV) (ρ:Ql),l=pre ++ post->PS B0 B v pre->ρ 3=v->ρ 6= .sl false 5 (QC l)->ρ 7= .int .i64 l.length->ρ 8= .int .i64 pre.length->
  QeZ B0 l (R tb (.loop f201l0) ρ B (Qq 0 (QI tb f201r0 (QK f201 K)))):=by
 intro post
 induction post with
 | nil=>
  intro pre B v ρ hk hps h3 h6 h7 h8;simp only[QF]at hk;subst hk;obtain⟨id,sz,rfl⟩:=Uz hps;rw[Qe f201l0.eq_1];refine⟨_,B,?_,hps⟩;simp[h3,h6,h7,h8,f201r0]
 | cons p post IH=>
  intro pre B v ρ hk hps h3 h6 h7 h8;have hg:=Qx hk;have hll:=QE hk;have hw1:=wr1 pre.length (by omega);have hlt:=QG hk;have hc:=Rh p.1 B (hm p (by rw[hk];simp));obtain⟨v2,B2,ha,hps2⟩:=QoI p false hps (by omega);have ih:=fun ρ=>IH (pre ++ [p]) B2 v2 ρ (by rw[hk];simp) hps2;obtain⟨id,sz,rfl⟩:=Uz hps;obtain⟨id2,sz2,rfl⟩:=Uz hps2;have hf:Qf p.1 ++ [.int .i64 p.2]=Zq p:=rfl;rw[Qe f201l0.eq_1];simp[h3,h6,h7,h8,hg,hlt,hw1,hc,Po,OP,hf,ha];apply ih <;> simp[h6,h7]
def Bo (l:Qk) (o:Bool) (B0:Qa) (hl:l.length < 40000000) (hm: ∀q∈l,q.1.mass < big):QeZ B0 l (call tb 201 [.sl o 5 (QC l)] B0):=by
 have h:=fun ρ=>CH l B0 B0 hl hm l [] B0 _ ρ rfl (Qd5 B0);rw[zcc 201 rfl rfl];simp[f201C];apply h <;> simp
def QhP (p:Pw) (B:Qa):call tb 203 [.agg (Zq p)] B=some (.bool (XW p.2),B):=by
 rw[zcc 203 rfl rfl];by_cases c4:p.2 < -1000
 ·simp[f203C,XW,c4]
 ·by_cases c5:1000 < p.2
  ·simp[f203C,XW,c4,c5]
  ·simp[f203C,XW,c4,c5]
def RG (b:Bool) (B:Qa) (r:Out):Prop:=∃i:Int,r=some (.int .i64 i,B)/\(0<=i↔b=true)
def QjD {B0 B:Qa} {v:AV} {l:Qk} (h:PS B0 B v l) (hl:l.length < 100000000):
  ∀(post pre:Qk) (ρ:Ql),l=pre ++ post->pre.any (fun q=>XW q.2)=false->ρ 0=v->ρ 1= .fn 203 []->ρ 7= .int .i64 l.length->ρ 8= .int .i64 pre.length->
  RG (l.any fun q=>XW q.2) B (R tb (.loop f205l0) ρ B (Qq 0 (QI tb f205r0 (QK f205 B)))):=by
 obtain⟨M,id,sz,rfl,rfl,hc⟩:=h;have htk: (B0 ++ M).take (B0.length+M.length)=B0 ++ M:=YD (by simp);intro post
 induction post with
 | nil=>
  intro pre ρ hk hp h0 h1 h7 h8;simp only[QF]at hk;rw[<- hk]at h8 hp;rw[Qe f205l0.eq_1];refine⟨-1,?_,by rw[hp];simp⟩;simp[h0,h1,h7,h8,f205r0,htk]
 | cons p post IH=>
  intro pre ρ hk hp h0 h1 h7 h8;have hg:=Qx hk;have hll:=QE hk;have hw1:=wr1 pre.length (by omega);have hlt:=QG hk;have hlt':pre.length < l.length:=by omega
  rcases hc with⟨rfl,rfl,rfl⟩ | ⟨rfl,hid,t,hbx,hne⟩
  ·simp at hlt'
  have r1:=IK (l:=l) (O6 hg t);have hle:pre.length*5+5<=(QR l ++ t).length:=by rw[Zc,XB];omega
  have hcall:=QhP p (B0 ++ M);have ih:=fun ρ hpp=>IH (pre ++ [p]) ρ (by rw[hk];simp) hpp;generalize QR l ++ t=c at *;rw[Qe f205l0.eq_1];cases ho:XW p.2
  ·have ih2:=fun ρ=>ih ρ (by rw[Sl,hp];simp[ho]);simp[-getElem?_pos,h0,h1,h7,h8,hlt,hlt',hw1,hbx,hle,r1,hcall,ho,-List.any_eq_false,-List.any_eq_true];apply ih2 <;> simp[h0,h1,h7]
  ·have hany:l.any (fun q=>XW q.2)=true:=UD.2 ⟨p,by rw[hk];simp,ho⟩;refine⟨pre.length,?_,by rw[hany];simp⟩;simp[-getElem?_pos,h0,h1,h7,h8,hlt,hlt',hbx,hle,r1,hcall,ho,htk]
def QhQ {B0 B:Qa} {v:AV} {l:Qk} (h:PS B0 B v l) (hl:l.length < 100000000):call tb 204 [v,.fn 203 []] B=some (.bool (l.any fun q=>XW q.2),B):=by
 have h1:=fun ρ=>QjD h hl l [] ρ rfl rfl;obtain⟨id,sz,rfl⟩:=Uz h;have h2:RG (l.any fun q=>XW q.2) B (call tb 205 [.gs id 0 sz l.length,.fn 203 []] B):=by
  rw[zcc 205 rfl rfl];simp[f205C,-List.any_eq_false,-List.any_eq_true];apply h1 <;> simp
 obtain⟨i,hi,hb⟩:=h2;rw[zcc 204 rfl rfl];simp[f204C,hi,-List.any_eq_false,-List.any_eq_true];cases hx:l.any fun q=>XW q.2
 ·rw[hx]at hb;simp at hb;simpa using hb
 ·rw[hx]at hb;simp at hb;simpa using hb
def Qj3 {B0 B:Qa} {v:AV} {l:Qk} (h:PS B0 B v l) (n:Nat): ∃o M2,(B0 ++ M2).length=B.length/\X9 B (B0 ++ M2)=true/\∀ρ:Ql,ρ n=v->Yk {env:=ρ,bs:=B} n 5=some (.sl o 5 (QC l),{env:=upd ρ n .undef,bs:=B0 ++ M2}):=by
 obtain⟨M,id,sz,rfl,rfl,hc⟩:=h;rcases hc with⟨rfl,rfl,rfl⟩ | ⟨rfl,hid,t,hb,hne⟩
 ·exact⟨true,M,rfl,P5 _,fun ρ hn=>by simp[Yk,hn,QC]⟩
 ·by_cases hl:l.length=0
  ·have:l=[]:=Y2 hl;subst this;exact⟨false,M,rfl,P5 _,fun ρ hn=>by simp[Yk,hn,QC]⟩
  ·refine⟨true,M.set (id - B0.length) [],by simp,by rw[<- XX hid];exact EW _ _,fun ρ hn=> ?_⟩;have hle:0+l.length*5<=(QR l ++ t).length:=by rw[Zc,XB];omega
   have hch:Yb (QR l ++ t) 0 5 l.length=QC l:=XP (f:=Zq) (k:=5) W7 VT l t;simp only[Yk,hn];rw[Qn ⟨trivial,by omega⟩,Qm hl,hb];simp only[QB];rw[Qn hle,hch,XX hid];rfl
def Qpm (B0:Qa) (l:Qk) (r:Out):Prop:=∃M,r=some (.tup [.sl false 5 (QC (if YS l=0 then l else [])),.int .i64 (YS l)],B0 ++ M)
def QhO {B0 B:Qa} {v:AV} {l:Qk} (h:PS B0 B v l) (hl:l.length < 100000000):Qpm B0 l (call tb 202 [v] B):=by
 have h1:=QhQ h hl;obtain⟨o,M2,hlen,hchk,hf⟩:=Qj3 h 9;obtain⟨M,hM⟩: ∃M,B=B0 ++ M:=by obtain⟨M,_,_,h,_⟩:=h;exact⟨M,h⟩
 subst hM;have htk: (B0 ++ M2).take (B0.length+M.length)=B0 ++ M2:=YD (by rw[hlen];simp);have htk0: (B0 ++ M).take (B0.length+M.length)=B0 ++ M:=YD (by simp);have hgp:=Nv l;obtain⟨id,sz,rfl⟩:=Uz h;rw[zcc 202 rfl rfl];cases ha:l.any fun q=>XW q.2
 ·rw[ha]at h1;by_cases c:200 < l.length
  ·have c': (200:Int) < (l.length:Int):=by omega
   have e:YS l=3:=by simp only[YS,ha,c,Zd];rfl
   refine⟨M,?_⟩;rw[e];simp[f202C,h1,c',WT,htk0]
  ·have c': ¬(200:Int) < (l.length:Int):=by omega
   have e:YS l=0:=by simp only[YS,ha,c,Zp];rfl
   refine⟨M2,?_⟩;rw[e];simp[f202C,h1,c',hf,htk,hchk]
 ·rw[ha]at h1;have e:YS l=7:=by simp only[YS,ha,Zd]
  refine⟨M,?_⟩;rw[e];simp[f202C,h1,WT,htk0]
def Qga (b:Qk) (B0:Qa) (hb:b.length<=200) (hbm: ∀q∈b,q.1.mass < big/\q.2≠0/\ -1000<=q.2/\q.2<=1000) (X:Qk):
  ∀(post pre:Qk) (acc:Qk) (n:Nat) (B:Qa) (v:AV) (ρ:Ql),b=pre ++ post->PS B0 B v acc->VE acc n->n+1000*post.length < 40000000->Wm acc post=X->ρ 8=v->ρ 23= .sl false 5 (QC b)->ρ 24= .int .i64 b.length->ρ 25= .int .i64 pre.length->
  R tb (.loop f200l0) ρ B (Qq 0 (QI tb f200r0 (QK f200 B0)))=some (.tup [.sl false 5 (QC (if YS X=0 then X else [])),.int .i64 (YS X)],B0):=by
 intro post
 induction post with
 | nil=>
  intro pre acc n B v ρ hk hps ha hn hX h8 h23 h24 h25;simp only[QF]at hk;rw[<- hk]at h25;simp only[Wm]at hX;subst hX;have hal:=ha.len;obtain⟨M,hr⟩:=QhO hps (by simp at hn;omega);obtain⟨id,sz,rfl⟩:=Uz hps;rw[Qe f200l0.eq_1];generalize (if YS acc=0 then acc else [])=X at *;simp[h8,h23,h24,h25,f200r0,hr]
 | cons p post IH=>
  intro pre acc n B v ρ hk hps ha hn hX h8 h23 h24 h25;have hg:=Qx hk;have hll:=QE hk;have hw1:=wr1 pre.length (by omega);have hlt:=QG hk;obtain⟨q1,q2,q3,q4⟩:=hbm p (by rw[hk];simp);simp only[ZM]at hn;have hal:=ha.len;obtain⟨v2,B2,hc,hps2⟩:=Bl (p:=p) hps (by omega) (fun q hq=>by obtain⟨a1,a2,a3⟩:=ha.bd q hq;exact⟨a1,by omega,by omega⟩) q1 (by omega) ha.asc;have ih:=fun ρ=>IH (pre ++ [p]) (YY acc p.1 p.2) (n+1000) B2 v2 ρ (by rw[hk];simp) hps2 (ha.add (c:=1000) q1 q2 (by omega) (by omega)) (by omega) (by rw[<- hX];rfl);obtain⟨id,sz,rfl⟩:=Uz hps;obtain⟨id2,sz2,rfl⟩:=Uz hps2;rw[Qe f200l0.eq_1];simp[h8,h23,h24,h25,hg,hlt,hw1,hc];apply ih <;> simp[h23,h24]
def Bn (a b:Qk) (o o2:Bool) (bs:Qa) (ha:a.length < 100000000) (hb:b.length < 100000000) (hma: ∀q∈a,q.1.mass < big) (hmb: ∀q∈b,q.1.mass < big):
  call tb 200 [.sl o 5 (QC a),.sl o2 5 (QC b)] bs=some (.tup [.sl false 5 (QC (XA a b)),.int .i64 (W9 a b)],bs):=by
 have h1:=OV a false bs ha hma;have h2:=OV b false bs hb hmb;rw[zcc 200 rfl rfl];by_cases va:Z0 a=0
 ·by_cases vb:Z0 b=0
  ·obtain⟨ia,la,_⟩:=UB va hma;obtain⟨ib,lb,_⟩:=UB vb hmb;obtain⟨v,B,hc,hps⟩:=Bo a false bs (by omega) hma;have h3:=fun ρ=>Qga b bs lb (fun q hq=>by obtain⟨x1,x2,x3⟩:=ib.bd q hq;exact⟨x1,ib.nz q hq,x2,x3⟩) _ b [] a 1000 B v ρ rfl hps ia (by omega) rfl;obtain⟨id,sz,rfl⟩:=Uz hps;have e1:W9 a b=YS (Wm a b):=by simp[W9,va,vb]
   have e2:XA a b=if YS (Wm a b)=0 then Wm a b else []:=by simp[XA,e1]
   rw[e1,e2];simp[f200C,h1,h2,va,vb,hc];apply h3 <;> simp
  ·have e1:W9 a b=Z0 b:=by simp[W9,va,vb]
   have e2:XA a b=[]:=by simp[XA,e1,vb]
   rw[e1,e2];simp[f200C,h1,h2,va,vb,WT]
 ·have e1:W9 a b=Z0 a:=by simp[W9,va]
  have e2:XA a b=[]:=by simp[XA,e1,va]
  rw[e1,e2];simp[f200C,h1,va,WT]
@[simp] def Qq2 (x y:Tm) (a:Qc) (h:1 < (Qb (x:: y:: a)).length): (Qb (x:: y:: a))[1]=Qf y:=by simp[Qb]
def Yz:Qv:=[112,97,105,114]
def ENC:Qv:=[101,110,99]
def Xm:Qv:=[97,101,110,99]
def PK:Qv:=[112,107]
def YQ:Qv:=[115,105,103,110]
def EXP:Qv:=[101,120,112]
def FST:Qv:=[102,115,116]
def SND:Qv:=[115,110,100]
def DEC:Qv:=[100,101,99]
def Yd:Qv:=[97,100,101,99]
def Yy:Qv:=[111,112,101,110]
def READ:Qv:=[114,101,97,100]
def YA (n:Qv) (m:Nat):Bool:=
 if n=Yz\/n=ENC\/n=Xm\/n=YQ\/n=EXP\/n=DEC\/n=Yd\/n=Yy then decide (m=2)
 else if n=PK\/n=FST\/n=SND\/n=READ then decide (m=1)else true
mutual
def Zb:Tm->Bool
 | .mk k n s ks=>(!(k == 3) || ((s == 0) && YA n ks.length)) && Z1 ks
def Z1:List Tm->Bool
 | []=>true
 | t:: ts=>Zb t && Z1 ts
end
def Kt (t:Tm):Zb t=((!(t.kind == 3) || ((t.sort == 0) && YA t.name t.kids.length)) && Z1 t.kids):=by cases t;simp[Zb]
def XZ: ∀{l:Qc},Z1 l=true↔∀x∈l,Zb x=true
 | []=>by simp[Z1]
 | t:: ts=>by simp[Z1,XZ (l:=ts)]
def VW {t:Tm} (h:Zb t=true):Z1 t.kids=true:=by rw[Kt]at h;simp at h;exact h.2
def U6 {t:Tm} (h:Zb t=true) (hk:t.kind=3):t.sort=0/\YA t.name t.kids.length=true:=by
 rw[Kt]at h;simp[hk]at h;exact h.1
def Wi {t:Tm} {n:Qv} (h:Zb t=true) (hb:isB t n=true) (hn:YA n t.kids.length=decide (t.kids.length=2)): ∃x y,t.kids=[x,y]:=by
 obtain⟨hk,rfl⟩:=Tn.1 hb;have:=(U6 h hk).2;rw[hn]at this;simp at this
 match hh:t.kids with
 | [x,y]=>exact⟨x,y,rfl⟩
 | []=>rw[hh]at this;simp at this
 | [_]=>rw[hh]at this;simp at this
 | _:: _:: _:: _=>rw[hh]at this;simp at this
def kid (t:Tm) (i:Nat):Tm:=t.kids.getD i QJ
def pkT (t:Tm):Tm:= .mk 3 PK 0 [t]
def Ms:=@List.length_eq_one_iff
def B8 {u:Tm} (h:Zb u=true) (key:Tm):decide (Qp u (pkT key)=0)=(isB u PK && decide (Qp (kid u 0) key=0)):=by
 cases hb:isB u PK
 ·have: ¬Qp u (pkT key)=0:=by
   intro e;have:=Y7 _ _ e;subst this;simp[isB,pkT]at hb
  simp[this]
 ·obtain⟨hk,hn⟩:=Tn.1 hb;obtain⟨hs,ha⟩:=U6 h hk;rw[hn]at ha;have h1:u.kids.length=1:=by simpa[YA,PK,Yz,ENC,Xm,YQ,EXP,DEC,Yd,Yy]using ha
  obtain⟨x,hx⟩:=Ms.1 h1;have hu:u=pkT x:=by rw[<- Tm.eta u,hk,hn,hs,hx];rfl
  subst hu;have:kid (pkT x) 0=x:=rfl;rw[this];have e1:Qp (pkT x) (pkT key)=0↔Qp x key=0:=by
   constructor
   ·intro e;have:=Y7 _ _ e;injection this with _ _ _ h4
    injection h4 with h4
    subst h4;exact Un _
   ·intro e;have:=Y7 _ _ e;subst this;exact Un _
  simp[e1]
def Q7 (n:Qv) (us:Qc):Tm:=
 let a:=us.getD 0 QJ
 let key:=us.getD 1 QJ
 let out:Tm:= .mk 3 n 0 us
 if n=FST then(if isB a Yz then kid a 0 else out)
 else if n=SND then(if isB a Yz then kid a 1 else out)
 else if n=DEC then(if isB a ENC && decide (Qp (kid a 1) key=0)then kid a 0 else out)
 else if n=Yd then(if isB a Xm && decide (Qp (kid a 1) (pkT key)=0)then kid a 0 else out)
 else if n=Yy then(if isB a YQ && decide (Qp key (pkT (kid a 1))=0)then kid a 0 else out)
 else if n=READ then(if isB a YQ then kid a 0 else out)
 else out
def LD (x y:Tm) (bs:Qa) (hx:x.mass < big) (hy:y.mass < big):call tb 177 [.agg (Qf x),.agg (Qf y)] bs=some (.bool (decide (Qp x y=0)),bs):=by
 have h:=call_Compare x y bs hx hy;rw[zcc 177 rfl rfl];simp[f177C,h]
def Ua (n:Qv):Bool:=n == FST || n == SND || n == DEC || n == Yd || n == Yy || n == READ
def Qfw (n:Qv) (a:Tm) (bs:Qa) (hn:n=FST\/n=SND\/n=READ) (hg:Zb a=true) (hm:a.mass < big):
  call tb 176 [.agg (Qf (.mk 3 n 0 [a]))] bs=some (.agg (Qf (Q7 n [a])),bs):=by
 have h1:=fun m=>MY a m bs;rw[zcc 176 rfl rfl];rcases hn with rfl | rfl | rfl
 ·cases hb:isB a Yz
  ·have h2:=h1 Yz;rw[hb]at h2;simp only[Yz]at h2
   have e:Q7 FST [a]= .mk 3 FST 0 [a]:=by simp[Q7,hb]
   rw[e];simp only[FST];simp[f176C,h2]
  ·have h2:=h1 Yz;rw[hb]at h2;simp only[Yz]at h2
   obtain⟨x,y,hk⟩:=Wi hg hb (by simp[YA]);have e:Q7 FST [a]=x:=by simp[Q7,hb,kid,hk]
   rw[e];simp only[FST];simp[f176C,h2,hk]
 ·cases hb:isB a Yz
  ·have h2:=h1 Yz;rw[hb]at h2;simp only[Yz]at h2
   have e:Q7 SND [a]= .mk 3 SND 0 [a]:=by simp[Q7,hb,SND,FST]
   rw[e];simp only[SND];simp[f176C,h2]
  ·have h2:=h1 Yz;rw[hb]at h2;simp only[Yz]at h2
   obtain⟨x,y,hk⟩:=Wi hg hb (by simp[YA]);have e:Q7 SND [a]=y:=by simp[Q7,hb,kid,hk,SND,FST]
   rw[e];simp only[SND];simp[f176C,h2,hk]
 ·cases hb:isB a YQ
  ·have h2:=h1 YQ;rw[hb]at h2;simp only[YQ]at h2
   have e:Q7 READ [a]= .mk 3 READ 0 [a]:=by simp[Q7,hb,SND,FST,DEC,Yd,Yy,READ]
   rw[e];simp only[READ];simp[f176C,h2]
  ·have h2:=h1 YQ;rw[hb]at h2;simp only[YQ]at h2
   obtain⟨x,y,hk⟩:=Wi hg hb (by simp[YA]);have e:Q7 READ [a]=x:=by simp[Q7,hb,kid,hk,SND,FST,DEC,Yd,Yy,READ]
   rw[e];simp only[READ];simp[f176C,h2,hk]
def Qfx (n:Qv) (a key:Tm) (bs:Qa) (hn:n=DEC\/n=Yd\/n=Yy) (hg:Zb a=true) (hgk:Zb key=true) (hm:a.mass < big - 10) (hmk:key.mass < big - 10):
  call tb 176 [.agg (Qf (.mk 3 n 0 [a,key]))] bs=some (.agg (Qf (Q7 n [a,key])),bs):=by
 have h1:=fun t m=>MY t m bs;rw[zcc 176 rfl rfl];rcases hn with rfl | rfl | rfl
 ·cases hb:isB a ENC
  ·have h2:=h1 a ENC;rw[hb]at h2;simp only[ENC]at h2
   have e:Q7 DEC [a,key]= .mk 3 DEC 0 [a,key]:=by simp[Q7,hb,SND,FST,DEC]
   rw[e];simp only[DEC];simp[f176C,h2]
  ·have h2:=h1 a ENC;rw[hb]at h2;simp only[ENC]at h2
   obtain⟨x,y,hk⟩:=Wi hg hb (by simp[YA]);have hma:=QH a;rw[hk]at hma;simp only[Qu]at hma;have h3:=LD y key bs (by omega) (by omega);by_cases hc:Qp y key=0
   ·have e:Q7 DEC [a,key]=x:=by simp[Q7,hb,kid,hk,hc,SND,FST,DEC]
    rw[e];simp only[DEC];simp[f176C,h2,h3,hc,hk]
   ·have e:Q7 DEC [a,key]= .mk 3 DEC 0 [a,key]:=by simp[Q7,hb,kid,hk,hc,SND,FST,DEC]
    rw[e];simp only[DEC];simp[f176C,h2,h3,hc,hk]
 ·cases hb:isB a Xm
  ·have h2:=h1 a Xm;rw[hb]at h2;simp only[Xm]at h2
   have e:Q7 Yd [a,key]= .mk 3 Yd 0 [a,key]:=by simp[Q7,hb,SND,FST,DEC,Yd]
   rw[e];simp only[Yd];simp[f176C,h2]
  ·have h2:=h1 a Xm;rw[hb]at h2;simp only[Xm]at h2
   obtain⟨x,y,hk⟩:=Wi hg hb (by simp[YA]);have hma:=QH a;have hgy:Zb y=true:=by
    have:=VW hg;rw[hk]at this;simp[Z1]at this;exact this.2
   rw[hk]at hma;simp only[Qu]at hma;have hpk:=B8 hgy key;have h4:=h1 y PK;have e0:Q7 Yd [a,key]=if isB y PK && decide (Qp (kid y 0) key=0)then x else .mk 3 Yd 0 [a,key]:=by
    rw[<- hpk];simp[Q7,hb,kid,hk,SND,FST,DEC,Yd]
   rw[e0];cases hbp:isB y PK
   ·rw[hbp]at h4;simp only[PK]at h4
    simp only[Yd];simp[f176C,h2,h4,hk]
   ·rw[hbp]at h4;simp only[PK]at h4
    obtain⟨hyk,hyn⟩:=Tn.1 hbp;have har:=(U6 hgy hyk).2;rw[hyn]at har;have hl1:y.kids.length=1:=by simpa[YA,PK,Yz,ENC,Xm,YQ,EXP,DEC,Yd,Yy]using har
    obtain⟨z,hz⟩:=Ms.1 hl1;have hmy:=QH y;rw[hz]at hmy;simp only[Qu]at hmy;have h3:=LD z key bs (by omega) (by omega);have hk0:kid y 0=z:=by simp[kid,hz]
    rw[hk0];by_cases hc:Qp z key=0
    ·simp only[Yd];simp[f176C,h2,h3,h4,hc,hk,hz]
    ·simp only[Yd];simp[f176C,h2,h3,h4,hc,hk,hz]
 ·cases hb:isB a YQ
  ·have h2:=h1 a YQ;rw[hb]at h2;simp only[YQ]at h2
   have e:Q7 Yy [a,key]= .mk 3 Yy 0 [a,key]:=by simp[Q7,hb,SND,FST,DEC,Yd,Yy]
   rw[e];simp only[Yy];simp[f176C,h2]
  ·have h2:=h1 a YQ;rw[hb]at h2;simp only[YQ]at h2
   obtain⟨x,y,hk⟩:=Wi hg hb (by simp[YA]);have hma:=QH a;rw[hk]at hma;simp only[Qu]at hma;have hpk:=B8 hgk y;have h4:=h1 key PK;have e0:Q7 Yy [a,key]=if isB key PK && decide (Qp (kid key 0) y=0)then x else .mk 3 Yy 0 [a,key]:=by
    rw[<- hpk];simp[Q7,hb,kid,hk,SND,FST,DEC,Yd,Yy]
   rw[e0];cases hbp:isB key PK
   ·rw[hbp]at h4;simp only[PK]at h4
    simp only[Yy];simp[f176C,h2,h4,hk]
   ·rw[hbp]at h4;simp only[PK]at h4
    obtain⟨hyk,hyn⟩:=Tn.1 hbp;have har:=(U6 hgk hyk).2;rw[hyn]at har;have hl1:key.kids.length=1:=by simpa[YA,PK,Yz,ENC,Xm,YQ,EXP,DEC,Yd,Yy]using har
    obtain⟨z,hz⟩:=Ms.1 hl1;have hmy:=QH key;rw[hz]at hmy;simp only[Qu]at hmy;have h3:=LD y z bs (by omega) (by omega);have hk0:kid key 0=z:=by simp[kid,hz]
    have hsym: (Qp z y=0)=(Qp y z=0):=by
     have:=Xf y z;rw[WQ];omega
    rw[hk0];by_cases hc:Qp y z=0
    ·simp only[Yy];simp[f176C,h2,h3,h4,hc,hk,hz,hsym]
    ·simp only[Yy];simp[f176C,h2,h3,h4,hc,hk,hz,hsym]
def DL (t:Tm): (pkT t).mass=t.mass+4:=by simp only[pkT,Tm.mass,Qu,PK,ZM,Y5];omega
def QeW (t:Tm) (bs:Qa) (r:Out):Prop:=∃b,r=some (.tup [.agg (Qf t),.bool b],bs)
def Qc4 (n:Qv) (a:Tm) (bs:Qa) (hn:n=FST\/n=SND\/n=READ) (hg:Zb a=true) (hm:a.mass < big):
  QeW (Q7 n [a]) bs (call tb 243 [.agg (Qf (.mk 3 n 0 [a]))] bs):=by
 have h1:=fun m=>U2 a m bs;rw[zcc 243 rfl rfl];rcases hn with rfl | rfl | rfl
 ·cases hb:isB a Yz
  ·have h2:=h1 Yz;rw[hb]at h2;simp only[Yz]at h2
   have e:Q7 FST [a]= .mk 3 FST 0 [a]:=by simp[Q7,hb]
   rw[e];refine⟨false,?_⟩;simp only[FST];simp[f243C,h2]
  ·have h2:=h1 Yz;rw[hb]at h2;simp only[Yz]at h2
   obtain⟨x,y,hk⟩:=Wi hg hb (by simp[YA]);have e:Q7 FST [a]=x:=by simp[Q7,hb,kid,hk]
   rw[e];refine⟨true,?_⟩;simp only[FST];simp[f243C,h2,hk]
 ·cases hb:isB a Yz
  ·have h2:=h1 Yz;rw[hb]at h2;simp only[Yz]at h2
   have e:Q7 SND [a]= .mk 3 SND 0 [a]:=by simp[Q7,hb,SND,FST]
   rw[e];refine⟨false,?_⟩;simp only[SND];simp[f243C,h2]
  ·have h2:=h1 Yz;rw[hb]at h2;simp only[Yz]at h2
   obtain⟨x,y,hk⟩:=Wi hg hb (by simp[YA]);have e:Q7 SND [a]=y:=by simp[Q7,hb,kid,hk,SND,FST]
   rw[e];refine⟨true,?_⟩;simp only[SND];simp[f243C,h2,hk]
 ·cases hb:isB a YQ
  ·have h2:=h1 YQ;rw[hb]at h2;simp only[YQ]at h2
   have e:Q7 READ [a]= .mk 3 READ 0 [a]:=by simp[Q7,hb,SND,FST,DEC,Yd,Yy,READ]
   rw[e];refine⟨false,?_⟩;simp only[READ];simp[f243C,h2]
  ·have h2:=h1 YQ;rw[hb]at h2;simp only[YQ]at h2
   obtain⟨x,y,hk⟩:=Wi hg hb (by simp[YA]);have e:Q7 READ [a]=x:=by simp[Q7,hb,kid,hk,SND,FST,DEC,Yd,Yy,READ]
   rw[e];refine⟨true,?_⟩;simp only[READ];simp[f243C,h2,hk]
def Qc5 (n:Qv) (a key:Tm) (bs:Qa) (hn:n=DEC\/n=Yd\/n=Yy) (hg:Zb a=true) (hm:a.mass < big - 10) (hmk:key.mass < big - 10):
  QeW (Q7 n [a,key]) bs (call tb 243 [.agg (Qf (.mk 3 n 0 [a,key]))] bs):=by
 have h1:=fun t m=>U2 t m bs;rw[zcc 243 rfl rfl];rcases hn with rfl | rfl | rfl
 ·cases hb:isB a ENC
  ·have h2:=h1 a ENC;rw[hb]at h2;simp only[ENC]at h2
   have e:Q7 DEC [a,key]= .mk 3 DEC 0 [a,key]:=by simp[Q7,hb,SND,FST,DEC]
   rw[e];refine⟨false,?_⟩;simp only[DEC];simp[f243C,h2]
  ·have h2:=h1 a ENC;rw[hb]at h2;simp only[ENC]at h2
   obtain⟨x,y,hk⟩:=Wi hg hb (by simp[YA]);have hma:=QH a;rw[hk]at hma;simp only[Qu]at hma;have h3:=Xs y key bs (by omega) (by omega);by_cases hc:Qp y key=0
   ·have e:Q7 DEC [a,key]=x:=by simp[Q7,hb,kid,hk,hc,SND,FST,DEC]
    rw[e];refine⟨true,?_⟩;simp only[DEC];simp[f243C,h2,h3,hc,hk]
   ·have e:Q7 DEC [a,key]= .mk 3 DEC 0 [a,key]:=by simp[Q7,hb,kid,hk,hc,SND,FST,DEC]
    rw[e];refine⟨false,?_⟩;simp only[DEC];simp[f243C,h2,h3,hc,hk]
 ·cases hb:isB a Xm
  ·have h2:=h1 a Xm;rw[hb]at h2;simp only[Xm]at h2
   have e:Q7 Yd [a,key]= .mk 3 Yd 0 [a,key]:=by simp[Q7,hb,SND,FST,DEC,Yd]
   rw[e];refine⟨false,?_⟩;simp only[Yd];simp[f243C,h2]
  ·have h2:=h1 a Xm;rw[hb]at h2;simp only[Xm]at h2
   obtain⟨x,y,hk⟩:=Wi hg hb (by simp[YA]);have hma:=QH a;rw[hk]at hma;simp only[Qu]at hma;have hpm: (pkT key).mass < big:=by rw[DL];unfold big at *;omega
   have h3:=Xs y (pkT key) bs (by omega) hpm;have h4:=UH PK [key] false bs (by simp);simp only[pkT,PK]at h3 h4;by_cases hc:Qp y (pkT key)=0
   ·have e:Q7 Yd [a,key]=x:=by simp[Q7,hb,kid,hk,hc,SND,FST,DEC,Yd]
    rw[e];refine⟨true,?_⟩;simp only[pkT,PK]at hc;simp only[Yd];simp[f243C,h2,h3,h4,hc,hk,ZX]
   ·have e:Q7 Yd [a,key]= .mk 3 Yd 0 [a,key]:=by simp[Q7,hb,kid,hk,hc,SND,FST,DEC,Yd]
    rw[e];refine⟨false,?_⟩;simp only[pkT,PK]at hc;simp only[Yd];simp[f243C,h2,h3,h4,hc,hk,ZX]
 ·cases hb:isB a YQ
  ·have h2:=h1 a YQ;rw[hb]at h2;simp only[YQ]at h2
   have e:Q7 Yy [a,key]= .mk 3 Yy 0 [a,key]:=by simp[Q7,hb,SND,FST,DEC,Yd,Yy]
   rw[e];refine⟨false,?_⟩;simp only[Yy];simp[f243C,h2]
  ·have h2:=h1 a YQ;rw[hb]at h2;simp only[YQ]at h2
   obtain⟨x,y,hk⟩:=Wi hg hb (by simp[YA]);have hma:=QH a;rw[hk]at hma;simp only[Qu]at hma;have hpm: (pkT y).mass < big:=by rw[DL];unfold big at *;omega
   have h3:=Xs key (pkT y) bs (by omega) hpm;have h4:=UH PK [y] false bs (by simp);simp only[pkT,PK]at h3 h4;by_cases hc:Qp key (pkT y)=0
   ·have e:Q7 Yy [a,key]=x:=by simp[Q7,hb,kid,hk,hc,SND,FST,DEC,Yd,Yy]
    rw[e];refine⟨true,?_⟩;simp only[pkT,PK]at hc;simp only[Yy];simp[f243C,h2,h3,h4,hc,hk,ZX]
   ·have e:Q7 Yy [a,key]= .mk 3 Yy 0 [a,key]:=by simp[Q7,hb,kid,hk,hc,SND,FST,DEC,Yd,Yy]
    rw[e];refine⟨false,?_⟩;simp only[pkT,PK]at hc;simp only[Yy];simp[f243C,h2,h3,h4,hc,hk,ZX]
def KM (l:Qk) (M:Nat):Prop:=∀q∈l,q.1.mass<=M
def Ae {l:Qk} {t:Tm} {m:Int} {M:Nat} (h:KM l M) (ht:t.mass<=M):KM (YY l t m) M:=by
 intro q hq;rcases TL hq with hq | rfl | ⟨_,_,rfl,_⟩
 ·exact h q hq
 ·exact ht
 ·exact ht
def QjH: ∀(t:Tm) (l:Qk) (m:Int) (M:Nat),KM l M->t.mass<=M->KM (WA l t m) M:=by
 refine Yj ?_;intro k n s ks ih l m M h hm;have hme:=QH (.mk k n s ks);simp only[Zs,Z3]at hme;have hL: ∀(xs:Qc) (l:Qk) (m:Int),(∀x∈xs,x∈ks)->KM l M->KM (XT l xs m) M:=by
  intro xs
  induction xs with
  | nil=>intro l m _ h;simpa[XT]using h
  | cons x xs IH=>
   intro l m hx h;simp only[XT];exact IH _ m (fun y hy=>hx y (by simp[hy])) (ih x (hx x (by simp)) l m M h (by have:=QY (hx x (by simp));omega))
 rw[Ud];split
 ·exact hL ks l _ (fun x hx=>hx) h
 ·exact Ae h hm
def JO: ∀(b a:Qk) (M:Nat),KM a M->KM b M->KM (Wm a b) M
 | [],a,M,h,_=>h
 | q:: b,a,M,h,hb=>JO b _ M (Ae h (hb q (by simp))) fun x hx=>hb x (by simp[hx])
def PI (t:Tm) (M:Nat) (h:t.mass<=M):KM (ofP t) M:=by
 unfold ofP;split
 ·exact QjH t [] 1 M (fun q hq=>by simp at hq) h
 ·intro q hq;simp at hq
def Vl (t:Tm): (ofP t).length<=200:=by
 unfold ofP;split
 ·rename_i h;unfold ofE at h;split at h
  ·rename_i h1;exact absurd h h1
  ·split at h
   ·split at h
    ·cases h
    ·omega
   ·cases h
 ·simp
def QaV {l:Qk} (h:YS l=0):l.length<=200:=by
 unfold YS at h;split at h
 ·cases h
 ·split at h
  ·cases h
  ·omega
def Kx (a b:Qk): (XA a b).length<=200:=by
 unfold XA;split
 ·rename_i h;unfold W9 at h;split at h
  ·rename_i h1;exact absurd h h1
  ·split at h
   ·rename_i h1;exact absurd h h1
   ·exact QaV h
 ·simp
def IG {a b:Qk} {M:Nat} (ha:KM a M) (hb:KM b M):KM (XA a b) M:=by
 unfold XA;split
 ·exact JO b a M ha hb
 ·intro q hq;simp at hq
def Hw (n:Nat) (t:Tm):Qu (List.replicate n t)=n*t.mass:=by
 induction n with
 | zero=>simp[Qu]
 | succ n ih=>rw[Mx,Qu,ih,VA];omega
def QdR (t:Tm): (Ue t).mass=t.mass+5:=by simp only[Ue,Tm.mass,Qu,INV,ZM,Y5];omega
def Em:=@Nat.mul_le_mul
def JW: ∀{l:Qk} {M:Nat},KM l M->(∀q∈l,q.2<=8)->Qu (WC l)<=l.length* (8*M)
 | [],M,_,_=>by simp[WC,Qu]
 | p:: l,M,h,hb=>by
  have h1:=JW (l:=l) (M:=M) (fun q hq=>h q (by simp[hq])) fun q hq=>hb q (by simp[hq]);have h2:=h p (by simp);have h3:=hb p (by simp);have h4:p.2.toNat* p.1.mass<=8*M:=Em (by omega) h2;have e:WC (p:: l)=List.replicate p.2.toNat p.1 ++ WC l:=by simp[WC]
  rw[e,WV,Hw,ZM,VA];omega
def JU: ∀{l:Qk} {M:Nat},KM l M->(∀q∈l,-8<=q.2)->Qu (Va l)<=l.length* (8* (M+5))
 | [],M,_,_=>by simp[Va,Qu]
 | p:: l,M,h,hb=>by
  have h1:=JU (l:=l) (M:=M) (fun q hq=>h q (by simp[hq])) fun q hq=>hb q (by simp[hq]);have h2:=h p (by simp);have h3:=hb p (by simp);have h4: (-p.2).toNat* (Ue p.1).mass<=8* (M+5):=Em (by omega) (by rw[QdR];omega);have e:Va (p:: l)=List.replicate (-p.2).toNat (Ue p.1)++ Va l:=by simp[Va]
  rw[e,WV,Hw,ZM,VA];omega
def JV {l:Qk} (h:KM l 25000000) (hl:l.length<=200) (hb: ∀q∈l,-8<=q.2/\q.2<=8):Qu (Z2 l) < big - 100:=by
 have h1:=JW h fun q hq=>(hb q hq).2;have h2:=JU h fun q hq=>(hb q hq).1;have h3:l.length* (8*25000000)<=200* (8*25000000):=Z9 _ hl;have h4:l.length* (8* (25000000+5))<=200* (8* (25000000+5)):=Z9 _ hl;unfold Z2;rw[WV];unfold big;omega
def Kf {l:Qk} (o:Bool) (bs:Qa) (h:KM l 25000000) (hl:l.length<=200):call tb 196 [.sl o 5 (QC l)] bs=some (Zk (Yg l),bs):=
 QhM l o bs (by omega) (fun q hq=>by have:=h q hq;unfold big;omega) (JV h hl)
def Kg {l:Qk} (o:Bool) (bs:Qa) (h:KM l 25000000) (hl:l.length<=200):call tb 258 [.sl o 5 (QC l)] bs=some (Zk (Yg l),bs):=
 Qh1 l o bs (by omega) (fun q hq=>by have:=h q hq;unfold big;omega) (JV h hl)
def Vx (b:Tm) (p:Qk):Tm×Int:=if p=[]then(b,0)else if(Yg p).2≠0 then(QJ,(Yg p).2)else(.mk 3 EXP 0 [b,(Yg p).1],0)
def Wc (b e:Tm):Tm×Int:=
 if ofE e≠0 then(QJ,ofE e)
 else if isB b EXP then
  if ofE (kid b 1)≠0 then(QJ,ofE (kid b 1))else if W9 (ofP (kid b 1)) (ofP e)≠0 then(QJ,W9 (ofP (kid b 1)) (ofP e))else Vx (kid b 0) (XA (ofP (kid b 1)) (ofP e))
 else Vx b (ofP e)
def Xg (t:Tm):Tm×Int:=if ofE t≠0 then(QJ,ofE t)else Yg (ofP t)
def Zo (t:Tm) (e:Int):Zk (t,e)= .tup [.agg (Qf t),.int .i64 e]:=rfl
def QhZ (t:Tm) (bs:Qa) (hm:t.mass < 20000000):call tb 252 [.agg (Qf t)] bs=some (Zk (Xg t),bs):=by
 have h1:=TV t bs (by omega);have h2:=Kg false bs (PI t 25000000 (by omega)) (Vl t);rw[zcc 252 rfl rfl];by_cases c:ofE t=0
 ·have e:Xg t=Yg (ofP t):=by simp[Xg,c]
  rw[e];simp only[Zk]at h2 ⊢;simp[f252C,h1,h2,c]
 ·have e:Xg t=(QJ,ofE t):=by simp[Xg,c]
  rw[e];simp[f252C,h1,c,Zo,Q5]
def QhN (b e:Tm) (bs:Qa) (hg:Zb b=true) (hb:b.mass < 20000000) (he:e.mass < 20000000):call tb 199 [.agg (Qf b),.agg (Qf e)] bs=some (Zk (Wc b e),bs):=by
 have h1:=TU e bs (by omega);have h2:=MY b EXP bs;have ke:=PI e 25000000 (by omega);have le:=Vl e;rw[zcc 199 rfl rfl];by_cases c1:ofE e=0
 ·cases hx:isB b EXP
  ·rw[hx]at h2;simp only[EXP]at h2
   have h4:=Kf false bs ke le;have e0:Wc b e=Vx b (ofP e):=by simp[Wc,c1,hx]
   rw[e0];generalize ofP e=p at *
   match p with
   | []=>
    simp only[WT]at h1;simp[f199C,h1,h2,c1,Vx,Zo]
   | q:: r=>
    have n0: ¬(r.length:Int)+1=0:=by omega
    by_cases c2: (Yg (q:: r)).2=0
    ·have h5:=EN EXP [b,(Yg (q:: r)).1] false bs;simp only[Zk,Qb]at h4 h5;simp only[EXP]at h5;simp[f199C,h1,h2,h4,h5,c1,c2,n0,Vx,Zo,EXP]
    ·simp only[Zk]at h4;simp[f199C,h1,h2,h4,c1,c2,n0,Vx,Zo,Q5]
  ·obtain⟨x,y,hk⟩:=Wi hg hx (by simp[YA]);rw[hx]at h2;simp only[EXP]at h2
   have hmb:=QH b;rw[hk]at hmb;simp only[Qu]at hmb;have k0:kid b 0=x:=by simp[kid,hk]
   have k1:kid b 1=y:=by simp[kid,hk]
   have h3:=TU y bs (by omega);have ky:=PI y 25000000 (by omega);have ly:=Vl y;by_cases c2:ofE y=0
   ·have h4:=Bn (ofP y) (ofP e) false false bs (by omega) (by omega) (fun q hq=>by have:=ky q hq;unfold big;omega) (fun q hq=>by have:=ke q hq;unfold big;omega);by_cases c3:W9 (ofP y) (ofP e)=0
    ·have h6:=Kf false bs (IG ky ke) (Kx (ofP y) (ofP e));have e0:Wc b e=Vx x (XA (ofP y) (ofP e)):=by simp[Wc,c1,hx,k0,k1,c2,c3]
     rw[e0];generalize XA (ofP y) (ofP e)=p at *
     match p with
     | []=>
      simp only[WT]at h4;simp[f199C,h1,h2,h3,h4,hk,c1,c2,c3,Vx,Zo]
     | q:: r=>
      have n0: ¬(r.length:Int)+1=0:=by omega
      by_cases c4: (Yg (q:: r)).2=0
      ·have h5:=EN EXP [x,(Yg (q:: r)).1] false bs;simp only[Zk,Qb]at h6 h5;simp only[EXP]at h5;simp[f199C,h1,h2,h3,h4,h5,h6,hk,c1,c2,c3,c4,n0,Vx,Zo,EXP]
      ·simp only[Zk]at h6;simp[f199C,h1,h2,h3,h4,h6,hk,c1,c2,c3,c4,n0,Vx,Zo,Q5]
    ·have e0:Wc b e=(QJ,W9 (ofP y) (ofP e)):=by simp[Wc,c1,hx,k1,c2,c3]
     rw[e0];simp[f199C,h1,h2,h3,h4,hk,c1,c2,c3,Zo,Q5]
   ·have e0:Wc b e=(QJ,ofE y):=by simp[Wc,c1,hx,k1,c2]
    rw[e0];simp[f199C,h1,h2,h3,hk,c1,c2,Zo,Q5]
 ·have e0:Wc b e=(QJ,ofE e):=by simp[Wc,c1]
  rw[e0];simp[f199C,h1,c1,Zo,Q5]
def Qh3 (b e:Tm) (bs:Qa) (hg:Zb b=true) (hb:b.mass < 20000000) (he:e.mass < 20000000):call tb 261 [.agg (Qf b),.agg (Qf e)] bs=some (Zk (Wc b e),bs):=by
 have h1:=TV e bs (by omega);have h2:=U2 b EXP bs;have ke:=PI e 25000000 (by omega);have le:=Vl e;rw[zcc 261 rfl rfl];by_cases c1:ofE e=0
 ·cases hx:isB b EXP
  ·rw[hx]at h2;simp only[EXP]at h2
   have h4:=Kg false bs ke le;have e0:Wc b e=Vx b (ofP e):=by simp[Wc,c1,hx]
   rw[e0];generalize ofP e=p at *
   match p with
   | []=>
    simp only[WT]at h1;simp[f261C,h1,h2,c1,Vx,Zo]
   | q:: r=>
    have n0: ¬(r.length:Int)+1=0:=by omega
    by_cases c2: (Yg (q:: r)).2=0
    ·have h5:=UH EXP [b,(Yg (q:: r)).1] false bs (by simp);simp only[Zk,Qb]at h4 h5;simp only[EXP]at h5;simp[f261C,h1,h2,h4,h5,c1,c2,n0,Vx,Zo,EXP]
    ·simp only[Zk]at h4;simp[f261C,h1,h2,h4,c1,c2,n0,Vx,Zo,Q5]
  ·obtain⟨x,y,hk⟩:=Wi hg hx (by simp[YA]);rw[hx]at h2;simp only[EXP]at h2
   have hmb:=QH b;rw[hk]at hmb;simp only[Qu]at hmb;have k0:kid b 0=x:=by simp[kid,hk]
   have k1:kid b 1=y:=by simp[kid,hk]
   have h3:=TV y bs (by omega);have ky:=PI y 25000000 (by omega);have ly:=Vl y;by_cases c2:ofE y=0
   ·have h4:=Bq (ofP y) (ofP e) false false bs (by omega) (by omega) (fun q hq=>by have:=ky q hq;unfold big;omega) (fun q hq=>by have:=ke q hq;unfold big;omega);by_cases c3:W9 (ofP y) (ofP e)=0
    ·have h6:=Kg false bs (IG ky ke) (Kx (ofP y) (ofP e));have e0:Wc b e=Vx x (XA (ofP y) (ofP e)):=by simp[Wc,c1,hx,k0,k1,c2,c3]
     rw[e0];generalize XA (ofP y) (ofP e)=p at *
     match p with
     | []=>
      simp only[WT]at h4;simp[f261C,h1,h2,h3,h4,hk,c1,c2,c3,Vx,Zo]
     | q:: r=>
      have n0: ¬(r.length:Int)+1=0:=by omega
      by_cases c4: (Yg (q:: r)).2=0
      ·have h5:=UH EXP [x,(Yg (q:: r)).1] false bs (by simp);simp only[Zk,Qb]at h6 h5;simp only[EXP]at h5;simp[f261C,h1,h2,h3,h4,h5,h6,hk,c1,c2,c3,c4,n0,Vx,Zo,EXP]
      ·simp only[Zk]at h6;simp[f261C,h1,h2,h3,h4,h6,hk,c1,c2,c3,c4,n0,Vx,Zo,Q5]
    ·have e0:Wc b e=(QJ,W9 (ofP y) (ofP e)):=by simp[Wc,c1,hx,k1,c2,c3]
     rw[e0];simp[f261C,h1,h2,h3,h4,hk,c1,c2,c3,Zo,Q5]
   ·have e0:Wc b e=(QJ,ofE y):=by simp[Wc,c1,hx,k1,c2]
    rw[e0];simp[f261C,h1,h2,h3,hk,c1,c2,Zo,Q5]
 ·have e0:Wc b e=(QJ,ofE e):=by simp[Wc,c1]
  rw[e0];simp[f261C,h1,c1,Zo,Q5]
def L3 {n:Qv} (h:W3 n=true):n.length<=24:=by
 cases n with
 | nil=>simp
 | cons c r=>
  simp only[W3,Qo,Qy]at h;simp only[ZM];omega
def KB {t:Tm} (h:RQ t=0):t.name.length<=24/\t.kids.length<=8/\(t.kind=3->t.sort=0)/\(t.kind≠3->t.kids=[]):=by
 unfold RQ at h;split at h
 ·rename_i hk;split at h
  ·cases h
  ·rename_i h1;split at h
   ·cases h
   ·rename_i h2;have h3:t.kids.length=0:=by omega
    exact⟨L3 (by simpa using h2),by omega,fun e=>by omega,fun _=>Y2 h3⟩
 ·split at h
  ·rename_i hk;split at h
   ·cases h
   ·rename_i h1;split at h
    ·cases h
    ·rename_i h2;split at h
     ·cases h
     ·exact⟨L3 (by simpa using h2),by omega,fun _=>by simpa using h1,fun e=>absurd hk e⟩
  ·cases h
mutual
theorem Hk: ∀t:Tm,Wa t=0->t.mass<=33*t.nodes
 | .mk k n s ks,h=>by
  simp only[Wa]at h;split at h
  ·rename_i h1;exact absurd h h1
  ·rename_i h1;obtain⟨a,b,_⟩:=KB (t:= .mk k n s ks) (by simpa using h1);have:=Hj ks h;simp only[Z3,Zs]at a b;simp only[Tm.mass,Tm.nodes];omega
theorem Hj: ∀ts:List Tm,V5 ts=0->Qu ts<=33*Qw ts
 | [],_=>by simp[Qu,Qw]
 | t:: ts,h=>by
  simp only[V5]at h;split at h
  ·rename_i h1;exact absurd h h1
  ·rename_i h1;have a:=Hk t (by simpa using h1);have b:=Hj ts h;simp only[Qu,Qw];omega
end
def V0 {t:Tm} (h:Q1 t=0):Wa t=0/\t.nodes<=400/\t.mass<=13200:=by
 unfold Q1 at h;split at h
 ·rename_i h1;exact absurd h h1
 ·rename_i h1;split at h
  ·cases h
  ·have:=Hk t (by simpa using h1);exact⟨by simpa using h1,by omega,by omega⟩
def QdG {n:Qv} {y:Sy} (h:Yi n Wd=some y) (m:Nat) (h1: ¬((m:Int) < y.l\/y.m < m)):YA n m=true:=by
 unfold YA;split
 ·rename_i hn;have:y.l=2/\y.m=2:=by rcases hn with rfl | rfl | rfl | rfl | rfl | rfl | rfl | rfl <;> simp[Yz,ENC,Xm,YQ,EXP,DEC,Yd,Yy,Yi,Wd]at h <;> subst h <;> simp
  simp;omega
 ·split
  ·rename_i hn;have:y.l=1/\y.m=1:=by rcases hn with rfl | rfl | rfl | rfl <;> simp[PK,FST,SND,READ,Yi,Wd]at h <;> subst h <;> simp
   simp;omega
  ·rfl
mutual
theorem JF: ∀t:Tm,Wa t=0->XS t=0->Zb t=true
 | .mk k n s ks,h,hc=>by
  simp only[Wa]at h;split at h
  ·rename_i h1;exact absurd h h1
  ·rename_i h1;obtain⟨_,_,a,b⟩:=KB (t:= .mk k n s ks) (by simpa using h1);simp only[UM,S7,Zs]at a b;simp only[XS]at hc;by_cases hk:k=3
   ·subst hk;rw[Qm (by simp)]at hc;cases hy:Yi n Wd with
    | none=>rw[hy]at hc;simp at hc
    | some y=>
     rw[hy]at hc;simp only at hc;split at hc
     ·cases hc
     ·rename_i h2;have har:=QdG hy ks.length h2;split at hc
      ·cases hc
      ·split at hc
       ·cases hc
       ·have:=L0 ks h hc;simp[Zb,a rfl,har,this]
   ·have:=b hk;subst this;simp[Zb,hk,Z1]
theorem L0: ∀ts:List Tm,V5 ts=0->Su ts=0->Z1 ts=true
 | [],_,_=>rfl
 | t:: ts,h,hc=>by
  simp only[V5]at h;simp only[Su]at hc;split at h
  ·rename_i h1;exact absurd h h1
  ·rename_i h1;split at hc
   ·rename_i h2;exact absurd hc h2
   ·rename_i h2;simp[Z1,JF t (by simpa using h1) (by simpa using h2),L0 ts h hc]
end
mutual
theorem Ho: ∀(t y:Tm),Zb t=true->y∈Zn t->Zb y=true
 | .mk k n s ks,y,h,hy=>by
  simp only[Zn,Zt]at hy;rcases hy with rfl | hy
  ·exact h
  ·exact Lh ks y (VW h) hy
theorem Lh: ∀(ts:List Tm) (y:Tm),Z1 ts=true->y∈Ze ts->Zb y=true
 | [],y,_,hy=>by simp[Ze]at hy
 | t:: ts,y,h,hy=>by
  simp only[Z1,Qo]at h;simp only[Ze,YU]at hy;rcases hy with hy | hy
  ·exact Ho t y h.1 hy
  ·exact Lh ts y h.2 hy
end
def WU:Zb QJ=true:=by simp[QJ,Zb,Z1]
def TM {n:Qv} {us:Qc} (ha:YA n us.length=true) (h:Z1 us=true):Zb (.mk 3 n 0 us)=true:=by simp[Zb,ha,h]
def PF {t:Tm} (h:Zb t=true) (i:Nat):Zb (kid t i)=true:=by
 unfold kid;rw[Sq];cases hg:t.kids[i]? with
 | none=>simpa using WU
 | some x=>exact XZ.1 (VW h) x (WF hg)
def Vy (t:Tm) (i:Nat): (kid t i).mass<=t.mass:=by
 unfold kid;rw[Sq];have:=QH t;cases hg:t.kids[i]? with
 | none=>simp[QJ,Tm.mass,Qu];omega
 | some x=>have:=QY (WF hg);simp;omega
def QdJ {us:Qc} (h:Z1 us=true):Zb (Wk us).1=true:=by
 unfold Wk;split
 ·exact WU
 ·split
  ·exact WU
  ·have hL: ∀y∈Z6 [] us,Zb y=true:=fun y hy=>by
    rcases NX us [] y hy with h1 | h1
    ·simp at h1
    ·exact Lh us y h h1
   show Zb (tmX (Z6 [] us))=true
   match hh:Z6 [] us with
   | []=>simp[tmX,Zb,Z1,YA,Ym,Yz,ENC,Xm,YQ,EXP,DEC,Yd,Yy,PK,FST,SND,READ]
   | [p]=>simp only[tmX];exact hL p (by rw[hh];simp)
   | p:: q:: r=>
    simp only[tmX];refine TM (by simp[YA,XOR,Yz,ENC,Xm,YQ,EXP,DEC,Yd,Yy,PK,FST,SND,READ]) (XZ.2 fun x hx=>hL x (by rw[hh];exact hx))
def Lo (us:Qc): (Wk us).1.mass<=13200:=by
 unfold Wk;split
 ·simp[QJ,Tm.mass,Qu]
 ·split
  ·simp[QJ,Tm.mass,Qu]
  ·rename_i h;exact(V0 (by simpa using h)).2.2
def Sa:QJ.mass=1:=by simp[QJ,Tm.mass,Qu]
def KG (l:Qk):Prop:=∀q∈l,Zb q.1=true
def Ab {l:Qk} {t:Tm} {m:Int} (h:KG l) (ht:Zb t=true):KG (YY l t m):=by
 intro q hq;rcases TL hq with hq | rfl | ⟨_,_,rfl,_⟩
 ·exact h q hq
 ·exact ht
 ·exact ht
def QjE: ∀(t:Tm) (l:Qk) (m:Int),KG l->Zb t=true->KG (WA l t m):=by
 refine Yj ?_;intro k n s ks ih l m h hm;have hk:=XZ.1 (VW hm);have hL: ∀(xs:Qc) (l:Qk) (m:Int),(∀x∈xs,x∈ks)->KG l->KG (XT l xs m):=by
  intro xs
  induction xs with
  | nil=>intro l m _ h;simpa[XT]using h
  | cons x xs IH=>
   intro l m hx h;simp only[XT];exact IH _ m (fun y hy=>hx y (by simp[hy])) (ih x (hx x (by simp)) l m h (hk x (hx x (by simp))))
 rw[Ud];split
 ·exact hL ks l _ (fun x hx=>hx) h
 ·exact Ab h hm
def JL: ∀(b a:Qk),KG a->KG b->KG (Wm a b)
 | [],a,h,_=>h
 | q:: b,a,h,hb=>JL b _ (Ab h (hb q (by simp))) fun x hx=>hb x (by simp[hx])
def JM {t:Tm} (h:Zb t=true):KG (ofP t):=by
 unfold ofP;split
 ·exact QjE t [] 1 (fun q hq=>by simp at hq) h
 ·intro q hq;simp at hq
def QjF {a b:Qk} (ha:KG a) (hb:KG b):KG (XA a b):=by
 unfold XA;split
 ·exact JL b a ha hb
 ·intro q hq;simp at hq
def MB:=@List.mem_flatten
def KW:=@List.eq_of_mem_replicate
def QdI {l:Qk} (h:KG l):Z1 (Z2 l)=true:=by
 refine XZ.2 fun x hx=> ?_;simp only[Z2,WC,Va,YU,MB,XN]at hx;rcases hx with⟨_,⟨q,hq,rfl⟩,hx⟩ | ⟨_,⟨q,hq,rfl⟩,hx⟩
 ·rw[KW hx];exact h q hq
 ·rw[KW hx];exact TM (by simp[YA,INV,Yz,ENC,Xm,YQ,EXP,DEC,Yd,Yy,PK,FST,SND,READ]) (by simp[Z1,h q hq])
def JE {l:Qk} (h:KG l):Zb (Yg l).1=true:=by
 unfold Yg;split
 ·exact WU
 ·split
  ·exact WU
  ·split
   ·exact WU
   ·have hL:=QdI h
    show Zb (ZY (Z2 l))=true
    match hh:Z2 l with
    | []=>simp[ZY,Zb,Z1,YA,ONE,Yz,ENC,Xm,YQ,EXP,DEC,Yd,Yy,PK,FST,SND,READ]
    | [p]=>simp only[ZY];rw[hh]at hL;simpa[Z1]using hL
    | p:: q:: r=>
     simp only[ZY];rw[hh]at hL;exact TM (by simp[YA,MUL,Yz,ENC,Xm,YQ,EXP,DEC,Yd,Yy,PK,FST,SND,READ]) hL
def JX (l:Qk): (Yg l).1.mass<=13200:=by
 unfold Yg;split
 ·simp[QJ,Tm.mass,Qu]
 ·split
  ·simp[QJ,Tm.mass,Qu]
  ·split
   ·simp[QJ,Tm.mass,Qu]
   ·rename_i h;exact(V0 (by simpa using h)).2.2
def HW {t:Tm} (h:Zb t=true):Zb (Xg t).1=true:=by
 unfold Xg;split
 ·exact WU
 ·exact JE (JM h)
def HZ (t:Tm): (Xg t).1.mass<=13200:=by
 unfold Xg;split
 ·simp[QJ,Tm.mass,Qu]
 ·exact JX _
def B5 {b:Tm} {p:Qk} (hb:Zb b=true) (hp:KG p):Zb (Vx b p).1=true/\(Vx b p).1.mass<=6+b.mass+13200:=by
 have h0:=JX p;unfold Vx;split
 ·exact⟨hb,by simp;omega⟩
 ·split
  ·exact⟨WU,by show QJ.mass<=_;rw[Sa];omega⟩
  ·exact⟨TM (by simp[YA]) (by simp[Z1,hb,JE hp]),by simp only[Tm.mass,Qu,EXP,ZM,Y5];omega⟩
def Qj1 {b e:Tm} (hb:Zb b=true) (he:Zb e=true):Zb (Wc b e).1=true/\(Wc b e).1.mass<=6+b.mass+13200:=by
 have hz:Zb QJ=true/\QJ.mass<=6+b.mass+13200:=⟨WU,by show QJ.mass<=_;rw[Sa];omega⟩;have hk:=Vy b 0;unfold Wc;split
 ·exact hz
 ·split
  ·split
   ·exact hz
   ·split
    ·exact hz
    ·obtain⟨h1,h2⟩:=B5 (PF hb 0) (QjF (JM (PF hb 1)) (JM he));exact⟨h1,by omega⟩
  ·exact B5 hb (JM he)
def Qfv {n:Qv} {us:Qc} (ha:YA n us.length=true) (h:Z1 us=true):Zb (Q7 n us)=true/\(Q7 n us).mass<=1+n.length+us.length+Qu us:=by
 have hout:Zb (.mk 3 n 0 us)=true/\(Tm.mk 3 n 0 us).mass<=1+n.length+us.length+Qu us:=⟨TM ha h,by simp[Tm.mass]⟩;have ha0:Zb (us.getD 0 QJ)=true/\(us.getD 0 QJ).mass<=1+Qu us:=by
  cases us with
  | nil=>exact⟨WU,by simp[QJ,Tm.mass,Qu]⟩
  | cons x r=>simp only[Z1,Qo]at h;exact⟨h.1,by simp[Qu];omega⟩
 have hkid: ∀i,Zb (kid (us.getD 0 QJ) i)=true/\(kid (us.getD 0 QJ) i).mass<=1+n.length+us.length+Qu us:=fun i=>⟨PF ha0.1 i,by have:=Vy (us.getD 0 QJ) i;omega⟩;simp only[Q7]
 repeat' split
 all_goals first | exact hout | exact hkid _
def Y9 (n:Qv) (us:Qc):Tm×Int:=
 if Ua n then(Q7 n us,0)else if n=XOR then Wk us else if n=MUL\/n=INV\/n=ONE then Xg (.mk 3 n 0 us)
 else if n=EXP then Wc (us.getD 0 QJ) (us.getD 1 QJ)else(.mk 3 n 0 us,0)
mutual
def ZN:Tm->Tm×Int
 | .mk k n s ks=>if k=3 then(if(YG ks).2=0 then Y9 n (YG ks).1 else(QJ,(YG ks).2))else(.mk k n s ks,0)
def YG:List Tm->List Tm×Int
 | []=>([],0)
 | t:: ts=>if(ZN t).2=0 then(if(YG ts).2=0 then((ZN t).1:: (YG ts).1,0)else([],(YG ts).2))else([],(ZN t).2)
end
def QfS {n:Qv} {us:Qc} (ha:YA n us.length=true) (h:Z1 us=true):Zb (Y9 n us).1=true/\(Y9 n us).1.mass<=1+n.length+us.length+Qu us+13200:=by
 unfold Y9;split
 ·obtain⟨h1,h2⟩:=Qfv ha h;exact⟨h1,by simp;omega⟩
 ·split
  ·exact⟨QdJ h,by have:=Lo us;omega⟩
  ·split
   ·exact⟨HW (TM ha h),by have:=HZ (.mk 3 n 0 us);omega⟩
   ·split
    ·rename_i hn;subst hn;have h2:us.length=2:=by simpa[YA]using ha
     match us,h2,h with
     | [x,y],_,h=>
      simp only[Z1,Qo]at h;obtain⟨h3,h4⟩:=Qj1 h.1 h.2.1;exact⟨h3,by simp only[Qu,EXP,ZM,Y5]at *;simp at h4 ⊢;omega⟩
    ·exact⟨TM ha h,by simp[Tm.mass]⟩
mutual
theorem PL: ∀t:Tm,Zb t=true->Zb (ZN t).1=true/\(ZN t).1.mass<=t.mass+13200*t.nodes
 | .mk k n s ks,h=>by
  have hk:=DJ ks (VW h);simp only[ZN];split
  ·rename_i hk3;subst hk3;split
   ·rename_i h2;obtain⟨h3,h4,h5⟩:=hk;have h5:=h5 h2;have har:=(U6 h rfl).2;simp only[Z3,Zs]at har;obtain⟨h6,h7⟩:=QfS (by rw[h5];exact har) h3;exact⟨h6,by simp only[Tm.mass,Tm.nodes];rw[h5]at h7;omega⟩
   ·exact⟨WU,by show QJ.mass<=_;rw[Sa];simp only[Tm.mass];omega⟩
  ·exact⟨h,Nat.le_add_right _ _⟩
theorem DJ: ∀ts:List Tm,Z1 ts=true->Z1 (YG ts).1=true/\Qu (YG ts).1<=Qu ts+13200*Qw ts/\((YG ts).2=0->(YG ts).1.length=ts.length)
 | [],_=>by simp[YG,Z1,Qu]
 | t:: ts,h=>by
  simp only[Z1,Qo]at h;obtain⟨a1,a2⟩:=PL t h.1;obtain⟨b1,b2,b3⟩:=DJ ts h.2;simp only[YG];split
  ·split
   ·rename_i h2;refine⟨by simp[Z1,a1,b1],by simp only[Qu,Qw];omega,fun _=>by simp[b3 h2]⟩
   ·rename_i h2;exact⟨rfl,by simp[Qu],fun e=>absurd e h2⟩
  ·rename_i h2;exact⟨rfl,by simp[Qu],fun e=>absurd e h2⟩
end
end Go.Am
