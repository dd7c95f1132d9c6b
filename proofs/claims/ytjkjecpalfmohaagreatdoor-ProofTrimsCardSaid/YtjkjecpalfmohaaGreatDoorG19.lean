/-
  Rc19, Rc20, Rc21, Rc22, Rc23, Rc24, Rc25.
-/
import Derived.Test.YtjkjecpalfmohaaGreatDoorG18
set_option linter.all false
open Go.Am.F
namespace Go.Am
set_option maxRecDepth 20000
def U1 (n:Qu) (ks:Qc) (o:Bool) (bs:Qa) (hl:ks.length < 100000000):call tb 120 [.str n,.sl o 4 (Qb ks)] bs=some (.agg (Qf (.mk 3 n 0 ks)),bs):=by
 have hb:ks.length*56<=140737488355328:=WV (by omega);rw[zcc 120 rfl rfl];simp[f120C,hb,Tq]
def MK {α:Type} (n:Nat) (a b:List α): (a.take n ++ b).take n=(a ++ b).take n:=by
 rw[PU,PU,JR,Xr,Nat.min_self];congr 2;omega
def QpE {l:Qj} {p:Pw} {bs:Qa} (hN: -1000<=p.2/\p.2<=1000) (c:AC) (K:Kn) (X:Out): ∀(k:Nat) (acc:Qc) (i n:Nat) (o:Bool) (ρ:Ql),l[n]? =some p->i+k=p.2.toNat->acc.length<=9->ρ 0= .sl o 5 (QF l)->ρ 3= .sl true 4 (Qb acc)->ρ 4= .int .i64 n->ρ 5= .int .i64 i->
  (∀ρ':Ql,ρ' 0= .sl o 5 (QF l)->ρ' 4= .int .i64 n->ρ' 3= .sl true 4 (Qb ((acc ++ List.replicate k p.1).take 9))->R tb c ρ' bs K=X)->
  R tb (.loop f260l0) ρ bs (Qo 2 (Qo 1 (QB tb c K)))=X:=by
 intro k
 induction k with
 | zero=>
  intro acc i n o ρ hg hi ha h0 h3 h4 h5 h;have hn: ¬(i:Int) < p.2:=by omega
  rw[Qe f260l0.eq_1];simp[h0,h3,h4,h5,hg,hn];apply h <;> simp[h0,h3,h4,YH ha]
 | succ k IH=>
  intro acc i n o ρ hg hi ha h0 h3 h4 h5 h;have hn: (i:Int) < p.2:=by omega
  have hw1:IntKind.i64.wrap ((i:Int)+1)=((i+1:Nat):Int):=by rw[Zf (by omega) (by omega)];omega
  rw[Qe f260l0.eq_1];by_cases c9:acc.length < 9
  ·have c9': (acc.length:Int) < 9:=by omega
   have hb: (acc.length+1)*56<=140737488355328:=WV (by omega);simp[h0,h3,h4,h5,hg,hn,hw1,hb,c9',Z4,ZL];refine IH (acc ++ [p.1]) (i+1) n o _ hg (by omega) (by simp;omega) ?_ ?_ ?_ ?_ ?_
   ·simp[h0]
   ·simp
   ·simp[h4]
   ·simp
   ·intro ρ' g0 g4 g3;rw[Km]at g3;exact h ρ' g0 g4 g3
  ·have c9': ¬(acc.length:Int) < 9:=by omega
   have e: (acc ++ List.replicate (k+1) p.1).take 9=acc:=by rw[PL (by omega),YH ha]
   simp[h0,h3,h4,h5,hg,hn,c9'];apply h <;> simp[h0,h3,h4,e]
def QpG {l:Qj} {p:Pw} {bs:Qa} (hN: -1000<=p.2/\p.2<=1000) (c:AC) (K:Kn) (X:Out): ∀(k:Nat) (acc:Qc) (i n:Nat) (o:Bool) (ρ:Ql),l[n]? =some p->i+k=(-p.2).toNat->acc.length<=9->ρ 0= .sl o 5 (QF l)->ρ 3= .sl true 4 (Qb acc)->ρ 6= .int .i64 n->ρ 7= .int .i64 i->
  (∀ρ':Ql,ρ' 0= .sl o 5 (QF l)->ρ' 6= .int .i64 n->ρ' 3= .sl true 4 (Qb ((acc ++ List.replicate k (Us p.1)).take 9))->R tb c ρ' bs K=X)->
  R tb (.loop f260l2) ρ bs (Qo 6 (Qo 5 (QB tb c K)))=X:=by
 have hw:IntKind.i64.wrap (-p.2)= -p.2:=Zf (by omega) (by omega);intro k
 induction k with
 | zero=>
  intro acc i n o ρ hg hi ha h0 h3 h4 h5 h;have hn: ¬(i:Int) < -p.2:=by omega
  rw[Qe f260l2.eq_1];simp[h0,h3,h4,h5,hg,hw,hn];apply h <;> simp[h0,h3,h4,YH ha]
 | succ k IH=>
  intro acc i n o ρ hg hi ha h0 h3 h4 h5 h;have hn: (i:Int) < -p.2:=by omega
  have hw1:IntKind.i64.wrap ((i:Int)+1)=((i+1:Nat):Int):=by rw[Zf (by omega) (by omega)];omega
  rw[Qe f260l2.eq_1];by_cases c9:acc.length < 9
  ·have c9': (acc.length:Int) < 9:=by omega
   have hb: (acc.length+1)*56<=140737488355328:=WV (by omega);have hc2:=U1 INV [p.1] false bs (by simp);simp only[INV]at hc2;simp[h0,h3,h4,h5,hg,hw,hn,hw1,hb,hc2,c9',Z4];rw[show Qf (Tm.mk 3 [105,110,118] 0 [p.1])=Qf (Us p.1)from rfl];simp[Z4,ZL];refine IH (acc ++ [Us p.1]) (i+1) n o _ hg (by omega) (by simp;omega) ?_ ?_ ?_ ?_ ?_
   ·simp[h0]
   ·simp[Us,INV]
   ·simp[h4]
   ·simp
   ·intro ρ' g0 g4 g3;rw[Km]at g3;exact h ρ' g0 g4 g3
  ·have c9': ¬(acc.length:Int) < 9:=by omega
   have e: (acc ++ List.replicate (k+1) (Us p.1)).take 9=acc:=by rw[PL (by omega),YH ha]
   simp[h0,h3,h4,h5,hg,hw,hn,c9'];apply h <;> simp[h0,h3,h4,e]
def QpH (l:Qj) (bs:Qa) (hl:l.length < 5000000) (hN: ∀q∈l,-1000<=q.2/\q.2<=1000):
  ∀(post pre:Qj) (o:Bool) (ρ:Ql),l=pre ++ post->ρ 0= .sl o 5 (QF l)->ρ 3= .sl true 4 (Qb ((WM l ++ Vk pre).take 9))->ρ 6= .int .i64 pre.length->
  R tb (.loop f260l3) ρ bs (Qo 4 (QB tb f260r2 (QN f260 bs)))=some (.sl false 4 (Qb ((Z9 l).take 9)),bs):=by
 intro post
 induction post with
 | nil=>
  intro pre o ρ hk h0 h3 h6;simp only[QH]at hk;subst hk;rw[Qe f260l3.eq_1];simp[h0,h3,h6,f260r2,Z9]
 | cons p post IH=>
  intro pre o ρ hk h0 h3 h6;have hg:=Qw hk;have hll:=QE hk;have hw1:=wr1 pre.length (by omega);have hlt:=QI hk;have ih:=fun ρ=>IH (pre ++ [p]) o ρ (by rw[hk];simp);have hpN:=hN p (by rw[hk];simp);rw[Qe f260l3.eq_1];simp[h0,h3,h6,hlt];refine QpG hpN _ _ _ (-p.2).toNat ((WM l ++ Vk pre).take 9) 0 pre.length o _ hg (by omega) (by rw[Xr];omega) ?_ ?_ ?_ ?_ ?_
  ·simp[h0]
  ·simp[h3]
  ·simp[h6]
  ·simp
  ·intro ρ' g0 g6 g3;rw[MK,ZY,<- Cn]at g3;simp[f260r1,g6,hw1];apply ih <;> simp[g0,g3]
def QpF (l:Qj) (bs:Qa) (hl:l.length < 5000000) (hN: ∀q∈l,-1000<=q.2/\q.2<=1000):
  ∀(post pre:Qj) (o:Bool) (ρ:Ql),l=pre ++ post->ρ 0= .sl o 5 (QF l)->ρ 3= .sl true 4 (Qb ((WM pre).take 9))->ρ 4= .int .i64 pre.length->
  R tb (.loop f260l1) ρ bs (Qo 0 (QB tb f260r3 (QN f260 bs)))=some (.sl false 4 (Qb ((Z9 l).take 9)),bs):=by
 intro post
 induction post with
 | nil=>
  intro pre o ρ hk h0 h3 h4;simp only[QH]at hk;subst hk;have h:=fun ρ=>QpH l bs hl hN l [] o ρ rfl;rw[Qe f260l1.eq_1];simp[h0,h3,h4,f260r3];apply h <;> simp[h0,h3,Vk]
 | cons p post IH=>
  intro pre o ρ hk h0 h3 h4;have hg:=Qw hk;have hll:=QE hk;have hw1:=wr1 pre.length (by omega);have hlt:=QI hk;have ih:=fun ρ=>IH (pre ++ [p]) o ρ (by rw[hk];simp);have hpN:=hN p (by rw[hk];simp);rw[Qe f260l1.eq_1];simp[h0,h3,h4,hlt];refine QpE hpN _ _ _ p.2.toNat ((WM pre).take 9) 0 pre.length o _ hg (by omega) (by rw[Xr];omega) ?_ ?_ ?_ ?_ ?_
  ·simp[h0]
  ·simp[h3]
  ·simp[h4]
  ·simp
  ·intro ρ' g0 g4 g3;rw[MK,<- Cu]at g3;simp[f260r0,g4,hw1];apply ih <;> simp[g0,g3]
def QiX (l:Qj) (o:Bool) (bs:Qa) (hl:l.length < 5000000) (hN: ∀q∈l,-1000<=q.2/\q.2<=1000):
  call tb 260 [.sl o 5 (QF l)] bs=some (.sl false 4 (Qb ((Z9 l).take 9)),bs):=by
 have h:=fun ρ=>QpF l bs hl hN l [] false ρ rfl;rw[zcc 260 rfl rfl];simp[f260C];apply h <;> simp[WM,Qb]
def QiW (l:Qj) (o:Bool) (bs:Qa) (hl:l.length < 5000000) (hk: ∀q∈l,q.1.mass < big) (hm: (∀q∈l,-8<=q.2/\q.2<=8)->Qv (Z9 l) < big - 100):
  call tb 258 [.sl o 5 (QF l)] bs=some (Zs (Yn l),bs):=by
 have h1:=Nw l false bs (by omega) hk;rw[zcc 258 rfl rfl];by_cases hv:Z7 l=0
 ·obtain⟨hinv,_,_⟩:=UU hv hk;have h2:=QiX l false bs hl fun q hq=>(hinv.bd q hq).2;by_cases c8:8 < (Z9 l).length
  ·have c8': (8:Int) < ((min 9 (Z9 l).length:Nat):Int):=by omega
   have e:Yn l=(QM,3):=by simp[Yn,hv,c8]
   rw[e];simp[f258C,h1,hv,h2,c8',Zs,Q7]
  ·have hN8: ∀q∈l,-8<=q.2/\q.2<=8:=by
    intro q hq;have h3:=Cw hq;have h4:=Cp hq;simp only[Z9,Zk]at c8;omega
   have hm':=hm hN8;have hpm: (Z5 (Z9 l)).mass < big:=by
    unfold big at *
    match h:Z9 l with
    | []=>simp[Z5,QK,Qv,ONE]
    | [p]=>rw[h]at hm';simp[Z5,Qv]at hm' ⊢;omega
    | p:: q:: r=>rw[h]at hm' c8;simp[Z5,QK,Qv,MUL]at hm' c8 ⊢;omega
   have hvv:=W2 (Z5 (Z9 l)) bs hpm;have e:Yn l=if Q4 (Z5 (Z9 l))≠0 then(QM,Q4 (Z5 (Z9 l)))else(Z5 (Z9 l),0):=by simp[Yn,hv,c8]
   rw[e];rw[YH (by omega)]at h2;have ha:=U1 MUL (Z9 l) false bs (by omega);have ha1:=U1 ONE [] true bs (by simp);simp only[MUL]at ha;simp only[ONE,Qb]at ha1;have c8': ¬(8:Int) < ((Z9 l).length:Int):=by omega
   generalize hL:Z9 l=L at *
   match L,hL with
   | [],hL=>
    simp only[Z5,ONE]at hvv;simp only[Qb]at ha h2;by_cases cv:Q4 (.mk 3 [111,110,101] 0 [])=0
    ·rw[cv]at hvv;simp[f258C,h1,hv,h2,ha,ha1,hvv,cv,Zs,Z5,ONE]
    ·simp[f258C,h1,hv,h2,ha,ha1,hvv,cv,Zs,Q7,Z5,ONE]
   | [p],hL=>
    simp only[Z5]at hvv;by_cases cv:Q4 p=0
    ·rw[cv]at hvv;simp[f258C,h1,hv,h2,ha,hvv,cv,Zs,Z5]
    ·simp[f258C,h1,hv,h2,ha,hvv,cv,Zs,Q7,Z5]
   | p:: q:: r,hL=>
    simp only[Z5,MUL]at hvv;have c8'': ¬(8:Int) < (r.length:Int)+1+1:=by simpa using c8'
    have n0: ¬(r.length:Int)+1+1=0:=by omega
    have n1: ¬(r.length:Int)+1+1=1:=by omega
    by_cases cv:Q4 (.mk 3 [109,117,108] 0 (p:: q:: r))=0
    ·rw[cv]at hvv;simp[f258C,h1,hv,h2,ha,hvv,cv,c8'',n0,n1,Zs,Z5,MUL]
    ·simp[f258C,h1,hv,h2,ha,hvv,cv,c8'',n0,n1,Zs,Q7,Z5,MUL]
 ·have e:Yn l=(QM,Z7 l):=by simp[Yn,hv]
  rw[e];simp[f258C,h1,hv,Zs,Q7]
def W5:QF []=[]:=rfl
def Wx (a:Qj):Qj->Qj
 | []=>a
 | q:: b=>Wx (Y7 a q.1 q.2) b
def Y2 (l:Qj):Int:=if l.any (fun q=>X6 q.2)then 7 else if 200 < l.length then 3 else 0
def Vj (a b:Qj):Int:=if Z7 a≠0 then Z7 a else if Z7 b≠0 then Z7 b else Y2 (Wx a b)
def XJ (a b:Qj):Qj:=if Vj a b=0 then Wx a b else []
def SJ:=@List.any_append
def QbC (l:Qj) (bs:Qa) (hl:l.length < 100000000):
  ∀(post pre:Qj) (o:Bool) (ρ:Ql),l=pre ++ post->pre.any (fun q=>X6 q.2)=false->ρ 0= .sl o 5 (QF l)->ρ 3= .int .i64 pre.length->
  R tb (.loop f263l0) ρ bs (Qo 0 (QB tb f263r0 (QN f263 bs)))=some (.int .i64 (Y2 l),bs):=by
 intro post
 induction post with
 | nil=>
  intro pre o ρ hk hp h0 h3;simp only[QH]at hk;rw[<- hk]at h3 hp;rw[Qe f263l0.eq_1];by_cases c:200 < l.length
  ·have c': (200:Int) < (l.length:Int):=by omega
   simp[h0,h3,f263r0,Y2,hp,c,c',-List.any_eq_false,-List.any_eq_true]
  ·have c': ¬(200:Int) < (l.length:Int):=by omega
   simp[h0,h3,f263r0,Y2,hp,c,c',-List.any_eq_false,-List.any_eq_true]
 | cons p post IH=>
  intro pre o ρ hk hp h0 h3;have hg:=Qw hk;have hll:=QE hk;have hw1:=wr1 pre.length (by omega);have hlt:=QI hk;have hany:X6 p.2=true->Y2 l=7:=by
   intro h;have:l.any (fun q=>X6 q.2)=true:=UX.2 ⟨p,by rw[hk];simp,h⟩;simp only[Y2,this,Zj]
  rw[Qe f263l0.eq_1];by_cases c4:p.2 < -1000
  ·rw[hany (by simp[X6,c4])];simp[h0,h3,hg,hlt,c4]
  ·by_cases c5:1000 < p.2
   ·rw[hany (by simp[X6,c5])];simp[h0,h3,hg,hlt,c4,c5]
   ·have ih:=fun ρ=>IH (pre ++ [p]) o ρ (by rw[hk];simp) (by rw[SJ,hp];simp[X6,c4,c5]);simp[h0,h3,hg,hlt,hw1,c4,c5];apply ih <;> simp[h0]
def QiZ (l:Qj) (o:Bool) (bs:Qa) (hl:l.length < 100000000):call tb 263 [.sl o 5 (QF l)] bs=some (.int .i64 (Y2 l),bs):=by
 have h:=fun ρ=>QbC l bs hl l [] false ρ rfl rfl;rw[zcc 263 rfl rfl];simp[f263C];apply h <;> simp
def QdN (b:Qj) (bs:Qa) (hb:b.length<=200) (hbm: ∀q∈b,q.1.mass < big/\q.2≠0/\ -1000<=q.2/\q.2<=1000) (X:Qj):
  ∀(post pre:Qj) (acc:Qj) (n:Nat) (o o2:Bool) (ρ:Ql),b=pre ++ post->VM acc n->n+1000*post.length < 40000000->Wx acc post=X->ρ 1= .sl o 5 (QF b)->ρ 8= .sl o2 5 (QF acc)->ρ 9= .int .i64 pre.length->
  R tb (.loop f262l0) ρ bs (Qo 0 (QB tb f262r0 (QN f262 bs)))=some (.tup [.sl false 5 (QF (if Y2 X=0 then X else [])),.int .i64 (Y2 X)],bs):=by
 intro post
 induction post with
 | nil=>
  intro pre acc n o o2 ρ hk ha hn hX h1 h8 h9;simp only[QH]at hk;rw[<- hk]at h9;simp only[Wx]at hX;subst hX;have hal:=ha.len;have hr:=QiZ acc false bs (by simp at hn;omega);rw[Qe f262l0.eq_1];by_cases c:Y2 acc=0
  ·simp[h1,h8,h9,f262r0,hr,c]
  ·simp[h1,h8,h9,f262r0,hr,c,W5]
 | cons p post IH=>
  intro pre acc n o o2 ρ hk ha hn hX h1 h8 h9;have hg:=Qw hk;have hll:=QE hk;have hw1:=wr1 pre.length (by omega);have hlt:=QI hk;obtain⟨q1,q2,q3,q4⟩:=hbm p (by rw[hk];simp);simp only[ZQ]at hn;have hc:=B9 (m:=p.2) false bs ha (by omega) q1 (by omega);have ih:=fun ρ=>IH (pre ++ [p]) (Y7 acc p.1 p.2) (n+1000) o false ρ (by rw[hk];simp) (ha.add (c:=1000) q1 q2 (by omega) (by omega)) (by omega) (by rw[<- hX];rfl);rw[Qe f262l0.eq_1];simp[h1,h8,h9,hg,hlt,hw1,hc];apply ih <;> simp[h1]
def Aa (a b:Qj) (o o2:Bool) (bs:Qa) (ha:a.length < 100000000) (hb:b.length < 100000000) (hma: ∀q∈a,q.1.mass < big) (hmb: ∀q∈b,q.1.mass < big):
  call tb 262 [.sl o 5 (QF a),.sl o2 5 (QF b)] bs=some (.tup [.sl false 5 (QF (XJ a b)),.int .i64 (Vj a b)],bs):=by
 have h1:=Nw a false bs ha hma;have h2:=Nw b false bs hb hmb;rw[zcc 262 rfl rfl];by_cases va:Z7 a=0
 ·by_cases vb:Z7 b=0
  ·obtain⟨ia,la,_⟩:=UU va hma;obtain⟨ib,lb,_⟩:=UU vb hmb;have h3:=fun ρ=>QdN b bs lb (fun q hq=>by obtain⟨x1,x2,x3⟩:=ib.bd q hq;exact⟨x1,ib.nz q hq,x2,x3⟩) _ b [] a 1000 false true ρ rfl ia (by omega) rfl;have e1:Vj a b=Y2 (Wx a b):=by simp[Vj,va,vb]
   have e2:XJ a b=if Y2 (Wx a b)=0 then Wx a b else []:=by simp[XJ,e1]
   have hb64:a.length*64<=140737488355328:=Mg (by omega);rw[e1,e2];simp[f262C,h1,h2,va,vb,hb64];apply h3 <;> simp
  ·have e1:Vj a b=Z7 b:=by simp[Vj,va,vb]
   have e2:XJ a b=[]:=by simp[XJ,e1,vb]
   rw[e1,e2];simp[f262C,h1,h2,va,vb,W5]
 ·have e1:Vj a b=Z7 a:=by simp[Vj,va]
  have e2:XJ a b=[]:=by simp[XJ,e1,va]
  rw[e1,e2];simp[f262C,h1,va,W5]
def QpK {B0 B:Qa} {v:AV} {l:Qj} (p:Pw) (o:Bool) (h:PS B0 B v l) (hl:l.length < 50000000): ∃v' B',appM 64 5 v (.sl o 5 [Zx p]) B=some (v',B')/\PS B0 B' v' (l ++ [p]):=by
 obtain⟨M,id,sz,rfl,rfl,hc⟩:=h;have hb: (l.length+1)*64<=140737488355328:=Mg (by omega);have hs:Wh 5 (.sl o 5 [Zx p]) (B0 ++ M)=some (1,Zx p):=by simp[Wh]
 rcases hc with⟨rfl,rfl,rfl⟩ | ⟨rfl,hid,t,hbx,hne⟩
 ·refine⟨.gs (B0 ++ M).length 0 5 1,B0 ++ (M ++ [Zx p]),?_,M ++ [Zx p],(B0 ++ M).length,5,rfl,rfl,.inr ⟨rfl,by simp,[],?_,?_⟩⟩
  ·simp[appM,hs]
  ·rw[<- ZY,Ye];simp[QX,YI]
  ·simp[QX,YI,Az]
 ·have hlt:=YT hbx;have hr:=XK l;have hle:l.length*5<=(QX l ++ t).length:=by rw[Zk,hr];omega
  have hrow:QX (l ++ [p])=QX l ++ Zx p:=by simp[QX,Vx,PB]
  have htk: (QX l ++ t).take (l.length*5)=QX l:=by rw[<- hr,PY]
  have hne2: ∀x:Qh,QX l ++ (Zx p ++ x)≠[]:=fun x e=>by
   have:=WF List.length e;simp at this
  by_cases hroom: (l.length+1)*5<=(QX l ++ t).length
  ·refine⟨.gs id 0 5 (l.length+1),(B0 ++ M).set id (QX l ++ (Zx p ++ (QX l ++ t).drop (l.length*5+5))),?_,_,id,5,X7 hid _,by simp,.inr ⟨rfl,hid,(QX l ++ t).drop (l.length*5+5),?_,?_⟩⟩
   ·simp only[appM,hs,QC];rw[Qn ⟨by omega,hb⟩,Qm (by omega),Qm (by omega),Qn ⟨trivial,trivial⟩,hbx];simp only[QC];rw[Qn ⟨hne,hle⟩,Qn hroom];simp only[put,htk,Vh];simp
   ·have:id < (B0 ++ M).length:=hlt;rw[Xq,Qn rfl,Qn this,hrow];simp
   ·rw[hrow,ZY];exact hne2 _
  ·refine⟨.gs (B0 ++ M).length 0 5 (l.length+1),(B0 ++ M).set id []++ [QX l ++ Zx p],?_,M.set (id - B0.length) []++ [QX l ++ Zx p],(B0 ++ M).length,5,?_,by simp,.inr ⟨rfl,by simp,[],?_,?_⟩⟩
   ·have hst: (QX l).map AV.strip=QX l:=YV V4 l;simp only[appM,hs,QC];rw[Qn ⟨by omega,hb⟩,Qm (by omega),Qm (by omega),Qn ⟨trivial,trivial⟩,hbx];simp only[QC];rw[Qn ⟨hne,hle⟩,Qm hroom,htk,hst]
   ·rw[X7 hid,ZY]
   ·have e: (B0 ++ M).length=((B0 ++ M).set id []).length:=by simp
    rw[hrow,QH,e,Ye]
   ·rw[hrow,QH];have:=hne2 [];simpa using this
def Bl (l:Qj) (B0 K:Qa) (hl:l.length < 40000000) (hm: ∀q∈l,q.1.mass < big):
  ∀(post pre:Qj) (B:Qa) (v:AV) (ρ:Ql),l=pre ++ post->PS B0 B v pre->ρ 3=v->ρ 6= .sl false 5 (QF l)->ρ 7= .int .i64 l.length->ρ 8= .int .i64 pre.length->
  QfO B0 l (R tb (.loop f201l0) ρ B (Qo 0 (QB tb f201r0 (QN f201 K)))):=by
 intro post
 induction post with
 | nil=>
  intro pre B v ρ hk hps h3 h6 h7 h8;simp only[QH]at hk;subst hk;obtain⟨id,sz,rfl⟩:=UR hps;rw[Qe f201l0.eq_1];refine⟨_,B,?_,hps⟩;simp[h3,h6,h7,h8,f201r0]
 | cons p post IH=>
  intro pre B v ρ hk hps h3 h6 h7 h8;have hg:=Qw hk;have hll:=QE hk;have hw1:=wr1 pre.length (by omega);have hlt:=QI hk;have hc:=RB p.1 B (hm p (by rw[hk];simp));obtain⟨v2,B2,ha,hps2⟩:=QpK p false hps (by omega);have ih:=fun ρ=>IH (pre ++ [p]) B2 v2 ρ (by rw[hk];simp) hps2;obtain⟨id,sz,rfl⟩:=UR hps;obtain⟨id2,sz2,rfl⟩:=UR hps2;have hf:Qf p.1 ++ [.int .i64 p.2]=Zx p:=rfl;rw[Qe f201l0.eq_1];simp[h3,h6,h7,h8,hg,hlt,hw1,hc,PU,Nq,hf,ha];apply ih <;> simp[h6,h7]
def B8 (l:Qj) (o:Bool) (B0:Qa) (hl:l.length < 40000000) (hm: ∀q∈l,q.1.mass < big):QfO B0 l (call tb 201 [.sl o 5 (QF l)] B0):=by
 have h:=fun ρ=>Bl l B0 B0 hl hm l [] B0 _ ρ rfl (QeR B0);rw[zcc 201 rfl rfl];simp[f201C];apply h <;> simp
def QiK (p:Pw) (B:Qa):call tb 203 [.agg (Zx p)] B=some (.bool (X6 p.2),B):=by
 rw[zcc 203 rfl rfl];by_cases c4:p.2 < -1000
 ·simp[f203C,X6,c4]
 ·by_cases c5:1000 < p.2
  ·simp[f203C,X6,c4,c5]
  ·simp[f203C,X6,c4,c5]
def R8 (b:Bool) (B:Qa) (r:Out):Prop:=∃i:Int,r=some (.int .i64 i,B)/\(0<=i↔b=true)
def QkD {B0 B:Qa} {v:AV} {l:Qj} (h:PS B0 B v l) (hl:l.length < 100000000):
  ∀(post pre:Qj) (ρ:Ql),l=pre ++ post->pre.any (fun q=>X6 q.2)=false->ρ 0=v->ρ 1= .fn 203 []->ρ 7= .int .i64 l.length->ρ 8= .int .i64 pre.length->
  R8 (l.any fun q=>X6 q.2) B (R tb (.loop f205l0) ρ B (Qo 0 (QB tb f205r0 (QN f205 B)))):=by
 obtain⟨M,id,sz,rfl,rfl,hc⟩:=h;have htk: (B0 ++ M).take (B0.length+M.length)=B0 ++ M:=YH (by simp);intro post
 induction post with
 | nil=>
  intro pre ρ hk hp h0 h1 h7 h8;simp only[QH]at hk;rw[<- hk]at h8 hp;rw[Qe f205l0.eq_1];refine⟨-1,?_,by rw[hp];simp⟩;simp[h0,h1,h7,h8,f205r0,htk]
 | cons p post IH=>
  intro pre ρ hk hp h0 h1 h7 h8;have hg:=Qw hk;have hll:=QE hk;have hw1:=wr1 pre.length (by omega);have hlt:=QI hk;have hlt':pre.length < l.length:=by omega
  rcases hc with⟨rfl,rfl,rfl⟩ | ⟨rfl,hid,t,hbx,hne⟩
  ·simp at hlt'
  have r1:=Hp (l:=l) (NH hg t);have hle:pre.length*5+5<=(QX l ++ t).length:=by rw[Zk,XK];omega
  have hcall:=QiK p (B0 ++ M);have ih:=fun ρ hpp=>IH (pre ++ [p]) ρ (by rw[hk];simp) hpp;generalize QX l ++ t=c at *;rw[Qe f205l0.eq_1];cases ho:X6 p.2
  ·have ih2:=fun ρ=>ih ρ (by rw[SJ,hp];simp[ho]);simp[-getElem?_pos,h0,h1,h7,h8,hlt,hlt',hw1,hbx,hle,r1,hcall,ho,-List.any_eq_false,-List.any_eq_true];apply ih2 <;> simp[h0,h1,h7]
  ·have hany:l.any (fun q=>X6 q.2)=true:=UX.2 ⟨p,by rw[hk];simp,ho⟩;refine⟨pre.length,?_,by rw[hany];simp⟩;simp[-getElem?_pos,h0,h1,h7,h8,hlt,hlt',hbx,hle,r1,hcall,ho,htk]
def QiL {B0 B:Qa} {v:AV} {l:Qj} (h:PS B0 B v l) (hl:l.length < 100000000):call tb 204 [v,.fn 203 []] B=some (.bool (l.any fun q=>X6 q.2),B):=by
 have h1:=fun ρ=>QkD h hl l [] ρ rfl rfl;obtain⟨id,sz,rfl⟩:=UR h;have h2:R8 (l.any fun q=>X6 q.2) B (call tb 205 [.gs id 0 sz l.length,.fn 203 []] B):=by
  rw[zcc 205 rfl rfl];simp[f205C,-List.any_eq_false,-List.any_eq_true];apply h1 <;> simp
 obtain⟨i,hi,hb⟩:=h2;rw[zcc 204 rfl rfl];simp[f204C,hi,-List.any_eq_false,-List.any_eq_true];cases hx:l.any fun q=>X6 q.2
 ·rw[hx]at hb;simp at hb;simpa using hb
 ·rw[hx]at hb;simp at hb;simpa using hb
def Qk4 {B0 B:Qa} {v:AV} {l:Qj} (h:PS B0 B v l) (n:Nat): ∃o M2,(B0 ++ M2).length=B.length/\Wk B (B0 ++ M2)=true/\∀ρ:Ql,ρ n=v->Yr {env:=ρ,bs:=B} n 5=some (.sl o 5 (QF l),{env:=upd ρ n .undef,bs:=B0 ++ M2}):=by
 obtain⟨M,id,sz,rfl,rfl,hc⟩:=h;rcases hc with⟨rfl,rfl,rfl⟩ | ⟨rfl,hid,t,hb,hne⟩
 ·exact⟨true,M,rfl,OC _,fun ρ hn=>by simp[Yr,hn,QF]⟩
 ·by_cases hl:l.length=0
  ·have:l=[]:=YX hl;subst this;exact⟨false,M,rfl,OC _,fun ρ hn=>by simp[Yr,hn,QF]⟩
  ·refine⟨true,M.set (id - B0.length) [],by simp,by rw[<- X7 hid];exact Dy _ _,fun ρ hn=> ?_⟩;have hle:0+l.length*5<=(QX l ++ t).length:=by rw[Zk,XK];omega
   have hch:Z3 (QX l ++ t) 0 5 l.length=QF l:=XZ (f:=Zx) (k:=5) Vh V4 l t;simp only[Yr,hn];rw[Qn ⟨trivial,by omega⟩,Qm hl,hb];simp only[QC];rw[Qn hle,hch,X7 hid];rfl
def Qqo (B0:Qa) (l:Qj) (r:Out):Prop:=∃M,r=some (.tup [.sl false 5 (QF (if Y2 l=0 then l else [])),.int .i64 (Y2 l)],B0 ++ M)
def QiJ {B0 B:Qa} {v:AV} {l:Qj} (h:PS B0 B v l) (hl:l.length < 100000000):Qqo B0 l (call tb 202 [v] B):=by
 have h1:=QiL h hl;obtain⟨o,M2,hlen,hchk,hf⟩:=Qk4 h 9;obtain⟨M,hM⟩: ∃M,B=B0 ++ M:=by obtain⟨M,_,_,h,_⟩:=h;exact⟨M,h⟩
 subst hM;have htk: (B0 ++ M2).take (B0.length+M.length)=B0 ++ M2:=YH (by rw[hlen];simp);have htk0: (B0 ++ M).take (B0.length+M.length)=B0 ++ M:=YH (by simp);have hgp:=N5 l;obtain⟨id,sz,rfl⟩:=UR h;rw[zcc 202 rfl rfl];cases ha:l.any fun q=>X6 q.2
 ·rw[ha]at h1;by_cases c:200 < l.length
  ·have c': (200:Int) < (l.length:Int):=by omega
   have e:Y2 l=3:=by simp only[Y2,ha,c,Zj];rfl
   refine⟨M,?_⟩;rw[e];simp[f202C,h1,c',W5,htk0]
  ·have c': ¬(200:Int) < (l.length:Int):=by omega
   have e:Y2 l=0:=by simp only[Y2,ha,c,Zi];rfl
   refine⟨M2,?_⟩;rw[e];simp[f202C,h1,c',hf,htk,hchk]
 ·rw[ha]at h1;have e:Y2 l=7:=by simp only[Y2,ha,Zj]
  refine⟨M,?_⟩;rw[e];simp[f202C,h1,W5,htk0]
def Qg4 (b:Qj) (B0:Qa) (hb:b.length<=200) (hbm: ∀q∈b,q.1.mass < big/\q.2≠0/\ -1000<=q.2/\q.2<=1000) (X:Qj):
  ∀(post pre:Qj) (acc:Qj) (n:Nat) (B:Qa) (v:AV) (ρ:Ql),b=pre ++ post->PS B0 B v acc->VM acc n->n+1000*post.length < 40000000->Wx acc post=X->ρ 8=v->ρ 23= .sl false 5 (QF b)->ρ 24= .int .i64 b.length->ρ 25= .int .i64 pre.length->
  R tb (.loop f200l0) ρ B (Qo 0 (QB tb f200r0 (QN f200 B0)))=some (.tup [.sl false 5 (QF (if Y2 X=0 then X else [])),.int .i64 (Y2 X)],B0):=by
 intro post
 induction post with
 | nil=>
  intro pre acc n B v ρ hk hps ha hn hX h8 h23 h24 h25;simp only[QH]at hk;rw[<- hk]at h25;simp only[Wx]at hX;subst hX;have hal:=ha.len;obtain⟨M,hr⟩:=QiJ hps (by simp at hn;omega);obtain⟨id,sz,rfl⟩:=UR hps;rw[Qe f200l0.eq_1];generalize (if Y2 acc=0 then acc else [])=X at *;simp[h8,h23,h24,h25,f200r0,hr]
 | cons p post IH=>
  intro pre acc n B v ρ hk hps ha hn hX h8 h23 h24 h25;have hg:=Qw hk;have hll:=QE hk;have hw1:=wr1 pre.length (by omega);have hlt:=QI hk;obtain⟨q1,q2,q3,q4⟩:=hbm p (by rw[hk];simp);simp only[ZQ]at hn;have hal:=ha.len;obtain⟨v2,B2,hc,hps2⟩:=B5 (p:=p) hps (by omega) (fun q hq=>by obtain⟨a1,a2,a3⟩:=ha.bd q hq;exact⟨a1,by omega,by omega⟩) q1 (by omega) ha.asc;have ih:=fun ρ=>IH (pre ++ [p]) (Y7 acc p.1 p.2) (n+1000) B2 v2 ρ (by rw[hk];simp) hps2 (ha.add (c:=1000) q1 q2 (by omega) (by omega)) (by omega) (by rw[<- hX];rfl);obtain⟨id,sz,rfl⟩:=UR hps;obtain⟨id2,sz2,rfl⟩:=UR hps2;rw[Qe f200l0.eq_1];simp[h8,h23,h24,h25,hg,hlt,hw1,hc];apply ih <;> simp[h23,h24]
def B7 (a b:Qj) (o o2:Bool) (bs:Qa) (ha:a.length < 100000000) (hb:b.length < 100000000) (hma: ∀q∈a,q.1.mass < big) (hmb: ∀q∈b,q.1.mass < big):
  call tb 200 [.sl o 5 (QF a),.sl o2 5 (QF b)] bs=some (.tup [.sl false 5 (QF (XJ a b)),.int .i64 (Vj a b)],bs):=by
 have h1:=Nv a false bs ha hma;have h2:=Nv b false bs hb hmb;rw[zcc 200 rfl rfl];by_cases va:Z7 a=0
 ·by_cases vb:Z7 b=0
  ·obtain⟨ia,la,_⟩:=UU va hma;obtain⟨ib,lb,_⟩:=UU vb hmb;obtain⟨v,B,hc,hps⟩:=B8 a false bs (by omega) hma;have h3:=fun ρ=>Qg4 b bs lb (fun q hq=>by obtain⟨x1,x2,x3⟩:=ib.bd q hq;exact⟨x1,ib.nz q hq,x2,x3⟩) _ b [] a 1000 B v ρ rfl hps ia (by omega) rfl;obtain⟨id,sz,rfl⟩:=UR hps;have e1:Vj a b=Y2 (Wx a b):=by simp[Vj,va,vb]
   have e2:XJ a b=if Y2 (Wx a b)=0 then Wx a b else []:=by simp[XJ,e1]
   rw[e1,e2];simp[f200C,h1,h2,va,vb,hc];apply h3 <;> simp
  ·have e1:Vj a b=Z7 b:=by simp[Vj,va,vb]
   have e2:XJ a b=[]:=by simp[XJ,e1,vb]
   rw[e1,e2];simp[f200C,h1,h2,va,vb,W5]
 ·have e1:Vj a b=Z7 a:=by simp[Vj,va]
  have e2:XJ a b=[]:=by simp[XJ,e1,va]
  rw[e1,e2];simp[f200C,h1,va,W5]
@[simp] def Qse (x y:Tm) (a:Qc) (h:1 < (Qb (x:: y:: a)).length): (Qb (x:: y:: a))[1]=Qf y:=by simp[Qb]
def YE:Qu:=[112,97,105,114]
def ENC:Qu:=[101,110,99]
def Xw:Qu:=[97,101,110,99]
def PK:Qu:=[112,107]
def YZ:Qu:=[115,105,103,110]
def EXP:Qu:=[101,120,112]
def FST:Qu:=[102,115,116]
def SND:Qu:=[115,110,100]
def DEC:Qu:=[100,101,99]
def Yj:Qu:=[97,100,101,99]
def YD:Qu:=[111,112,101,110]
def READ:Qu:=[114,101,97,100]
def YF (n:Qu) (m:Nat):Bool:=
 if n=YE\/n=ENC\/n=Xw\/n=YZ\/n=EXP\/n=DEC\/n=Yj\/n=YD then decide (m=2)
 else if n=PK\/n=FST\/n=SND\/n=READ then decide (m=1)else true
mutual
def Zh:Tm->Bool
 | .mk k n s ks=>(!(k == 3) || ((s == 0) && YF n ks.length)) && Z8 ks
def Z8:List Tm->Bool
 | []=>true
 | t:: ts=>Zh t && Z8 ts
end
def K5 (t:Tm):Zh t=((!(t.kind == 3) || ((t.sort == 0) && YF t.name t.kids.length)) && Z8 t.kids):=by cases t;simp[Zh]
def X9: ∀{l:Qc},Z8 l=true↔∀x∈l,Zh x=true
 | []=>by simp[Z8]
 | t:: ts=>by simp[Z8,X9 (l:=ts)]
def V8 {t:Tm} (h:Zh t=true):Z8 t.kids=true:=by rw[K5]at h;simp at h;exact h.2
def Tr {t:Tm} (h:Zh t=true) (hk:t.kind=3):t.sort=0/\YF t.name t.kids.length=true:=by
 rw[K5]at h;simp[hk]at h;exact h.1
def Wu {t:Tm} {n:Qu} (h:Zh t=true) (hb:isB t n=true) (hn:YF n t.kids.length=decide (t.kids.length=2)): ∃x y,t.kids=[x,y]:=by
 obtain⟨hk,rfl⟩:=Sm.1 hb;have:=(Tr h hk).2;rw[hn]at this;simp at this
 match hh:t.kids with
 | [x,y]=>exact⟨x,y,rfl⟩
 | []=>rw[hh]at this;simp at this
 | [_]=>rw[hh]at this;simp at this
 | _:: _:: _:: _=>rw[hh]at this;simp at this
def kid (t:Tm) (i:Nat):Tm:=t.kids.getD i QM
def pkT (t:Tm):Tm:= .mk 3 PK 0 [t]
def M1:=@List.length_eq_one_iff
def AP {u:Tm} (h:Zh u=true) (key:Tm):decide (Qq u (pkT key)=0)=(isB u PK && decide (Qq (kid u 0) key=0)):=by
 cases hb:isB u PK
 ·have: ¬Qq u (pkT key)=0:=by
   intro e;have:=Xg _ _ e;subst this;simp[isB,pkT]at hb
  simp[this]
 ·obtain⟨hk,hn⟩:=Sm.1 hb;obtain⟨hs,ha⟩:=Tr h hk;rw[hn]at ha;have h1:u.kids.length=1:=by simpa[YF,PK,YE,ENC,Xw,YZ,EXP,DEC,Yj,YD]using ha
  obtain⟨x,hx⟩:=M1.1 h1;have hu:u=pkT x:=by rw[<- Tm.eta u,hk,hn,hs,hx];rfl
  subst hu;have:kid (pkT x) 0=x:=rfl;rw[this];have e1:Qq (pkT x) (pkT key)=0↔Qq x key=0:=by
   constructor
   ·intro e;have:=Xg _ _ e;injection this with _ _ _ h4
    injection h4 with h4
    subst h4;exact V2 _
   ·intro e;have:=Xg _ _ e;subst this;exact V2 _
  simp[e1]
def Q9 (n:Qu) (us:Qc):Tm:=
 let a:=us.getD 0 QM
 let key:=us.getD 1 QM
 let out:Tm:= .mk 3 n 0 us
 if n=FST then(if isB a YE then kid a 0 else out)
 else if n=SND then(if isB a YE then kid a 1 else out)
 else if n=DEC then(if isB a ENC && decide (Qq (kid a 1) key=0)then kid a 0 else out)
 else if n=Yj then(if isB a Xw && decide (Qq (kid a 1) (pkT key)=0)then kid a 0 else out)
 else if n=YD then(if isB a YZ && decide (Qq key (pkT (kid a 1))=0)then kid a 0 else out)
 else if n=READ then(if isB a YZ then kid a 0 else out)
 else out
def Kb (x y:Tm) (bs:Qa) (hx:x.mass < big) (hy:y.mass < big):call tb 177 [.agg (Qf x),.agg (Qf y)] bs=some (.bool (decide (Qq x y=0)),bs):=by
 have h:=call_Compare x y bs hx hy;rw[zcc 177 rfl rfl];simp[f177C,h]
def Ul (n:Qu):Bool:=n == FST || n == SND || n == DEC || n == Yj || n == YD || n == READ
def Qgq (n:Qu) (a:Tm) (bs:Qa) (hn:n=FST\/n=SND\/n=READ) (hg:Zh a=true) (hm:a.mass < big):
  call tb 176 [.agg (Qf (.mk 3 n 0 [a]))] bs=some (.agg (Qf (Q9 n [a])),bs):=by
 have h1:=fun m=>Lu a m bs;rw[zcc 176 rfl rfl];rcases hn with rfl | rfl | rfl
 ·cases hb:isB a YE
  ·have h2:=h1 YE;rw[hb]at h2;simp only[YE]at h2
   have e:Q9 FST [a]= .mk 3 FST 0 [a]:=by simp[Q9,hb]
   rw[e];simp only[FST];simp[f176C,h2]
  ·have h2:=h1 YE;rw[hb]at h2;simp only[YE]at h2
   obtain⟨x,y,hk⟩:=Wu hg hb (by simp[YF]);have e:Q9 FST [a]=x:=by simp[Q9,hb,kid,hk]
   rw[e];simp only[FST];simp[f176C,h2,hk]
 ·cases hb:isB a YE
  ·have h2:=h1 YE;rw[hb]at h2;simp only[YE]at h2
   have e:Q9 SND [a]= .mk 3 SND 0 [a]:=by simp[Q9,hb,SND,FST]
   rw[e];simp only[SND];simp[f176C,h2]
  ·have h2:=h1 YE;rw[hb]at h2;simp only[YE]at h2
   obtain⟨x,y,hk⟩:=Wu hg hb (by simp[YF]);have e:Q9 SND [a]=y:=by simp[Q9,hb,kid,hk,SND,FST]
   rw[e];simp only[SND];simp[f176C,h2,hk]
 ·cases hb:isB a YZ
  ·have h2:=h1 YZ;rw[hb]at h2;simp only[YZ]at h2
   have e:Q9 READ [a]= .mk 3 READ 0 [a]:=by simp[Q9,hb,SND,FST,DEC,Yj,YD,READ]
   rw[e];simp only[READ];simp[f176C,h2]
  ·have h2:=h1 YZ;rw[hb]at h2;simp only[YZ]at h2
   obtain⟨x,y,hk⟩:=Wu hg hb (by simp[YF]);have e:Q9 READ [a]=x:=by simp[Q9,hb,kid,hk,SND,FST,DEC,Yj,YD,READ]
   rw[e];simp only[READ];simp[f176C,h2,hk]
def Qgr (n:Qu) (a key:Tm) (bs:Qa) (hn:n=DEC\/n=Yj\/n=YD) (hg:Zh a=true) (hgk:Zh key=true) (hm:a.mass < big - 10) (hmk:key.mass < big - 10):
  call tb 176 [.agg (Qf (.mk 3 n 0 [a,key]))] bs=some (.agg (Qf (Q9 n [a,key])),bs):=by
 have h1:=fun t m=>Lu t m bs;rw[zcc 176 rfl rfl];rcases hn with rfl | rfl | rfl
 ·cases hb:isB a ENC
  ·have h2:=h1 a ENC;rw[hb]at h2;simp only[ENC]at h2
   have e:Q9 DEC [a,key]= .mk 3 DEC 0 [a,key]:=by simp[Q9,hb,SND,FST,DEC]
   rw[e];simp only[DEC];simp[f176C,h2]
  ·have h2:=h1 a ENC;rw[hb]at h2;simp only[ENC]at h2
   obtain⟨x,y,hk⟩:=Wu hg hb (by simp[YF]);have hma:=QK a;rw[hk]at hma;simp only[Qv]at hma;have h3:=Kb y key bs (by omega) (by omega);by_cases hc:Qq y key=0
   ·have e:Q9 DEC [a,key]=x:=by simp[Q9,hb,kid,hk,hc,SND,FST,DEC]
    rw[e];simp only[DEC];simp[f176C,h2,h3,hc,hk]
   ·have e:Q9 DEC [a,key]= .mk 3 DEC 0 [a,key]:=by simp[Q9,hb,kid,hk,hc,SND,FST,DEC]
    rw[e];simp only[DEC];simp[f176C,h2,h3,hc,hk]
 ·cases hb:isB a Xw
  ·have h2:=h1 a Xw;rw[hb]at h2;simp only[Xw]at h2
   have e:Q9 Yj [a,key]= .mk 3 Yj 0 [a,key]:=by simp[Q9,hb,SND,FST,DEC,Yj]
   rw[e];simp only[Yj];simp[f176C,h2]
  ·have h2:=h1 a Xw;rw[hb]at h2;simp only[Xw]at h2
   obtain⟨x,y,hk⟩:=Wu hg hb (by simp[YF]);have hma:=QK a;have hgy:Zh y=true:=by
    have:=V8 hg;rw[hk]at this;simp[Z8]at this;exact this.2
   rw[hk]at hma;simp only[Qv]at hma;have hpk:=AP hgy key;have h4:=h1 y PK;have e0:Q9 Yj [a,key]=if isB y PK && decide (Qq (kid y 0) key=0)then x else .mk 3 Yj 0 [a,key]:=by
    rw[<- hpk];simp[Q9,hb,kid,hk,SND,FST,DEC,Yj]
   rw[e0];cases hbp:isB y PK
   ·rw[hbp]at h4;simp only[PK]at h4
    simp only[Yj];simp[f176C,h2,h4,hk]
   ·rw[hbp]at h4;simp only[PK]at h4
    obtain⟨hyk,hyn⟩:=Sm.1 hbp;have har:=(Tr hgy hyk).2;rw[hyn]at har;have hl1:y.kids.length=1:=by simpa[YF,PK,YE,ENC,Xw,YZ,EXP,DEC,Yj,YD]using har
    obtain⟨z,hz⟩:=M1.1 hl1;have hmy:=QK y;rw[hz]at hmy;simp only[Qv]at hmy;have h3:=Kb z key bs (by omega) (by omega);have hk0:kid y 0=z:=by simp[kid,hz]
    rw[hk0];by_cases hc:Qq z key=0
    ·simp only[Yj];simp[f176C,h2,h3,h4,hc,hk,hz]
    ·simp only[Yj];simp[f176C,h2,h3,h4,hc,hk,hz]
 ·cases hb:isB a YZ
  ·have h2:=h1 a YZ;rw[hb]at h2;simp only[YZ]at h2
   have e:Q9 YD [a,key]= .mk 3 YD 0 [a,key]:=by simp[Q9,hb,SND,FST,DEC,Yj,YD]
   rw[e];simp only[YD];simp[f176C,h2]
  ·have h2:=h1 a YZ;rw[hb]at h2;simp only[YZ]at h2
   obtain⟨x,y,hk⟩:=Wu hg hb (by simp[YF]);have hma:=QK a;rw[hk]at hma;simp only[Qv]at hma;have hpk:=AP hgk y;have h4:=h1 key PK;have e0:Q9 YD [a,key]=if isB key PK && decide (Qq (kid key 0) y=0)then x else .mk 3 YD 0 [a,key]:=by
    rw[<- hpk];simp[Q9,hb,kid,hk,SND,FST,DEC,Yj,YD]
   rw[e0];cases hbp:isB key PK
   ·rw[hbp]at h4;simp only[PK]at h4
    simp only[YD];simp[f176C,h2,h4,hk]
   ·rw[hbp]at h4;simp only[PK]at h4
    obtain⟨hyk,hyn⟩:=Sm.1 hbp;have har:=(Tr hgk hyk).2;rw[hyn]at har;have hl1:key.kids.length=1:=by simpa[YF,PK,YE,ENC,Xw,YZ,EXP,DEC,Yj,YD]using har
    obtain⟨z,hz⟩:=M1.1 hl1;have hmy:=QK key;rw[hz]at hmy;simp only[Qv]at hmy;have h3:=Kb y z bs (by omega) (by omega);have hk0:kid key 0=z:=by simp[kid,hz]
    have hsym: (Qq z y=0)=(Qq y z=0):=by
     have:=Xn y z;rw[WZ];omega
    rw[hk0];by_cases hc:Qq y z=0
    ·simp only[YD];simp[f176C,h2,h3,h4,hc,hk,hz,hsym]
    ·simp only[YD];simp[f176C,h2,h3,h4,hc,hk,hz,hsym]
def Cs (t:Tm): (pkT t).mass=t.mass+4:=by simp only[pkT,Tm.mass,Qv,PK,ZQ,Xd];omega
def QfL (t:Tm) (bs:Qa) (r:Out):Prop:=∃b,r=some (.tup [.agg (Qf t),.bool b],bs)
def QdL (n:Qu) (a:Tm) (bs:Qa) (hn:n=FST\/n=SND\/n=READ) (hg:Zh a=true) (hm:a.mass < big):
  QfL (Q9 n [a]) bs (call tb 243 [.agg (Qf (.mk 3 n 0 [a]))] bs):=by
 have h1:=fun m=>P7 a m bs;rw[zcc 243 rfl rfl];rcases hn with rfl | rfl | rfl
 ·cases hb:isB a YE
  ·have h2:=h1 YE;rw[hb]at h2;simp only[YE]at h2
   have e:Q9 FST [a]= .mk 3 FST 0 [a]:=by simp[Q9,hb]
   rw[e];refine⟨false,?_⟩;simp only[FST];simp[f243C,h2]
  ·have h2:=h1 YE;rw[hb]at h2;simp only[YE]at h2
   obtain⟨x,y,hk⟩:=Wu hg hb (by simp[YF]);have e:Q9 FST [a]=x:=by simp[Q9,hb,kid,hk]
   rw[e];refine⟨true,?_⟩;simp only[FST];simp[f243C,h2,hk]
 ·cases hb:isB a YE
  ·have h2:=h1 YE;rw[hb]at h2;simp only[YE]at h2
   have e:Q9 SND [a]= .mk 3 SND 0 [a]:=by simp[Q9,hb,SND,FST]
   rw[e];refine⟨false,?_⟩;simp only[SND];simp[f243C,h2]
  ·have h2:=h1 YE;rw[hb]at h2;simp only[YE]at h2
   obtain⟨x,y,hk⟩:=Wu hg hb (by simp[YF]);have e:Q9 SND [a]=y:=by simp[Q9,hb,kid,hk,SND,FST]
   rw[e];refine⟨true,?_⟩;simp only[SND];simp[f243C,h2,hk]
 ·cases hb:isB a YZ
  ·have h2:=h1 YZ;rw[hb]at h2;simp only[YZ]at h2
   have e:Q9 READ [a]= .mk 3 READ 0 [a]:=by simp[Q9,hb,SND,FST,DEC,Yj,YD,READ]
   rw[e];refine⟨false,?_⟩;simp only[READ];simp[f243C,h2]
  ·have h2:=h1 YZ;rw[hb]at h2;simp only[YZ]at h2
   obtain⟨x,y,hk⟩:=Wu hg hb (by simp[YF]);have e:Q9 READ [a]=x:=by simp[Q9,hb,kid,hk,SND,FST,DEC,Yj,YD,READ]
   rw[e];refine⟨true,?_⟩;simp only[READ];simp[f243C,h2,hk]
def QdM (n:Qu) (a key:Tm) (bs:Qa) (hn:n=DEC\/n=Yj\/n=YD) (hg:Zh a=true) (hm:a.mass < big - 10) (hmk:key.mass < big - 10):
  QfL (Q9 n [a,key]) bs (call tb 243 [.agg (Qf (.mk 3 n 0 [a,key]))] bs):=by
 have h1:=fun t m=>P7 t m bs;rw[zcc 243 rfl rfl];rcases hn with rfl | rfl | rfl
 ·cases hb:isB a ENC
  ·have h2:=h1 a ENC;rw[hb]at h2;simp only[ENC]at h2
   have e:Q9 DEC [a,key]= .mk 3 DEC 0 [a,key]:=by simp[Q9,hb,SND,FST,DEC]
   rw[e];refine⟨false,?_⟩;simp only[DEC];simp[f243C,h2]
  ·have h2:=h1 a ENC;rw[hb]at h2;simp only[ENC]at h2
   obtain⟨x,y,hk⟩:=Wu hg hb (by simp[YF]);have hma:=QK a;rw[hk]at hma;simp only[Qv]at hma;have h3:=Xs y key bs (by omega) (by omega);by_cases hc:Qq y key=0
   ·have e:Q9 DEC [a,key]=x:=by simp[Q9,hb,kid,hk,hc,SND,FST,DEC]
    rw[e];refine⟨true,?_⟩;simp only[DEC];simp[f243C,h2,h3,hc,hk]
   ·have e:Q9 DEC [a,key]= .mk 3 DEC 0 [a,key]:=by simp[Q9,hb,kid,hk,hc,SND,FST,DEC]
    rw[e];refine⟨false,?_⟩;simp only[DEC];simp[f243C,h2,h3,hc,hk]
 ·cases hb:isB a Xw
  ·have h2:=h1 a Xw;rw[hb]at h2;simp only[Xw]at h2
   have e:Q9 Yj [a,key]= .mk 3 Yj 0 [a,key]:=by simp[Q9,hb,SND,FST,DEC,Yj]
   rw[e];refine⟨false,?_⟩;simp only[Yj];simp[f243C,h2]
  ·have h2:=h1 a Xw;rw[hb]at h2;simp only[Xw]at h2
   obtain⟨x,y,hk⟩:=Wu hg hb (by simp[YF]);have hma:=QK a;rw[hk]at hma;simp only[Qv]at hma;have hpm: (pkT key).mass < big:=by rw[Cs];unfold big at *;omega
   have h3:=Xs y (pkT key) bs (by omega) hpm;have h4:=U1 PK [key] false bs (by simp);simp only[pkT,PK]at h3 h4;by_cases hc:Qq y (pkT key)=0
   ·have e:Q9 Yj [a,key]=x:=by simp[Q9,hb,kid,hk,hc,SND,FST,DEC,Yj]
    rw[e];refine⟨true,?_⟩;simp only[pkT,PK]at hc;simp only[Yj];simp[f243C,h2,h3,h4,hc,hk,Z4]
   ·have e:Q9 Yj [a,key]= .mk 3 Yj 0 [a,key]:=by simp[Q9,hb,kid,hk,hc,SND,FST,DEC,Yj]
    rw[e];refine⟨false,?_⟩;simp only[pkT,PK]at hc;simp only[Yj];simp[f243C,h2,h3,h4,hc,hk,Z4]
 ·cases hb:isB a YZ
  ·have h2:=h1 a YZ;rw[hb]at h2;simp only[YZ]at h2
   have e:Q9 YD [a,key]= .mk 3 YD 0 [a,key]:=by simp[Q9,hb,SND,FST,DEC,Yj,YD]
   rw[e];refine⟨false,?_⟩;simp only[YD];simp[f243C,h2]
  ·have h2:=h1 a YZ;rw[hb]at h2;simp only[YZ]at h2
   obtain⟨x,y,hk⟩:=Wu hg hb (by simp[YF]);have hma:=QK a;rw[hk]at hma;simp only[Qv]at hma;have hpm: (pkT y).mass < big:=by rw[Cs];unfold big at *;omega
   have h3:=Xs key (pkT y) bs (by omega) hpm;have h4:=U1 PK [y] false bs (by simp);simp only[pkT,PK]at h3 h4;by_cases hc:Qq key (pkT y)=0
   ·have e:Q9 YD [a,key]=x:=by simp[Q9,hb,kid,hk,hc,SND,FST,DEC,Yj,YD]
    rw[e];refine⟨true,?_⟩;simp only[pkT,PK]at hc;simp only[YD];simp[f243C,h2,h3,h4,hc,hk,Z4]
   ·have e:Q9 YD [a,key]= .mk 3 YD 0 [a,key]:=by simp[Q9,hb,kid,hk,hc,SND,FST,DEC,Yj,YD]
    rw[e];refine⟨false,?_⟩;simp only[pkT,PK]at hc;simp only[YD];simp[f243C,h2,h3,h4,hc,hk,Z4]
def KM (l:Qj) (M:Nat):Prop:=∀q∈l,q.1.mass<=M
def AY {l:Qj} {t:Tm} {m:Int} {M:Nat} (h:KM l M) (ht:t.mass<=M):KM (Y7 l t m) M:=by
 intro q hq;rcases T8 hq with hq | rfl | ⟨_,_,rfl,_⟩
 ·exact h q hq
 ·exact ht
 ·exact ht
def QkH: ∀(t:Tm) (l:Qj) (m:Int) (M:Nat),KM l M->t.mass<=M->KM (WJ l t m) M:=by
 refine Yq ?_;intro k n s ks ih l m M h hm;have hme:=QK (.mk k n s ks);simp only[Zz,Ya]at hme;have hL: ∀(xs:Qc) (l:Qj) (m:Int),(∀x∈xs,x∈ks)->KM l M->KM (X3 l xs m) M:=by
  intro xs
  induction xs with
  | nil=>intro l m _ h;simpa[X3]using h
  | cons x xs IH=>
   intro l m hx h;simp only[X3];exact IH _ m (fun y hy=>hx y (by simp[hy])) (ih x (hx x (by simp)) l m M h (by have:=Q3 (hx x (by simp));omega))
 rw[Uq];split
 ·exact hL ks l _ (fun x hx=>hx) h
 ·exact AY h hm
def Ip: ∀(b a:Qj) (M:Nat),KM a M->KM b M->KM (Wx a b) M
 | [],a,M,h,_=>h
 | q:: b,a,M,h,hb=>Ip b _ M (AY h (hb q (by simp))) fun x hx=>hb x (by simp[hx])
def Of (t:Tm) (M:Nat) (h:t.mass<=M):KM (ofP t) M:=by
 unfold ofP;split
 ·exact QkH t [] 1 M (fun q hq=>by simp at hq) h
 ·intro q hq;simp at hq
def Uv (t:Tm): (ofP t).length<=200:=by
 unfold ofP;split
 ·rename_i h;unfold ofE at h;split at h
  ·rename_i h1;exact absurd h h1
  ·split at h
   ·split at h
    ·cases h
    ·omega
   ·cases h
 ·simp
def QbB {l:Qj} (h:Y2 l=0):l.length<=200:=by
 unfold Y2 at h;split at h
 ·cases h
 ·split at h
  ·cases h
  ·omega
def Ja (a b:Qj): (XJ a b).length<=200:=by
 unfold XJ;split
 ·rename_i h;unfold Vj at h;split at h
  ·rename_i h1;exact absurd h h1
  ·split at h
   ·rename_i h1;exact absurd h h1
   ·exact QbB h
 ·simp
def Hj {a b:Qj} {M:Nat} (ha:KM a M) (hb:KM b M):KM (XJ a b) M:=by
 unfold XJ;split
 ·exact Ip b a M ha hb
 ·intro q hq;simp at hq
def H7 (n:Nat) (t:Tm):Qv (List.replicate n t)=n*t.mass:=by
 induction n with
 | zero=>simp[Qv]
 | succ n ih=>rw[SG,Qv,ih,VH];omega
def QeC (t:Tm): (Us t).mass=t.mass+5:=by simp only[Us,Tm.mass,Qv,INV,ZQ,Xd];omega
def E5:=@Nat.mul_le_mul
def Iw: ∀{l:Qj} {M:Nat},KM l M->(∀q∈l,q.2<=8)->Qv (WM l)<=l.length* (8*M)
 | [],M,_,_=>by simp[WM,Qv]
 | p:: l,M,h,hb=>by
  have h1:=Iw (l:=l) (M:=M) (fun q hq=>h q (by simp[hq])) fun q hq=>hb q (by simp[hq]);have h2:=h p (by simp);have h3:=hb p (by simp);have h4:p.2.toNat* p.1.mass<=8*M:=E5 (by omega) h2;have e:WM (p:: l)=List.replicate p.2.toNat p.1 ++ WM l:=by simp[WM]
  rw[e,W7,H7,ZQ,VH];omega
def Iu: ∀{l:Qj} {M:Nat},KM l M->(∀q∈l,-8<=q.2)->Qv (Vk l)<=l.length* (8* (M+5))
 | [],M,_,_=>by simp[Vk,Qv]
 | p:: l,M,h,hb=>by
  have h1:=Iu (l:=l) (M:=M) (fun q hq=>h q (by simp[hq])) fun q hq=>hb q (by simp[hq]);have h2:=h p (by simp);have h3:=hb p (by simp);have h4: (-p.2).toNat* (Us p.1).mass<=8* (M+5):=E5 (by omega) (by rw[QeC];omega);have e:Vk (p:: l)=List.replicate (-p.2).toNat (Us p.1)++ Vk l:=by simp[Vk]
  rw[e,W7,H7,ZQ,VH];omega
def Iv {l:Qj} (h:KM l 25000000) (hl:l.length<=200) (hb: ∀q∈l,-8<=q.2/\q.2<=8):Qv (Z9 l) < big - 100:=by
 have h1:=Iw h fun q hq=>(hb q hq).2;have h2:=Iu h fun q hq=>(hb q hq).1;have h3:l.length* (8*25000000)<=200* (8*25000000):=Yg _ hl;have h4:l.length* (8* (25000000+5))<=200* (8* (25000000+5)):=Yg _ hl;unfold Z9;rw[W7];unfold big;omega
def KT {l:Qj} (o:Bool) (bs:Qa) (h:KM l 25000000) (hl:l.length<=200):call tb 196 [.sl o 5 (QF l)] bs=some (Zs (Yn l),bs):=
 QiH l o bs (by omega) (fun q hq=>by have:=h q hq;unfold big;omega) (Iv h hl)
def KU {l:Qj} (o:Bool) (bs:Qa) (h:KM l 25000000) (hl:l.length<=200):call tb 258 [.sl o 5 (QF l)] bs=some (Zs (Yn l),bs):=
 QiW l o bs (by omega) (fun q hq=>by have:=h q hq;unfold big;omega) (Iv h hl)
def VF (b:Tm) (p:Qj):Tm×Int:=if p=[]then(b,0)else if(Yn p).2≠0 then(QM,(Yn p).2)else(.mk 3 EXP 0 [b,(Yn p).1],0)
def Wm (b e:Tm):Tm×Int:=
 if ofE e≠0 then(QM,ofE e)
 else if isB b EXP then
  if ofE (kid b 1)≠0 then(QM,ofE (kid b 1))else if Vj (ofP (kid b 1)) (ofP e)≠0 then(QM,Vj (ofP (kid b 1)) (ofP e))else VF (kid b 0) (XJ (ofP (kid b 1)) (ofP e))
 else VF b (ofP e)
def Xp (t:Tm):Tm×Int:=if ofE t≠0 then(QM,ofE t)else Yn (ofP t)
def Zw (t:Tm) (e:Int):Zs (t,e)= .tup [.agg (Qf t),.int .i64 e]:=rfl
def QiU (t:Tm) (bs:Qa) (hm:t.mass < 20000000):call tb 252 [.agg (Qf t)] bs=some (Zs (Xp t),bs):=by
 have h1:=Pr t bs (by omega);have h2:=KU false bs (Of t 25000000 (by omega)) (Uv t);rw[zcc 252 rfl rfl];by_cases c:ofE t=0
 ·have e:Xp t=Yn (ofP t):=by simp[Xp,c]
  rw[e];simp only[Zs]at h2 ⊢;simp[f252C,h1,h2,c]
 ·have e:Xp t=(QM,ofE t):=by simp[Xp,c]
  rw[e];simp[f252C,h1,c,Zw,Q7]
def QiI (b e:Tm) (bs:Qa) (hg:Zh b=true) (hb:b.mass < 20000000) (he:e.mass < 20000000):call tb 199 [.agg (Qf b),.agg (Qf e)] bs=some (Zs (Wm b e),bs):=by
 have h1:=Si e bs (by omega);have h2:=Lu b EXP bs;have ke:=Of e 25000000 (by omega);have le:=Uv e;rw[zcc 199 rfl rfl];by_cases c1:ofE e=0
 ·cases hx:isB b EXP
  ·rw[hx]at h2;simp only[EXP]at h2
   have h4:=KT false bs ke le;have e0:Wm b e=VF b (ofP e):=by simp[Wm,c1,hx]
   rw[e0];generalize ofP e=p at *
   match p with
   | []=>
    simp only[W5]at h1;simp[f199C,h1,h2,c1,VF,Zw]
   | q:: r=>
    have n0: ¬(r.length:Int)+1=0:=by omega
    by_cases c2: (Yn (q:: r)).2=0
    ·have h5:=Dp EXP [b,(Yn (q:: r)).1] false bs;simp only[Zs,Qb]at h4 h5;simp only[EXP]at h5;simp[f199C,h1,h2,h4,h5,c1,c2,n0,VF,Zw,EXP]
    ·simp only[Zs]at h4;simp[f199C,h1,h2,h4,c1,c2,n0,VF,Zw,Q7]
  ·obtain⟨x,y,hk⟩:=Wu hg hx (by simp[YF]);rw[hx]at h2;simp only[EXP]at h2
   have hmb:=QK b;rw[hk]at hmb;simp only[Qv]at hmb;have k0:kid b 0=x:=by simp[kid,hk]
   have k1:kid b 1=y:=by simp[kid,hk]
   have h3:=Si y bs (by omega);have ky:=Of y 25000000 (by omega);have ly:=Uv y;by_cases c2:ofE y=0
   ·have h4:=B7 (ofP y) (ofP e) false false bs (by omega) (by omega) (fun q hq=>by have:=ky q hq;unfold big;omega) (fun q hq=>by have:=ke q hq;unfold big;omega);by_cases c3:Vj (ofP y) (ofP e)=0
    ·have h6:=KT false bs (Hj ky ke) (Ja (ofP y) (ofP e));have e0:Wm b e=VF x (XJ (ofP y) (ofP e)):=by simp[Wm,c1,hx,k0,k1,c2,c3]
     rw[e0];generalize XJ (ofP y) (ofP e)=p at *
     match p with
     | []=>
      simp only[W5]at h4;simp[f199C,h1,h2,h3,h4,hk,c1,c2,c3,VF,Zw]
     | q:: r=>
      have n0: ¬(r.length:Int)+1=0:=by omega
      by_cases c4: (Yn (q:: r)).2=0
      ·have h5:=Dp EXP [x,(Yn (q:: r)).1] false bs;simp only[Zs,Qb]at h6 h5;simp only[EXP]at h5;simp[f199C,h1,h2,h3,h4,h5,h6,hk,c1,c2,c3,c4,n0,VF,Zw,EXP]
      ·simp only[Zs]at h6;simp[f199C,h1,h2,h3,h4,h6,hk,c1,c2,c3,c4,n0,VF,Zw,Q7]
    ·have e0:Wm b e=(QM,Vj (ofP y) (ofP e)):=by simp[Wm,c1,hx,k1,c2,c3]
     rw[e0];simp[f199C,h1,h2,h3,h4,hk,c1,c2,c3,Zw,Q7]
   ·have e0:Wm b e=(QM,ofE y):=by simp[Wm,c1,hx,k1,c2]
    rw[e0];simp[f199C,h1,h2,h3,hk,c1,c2,Zw,Q7]
 ·have e0:Wm b e=(QM,ofE e):=by simp[Wm,c1]
  rw[e0];simp[f199C,h1,c1,Zw,Q7]
def QiY (b e:Tm) (bs:Qa) (hg:Zh b=true) (hb:b.mass < 20000000) (he:e.mass < 20000000):call tb 261 [.agg (Qf b),.agg (Qf e)] bs=some (Zs (Wm b e),bs):=by
 have h1:=Pr e bs (by omega);have h2:=P7 b EXP bs;have ke:=Of e 25000000 (by omega);have le:=Uv e;rw[zcc 261 rfl rfl];by_cases c1:ofE e=0
 ·cases hx:isB b EXP
  ·rw[hx]at h2;simp only[EXP]at h2
   have h4:=KU false bs ke le;have e0:Wm b e=VF b (ofP e):=by simp[Wm,c1,hx]
   rw[e0];generalize ofP e=p at *
   match p with
   | []=>
    simp only[W5]at h1;simp[f261C,h1,h2,c1,VF,Zw]
   | q:: r=>
    have n0: ¬(r.length:Int)+1=0:=by omega
    by_cases c2: (Yn (q:: r)).2=0
    ·have h5:=U1 EXP [b,(Yn (q:: r)).1] false bs (by simp);simp only[Zs,Qb]at h4 h5;simp only[EXP]at h5;simp[f261C,h1,h2,h4,h5,c1,c2,n0,VF,Zw,EXP]
    ·simp only[Zs]at h4;simp[f261C,h1,h2,h4,c1,c2,n0,VF,Zw,Q7]
  ·obtain⟨x,y,hk⟩:=Wu hg hx (by simp[YF]);rw[hx]at h2;simp only[EXP]at h2
   have hmb:=QK b;rw[hk]at hmb;simp only[Qv]at hmb;have k0:kid b 0=x:=by simp[kid,hk]
   have k1:kid b 1=y:=by simp[kid,hk]
   have h3:=Pr y bs (by omega);have ky:=Of y 25000000 (by omega);have ly:=Uv y;by_cases c2:ofE y=0
   ·have h4:=Aa (ofP y) (ofP e) false false bs (by omega) (by omega) (fun q hq=>by have:=ky q hq;unfold big;omega) (fun q hq=>by have:=ke q hq;unfold big;omega);by_cases c3:Vj (ofP y) (ofP e)=0
    ·have h6:=KU false bs (Hj ky ke) (Ja (ofP y) (ofP e));have e0:Wm b e=VF x (XJ (ofP y) (ofP e)):=by simp[Wm,c1,hx,k0,k1,c2,c3]
     rw[e0];generalize XJ (ofP y) (ofP e)=p at *
     match p with
     | []=>
      simp only[W5]at h4;simp[f261C,h1,h2,h3,h4,hk,c1,c2,c3,VF,Zw]
     | q:: r=>
      have n0: ¬(r.length:Int)+1=0:=by omega
      by_cases c4: (Yn (q:: r)).2=0
      ·have h5:=U1 EXP [x,(Yn (q:: r)).1] false bs (by simp);simp only[Zs,Qb]at h6 h5;simp only[EXP]at h5;simp[f261C,h1,h2,h3,h4,h5,h6,hk,c1,c2,c3,c4,n0,VF,Zw,EXP]
      ·simp only[Zs]at h6;simp[f261C,h1,h2,h3,h4,h6,hk,c1,c2,c3,c4,n0,VF,Zw,Q7]
    ·have e0:Wm b e=(QM,Vj (ofP y) (ofP e)):=by simp[Wm,c1,hx,k1,c2,c3]
     rw[e0];simp[f261C,h1,h2,h3,h4,hk,c1,c2,c3,Zw,Q7]
   ·have e0:Wm b e=(QM,ofE y):=by simp[Wm,c1,hx,k1,c2]
    rw[e0];simp[f261C,h1,h2,h3,hk,c1,c2,Zw,Q7]
 ·have e0:Wm b e=(QM,ofE e):=by simp[Wm,c1]
  rw[e0];simp[f261C,h1,c1,Zw,Q7]
def KC {n:Qu} (h:Vd n=true):n.length<=24:=by
 cases n with
 | nil=>simp
 | cons c r=>
  simp only[Vd,Qp,Qy]at h;simp only[ZQ];omega
def Je {t:Tm} (h:Pj t=0):t.name.length<=24/\t.kids.length<=8/\(t.kind=3->t.sort=0)/\(t.kind≠3->t.kids=[]):=by
 unfold Pj at h;split at h
 ·rename_i hk;split at h
  ·cases h
  ·rename_i h1;split at h
   ·cases h
   ·rename_i h2;have h3:t.kids.length=0:=by omega
    exact⟨KC (by simpa using h2),by omega,fun e=>by omega,fun _=>YX h3⟩
 ·split at h
  ·rename_i hk;split at h
   ·cases h
   ·rename_i h1;split at h
    ·cases h
    ·rename_i h2;split at h
     ·cases h
     ·exact⟨KC (by simpa using h2),by omega,fun _=>by simpa using h1,fun e=>absurd hk e⟩
  ·cases h
mutual
theorem HX: ∀t:Tm,Wl t=0->t.mass<=33*t.nodes
 | .mk k n s ks,h=>by
  simp only[Wl]at h;split at h
  ·rename_i h1;exact absurd h h1
  ·rename_i h1;obtain⟨a,b,_⟩:=Je (t:= .mk k n s ks) (by simpa using h1);have:=HW ks h;simp only[Ya,Zz]at a b;simp only[Tm.mass,Tm.nodes];omega
theorem HW: ∀ts:List Tm,Ug ts=0->Qv ts<=33*Qx ts
 | [],_=>by simp[Qv,Qx]
 | t:: ts,h=>by
  simp only[Ug]at h;split at h
  ·rename_i h1;exact absurd h h1
  ·rename_i h1;have a:=HX t (by simpa using h1);have b:=HW ts h;simp only[Qv,Qx];omega
end
def Uc {t:Tm} (h:Q4 t=0):Wl t=0/\t.nodes<=400/\t.mass<=13200:=by
 unfold Q4 at h;split at h
 ·rename_i h1;exact absurd h h1
 ·rename_i h1;split at h
  ·cases h
  ·have:=HX t (by simpa using h1);exact⟨by simpa using h1,by omega,by omega⟩
def Qeq {n:Qu} {y:Sy} (h:Yp n Wn=some y) (m:Nat) (h1: ¬((m:Int) < y.l\/y.m < m)):YF n m=true:=by
 unfold YF;split
 ·rename_i hn;have:y.l=2/\y.m=2:=by rcases hn with rfl | rfl | rfl | rfl | rfl | rfl | rfl | rfl <;> simp[YE,ENC,Xw,YZ,EXP,DEC,Yj,YD,Yp,Wn]at h <;> subst h <;> simp
  simp;omega
 ·split
  ·rename_i hn;have:y.l=1/\y.m=1:=by rcases hn with rfl | rfl | rfl | rfl <;> simp[PK,FST,SND,READ,Yp,Wn]at h <;> subst h <;> simp
   simp;omega
  ·rfl
mutual
theorem Ie: ∀t:Tm,Wl t=0->X2 t=0->Zh t=true
 | .mk k n s ks,h,hc=>by
  simp only[Wl]at h;split at h
  ·rename_i h1;exact absurd h h1
  ·rename_i h1;obtain⟨_,_,a,b⟩:=Je (t:= .mk k n s ks) (by simpa using h1);simp only[U6,Rq,Zz]at a b;simp only[X2]at hc;by_cases hk:k=3
   ·subst hk;rw[Qm (by simp)]at hc;cases hy:Yp n Wn with
    | none=>rw[hy]at hc;simp at hc
    | some y=>
     rw[hy]at hc;simp only at hc;split at hc
     ·cases hc
     ·rename_i h2;have har:=Qeq hy ks.length h2;split at hc
      ·cases hc
      ·split at hc
       ·cases hc
       ·have:=Kz ks h hc;simp[Zh,a rfl,har,this]
   ·have:=b hk;subst this;simp[Zh,hk,Z8]
theorem Kz: ∀ts:List Tm,Ug ts=0->SO ts=0->Z8 ts=true
 | [],_,_=>rfl
 | t:: ts,h,hc=>by
  simp only[Ug]at h;simp only[SO]at hc;split at h
  ·rename_i h1;exact absurd h h1
  ·rename_i h1;split at hc
   ·rename_i h2;exact absurd hc h2
   ·rename_i h2;simp[Z8,Ie t (by simpa using h1) (by simpa using h2),Kz ts h hc]
end
mutual
theorem HZ: ∀(t y:Tm),Zh t=true->y∈ZB t->Zh y=true
 | .mk k n s ks,y,h,hy=>by
  simp only[ZB,ZE]at hy;rcases hy with rfl | hy
  ·exact h
  ·exact LK ks y (V8 h) hy
theorem LK: ∀(ts:List Tm) (y:Tm),Z8 ts=true->y∈ZA ts->Zh y=true
 | [],y,_,hy=>by simp[ZA]at hy
 | t:: ts,y,h,hy=>by
  simp only[Z8,Qp]at h;simp only[ZA,Xe]at hy;rcases hy with hy | hy
  ·exact HZ t y h.1 hy
  ·exact LK ts y h.2 hy
end
def W6:Zh QM=true:=by simp[QM,Zh,Z8]
def Sa {n:Qu} {us:Qc} (ha:YF n us.length=true) (h:Z8 us=true):Zh (.mk 3 n 0 us)=true:=by simp[Zh,ha,h]
def Oc {t:Tm} (h:Zh t=true) (i:Nat):Zh (kid t i)=true:=by
 unfold kid;rw[Vm];cases hg:t.kids[i]? with
 | none=>simpa using W6
 | some x=>exact X9.1 (V8 h) x (XN hg)
def Ui (t:Tm) (i:Nat): (kid t i).mass<=t.mass:=by
 unfold kid;rw[Vm];have:=QK t;cases hg:t.kids[i]? with
 | none=>simp[QM,Tm.mass,Qv];omega
 | some x=>have:=Q3 (XN hg);simp;omega
def Qeu {us:Qc} (h:Z8 us=true):Zh (Ww us).1=true:=by
 unfold Ww;split
 ·exact W6
 ·split
  ·exact W6
  ·have hL: ∀y∈Yd [] us,Zh y=true:=fun y hy=>by
    rcases My us [] y hy with h1 | h1
    ·simp at h1
    ·exact LK us y h h1
   show Zh (tmX (Yd [] us))=true
   match hh:Yd [] us with
   | []=>simp[tmX,Zh,Z8,YF,Yt,YE,ENC,Xw,YZ,EXP,DEC,Yj,YD,PK,FST,SND,READ]
   | [p]=>simp only[tmX];exact hL p (by rw[hh];simp)
   | p:: q:: r=>
    simp only[tmX];refine Sa (by simp[YF,XOR,YE,ENC,Xw,YZ,EXP,DEC,Yj,YD,PK,FST,SND,READ]) (X9.2 fun x hx=>hL x (by rw[hh];exact hx))
def LS (us:Qc): (Ww us).1.mass<=13200:=by
 unfold Ww;split
 ·simp[QM,Tm.mass,Qv]
 ·split
  ·simp[QM,Tm.mass,Qv]
  ·rename_i h;exact(Uc (by simpa using h)).2.2
def Sz:QM.mass=1:=by simp[QM,Tm.mass,Qv]
def KG (l:Qj):Prop:=∀q∈l,Zh q.1=true
def AU {l:Qj} {t:Tm} {m:Int} (h:KG l) (ht:Zh t=true):KG (Y7 l t m):=by
 intro q hq;rcases T8 hq with hq | rfl | ⟨_,_,rfl,_⟩
 ·exact h q hq
 ·exact ht
 ·exact ht
def QkE: ∀(t:Tm) (l:Qj) (m:Int),KG l->Zh t=true->KG (WJ l t m):=by
 refine Yq ?_;intro k n s ks ih l m h hm;have hk:=X9.1 (V8 hm);have hL: ∀(xs:Qc) (l:Qj) (m:Int),(∀x∈xs,x∈ks)->KG l->KG (X3 l xs m):=by
  intro xs
  induction xs with
  | nil=>intro l m _ h;simpa[X3]using h
  | cons x xs IH=>
   intro l m hx h;simp only[X3];exact IH _ m (fun y hy=>hx y (by simp[hy])) (ih x (hx x (by simp)) l m h (hk x (hx x (by simp))))
 rw[Uq];split
 ·exact hL ks l _ (fun x hx=>hx) h
 ·exact AU h hm
def Il: ∀(b a:Qj),KG a->KG b->KG (Wx a b)
 | [],a,h,_=>h
 | q:: b,a,h,hb=>Il b _ (AU h (hb q (by simp))) fun x hx=>hb x (by simp[hx])
def Im {t:Tm} (h:Zh t=true):KG (ofP t):=by
 unfold ofP;split
 ·exact QkE t [] 1 (fun q hq=>by simp at hq) h
 ·intro q hq;simp at hq
def QkF {a b:Qj} (ha:KG a) (hb:KG b):KG (XJ a b):=by
 unfold XJ;split
 ·exact Il b a ha hb
 ·intro q hq;simp at hq
def M8:=@List.mem_flatten
def Jw:=@List.eq_of_mem_replicate
def Qet {l:Qj} (h:KG l):Z8 (Z9 l)=true:=by
 refine X9.2 fun x hx=> ?_;simp only[Z9,WM,Vk,Xe,M8,Wf]at hx;rcases hx with⟨_,⟨q,hq,rfl⟩,hx⟩ | ⟨_,⟨q,hq,rfl⟩,hx⟩
 ·rw[Jw hx];exact h q hq
 ·rw[Jw hx];exact Sa (by simp[YF,INV,YE,ENC,Xw,YZ,EXP,DEC,Yj,YD,PK,FST,SND,READ]) (by simp[Z8,h q hq])
def Ic {l:Qj} (h:KG l):Zh (Yn l).1=true:=by
 unfold Yn;split
 ·exact W6
 ·split
  ·exact W6
  ·split
   ·exact W6
   ·have hL:=Qet h
    show Zh (Z5 (Z9 l))=true
    match hh:Z9 l with
    | []=>simp[Z5,Zh,Z8,YF,ONE,YE,ENC,Xw,YZ,EXP,DEC,Yj,YD,PK,FST,SND,READ]
    | [p]=>simp only[Z5];rw[hh]at hL;simpa[Z8]using hL
    | p:: q:: r=>
     simp only[Z5];rw[hh]at hL;exact Sa (by simp[YF,MUL,YE,ENC,Xw,YZ,EXP,DEC,Yj,YD,PK,FST,SND,READ]) hL
def Ix (l:Qj): (Yn l).1.mass<=13200:=by
 unfold Yn;split
 ·simp[QM,Tm.mass,Qv]
 ·split
  ·simp[QM,Tm.mass,Qv]
  ·split
   ·simp[QM,Tm.mass,Qv]
   ·rename_i h;exact(Uc (by simpa using h)).2.2
def Gw {t:Tm} (h:Zh t=true):Zh (Xp t).1=true:=by
 unfold Xp;split
 ·exact W6
 ·exact Ic (Im h)
def Gz (t:Tm): (Xp t).1.mass<=13200:=by
 unfold Xp;split
 ·simp[QM,Tm.mass,Qv]
 ·exact Ix _
def AL {b:Tm} {p:Qj} (hb:Zh b=true) (hp:KG p):Zh (VF b p).1=true/\(VF b p).1.mass<=6+b.mass+13200:=by
 have h0:=Ix p;unfold VF;split
 ·exact⟨hb,by simp;omega⟩
 ·split
  ·exact⟨W6,by show QM.mass<=_;rw[Sz];omega⟩
  ·exact⟨Sa (by simp[YF]) (by simp[Z8,hb,Ic hp]),by simp only[Tm.mass,Qv,EXP,ZQ,Xd];omega⟩
def Qk2 {b e:Tm} (hb:Zh b=true) (he:Zh e=true):Zh (Wm b e).1=true/\(Wm b e).1.mass<=6+b.mass+13200:=by
 have hz:Zh QM=true/\QM.mass<=6+b.mass+13200:=⟨W6,by show QM.mass<=_;rw[Sz];omega⟩;have hk:=Ui b 0;unfold Wm;split
 ·exact hz
 ·split
  ·split
   ·exact hz
   ·split
    ·exact hz
    ·obtain⟨h1,h2⟩:=AL (Oc hb 0) (QkF (Im (Oc hb 1)) (Im he));exact⟨h1,by omega⟩
  ·exact AL hb (Im he)
def Qgp {n:Qu} {us:Qc} (ha:YF n us.length=true) (h:Z8 us=true):Zh (Q9 n us)=true/\(Q9 n us).mass<=1+n.length+us.length+Qv us:=by
 have hout:Zh (.mk 3 n 0 us)=true/\(Tm.mk 3 n 0 us).mass<=1+n.length+us.length+Qv us:=⟨Sa ha h,by simp[Tm.mass]⟩;have ha0:Zh (us.getD 0 QM)=true/\(us.getD 0 QM).mass<=1+Qv us:=by
  cases us with
  | nil=>exact⟨W6,by simp[QM,Tm.mass,Qv]⟩
  | cons x r=>simp only[Z8,Qp]at h;exact⟨h.1,by simp[Qv];omega⟩
 have hkid: ∀i,Zh (kid (us.getD 0 QM) i)=true/\(kid (us.getD 0 QM) i).mass<=1+n.length+us.length+Qv us:=fun i=>⟨Oc ha0.1 i,by have:=Ui (us.getD 0 QM) i;omega⟩;simp only[Q9]
 repeat' split
 all_goals first | exact hout | exact hkid _
def Xi (n:Qu) (us:Qc):Tm×Int:=
 if Ul n then(Q9 n us,0)else if n=XOR then Ww us else if n=MUL\/n=INV\/n=ONE then Xp (.mk 3 n 0 us)
 else if n=EXP then Wm (us.getD 0 QM) (us.getD 1 QM)else(.mk 3 n 0 us,0)
mutual
def ZW:Tm->Tm×Int
 | .mk k n s ks=>if k=3 then(if(YM ks).2=0 then Xi n (YM ks).1 else(QM,(YM ks).2))else(.mk k n s ks,0)
def YM:List Tm->List Tm×Int
 | []=>([],0)
 | t:: ts=>if(ZW t).2=0 then(if(YM ts).2=0 then((ZW t).1:: (YM ts).1,0)else([],(YM ts).2))else([],(ZW t).2)
end
def QgM {n:Qu} {us:Qc} (ha:YF n us.length=true) (h:Z8 us=true):Zh (Xi n us).1=true/\(Xi n us).1.mass<=1+n.length+us.length+Qv us+13200:=by
 unfold Xi;split
 ·obtain⟨h1,h2⟩:=Qgp ha h;exact⟨h1,by simp;omega⟩
 ·split
  ·exact⟨Qeu h,by have:=LS us;omega⟩
  ·split
   ·exact⟨Gw (Sa ha h),by have:=Gz (.mk 3 n 0 us);omega⟩
   ·split
    ·rename_i hn;subst hn;have h2:us.length=2:=by simpa[YF]using ha
     match us,h2,h with
     | [x,y],_,h=>
      simp only[Z8,Qp]at h;obtain⟨h3,h4⟩:=Qk2 h.1 h.2.1;exact⟨h3,by simp only[Qv,EXP,ZQ,Xd]at *;simp at h4 ⊢;omega⟩
    ·exact⟨Sa ha h,by simp[Tm.mass]⟩
mutual
theorem Oi: ∀t:Tm,Zh t=true->Zh (ZW t).1=true/\(ZW t).1.mass<=t.mass+13200*t.nodes
 | .mk k n s ks,h=>by
  have hk:=Cq ks (V8 h);simp only[ZW];split
  ·rename_i hk3;subst hk3;split
   ·rename_i h2;obtain⟨h3,h4,h5⟩:=hk;have h5:=h5 h2;have har:=(Tr h rfl).2;simp only[Ya,Zz]at har;obtain⟨h6,h7⟩:=QgM (by rw[h5];exact har) h3;exact⟨h6,by simp only[Tm.mass,Tm.nodes];rw[h5]at h7;omega⟩
   ·exact⟨W6,by show QM.mass<=_;rw[Sz];simp only[Tm.mass];omega⟩
  ·exact⟨h,Nat.le_add_right _ _⟩
theorem Cq: ∀ts:List Tm,Z8 ts=true->Z8 (YM ts).1=true/\Qv (YM ts).1<=Qv ts+13200*Qx ts/\((YM ts).2=0->(YM ts).1.length=ts.length)
 | [],_=>by simp[YM,Z8,Qv]
 | t:: ts,h=>by
  simp only[Z8,Qp]at h;obtain⟨a1,a2⟩:=Oi t h.1;obtain⟨b1,b2,b3⟩:=Cq ts h.2;simp only[YM];split
  ·split
   ·rename_i h2;refine⟨by simp[Z8,a1,b1],by simp only[Qv,Qx];omega,fun _=>by simp[b3 h2]⟩
   ·rename_i h2;exact⟨rfl,by simp[Qv],fun e=>absurd e h2⟩
  ·rename_i h2;exact⟨rfl,by simp[Qv],fun e=>absurd e h2⟩
end
end Go.Am
