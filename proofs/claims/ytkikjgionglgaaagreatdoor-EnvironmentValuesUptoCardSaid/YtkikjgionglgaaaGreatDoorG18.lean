/-
  Rc18, Rc19, Rc20, Rc21, Rc22, Rc23, Rc24.
-/
import Derived.Test.YtkikjgionglgaaaGreatDoorG17
set_option linter.unusedVariables false
set_option linter.unusedSimpArgs false
namespace Go.Am
set_option maxRecDepth 8000
def Vd (t:Tm):Tm:= .mk 3 INV 0 [t]
def Y5 (l:List Pw):List Tm:=(l.map fun p=>List.replicate p.2.toNat p.1).flatten
def Xj (l:List Pw):List Tm:=(l.map fun p=>List.replicate (-p.2).toNat (Vd p.1)).flatten
def Zn (l:List Pw):List Tm:=Y5 l ++ Xj l
def Ze:List Tm→Tm
 | []=> .mk 3 ONE 0 []
 | [p]=>p
 | p:: q:: r=> .mk 3 MUL 0 (p:: q:: r)
def Zs (l:List Pw):Tm×Int:=
 if ZF l≠0 then(QE,ZF l)else if 8 < (Zn l).length then(QE,3)else if QM (Ze (Zn l))≠0 then(QE,QM (Ze (Zn l)))else(Ze (Zn l),0)
theorem Ir (a:List Pw) (p:Pw):Y5 (a ++ [p])=Y5 a ++ List.replicate p.2.toNat p.1:=by simp[Y5]
theorem Ig (a:List Pw) (p:Pw):Xj (a ++ [p])=Xj a ++ List.replicate (-p.2).toNat (Vd p.1):=by simp[Xj]
theorem Is {l:List Pw} (h: ∀q∈l,q.2≤8): (Y5 l).length≤8*l.length:=by
 induction l with
 | nil=>simp[Y5]
 | cons p l ih=>
  have h1:=ih fun q hq=>h q (by simp[hq]);have h2:=h p (by simp);simp only[Y5,List.map_cons,List.flatten_cons,List.length_append,List.length_replicate,List.length_cons]at h1 ⊢;omega
theorem Ih {l:List Pw} (h: ∀q∈l,-8≤q.2): (Xj l).length≤8*l.length:=by
 induction l with
 | nil=>simp[Xj]
 | cons p l ih=>
  have h1:=ih fun q hq=>h q (by simp[hq]);have h2:=h p (by simp);simp only[Xj,List.map_cons,List.flatten_cons,List.length_append,List.length_replicate,List.length_cons]at h1 ⊢;omega
theorem It {l:List Pw} {p:Pw} (h:p∈l):p.2.toNat≤(Y5 l).length:=by
 induction l with
 | nil=>simp at h
 | cons q l ih=>
  simp only[Y5,List.map_cons,List.flatten_cons,List.length_append,List.length_replicate]at ih ⊢;rcases List.mem_cons.1 h with rfl | h
  ·omega
  ·have:=ih h;omega
theorem Ii {l:List Pw} {p:Pw} (h:p∈l): (-p.2).toNat≤(Xj l).length:=by
 induction l with
 | nil=>simp at h
 | cons q l ih=>
  simp only[Xj,List.map_cons,List.flatten_cons,List.length_append,List.length_replicate]at ih ⊢;rcases List.mem_cons.1 h with rfl | h
  ·omega
  ·have:=ih h;omega
theorem Mi (n:List UInt8) (ks:List Tm) (o:Bool) (bs:List (List AV)):call F.tb 198 [.str n,.sl o 4 (encTs ks)] bs=some (.agg (Qb (.mk 3 n 0 ks)),bs):=by
 rw[Qa F.tb_198 _ _ rfl];simp[F.f198,F.f198C,WF]
theorem On {k:Nat} (acc:List Tm) (x:Tm): (acc ++ [x])++ List.replicate k x=acc ++ List.replicate (k+1) x:=by simp[List.replicate_succ]
theorem Qdb {p:Pw} {bs:List (List AV)} (hp:p.1.mass < big) (hN: -8≤p.2∧p.2≤8) (c:AC) (K:Kn) (X:Out): ∀(k:Nat) (acc:List Tm) (i:Nat) (ρ:Nat→AV),i+k=p.2.toNat→acc.length+k < 100000000→ρ 5= .sl true 4 (encTs acc)→ρ 8= .bx (QX p)→ρ 34= .int .i64 p.2→ρ 35= .int .i64 i→
  (∀ρ':Nat→AV,ρ' 5= .sl true 4 (encTs (acc ++ List.replicate k p.1))→(∀j,j < 34→j≠5→ρ' j=ρ j)→R F.tb c ρ' bs K=X)→
  R F.tb (.loop F.f196l0) ρ bs (Qi 2 (Qs F.tb c K))=X:=by
 intro k
 induction k with
 | zero=>
  intro acc i ρ hi hl h5 h8 h34 h35 h;have hn: ¬(i:Int) < p.2:=by omega
  rw[Qc F.f196l0.eq_1];simp[h5,h8,h34,h35,hn];apply h
  ·simp[h5]
  ·intro j hj h5j;have:j≠36:=by omega
   simp[this]
 | succ k IH=>
  intro acc i ρ hi hl h5 h8 h34 h35 h;have hn: (i:Int) < p.2:=by omega
  have hw1:IntKind.i64.wrap ((i:Int)+1)=((i+1:Nat):Int):=by rw[Zd (by omega) (by omega)];omega
  have hb: (acc.length+1)*56≤140737488355328:=ZS (by omega);have hc:=V4 p.1 bs hp;rw[Qc F.f196l0.eq_1];simp[h5,h8,h34,h35,hn,hw1,hb,hc,Zi,Q1];refine IH (acc ++ [p.1]) (i+1) _ (by omega) (by simp;omega) ?_ ?_ ?_ ?_ ?_
  ·simp
  ·simp[h8]
  ·simp[h34]
  ·simp
  ·intro ρ' g5 gj;rw[On]at g5;refine h ρ' g5 fun j hj h5j=> ?_;rw[gj j hj h5j];have e1:j≠35:=by omega
   have e2:j≠36:=by omega
   have e3:j≠37:=by omega
   have e4:j≠38:=by omega
   have e5:j≠39:=by omega
   have e6:j≠40:=by omega
   have e7:j≠41:=by omega
   have e8:j≠42:=by omega
   have e9:j≠43:=by omega
   simp[*]
theorem Qdc {p:Pw} {bs:List (List AV)} (hp:p.1.mass < big) (hN: -8≤p.2∧p.2≤8) (c:AC) (K:Kn) (X:Out): ∀(k:Nat) (acc:List Tm) (i:Nat) (ρ:Nat→AV),i+k=(-p.2).toNat→acc.length+k < 100000000→ρ 6= .sl true 4 (encTs acc)→ρ 8= .bx (QX p)→ρ 46= .int .i64 (-p.2)→ρ 47= .int .i64 i→
  (∀ρ':Nat→AV,ρ' 6= .sl true 4 (encTs (acc ++ List.replicate k (Vd p.1)))→(∀j,j < 34→j≠6→ρ' j=ρ j)→R F.tb c ρ' bs K=X)→
  R F.tb (.loop F.f196l1) ρ bs (Qi 4 (Qi 1 (Qs F.tb c K)))=X:=by
 intro k
 induction k with
 | zero=>
  intro acc i ρ hi hl h6 h8 h46 h47 h;have hn: ¬(i:Int) < -p.2:=by omega
  rw[Qc F.f196l1.eq_1];simp[h6,h8,h46,h47,hn];apply h
  ·simp[h6]
  ·intro j hj h5j;have:j≠48:=by omega
   simp[this]
 | succ k IH=>
  intro acc i ρ hi hl h6 h8 h46 h47 h;have hn: (i:Int) < -p.2:=by omega
  have hw1:IntKind.i64.wrap ((i:Int)+1)=((i+1:Nat):Int):=by rw[Zd (by omega) (by omega)];omega
  have hb: (acc.length+1)*56≤140737488355328:=ZS (by omega);have hc:=V4 p.1 bs hp;have hc2:=Mi INV [p.1] false bs;simp only[INV]at hc2;rw[Qc F.f196l1.eq_1];simp[h6,h8,h46,h47,hn,hw1,hb,hc,hc2,Zi];rw[show Qb (Tm.mk 3 [105,110,118] 0 [p.1])=Qb (Vd p.1)from rfl];simp[Zi,Q1];refine IH (acc ++ [Vd p.1]) (i+1) _ (by omega) (by simp;omega) ?_ ?_ ?_ ?_ ?_
  ·simp[Vd,INV]
  ·simp[h8]
  ·simp[h46]
  ·simp
  ·intro ρ' g6 gj;rw[On]at g6;refine h ρ' g6 fun j hj h5j=> ?_;rw[gj j hj h5j];have e1:j≠47:=by omega
   have e2:j≠48:=by omega
   have e3:j≠49:=by omega
   have e4:j≠50:=by omega
   have e5:j≠51:=by omega
   have e6:j≠52:=by omega
   have e7:j≠53:=by omega
   have e8:j≠54:=by omega
   have e9:j≠55:=by omega
   have e10:j≠56:=by omega
   have e11:j≠57:=by omega
   simp[*]
theorem Qde (l:List Pw) (bs:List (List AV)) (hv:ZF l=0) (hl: (Zn l).length < 100000000) (hm:massL (Zn l) < big - 100) (ρ:Nat→AV) (h2:ρ 2= .bx [.int .i64 0,.str [],.int .i64 0,.sl true 4 []]) (h5:ρ 5= .sl true 4 (encTs (Y5 l))) (h6:ρ 6= .sl true 4 (encTs (Xj l))):
  R F.tb F.f196r2 ρ bs (Qy F.f196 bs)=some (QP (Zs l),bs):=by
 have hc:=Ot [Y5 l,Xj l] false bs (by simp) (by simpa[Zn]using hl);have hfl: [Y5 l,Xj l].flatten=Zn l:=by simp[Zn]
 rw[hfl]at hc;simp only[V5,List.map_cons,List.map_nil]at hc;have ha:=Mi MUL (Zn l) false bs;have ha1:=Mi ONE [] true bs;simp only[MUL]at ha;simp only[ONE,encTs]at ha1;by_cases c8:8 < (Zn l).length
 ·have c8': (8:Int) < ((Zn l).length:Int):=by omega
  have e:Zs l=(QE,3):=by simp[Zs,hv,c8]
  rw[e];simp[F.f196r2,h2,h5,h6,hc,c8',QP,QG]
 ·have c8': ¬(8:Int) < ((Zn l).length:Int):=by omega
  have hpm: (Ze (Zn l)).mass < big:=by
   unfold big at *
   match h:Zn l with
   | []=>simp[Ze,Qu,massL,ONE]
   | [p]=>rw[h]at hm;simp[Ze,massL]at hm ⊢;omega
   | p:: q:: r=>rw[h]at hm c8;simp[Ze,Qu,massL,MUL]at hm c8 ⊢;omega
  have hvv:=XI (Ze (Zn l)) bs hpm;have e:Zs l=if QM (Ze (Zn l))≠0 then(QE,QM (Ze (Zn l)))else(Ze (Zn l),0):=by simp[Zs,hv,c8]
  rw[e];generalize hL:Zn l=L at *
  match L,hL with
  | [],hL=>
   simp only[Ze,ONE]at hvv;simp only[encTs]at ha hc;by_cases cv:QM (.mk 3 [111,110,101] 0 [])=0
   ·rw[cv]at hvv;simp[F.f196r2,h2,h5,h6,hc,ha,ha1,hvv,cv,QP,Ze,ONE]
   ·simp[F.f196r2,h2,h5,h6,hc,ha,ha1,hvv,cv,QP,QG,Ze,ONE]
  | [p],hL=>
   simp only[Ze]at hvv;by_cases cv:QM p=0
   ·rw[cv]at hvv;simp[F.f196r2,h2,h5,h6,hc,ha,hvv,cv,QP,Ze]
   ·simp[F.f196r2,h2,h5,h6,hc,ha,hvv,cv,QP,QG,Ze]
  | p:: q:: r,hL=>
   simp only[Ze,MUL]at hvv;have c8'': ¬(8:Int) < (r.length:Int)+1+1:=by simpa using c8'
   have n0: ¬(r.length:Int)+1+1=0:=by omega
   have n1: ¬(r.length:Int)+1+1=1:=by omega
   by_cases cv:QM (.mk 3 [109,117,108] 0 (p:: q:: r))=0
   ·rw[cv]at hvv;simp[F.f196r2,h2,h5,h6,hc,ha,hvv,cv,c8'',n0,n1,QP,Ze,MUL]
   ·simp[F.f196r2,h2,h5,h6,hc,ha,hvv,cv,c8'',n0,n1,QP,QG,Ze,MUL]
theorem Qdd (l:List Pw) (bs:List (List AV)) (hv:ZF l=0) (hl:l.length < 5000000) (hk: ∀q∈l,q.1.mass < big) (hm: (∀q∈l,-8≤q.2∧q.2≤8)→massL (Zn l) < big - 100):
  ∀(post pre:List Pw) (ρ:Nat→AV),l=pre ++ post→(∀q∈pre,-8≤q.2∧q.2≤8)→ρ 2= .bx [.int .i64 0,.str [],.int .i64 0,.sl true 4 []]→ρ 5= .sl true 4 (encTs (Y5 pre))→ρ 6= .sl true 4 (encTs (Xj pre))→
   ρ 18= .sl false 5 (QF l)→ρ 19= .int .i64 l.length→ρ 20= .int .i64 pre.length→
  R F.tb (.loop F.f196l2) ρ bs (Qi 0 (Qs F.tb F.f196r2 (Qy F.f196 bs)))=some (QP (Zs l),bs):=by
 intro post
 induction post with
 | nil=>
  intro pre ρ hkk hq h2 h5 h6 h18 h19 h20;simp only[List.append_nil]at hkk;subst hkk;have hr:=Qde l bs hv (by
   have h1:=Is (l:=l) fun q h=>(hq q h).2;have h2:=Ih (l:=l) fun q h=>(hq q h).1;simp only[Zn,List.length_append];omega) (hm hq)
  rw[Qc F.f196l2.eq_1];simp[h18,h19,h20];apply hr <;> simp[h2,h5,h6]
 | cons p post IH=>
  intro pre ρ hkk hq h2 h5 h6 h18 h19 h20;have hg:=Qn hkk;have hll:l.length=pre.length+ (post.length+1):=by rw[hkk];simp
  have hw1:=wr1 pre.length (by omega);have hlt: (pre.length:Int) < (l.length:Int):=by omega
  have hpl:p∈l:=by rw[hkk];simp
  have hmp:=hk p hpl;have hbig: ∀n,n < (Zn l).length→8≤n→Zs l=(QE,3):=by
   intro n h1 h2;have:8 < (Zn l).length:=by omega
   simp[Zs,hv,this]
  rw[Qc F.f196l2.eq_1];by_cases c1:8 < p.2
  ·have h1:=It hpl;have e:=hbig 8 (by simp only[Zn,List.length_append];omega) (by omega);rw[e];simp[h2,h5,h6,h18,h19,h20,hg,hlt,c1,QP,QG]
  ·by_cases c2:p.2 < -8
   ·have h1:=Ii hpl;have e:=hbig 8 (by simp only[Zn,List.length_append];omega) (by omega);rw[e];simp[h2,h5,h6,h18,h19,h20,hg,hlt,c1,c2,QP,QG]
   ·have hN: -8≤p.2∧p.2≤8:=by omega
    have hw:IntKind.i64.wrap (-p.2)= -p.2:=Zd (by omega) (by omega);have hq2: ∀q∈pre ++ [p],-8≤q.2∧q.2≤8:=by
     intro q h;rcases List.mem_append.1 h with h | h
     ·exact hq q h
     ·simp at h;subst h;exact hN
    have h1:=Is (l:=pre) fun q h=>(hq q h).2;have h3:=Ih (l:=pre) fun q h=>(hq q h).1;have ih:=fun ρ=>IH (pre ++ [p]) ρ (by rw[hkk];simp) hq2;simp[h2,h5,h6,h18,h19,h20,hg,hlt,c1,c2];refine Qdb hmp hN _ _ _ p.2.toNat (Y5 pre) 0 _ (by omega) (by omega) ?_ ?_ ?_ ?_ ?_
    ·simp[h5]
    ·simp
    ·simp
    ·simp
    ·intro ρ' g5 gj;have g2:ρ' 2=_:=gj 2 (by omega) (by omega);have g6:ρ' 6=_:=gj 6 (by omega) (by omega);have g8:ρ' 8=_:=gj 8 (by omega) (by omega);have g18:ρ' 18=_:=gj 18 (by omega) (by omega);have g19:ρ' 19=_:=gj 19 (by omega) (by omega);have g20:ρ' 20=_:=gj 20 (by omega) (by omega);simp[h2,h6,h18,h19,h20]at g2 g6 g8 g18 g19 g20;simp[F.f196r0,g8,hw];refine Qdc hmp hN _ _ _ (-p.2).toNat (Xj pre) 0 _ (by omega) (by omega) ?_ ?_ ?_ ?_ ?_
     ·simp[g6]
     ·simp[g8]
     ·simp
     ·simp
     ·intro ρ'' k6 kj;have k2:ρ'' 2=_:=kj 2 (by omega) (by omega);have k5:ρ'' 5=_:=kj 5 (by omega) (by omega);have k18:ρ'' 18=_:=kj 18 (by omega) (by omega);have k19:ρ'' 19=_:=kj 19 (by omega) (by omega);have k20:ρ'' 20=_:=kj 20 (by omega) (by omega);simp[g2,g5,g18,g19,g20]at k2 k5 k18 k19 k20;simp[F.f196r1,k20,hw1];apply ih <;> simp[k2,k5,k6,k18,k19,Ir,Ig]
theorem Qbl (l:List Pw) (o:Bool) (bs:List (List AV)) (hl:l.length < 5000000) (hk: ∀q∈l,q.1.mass < big) (hm: (∀q∈l,-8≤q.2∧q.2≤8)→massL (Zn l) < big - 100):
  call F.tb 196 [.sl o 5 (QF l)] bs=some (QP (Zs l),bs):=by
 have h1:=Mh l false bs (by omega) hk;rw[Qa F.tb_196 _ _ rfl];by_cases hv:ZF l=0
 ·have h:=fun ρ=>Qdd l bs hv hl hk hm l [] ρ rfl (by simp);simp[F.f196C,h1,hv];apply h <;> simp[Y5,Xj,encTs]
 ·have e:Zs l=(QE,ZF l):=by simp[Zs,hv]
  rw[e];simp[F.f196C,h1,hv,QP,QG]
theorem X2 (n:List UInt8) (ks:List Tm) (o:Bool) (bs:List (List AV)) (hl:ks.length < 100000000):call F.tb 120 [.str n,.sl o 4 (encTs ks)] bs=some (.agg (Qb (.mk 3 n 0 ks)),bs):=by
 have hb:ks.length*56≤140737488355328:=ZS (by omega);rw[Qa F.tb_120 _ _ rfl];simp[F.f120C,hb,WF]
theorem R7 {α:Type} (n:Nat) (a b:List α): (a.take n ++ b).take n=(a ++ b).take n:=by
 rw[List.take_append,List.take_append,List.take_take,List.length_take,Nat.min_self];congr 2;omega
theorem QfB {l:List Pw} {p:Pw} {bs:List (List AV)} (hN: -1000≤p.2∧p.2≤1000) (c:AC) (K:Kn) (X:Out): ∀(k:Nat) (acc:List Tm) (i n:Nat) (o:Bool) (ρ:Nat→AV),l[n]? =some p→i+k=p.2.toNat→acc.length≤9→ρ 0= .sl o 5 (QF l)→ρ 3= .sl true 4 (encTs acc)→ρ 4= .int .i64 n→ρ 5= .int .i64 i→
  (∀ρ':Nat→AV,ρ' 0= .sl o 5 (QF l)→ρ' 4= .int .i64 n→ρ' 3= .sl true 4 (encTs ((acc ++ List.replicate k p.1).take 9))→R F.tb c ρ' bs K=X)→
  R F.tb (.loop F.f260l0) ρ bs (Qi 2 (Qi 1 (Qs F.tb c K)))=X:=by
 intro k
 induction k with
 | zero=>
  intro acc i n o ρ hg hi ha h0 h3 h4 h5 h;have hn: ¬(i:Int) < p.2:=by omega
  rw[Qc F.f260l0.eq_1];simp[h0,h3,h4,h5,hg,hn];apply h <;> simp[h0,h3,h4,List.take_of_length_le ha]
 | succ k IH=>
  intro acc i n o ρ hg hi ha h0 h3 h4 h5 h;have hn: (i:Int) < p.2:=by omega
  have hw1:IntKind.i64.wrap ((i:Int)+1)=((i+1:Nat):Int):=by rw[Zd (by omega) (by omega)];omega
  rw[Qc F.f260l0.eq_1];by_cases c9:acc.length < 9
  ·have c9': (acc.length:Int) < 9:=by omega
   have hb: (acc.length+1)*56≤140737488355328:=ZS (by omega);simp[h0,h3,h4,h5,hg,hn,hw1,hb,c9',Zi,Q1];refine IH (acc ++ [p.1]) (i+1) n o _ hg (by omega) (by simp;omega) ?_ ?_ ?_ ?_ ?_
   ·simp[h0]
   ·simp
   ·simp[h4]
   ·simp
   ·intro ρ' g0 g4 g3;rw[On]at g3;exact h ρ' g0 g4 g3
  ·have c9': ¬(acc.length:Int) < 9:=by omega
   have e: (acc ++ List.replicate (k+1) p.1).take 9=acc:=by rw[List.take_append_of_le_length (by omega),List.take_of_length_le ha]
   simp[h0,h3,h4,h5,hg,hn,c9'];apply h <;> simp[h0,h3,h4,e]
theorem QfD {l:List Pw} {p:Pw} {bs:List (List AV)} (hN: -1000≤p.2∧p.2≤1000) (c:AC) (K:Kn) (X:Out): ∀(k:Nat) (acc:List Tm) (i n:Nat) (o:Bool) (ρ:Nat→AV),l[n]? =some p→i+k=(-p.2).toNat→acc.length≤9→ρ 0= .sl o 5 (QF l)→ρ 3= .sl true 4 (encTs acc)→ρ 6= .int .i64 n→ρ 7= .int .i64 i→
  (∀ρ':Nat→AV,ρ' 0= .sl o 5 (QF l)→ρ' 6= .int .i64 n→ρ' 3= .sl true 4 (encTs ((acc ++ List.replicate k (Vd p.1)).take 9))→R F.tb c ρ' bs K=X)→
  R F.tb (.loop F.f260l2) ρ bs (Qi 6 (Qi 5 (Qs F.tb c K)))=X:=by
 have hw:IntKind.i64.wrap (-p.2)= -p.2:=Zd (by omega) (by omega);intro k
 induction k with
 | zero=>
  intro acc i n o ρ hg hi ha h0 h3 h4 h5 h;have hn: ¬(i:Int) < -p.2:=by omega
  rw[Qc F.f260l2.eq_1];simp[h0,h3,h4,h5,hg,hw,hn];apply h <;> simp[h0,h3,h4,List.take_of_length_le ha]
 | succ k IH=>
  intro acc i n o ρ hg hi ha h0 h3 h4 h5 h;have hn: (i:Int) < -p.2:=by omega
  have hw1:IntKind.i64.wrap ((i:Int)+1)=((i+1:Nat):Int):=by rw[Zd (by omega) (by omega)];omega
  rw[Qc F.f260l2.eq_1];by_cases c9:acc.length < 9
  ·have c9': (acc.length:Int) < 9:=by omega
   have hb: (acc.length+1)*56≤140737488355328:=ZS (by omega);have hc2:=X2 INV [p.1] false bs (by simp);simp only[INV]at hc2;simp[h0,h3,h4,h5,hg,hw,hn,hw1,hb,hc2,c9',Zi];rw[show Qb (Tm.mk 3 [105,110,118] 0 [p.1])=Qb (Vd p.1)from rfl];simp[Zi,Q1];refine IH (acc ++ [Vd p.1]) (i+1) n o _ hg (by omega) (by simp;omega) ?_ ?_ ?_ ?_ ?_
   ·simp[h0]
   ·simp[Vd,INV]
   ·simp[h4]
   ·simp
   ·intro ρ' g0 g4 g3;rw[On]at g3;exact h ρ' g0 g4 g3
  ·have c9': ¬(acc.length:Int) < 9:=by omega
   have e: (acc ++ List.replicate (k+1) (Vd p.1)).take 9=acc:=by rw[List.take_append_of_le_length (by omega),List.take_of_length_le ha]
   simp[h0,h3,h4,h5,hg,hw,hn,c9'];apply h <;> simp[h0,h3,h4,e]
theorem QfE (l:List Pw) (bs:List (List AV)) (hl:l.length < 5000000) (hN: ∀q∈l,-1000≤q.2∧q.2≤1000):
  ∀(post pre:List Pw) (o:Bool) (ρ:Nat→AV),l=pre ++ post→ρ 0= .sl o 5 (QF l)→ρ 3= .sl true 4 (encTs ((Y5 l ++ Xj pre).take 9))→ρ 6= .int .i64 pre.length→
  R F.tb (.loop F.f260l3) ρ bs (Qi 4 (Qs F.tb F.f260r2 (Qy F.f260 bs)))=some (.sl false 4 (encTs ((Zn l).take 9)),bs):=by
 intro post
 induction post with
 | nil=>
  intro pre o ρ hk h0 h3 h6;simp only[List.append_nil]at hk;subst hk;rw[Qc F.f260l3.eq_1];simp[h0,h3,h6,F.f260r2,Zn]
 | cons p post IH=>
  intro pre o ρ hk h0 h3 h6;have hg:=Qn hk;have hll:=Qv hk;have hw1:=wr1 pre.length (by omega);have hlt:=Qw hk;have ih:=fun ρ=>IH (pre ++ [p]) o ρ (by rw[hk];simp);have hpN:=hN p (by rw[hk];simp);rw[Qc F.f260l3.eq_1];simp[h0,h3,h6,hlt];refine QfD hpN _ _ _ (-p.2).toNat ((Y5 l ++ Xj pre).take 9) 0 pre.length o _ hg (by omega) (by rw[List.length_take];omega) ?_ ?_ ?_ ?_ ?_
  ·simp[h0]
  ·simp[h3]
  ·simp[h6]
  ·simp
  ·intro ρ' g0 g6 g3;rw[R7,List.append_assoc,← Ig]at g3;simp[F.f260r1,g6,hw1];apply ih <;> simp[g0,g3]
theorem QfC (l:List Pw) (bs:List (List AV)) (hl:l.length < 5000000) (hN: ∀q∈l,-1000≤q.2∧q.2≤1000):
  ∀(post pre:List Pw) (o:Bool) (ρ:Nat→AV),l=pre ++ post→ρ 0= .sl o 5 (QF l)→ρ 3= .sl true 4 (encTs ((Y5 pre).take 9))→ρ 4= .int .i64 pre.length→
  R F.tb (.loop F.f260l1) ρ bs (Qi 0 (Qs F.tb F.f260r3 (Qy F.f260 bs)))=some (.sl false 4 (encTs ((Zn l).take 9)),bs):=by
 intro post
 induction post with
 | nil=>
  intro pre o ρ hk h0 h3 h4;simp only[List.append_nil]at hk;subst hk;have h:=fun ρ=>QfE l bs hl hN l [] o ρ rfl;rw[Qc F.f260l1.eq_1];simp[h0,h3,h4,F.f260r3];apply h <;> simp[h0,h3,Xj]
 | cons p post IH=>
  intro pre o ρ hk h0 h3 h4;have hg:=Qn hk;have hll:=Qv hk;have hw1:=wr1 pre.length (by omega);have hlt:=Qw hk;have ih:=fun ρ=>IH (pre ++ [p]) o ρ (by rw[hk];simp);have hpN:=hN p (by rw[hk];simp);rw[Qc F.f260l1.eq_1];simp[h0,h3,h4,hlt];refine QfB hpN _ _ _ p.2.toNat ((Y5 pre).take 9) 0 pre.length o _ hg (by omega) (by rw[List.length_take];omega) ?_ ?_ ?_ ?_ ?_
  ·simp[h0]
  ·simp[h3]
  ·simp[h4]
  ·simp
  ·intro ρ' g0 g4 g3;rw[R7,← Ir]at g3;simp[F.f260r0,g4,hw1];apply ih <;> simp[g0,g3]
theorem QbB (l:List Pw) (o:Bool) (bs:List (List AV)) (hl:l.length < 5000000) (hN: ∀q∈l,-1000≤q.2∧q.2≤1000):
  call F.tb 260 [.sl o 5 (QF l)] bs=some (.sl false 4 (encTs ((Zn l).take 9)),bs):=by
 have h:=fun ρ=>QfC l bs hl hN l [] false ρ rfl;rw[Qa F.tb_260 _ _ rfl];simp[F.f260C];apply h <;> simp[Y5,encTs]
theorem QbA (l:List Pw) (o:Bool) (bs:List (List AV)) (hl:l.length < 5000000) (hk: ∀q∈l,q.1.mass < big) (hm: (∀q∈l,-8≤q.2∧q.2≤8)→massL (Zn l) < big - 100):
  call F.tb 258 [.sl o 5 (QF l)] bs=some (QP (Zs l),bs):=by
 have h1:=Mk l false bs (by omega) hk;rw[Qa F.tb_258 _ _ rfl];by_cases hv:ZF l=0
 ·obtain⟨hinv,_,_⟩:=VO hv hk;have h2:=QbB l false bs hl fun q hq=>(hinv.bd q hq).2;by_cases c8:8 < (Zn l).length
  ·have c8': (8:Int) < ((min 9 (Zn l).length:Nat):Int):=by omega
   have e:Zs l=(QE,3):=by simp[Zs,hv,c8]
   rw[e];simp[F.f258C,h1,hv,h2,c8',QP,QG]
  ·have hN8: ∀q∈l,-8≤q.2∧q.2≤8:=by
    intro q hq;have h3:=It hq;have h4:=Ii hq;simp only[Zn,List.length_append]at c8;omega
   have hm':=hm hN8;have hpm: (Ze (Zn l)).mass < big:=by
    unfold big at *
    match h:Zn l with
    | []=>simp[Ze,Qu,massL,ONE]
    | [p]=>rw[h]at hm';simp[Ze,massL]at hm' ⊢;omega
    | p:: q:: r=>rw[h]at hm' c8;simp[Ze,Qu,massL,MUL]at hm' c8 ⊢;omega
   have hvv:=YY (Ze (Zn l)) bs hpm;have e:Zs l=if QM (Ze (Zn l))≠0 then(QE,QM (Ze (Zn l)))else(Ze (Zn l),0):=by simp[Zs,hv,c8]
   rw[e];rw[List.take_of_length_le (by omega)]at h2;have ha:=X2 MUL (Zn l) false bs (by omega);have ha1:=X2 ONE [] true bs (by simp);simp only[MUL]at ha;simp only[ONE,encTs]at ha1;have c8': ¬(8:Int) < ((Zn l).length:Int):=by omega
   generalize hL:Zn l=L at *
   match L,hL with
   | [],hL=>
    simp only[Ze,ONE]at hvv;simp only[encTs]at ha h2;by_cases cv:QM (.mk 3 [111,110,101] 0 [])=0
    ·rw[cv]at hvv;simp[F.f258C,h1,hv,h2,ha,ha1,hvv,cv,QP,Ze,ONE]
    ·simp[F.f258C,h1,hv,h2,ha,ha1,hvv,cv,QP,QG,Ze,ONE]
   | [p],hL=>
    simp only[Ze]at hvv;by_cases cv:QM p=0
    ·rw[cv]at hvv;simp[F.f258C,h1,hv,h2,ha,hvv,cv,QP,Ze]
    ·simp[F.f258C,h1,hv,h2,ha,hvv,cv,QP,QG,Ze]
   | p:: q:: r,hL=>
    simp only[Ze,MUL]at hvv;have c8'': ¬(8:Int) < (r.length:Int)+1+1:=by simpa using c8'
    have n0: ¬(r.length:Int)+1+1=0:=by omega
    have n1: ¬(r.length:Int)+1+1=1:=by omega
    by_cases cv:QM (.mk 3 [109,117,108] 0 (p:: q:: r))=0
    ·rw[cv]at hvv;simp[F.f258C,h1,hv,h2,ha,hvv,cv,c8'',n0,n1,QP,Ze,MUL]
    ·simp[F.f258C,h1,hv,h2,ha,hvv,cv,c8'',n0,n1,QP,QG,Ze,MUL]
 ·have e:Zs l=(QE,ZF l):=by simp[Zs,hv]
  rw[e];simp[F.f258C,h1,hv,QP,QG]
theorem Y3:QF []=[]:=rfl
def YN (a:List Pw):List Pw→List Pw
 | []=>a
 | q:: b=>YN (Z1 a q.1 q.2) b
def ZL (l:List Pw):Int:=if l.any (fun q=>Yp q.2)then 7 else if 200 < l.length then 3 else 0
def XE (a b:List Pw):Int:=if ZF a≠0 then ZF a else if ZF b≠0 then ZF b else ZL (YN a b)
def Xd (a b:List Pw):List Pw:=if XE a b=0 then YN a b else []
theorem FP (l:List Pw) (bs:List (List AV)) (hl:l.length < 100000000):
  ∀(post pre:List Pw) (o:Bool) (ρ:Nat→AV),l=pre ++ post→pre.any (fun q=>Yp q.2)=false→ρ 0= .sl o 5 (QF l)→ρ 3= .int .i64 pre.length→
  R F.tb (.loop F.f263l0) ρ bs (Qi 0 (Qs F.tb F.f263r0 (Qy F.f263 bs)))=some (.int .i64 (ZL l),bs):=by
 intro post
 induction post with
 | nil=>
  intro pre o ρ hk hp h0 h3;simp only[List.append_nil]at hk;rw[← hk]at h3 hp;rw[Qc F.f263l0.eq_1];by_cases c:200 < l.length
  ·have c': (200:Int) < (l.length:Int):=by omega
   simp[h0,h3,F.f263r0,ZL,hp,c,c',-List.any_eq_false,-List.any_eq_true]
  ·have c': ¬(200:Int) < (l.length:Int):=by omega
   simp[h0,h3,F.f263r0,ZL,hp,c,c',-List.any_eq_false,-List.any_eq_true]
 | cons p post IH=>
  intro pre o ρ hk hp h0 h3;have hg:=Qn hk;have hll:=Qv hk;have hw1:=wr1 pre.length (by omega);have hlt:=Qw hk;have hany:Yp p.2=true→ZL l=7:=by
   intro h;have:l.any (fun q=>Yp q.2)=true:=List.any_eq_true.2 ⟨p,by rw[hk];simp,h⟩;simp only[ZL,this,if_true]
  rw[Qc F.f263l0.eq_1];by_cases c4:p.2 < -1000
  ·rw[hany (by simp[Yp,c4])];simp[h0,h3,hg,hlt,c4]
  ·by_cases c5:1000 < p.2
   ·rw[hany (by simp[Yp,c5])];simp[h0,h3,hg,hlt,c4,c5]
   ·have ih:=fun ρ=>IH (pre ++ [p]) o ρ (by rw[hk];simp) (by rw[List.any_append,hp];simp[Yp,c4,c5]);simp[h0,h3,hg,hlt,hw1,c4,c5];apply ih <;> simp[h0]
theorem QbE (l:List Pw) (o:Bool) (bs:List (List AV)) (hl:l.length < 100000000):call F.tb 263 [.sl o 5 (QF l)] bs=some (.int .i64 (ZL l),bs):=by
 have h:=fun ρ=>FP l bs hl l [] false ρ rfl rfl;rw[Qa F.tb_263 _ _ rfl];simp[F.f263C];apply h <;> simp
theorem D5 (b:List Pw) (bs:List (List AV)) (hb:b.length≤200) (hbm: ∀q∈b,q.1.mass < big∧q.2≠0∧ -1000≤q.2∧q.2≤1000) (X:List Pw):
  ∀(post pre:List Pw) (acc:List Pw) (n:Nat) (o o2:Bool) (ρ:Nat→AV),b=pre ++ post→XC acc n→n+1000*post.length < 40000000→YN acc post=X→ρ 1= .sl o 5 (QF b)→ρ 8= .sl o2 5 (QF acc)→ρ 9= .int .i64 pre.length→
  R F.tb (.loop F.f262l0) ρ bs (Qi 0 (Qs F.tb F.f262r0 (Qy F.f262 bs)))=some (.tup [.sl false 5 (QF (if ZL X=0 then X else [])),.int .i64 (ZL X)],bs):=by
 intro post
 induction post with
 | nil=>
  intro pre acc n o o2 ρ hk ha hn hX h1 h8 h9;simp only[List.append_nil]at hk;rw[← hk]at h9;simp only[YN]at hX;subst hX;have hal:=ha.len;have hr:=QbE acc false bs (by simp at hn;omega);rw[Qc F.f262l0.eq_1];by_cases c:ZL acc=0
  ·simp[h1,h8,h9,F.f262r0,hr,c]
  ·simp[h1,h8,h9,F.f262r0,hr,c,Y3]
 | cons p post IH=>
  intro pre acc n o o2 ρ hk ha hn hX h1 h8 h9;have hg:=Qn hk;have hll:=Qv hk;have hw1:=wr1 pre.length (by omega);have hlt:=Qw hk;obtain⟨q1,q2,q3,q4⟩:=hbm p (by rw[hk];simp);simp only[List.length_cons]at hn;have hc:=HQ (m:=p.2) false bs ha (by omega) q1 (by omega);have ih:=fun ρ=>IH (pre ++ [p]) (Z1 acc p.1 p.2) (n+1000) o false ρ (by rw[hk];simp) (ha.add (c:=1000) q1 q2 (by omega) (by omega)) (by omega) (by rw[← hX];rfl);rw[Qc F.f262l0.eq_1];simp[h1,h8,h9,hg,hlt,hw1,hc];apply ih <;> simp[h1]
theorem QbD (a b:List Pw) (o o2:Bool) (bs:List (List AV)) (ha:a.length < 100000000) (hb:b.length < 100000000) (hma: ∀q∈a,q.1.mass < big) (hmb: ∀q∈b,q.1.mass < big):
  call F.tb 262 [.sl o 5 (QF a),.sl o2 5 (QF b)] bs=some (.tup [.sl false 5 (QF (Xd a b)),.int .i64 (XE a b)],bs):=by
 have h1:=Mk a false bs ha hma;have h2:=Mk b false bs hb hmb;rw[Qa F.tb_262 _ _ rfl];by_cases va:ZF a=0
 ·by_cases vb:ZF b=0
  ·obtain⟨ia,la,_⟩:=VO va hma;obtain⟨ib,lb,_⟩:=VO vb hmb;have h3:=fun ρ=>D5 b bs lb (fun q hq=>by obtain⟨x1,x2,x3⟩:=ib.bd q hq;exact⟨x1,ib.nz q hq,x2,x3⟩) _ b [] a 1000 false true ρ rfl ia (by omega) rfl;have e1:XE a b=ZL (YN a b):=by simp[XE,va,vb]
   have e2:Xd a b=if ZL (YN a b)=0 then YN a b else []:=by simp[Xd,e1]
   have hb64:a.length*64≤140737488355328:=Ol (by omega);rw[e1,e2];simp[F.f262C,h1,h2,va,vb,hb64];apply h3 <;> simp
  ·have e1:XE a b=ZF b:=by simp[XE,va,vb]
   have e2:Xd a b=[]:=by simp[Xd,e1,vb]
   rw[e1,e2];simp[F.f262C,h1,h2,va,vb,Y3]
 ·have e1:XE a b=ZF a:=by simp[XE,va]
  have e2:Xd a b=[]:=by simp[Xd,e1,va]
  rw[e1,e2];simp[F.f262C,h1,va,Y3]
theorem QfF {B0 B:List (List AV)} {v:AV} {l:List Pw} (p:Pw) (o:Bool) (h:PS B0 B v l) (hl:l.length < 50000000): ∃v' B',appM 64 5 v (.sl o 5 [QX p]) B=some (v',B')∧PS B0 B' v' (l ++ [p]):=by
 obtain⟨M,id,sz,rfl,rfl,hc⟩:=h;have hb: (l.length+1)*64≤140737488355328:=Ol (by omega);have hs:XS 5 (.sl o 5 [QX p]) (B0 ++ M)=some (1,QX p):=by simp[XS]
 rcases hc with⟨rfl,rfl,rfl⟩ | ⟨rfl,hid,t,hbx,hne⟩
 ·refine⟨.gs (B0 ++ M).length 0 5 1,B0 ++ (M ++ [QX p]),?_,M ++ [QX p],(B0 ++ M).length,5,rfl,rfl,.inr ⟨rfl,by simp,[],?_,?_⟩⟩
  ·simp[appM,hs]
  ·rw[← List.append_assoc,List.getElem?_concat_length];simp[QI,ZD]
  ·simp[QI,ZD,Gc]
 ·have hlt:=XK hbx;have hr:=YF l;have hle:l.length*5≤(QI l ++ t).length:=by rw[List.length_append,hr];omega
  have hrow:QI (l ++ [p])=QI l ++ QX p:=by simp[QI,XF,UN]
  have htk: (QI l ++ t).take (l.length*5)=QI l:=by rw[← hr,List.take_left]
  have hne2: ∀x:List AV,QI l ++ (QX p ++ x)≠[]:=fun x e=>by
   have:=congrArg List.length e;simp at this
  by_cases hroom: (l.length+1)*5≤(QI l ++ t).length
  ·refine⟨.gs id 0 5 (l.length+1),(B0 ++ M).set id (QI l ++ (QX p ++ (QI l ++ t).drop (l.length*5+5))),?_,_,id,5,YH hid _,by simp,.inr ⟨rfl,hid,(QI l ++ t).drop (l.length*5+5),?_,?_⟩⟩
   ·simp only[appM,hs,Option.bind_some];rw[if_pos ⟨by omega,hb⟩,if_neg (by omega),if_neg (by omega),if_pos ⟨trivial,trivial⟩,hbx];simp only[Option.bind_some];rw[if_pos ⟨hne,hle⟩,if_pos hroom];simp only[put,htk,XU];simp
   ·have:id < (B0 ++ M).length:=hlt;rw[List.getElem?_set,if_pos rfl,if_pos this,hrow];simp
   ·rw[hrow,List.append_assoc];exact hne2 _
  ·refine⟨.gs (B0 ++ M).length 0 5 (l.length+1),(B0 ++ M).set id []++ [QI l ++ QX p],?_,M.set (id - B0.length) []++ [QI l ++ QX p],(B0 ++ M).length,5,?_,by simp,.inr ⟨rfl,by simp,[],?_,?_⟩⟩
   ·have hst: (QI l).map AV.strip=QI l:=ZV Wh l;simp only[appM,hs,Option.bind_some];rw[if_pos ⟨by omega,hb⟩,if_neg (by omega),if_neg (by omega),if_pos ⟨trivial,trivial⟩,hbx];simp only[Option.bind_some];rw[if_pos ⟨hne,hle⟩,if_neg hroom,htk,hst]
   ·rw[YH hid,List.append_assoc]
   ·have e: (B0 ++ M).length=((B0 ++ M).set id []).length:=by simp
    rw[hrow,List.append_nil,e,List.getElem?_concat_length]
   ·rw[hrow,List.append_nil];have:=hne2 [];simpa using this
theorem Hb (l:List Pw) (B0 K:List (List AV)) (hl:l.length < 40000000) (hm: ∀q∈l,q.1.mass < big):
  ∀(post pre:List Pw) (B:List (List AV)) (v:AV) (ρ:Nat→AV),l=pre ++ post→PS B0 B v pre→ρ 3=v→ρ 6= .sl false 5 (QF l)→ρ 7= .int .i64 l.length→ρ 8= .int .i64 pre.length→
  BI B0 l (R F.tb (.loop F.f201l0) ρ B (Qi 0 (Qs F.tb F.f201r0 (Qy F.f201 K)))):=by
 intro post
 induction post with
 | nil=>
  intro pre B v ρ hk hps h3 h6 h7 h8;simp only[List.append_nil]at hk;subst hk;obtain⟨id,sz,rfl⟩:=Wl hps;rw[Qc F.f201l0.eq_1];refine⟨_,B,?_,hps⟩;simp[h3,h6,h7,h8,F.f201r0]
 | cons p post IH=>
  intro pre B v ρ hk hps h3 h6 h7 h8;have hg:=Qn hk;have hll:=Qv hk;have hw1:=wr1 pre.length (by omega);have hlt:=Qw hk;have hc:=V4 p.1 B (hm p (by rw[hk];simp));obtain⟨v2,B2,ha,hps2⟩:=QfF p false hps (by omega);have ih:=fun ρ=>IH (pre ++ [p]) B2 v2 ρ (by rw[hk];simp) hps2;obtain⟨id,sz,rfl⟩:=Wl hps;obtain⟨id2,sz2,rfl⟩:=Wl hps2;have hf:Qb p.1 ++ [.int .i64 p.2]=QX p:=rfl;rw[Qc F.f201l0.eq_1];simp[h3,h6,h7,h8,hg,hlt,hw1,hc,List.take_append,List.drop_append,hf,ha];apply ih <;> simp[h6,h7]
theorem Qbo (l:List Pw) (o:Bool) (B0:List (List AV)) (hl:l.length < 40000000) (hm: ∀q∈l,q.1.mass < big):BI B0 l (call F.tb 201 [.sl o 5 (QF l)] B0):=by
 have h:=fun ρ=>Hb l B0 B0 hl hm l [] B0 _ ρ rfl (CW B0);rw[Qa F.tb_201 _ _ rfl];simp[F.f201C];apply h <;> simp
theorem Qbq (p:Pw) (B:List (List AV)):call F.tb 203 [.agg (QX p)] B=some (.bool (Yp p.2),B):=by
 rw[Qa F.tb_203 _ _ rfl];by_cases c4:p.2 < -1000
 ·simp[F.f203C,Yp,c4]
 ·by_cases c5:1000 < p.2
  ·simp[F.f203C,Yp,c4,c5]
  ·simp[F.f203C,Yp,c4,c5]
def Ma (b:Bool) (B:List (List AV)) (r:Out):Prop:=∃i:Int,r=some (.int .i64 i,B)∧(0≤i↔b=true)
theorem QcA {B0 B:List (List AV)} {v:AV} {l:List Pw} (h:PS B0 B v l) (hl:l.length < 100000000):
  ∀(post pre:List Pw) (ρ:Nat→AV),l=pre ++ post→pre.any (fun q=>Yp q.2)=false→ρ 0=v→ρ 1= .fn 203 []→ρ 7= .int .i64 l.length→ρ 8= .int .i64 pre.length→
  Ma (l.any fun q=>Yp q.2) B (R F.tb (.loop F.f205l0) ρ B (Qi 0 (Qs F.tb F.f205r0 (Qy F.f205 B)))):=by
 obtain⟨M,id,sz,rfl,rfl,hc⟩:=h;have htk: (B0 ++ M).take (B0.length+M.length)=B0 ++ M:=List.take_of_length_le (by simp);intro post
 induction post with
 | nil=>
  intro pre ρ hk hp h0 h1 h7 h8;simp only[List.append_nil]at hk;rw[← hk]at h8 hp;rw[Qc F.f205l0.eq_1];refine⟨-1,?_,by rw[hp];simp⟩;simp[h0,h1,h7,h8,F.f205r0,htk]
 | cons p post IH=>
  intro pre ρ hk hp h0 h1 h7 h8;have hg:=Qn hk;have hll:=Qv hk;have hw1:=wr1 pre.length (by omega);have hlt:=Qw hk;have hlt':pre.length < l.length:=by omega
  rcases hc with⟨rfl,rfl,rfl⟩ | ⟨rfl,hid,t,hbx,hne⟩
  ·simp at hlt'
  have r1:=My (l:=l) (PR hg t);have hle:pre.length*5+5≤(QI l ++ t).length:=by rw[List.length_append,YF];omega
  have hcall:=Qbq p (B0 ++ M);have ih:=fun ρ hpp=>IH (pre ++ [p]) ρ (by rw[hk];simp) hpp;generalize QI l ++ t=c at *;rw[Qc F.f205l0.eq_1];cases ho:Yp p.2
  ·have ih2:=fun ρ=>ih ρ (by rw[List.any_append,hp];simp[ho]);simp[-getElem?_pos,h0,h1,h7,h8,hlt,hlt',hw1,hbx,hle,r1,hcall,ho,-List.any_eq_false,-List.any_eq_true];apply ih2 <;> simp[h0,h1,h7]
  ·have hany:l.any (fun q=>Yp q.2)=true:=List.any_eq_true.2 ⟨p,by rw[hk];simp,ho⟩;refine⟨pre.length,?_,by rw[hany];simp⟩;simp[-getElem?_pos,h0,h1,h7,h8,hlt,hlt',hbx,hle,r1,hcall,ho,htk]
theorem Qbr {B0 B:List (List AV)} {v:AV} {l:List Pw} (h:PS B0 B v l) (hl:l.length < 100000000):call F.tb 204 [v,.fn 203 []] B=some (.bool (l.any fun q=>Yp q.2),B):=by
 have h1:=fun ρ=>QcA h hl l [] ρ rfl rfl;obtain⟨id,sz,rfl⟩:=Wl h;have h2:Ma (l.any fun q=>Yp q.2) B (call F.tb 205 [.gs id 0 sz l.length,.fn 203 []] B):=by
  rw[Qa F.tb_205 _ _ rfl];simp[F.f205C,-List.any_eq_false,-List.any_eq_true];apply h1 <;> simp
 obtain⟨i,hi,hb⟩:=h2;rw[Qa F.tb_204 _ _ rfl];simp[F.f204C,hi,-List.any_eq_false,-List.any_eq_true];cases hx:l.any fun q=>Yp q.2
 ·rw[hx]at hb;simp at hb;simpa using hb
 ·rw[hx]at hb;simp at hb;simpa using hb
theorem QcV {B0 B:List (List AV)} {v:AV} {l:List Pw} (h:PS B0 B v l) (n:Nat): ∃o M2,(B0 ++ M2).length=B.length∧YB B (B0 ++ M2)=true∧∀ρ:Nat→AV,ρ n=v→ZY {env:=ρ,bs:=B} n 5=some (.sl o 5 (QF l),{env:=upd ρ n .undef,bs:=B0 ++ M2}):=by
 obtain⟨M,id,sz,rfl,rfl,hc⟩:=h;rcases hc with⟨rfl,rfl,rfl⟩ | ⟨rfl,hid,t,hb,hne⟩
 ·exact⟨true,M,rfl,Tj _,fun ρ hn=>by simp[ZY,hn,QF]⟩
 ·by_cases hl:l.length=0
  ·have:l=[]:=List.eq_nil_of_length_eq_zero hl;subst this;exact⟨false,M,rfl,Tj _,fun ρ hn=>by simp[ZY,hn,QF]⟩
  ·refine⟨true,M.set (id - B0.length) [],by simp,by rw[← YH hid];exact JN _ _,fun ρ hn=> ?_⟩;have hle:0+l.length*5≤(QI l ++ t).length:=by rw[List.length_append,YF];omega
   have hch:ZE (QI l ++ t) 0 5 l.length=QF l:=YX (f:=QX) (k:=5) XU Wh l t;simp only[ZY,hn];rw[if_pos ⟨trivial,by omega⟩,if_neg hl,hb];simp only[Option.bind_some];rw[if_pos hle,hch,YH hid];rfl
def QfZ (B0:List (List AV)) (l:List Pw) (r:Out):Prop:=∃M,r=some (.tup [.sl false 5 (QF (if ZL l=0 then l else [])),.int .i64 (ZL l)],B0 ++ M)
theorem Qbp {B0 B:List (List AV)} {v:AV} {l:List Pw} (h:PS B0 B v l) (hl:l.length < 100000000):QfZ B0 l (call F.tb 202 [v] B):=by
 have h1:=Qbr h hl;obtain⟨o,M2,hlen,hchk,hf⟩:=QcV h 9;obtain⟨M,hM⟩: ∃M,B=B0 ++ M:=by obtain⟨M,_,_,h,_⟩:=h;exact⟨M,h⟩
 subst hM;have htk: (B0 ++ M2).take (B0.length+M.length)=B0 ++ M2:=List.take_of_length_le (by rw[hlen];simp);have htk0: (B0 ++ M).take (B0.length+M.length)=B0 ++ M:=List.take_of_length_le (by simp);have hgp:=OY l;obtain⟨id,sz,rfl⟩:=Wl h;rw[Qa F.tb_202 _ _ rfl];cases ha:l.any fun q=>Yp q.2
 ·rw[ha]at h1;by_cases c:200 < l.length
  ·have c': (200:Int) < (l.length:Int):=by omega
   have e:ZL l=3:=by simp only[ZL,ha,c,if_true];rfl
   refine⟨M,?_⟩;rw[e];simp[F.f202C,h1,c',Y3,htk0]
  ·have c': ¬(200:Int) < (l.length:Int):=by omega
   have e:ZL l=0:=by simp only[ZL,ha,c,if_false];rfl
   refine⟨M2,?_⟩;rw[e];simp[F.f202C,h1,c',hf,htk,hchk]
 ·rw[ha]at h1;have e:ZL l=7:=by simp only[ZL,ha,if_true]
  refine⟨M,?_⟩;rw[e];simp[F.f202C,h1,Y3,htk0]
theorem AG (b:List Pw) (B0:List (List AV)) (hb:b.length≤200) (hbm: ∀q∈b,q.1.mass < big∧q.2≠0∧ -1000≤q.2∧q.2≤1000) (X:List Pw):
  ∀(post pre:List Pw) (acc:List Pw) (n:Nat) (B:List (List AV)) (v:AV) (ρ:Nat→AV),b=pre ++ post→PS B0 B v acc→XC acc n→n+1000*post.length < 40000000→YN acc post=X→ρ 8=v→ρ 23= .sl false 5 (QF b)→ρ 24= .int .i64 b.length→ρ 25= .int .i64 pre.length→
  R F.tb (.loop F.f200l0) ρ B (Qi 0 (Qs F.tb F.f200r0 (Qy F.f200 B0)))=some (.tup [.sl false 5 (QF (if ZL X=0 then X else [])),.int .i64 (ZL X)],B0):=by
 intro post
 induction post with
 | nil=>
  intro pre acc n B v ρ hk hps ha hn hX h8 h23 h24 h25;simp only[List.append_nil]at hk;rw[← hk]at h25;simp only[YN]at hX;subst hX;have hal:=ha.len;obtain⟨M,hr⟩:=Qbp hps (by simp at hn;omega);obtain⟨id,sz,rfl⟩:=Wl hps;rw[Qc F.f200l0.eq_1];generalize (if ZL acc=0 then acc else [])=X at *;simp[h8,h23,h24,h25,F.f200r0,hr]
 | cons p post IH=>
  intro pre acc n B v ρ hk hps ha hn hX h8 h23 h24 h25;have hg:=Qn hk;have hll:=Qv hk;have hw1:=wr1 pre.length (by omega);have hlt:=Qw hk;obtain⟨q1,q2,q3,q4⟩:=hbm p (by rw[hk];simp);simp only[List.length_cons]at hn;have hal:=ha.len;obtain⟨v2,B2,hc,hps2⟩:=HN (p:=p) hps (by omega) (fun q hq=>by obtain⟨a1,a2,a3⟩:=ha.bd q hq;exact⟨a1,by omega,by omega⟩) q1 (by omega) ha.asc;have ih:=fun ρ=>IH (pre ++ [p]) (Z1 acc p.1 p.2) (n+1000) B2 v2 ρ (by rw[hk];simp) hps2 (ha.add (c:=1000) q1 q2 (by omega) (by omega)) (by omega) (by rw[← hX];rfl);obtain⟨id,sz,rfl⟩:=Wl hps;obtain⟨id2,sz2,rfl⟩:=Wl hps2;rw[Qc F.f200l0.eq_1];simp[h8,h23,h24,h25,hg,hlt,hw1,hc];apply ih <;> simp[h23,h24]
theorem Qbn (a b:List Pw) (o o2:Bool) (bs:List (List AV)) (ha:a.length < 100000000) (hb:b.length < 100000000) (hma: ∀q∈a,q.1.mass < big) (hmb: ∀q∈b,q.1.mass < big):
  call F.tb 200 [.sl o 5 (QF a),.sl o2 5 (QF b)] bs=some (.tup [.sl false 5 (QF (Xd a b)),.int .i64 (XE a b)],bs):=by
 have h1:=Mh a false bs ha hma;have h2:=Mh b false bs hb hmb;rw[Qa F.tb_200 _ _ rfl];by_cases va:ZF a=0
 ·by_cases vb:ZF b=0
  ·obtain⟨ia,la,_⟩:=VO va hma;obtain⟨ib,lb,_⟩:=VO vb hmb;obtain⟨v,B,hc,hps⟩:=Qbo a false bs (by omega) hma;have h3:=fun ρ=>AG b bs lb (fun q hq=>by obtain⟨x1,x2,x3⟩:=ib.bd q hq;exact⟨x1,ib.nz q hq,x2,x3⟩) _ b [] a 1000 B v ρ rfl hps ia (by omega) rfl;obtain⟨id,sz,rfl⟩:=Wl hps;have e1:XE a b=ZL (YN a b):=by simp[XE,va,vb]
   have e2:Xd a b=if ZL (YN a b)=0 then YN a b else []:=by simp[Xd,e1]
   rw[e1,e2];simp[F.f200C,h1,h2,va,vb,hc];apply h3 <;> simp
  ·have e1:XE a b=ZF b:=by simp[XE,va,vb]
   have e2:Xd a b=[]:=by simp[Xd,e1,vb]
   rw[e1,e2];simp[F.f200C,h1,h2,va,vb,Y3]
 ·have e1:XE a b=ZF a:=by simp[XE,va]
  have e2:Xd a b=[]:=by simp[Xd,e1,va]
  rw[e1,e2];simp[F.f200C,h1,va,Y3]
@[simp] theorem Qg5 (x y:Tm) (a:List Tm) (h:1 < (encTs (x:: y:: a)).length): (encTs (x:: y:: a))[1]=Qb y:=by simp[encTs]
def Z8:List UInt8:=[112,97,105,114]
def ENC:List UInt8:=[101,110,99]
def Xr:List UInt8:=[97,101,110,99]
def PK:List UInt8:=[112,107]
def Z9:List UInt8:=[115,105,103,110]
def EXP:List UInt8:=[101,120,112]
def FST:List UInt8:=[102,115,116]
def SND:List UInt8:=[115,110,100]
def DEC:List UInt8:=[100,101,99]
def Zk:List UInt8:=[97,100,101,99]
def Zy:List UInt8:=[111,112,101,110]
def READ:List UInt8:=[114,101,97,100]
def ZB (n:List UInt8) (m:Nat):Bool:=
 if n=Z8∨n=ENC∨n=Xr∨n=Z9∨n=EXP∨n=DEC∨n=Zk∨n=Zy then decide (m=2)
 else if n=PK∨n=FST∨n=SND∨n=READ then decide (m=1)else true
mutual
def QS:Tm→Bool
 | .mk k n s ks=>(!(k == 3) || ((s == 0) && ZB n ks.length)) && goodL ks
def goodL:List Tm→Bool
 | []=>true
 | t:: ts=>QS t && goodL ts
end
theorem JW (t:Tm):QS t=((!(t.kind == 3) || ((t.sort == 0) && ZB t.name t.kids.length)) && goodL t.kids):=by cases t;simp[QS]
theorem Yt: ∀{l:List Tm},goodL l=true↔∀x∈l,QS x=true
 | []=>by simp[goodL]
 | t:: ts=>by simp[goodL,Yt (l:=ts)]
theorem XL {t:Tm} (h:QS t=true):goodL t.kids=true:=by rw[JW]at h;simp at h;exact h.2
theorem WH {t:Tm} (h:QS t=true) (hk:t.kind=3):t.sort=0∧ZB t.name t.kids.length=true:=by
 rw[JW]at h;simp[hk]at h;exact h.1
theorem YE {t:Tm} {n:List UInt8} (h:QS t=true) (hb:isB t n=true) (hn:ZB n t.kids.length=decide (t.kids.length=2)): ∃x y,t.kids=[x,y]:=by
 obtain⟨hk,rfl⟩:=Oj.1 hb;have:=(WH h hk).2;rw[hn]at this;simp at this
 match hh:t.kids with
 | [x,y]=>exact⟨x,y,rfl⟩
 | []=>rw[hh]at this;simp at this
 | [_]=>rw[hh]at this;simp at this
 | _:: _:: _:: _=>rw[hh]at this;simp at this
def kid (t:Tm) (i:Nat):Tm:=t.kids.getD i QE
def pkT (t:Tm):Tm:= .mk 3 PK 0 [t]
theorem Gn {u:Tm} (h:QS u=true) (key:Tm):decide (Qm u (pkT key)=0)=(isB u PK && decide (Qm (kid u 0) key=0)):=by
 cases hb:isB u PK
 ·have: ¬Qm u (pkT key)=0:=by
   intro e;have:=ZX _ _ e;subst this;simp[isB,pkT]at hb
  simp[this]
 ·obtain⟨hk,hn⟩:=Oj.1 hb;obtain⟨hs,ha⟩:=WH h hk;rw[hn]at ha;have h1:u.kids.length=1:=by simpa[ZB,PK,Z8,ENC,Xr,Z9,EXP,DEC,Zk,Zy]using ha
  obtain⟨x,hx⟩:=List.length_eq_one_iff.1 h1;have hu:u=pkT x:=by rw[← Tm.eta u,hk,hn,hs,hx];rfl
  subst hu;have:kid (pkT x) 0=x:=rfl;rw[this];have e1:Qm (pkT x) (pkT key)=0↔Qm x key=0:=by
   constructor
   ·intro e;have:=ZX _ _ e;injection this with _ _ _ h4
    injection h4 with h4
    subst h4;exact Wa _
   ·intro e;have:=ZX _ _ e;subst this;exact Wa _
  simp[e1]
def QJ (n:List UInt8) (us:List Tm):Tm:=
 let a:=us.getD 0 QE
 let key:=us.getD 1 QE
 let out:Tm:= .mk 3 n 0 us
 if n=FST then(if isB a Z8 then kid a 0 else out)
 else if n=SND then(if isB a Z8 then kid a 1 else out)
 else if n=DEC then(if isB a ENC && decide (Qm (kid a 1) key=0)then kid a 0 else out)
 else if n=Zk then(if isB a Xr && decide (Qm (kid a 1) (pkT key)=0)then kid a 0 else out)
 else if n=Zy then(if isB a Z9 && decide (Qm key (pkT (kid a 1))=0)then kid a 0 else out)
 else if n=READ then(if isB a Z9 then kid a 0 else out)
 else out
theorem Ob (x y:Tm) (bs:List (List AV)) (hx:x.mass < big) (hy:y.mass < big):call F.tb 177 [.agg (Qb x),.agg (Qb y)] bs=some (.bool (decide (Qm x y=0)),bs):=by
 have h:=call_Compare x y bs hx hy;rw[Qa F.tb_177 _ _ rfl];simp[F.f177C,h]
def Wg (n:List UInt8):Bool:=n == FST || n == SND || n == DEC || n == Zk || n == Zy || n == READ
theorem Ae (n:List UInt8) (a:Tm) (bs:List (List AV)) (hn:n=FST∨n=SND∨n=READ) (hg:QS a=true) (hm:a.mass < big):
  call F.tb 176 [.agg (Qb (.mk 3 n 0 [a]))] bs=some (.agg (Qb (QJ n [a])),bs):=by
 have h1:=fun m=>Pq a m bs;rw[Qa F.tb_176 _ _ rfl];rcases hn with rfl | rfl | rfl
 ·cases hb:isB a Z8
  ·have h2:=h1 Z8;rw[hb]at h2;simp only[Z8]at h2
   have e:QJ FST [a]= .mk 3 FST 0 [a]:=by simp[QJ,hb]
   rw[e];simp only[FST];simp[F.f176C,h2]
  ·have h2:=h1 Z8;rw[hb]at h2;simp only[Z8]at h2
   obtain⟨x,y,hk⟩:=YE hg hb (by simp[ZB]);have e:QJ FST [a]=x:=by simp[QJ,hb,kid,hk]
   rw[e];simp only[FST];simp[F.f176C,h2,hk]
 ·cases hb:isB a Z8
  ·have h2:=h1 Z8;rw[hb]at h2;simp only[Z8]at h2
   have e:QJ SND [a]= .mk 3 SND 0 [a]:=by simp[QJ,hb,SND,FST]
   rw[e];simp only[SND];simp[F.f176C,h2]
  ·have h2:=h1 Z8;rw[hb]at h2;simp only[Z8]at h2
   obtain⟨x,y,hk⟩:=YE hg hb (by simp[ZB]);have e:QJ SND [a]=y:=by simp[QJ,hb,kid,hk,SND,FST]
   rw[e];simp only[SND];simp[F.f176C,h2,hk]
 ·cases hb:isB a Z9
  ·have h2:=h1 Z9;rw[hb]at h2;simp only[Z9]at h2
   have e:QJ READ [a]= .mk 3 READ 0 [a]:=by simp[QJ,hb,SND,FST,DEC,Zk,Zy,READ]
   rw[e];simp only[READ];simp[F.f176C,h2]
  ·have h2:=h1 Z9;rw[hb]at h2;simp only[Z9]at h2
   obtain⟨x,y,hk⟩:=YE hg hb (by simp[ZB]);have e:QJ READ [a]=x:=by simp[QJ,hb,kid,hk,SND,FST,DEC,Zk,Zy,READ]
   rw[e];simp only[READ];simp[F.f176C,h2,hk]
theorem Af (n:List UInt8) (a key:Tm) (bs:List (List AV)) (hn:n=DEC∨n=Zk∨n=Zy) (hg:QS a=true) (hgk:QS key=true) (hm:a.mass < big - 10) (hmk:key.mass < big - 10):
  call F.tb 176 [.agg (Qb (.mk 3 n 0 [a,key]))] bs=some (.agg (Qb (QJ n [a,key])),bs):=by
 have h1:=fun t m=>Pq t m bs;rw[Qa F.tb_176 _ _ rfl];rcases hn with rfl | rfl | rfl
 ·cases hb:isB a ENC
  ·have h2:=h1 a ENC;rw[hb]at h2;simp only[ENC]at h2
   have e:QJ DEC [a,key]= .mk 3 DEC 0 [a,key]:=by simp[QJ,hb,SND,FST,DEC]
   rw[e];simp only[DEC];simp[F.f176C,h2]
  ·have h2:=h1 a ENC;rw[hb]at h2;simp only[ENC]at h2
   obtain⟨x,y,hk⟩:=YE hg hb (by simp[ZB]);have hma:=Qu a;rw[hk]at hma;simp only[massL]at hma;have h3:=Ob y key bs (by omega) (by omega);by_cases hc:Qm y key=0
   ·have e:QJ DEC [a,key]=x:=by simp[QJ,hb,kid,hk,hc,SND,FST,DEC]
    rw[e];simp only[DEC];simp[F.f176C,h2,h3,hc,hk]
   ·have e:QJ DEC [a,key]= .mk 3 DEC 0 [a,key]:=by simp[QJ,hb,kid,hk,hc,SND,FST,DEC]
    rw[e];simp only[DEC];simp[F.f176C,h2,h3,hc,hk]
 ·cases hb:isB a Xr
  ·have h2:=h1 a Xr;rw[hb]at h2;simp only[Xr]at h2
   have e:QJ Zk [a,key]= .mk 3 Zk 0 [a,key]:=by simp[QJ,hb,SND,FST,DEC,Zk]
   rw[e];simp only[Zk];simp[F.f176C,h2]
  ·have h2:=h1 a Xr;rw[hb]at h2;simp only[Xr]at h2
   obtain⟨x,y,hk⟩:=YE hg hb (by simp[ZB]);have hma:=Qu a;have hgy:QS y=true:=by
    have:=XL hg;rw[hk]at this;simp[goodL]at this;exact this.2
   rw[hk]at hma;simp only[massL]at hma;have hpk:=Gn hgy key;have h4:=h1 y PK;have e0:QJ Zk [a,key]=if isB y PK && decide (Qm (kid y 0) key=0)then x else .mk 3 Zk 0 [a,key]:=by
    rw[← hpk];simp[QJ,hb,kid,hk,SND,FST,DEC,Zk]
   rw[e0];cases hbp:isB y PK
   ·rw[hbp]at h4;simp only[PK]at h4
    simp only[Zk];simp[F.f176C,h2,h4,hk]
   ·rw[hbp]at h4;simp only[PK]at h4
    obtain⟨hyk,hyn⟩:=Oj.1 hbp;have har:=(WH hgy hyk).2;rw[hyn]at har;have hl1:y.kids.length=1:=by simpa[ZB,PK,Z8,ENC,Xr,Z9,EXP,DEC,Zk,Zy]using har
    obtain⟨z,hz⟩:=List.length_eq_one_iff.1 hl1;have hmy:=Qu y;rw[hz]at hmy;simp only[massL]at hmy;have h3:=Ob z key bs (by omega) (by omega);have hk0:kid y 0=z:=by simp[kid,hz]
    rw[hk0];by_cases hc:Qm z key=0
    ·simp only[Zk];simp[F.f176C,h2,h3,h4,hc,hk,hz]
    ·simp only[Zk];simp[F.f176C,h2,h3,h4,hc,hk,hz]
 ·cases hb:isB a Z9
  ·have h2:=h1 a Z9;rw[hb]at h2;simp only[Z9]at h2
   have e:QJ Zy [a,key]= .mk 3 Zy 0 [a,key]:=by simp[QJ,hb,SND,FST,DEC,Zk,Zy]
   rw[e];simp only[Zy];simp[F.f176C,h2]
  ·have h2:=h1 a Z9;rw[hb]at h2;simp only[Z9]at h2
   obtain⟨x,y,hk⟩:=YE hg hb (by simp[ZB]);have hma:=Qu a;rw[hk]at hma;simp only[massL]at hma;have hpk:=Gn hgk y;have h4:=h1 key PK;have e0:QJ Zy [a,key]=if isB key PK && decide (Qm (kid key 0) y=0)then x else .mk 3 Zy 0 [a,key]:=by
    rw[← hpk];simp[QJ,hb,kid,hk,SND,FST,DEC,Zk,Zy]
   rw[e0];cases hbp:isB key PK
   ·rw[hbp]at h4;simp only[PK]at h4
    simp only[Zy];simp[F.f176C,h2,h4,hk]
   ·rw[hbp]at h4;simp only[PK]at h4
    obtain⟨hyk,hyn⟩:=Oj.1 hbp;have har:=(WH hgk hyk).2;rw[hyn]at har;have hl1:key.kids.length=1:=by simpa[ZB,PK,Z8,ENC,Xr,Z9,EXP,DEC,Zk,Zy]using har
    obtain⟨z,hz⟩:=List.length_eq_one_iff.1 hl1;have hmy:=Qu key;rw[hz]at hmy;simp only[massL]at hmy;have h3:=Ob y z bs (by omega) (by omega);have hk0:kid key 0=z:=by simp[kid,hz]
    have hsym: (Qm z y=0)=(Qm y z=0):=by
     have:=Y0 y z;rw[eq_iff_iff];omega
    rw[hk0];by_cases hc:Qm y z=0
    ·simp only[Zy];simp[F.f176C,h2,h3,h4,hc,hk,hz,hsym]
    ·simp only[Zy];simp[F.f176C,h2,h3,h4,hc,hk,hz,hsym]
theorem Ip (t:Tm): (pkT t).mass=t.mass+4:=by simp only[pkT,Tm.mass,massL,PK,List.length_cons,List.length_nil];omega
def BE (t:Tm) (bs:List (List AV)) (r:Out):Prop:=∃b,r=some (.tup [.agg (Qb t),.bool b],bs)
theorem D3 (n:List UInt8) (a:Tm) (bs:List (List AV)) (hn:n=FST∨n=SND∨n=READ) (hg:QS a=true) (hm:a.mass < big):
  BE (QJ n [a]) bs (call F.tb 243 [.agg (Qb (.mk 3 n 0 [a]))] bs):=by
 have h1:=fun m=>OQ a m bs;rw[Qa F.tb_243 _ _ rfl];rcases hn with rfl | rfl | rfl
 ·cases hb:isB a Z8
  ·have h2:=h1 Z8;rw[hb]at h2;simp only[Z8]at h2
   have e:QJ FST [a]= .mk 3 FST 0 [a]:=by simp[QJ,hb]
   rw[e];refine⟨false,?_⟩;simp only[FST];simp[F.f243C,h2]
  ·have h2:=h1 Z8;rw[hb]at h2;simp only[Z8]at h2
   obtain⟨x,y,hk⟩:=YE hg hb (by simp[ZB]);have e:QJ FST [a]=x:=by simp[QJ,hb,kid,hk]
   rw[e];refine⟨true,?_⟩;simp only[FST];simp[F.f243C,h2,hk]
 ·cases hb:isB a Z8
  ·have h2:=h1 Z8;rw[hb]at h2;simp only[Z8]at h2
   have e:QJ SND [a]= .mk 3 SND 0 [a]:=by simp[QJ,hb,SND,FST]
   rw[e];refine⟨false,?_⟩;simp only[SND];simp[F.f243C,h2]
  ·have h2:=h1 Z8;rw[hb]at h2;simp only[Z8]at h2
   obtain⟨x,y,hk⟩:=YE hg hb (by simp[ZB]);have e:QJ SND [a]=y:=by simp[QJ,hb,kid,hk,SND,FST]
   rw[e];refine⟨true,?_⟩;simp only[SND];simp[F.f243C,h2,hk]
 ·cases hb:isB a Z9
  ·have h2:=h1 Z9;rw[hb]at h2;simp only[Z9]at h2
   have e:QJ READ [a]= .mk 3 READ 0 [a]:=by simp[QJ,hb,SND,FST,DEC,Zk,Zy,READ]
   rw[e];refine⟨false,?_⟩;simp only[READ];simp[F.f243C,h2]
  ·have h2:=h1 Z9;rw[hb]at h2;simp only[Z9]at h2
   obtain⟨x,y,hk⟩:=YE hg hb (by simp[ZB]);have e:QJ READ [a]=x:=by simp[QJ,hb,kid,hk,SND,FST,DEC,Zk,Zy,READ]
   rw[e];refine⟨true,?_⟩;simp only[READ];simp[F.f243C,h2,hk]
theorem D4 (n:List UInt8) (a key:Tm) (bs:List (List AV)) (hn:n=DEC∨n=Zk∨n=Zy) (hg:QS a=true) (hm:a.mass < big - 10) (hmk:key.mass < big - 10):
  BE (QJ n [a,key]) bs (call F.tb 243 [.agg (Qb (.mk 3 n 0 [a,key]))] bs):=by
 have h1:=fun t m=>OQ t m bs;rw[Qa F.tb_243 _ _ rfl];rcases hn with rfl | rfl | rfl
 ·cases hb:isB a ENC
  ·have h2:=h1 a ENC;rw[hb]at h2;simp only[ENC]at h2
   have e:QJ DEC [a,key]= .mk 3 DEC 0 [a,key]:=by simp[QJ,hb,SND,FST,DEC]
   rw[e];refine⟨false,?_⟩;simp only[DEC];simp[F.f243C,h2]
  ·have h2:=h1 a ENC;rw[hb]at h2;simp only[ENC]at h2
   obtain⟨x,y,hk⟩:=YE hg hb (by simp[ZB]);have hma:=Qu a;rw[hk]at hma;simp only[massL]at hma;have h3:=We y key bs (by omega) (by omega);by_cases hc:Qm y key=0
   ·have e:QJ DEC [a,key]=x:=by simp[QJ,hb,kid,hk,hc,SND,FST,DEC]
    rw[e];refine⟨true,?_⟩;simp only[DEC];simp[F.f243C,h2,h3,hc,hk]
   ·have e:QJ DEC [a,key]= .mk 3 DEC 0 [a,key]:=by simp[QJ,hb,kid,hk,hc,SND,FST,DEC]
    rw[e];refine⟨false,?_⟩;simp only[DEC];simp[F.f243C,h2,h3,hc,hk]
 ·cases hb:isB a Xr
  ·have h2:=h1 a Xr;rw[hb]at h2;simp only[Xr]at h2
   have e:QJ Zk [a,key]= .mk 3 Zk 0 [a,key]:=by simp[QJ,hb,SND,FST,DEC,Zk]
   rw[e];refine⟨false,?_⟩;simp only[Zk];simp[F.f243C,h2]
  ·have h2:=h1 a Xr;rw[hb]at h2;simp only[Xr]at h2
   obtain⟨x,y,hk⟩:=YE hg hb (by simp[ZB]);have hma:=Qu a;rw[hk]at hma;simp only[massL]at hma;have hpm: (pkT key).mass < big:=by rw[Ip];unfold big at *;omega
   have h3:=We y (pkT key) bs (by omega) hpm;have h4:=X2 PK [key] false bs (by simp);simp only[pkT,PK]at h3 h4;by_cases hc:Qm y (pkT key)=0
   ·have e:QJ Zk [a,key]=x:=by simp[QJ,hb,kid,hk,hc,SND,FST,DEC,Zk]
    rw[e];refine⟨true,?_⟩;simp only[pkT,PK]at hc;simp only[Zk];simp[F.f243C,h2,h3,h4,hc,hk,Zi]
   ·have e:QJ Zk [a,key]= .mk 3 Zk 0 [a,key]:=by simp[QJ,hb,kid,hk,hc,SND,FST,DEC,Zk]
    rw[e];refine⟨false,?_⟩;simp only[pkT,PK]at hc;simp only[Zk];simp[F.f243C,h2,h3,h4,hc,hk,Zi]
 ·cases hb:isB a Z9
  ·have h2:=h1 a Z9;rw[hb]at h2;simp only[Z9]at h2
   have e:QJ Zy [a,key]= .mk 3 Zy 0 [a,key]:=by simp[QJ,hb,SND,FST,DEC,Zk,Zy]
   rw[e];refine⟨false,?_⟩;simp only[Zy];simp[F.f243C,h2]
  ·have h2:=h1 a Z9;rw[hb]at h2;simp only[Z9]at h2
   obtain⟨x,y,hk⟩:=YE hg hb (by simp[ZB]);have hma:=Qu a;rw[hk]at hma;simp only[massL]at hma;have hpm: (pkT y).mass < big:=by rw[Ip];unfold big at *;omega
   have h3:=We key (pkT y) bs (by omega) hpm;have h4:=X2 PK [y] false bs (by simp);simp only[pkT,PK]at h3 h4;by_cases hc:Qm key (pkT y)=0
   ·have e:QJ Zy [a,key]=x:=by simp[QJ,hb,kid,hk,hc,SND,FST,DEC,Zk,Zy]
    rw[e];refine⟨true,?_⟩;simp only[pkT,PK]at hc;simp only[Zy];simp[F.f243C,h2,h3,h4,hc,hk,Zi]
   ·have e:QJ Zy [a,key]= .mk 3 Zy 0 [a,key]:=by simp[QJ,hb,kid,hk,hc,SND,FST,DEC,Zk,Zy]
    rw[e];refine⟨false,?_⟩;simp only[pkT,PK]at hc;simp only[Zy];simp[F.f243C,h2,h3,h4,hc,hk,Zi]
def KM (l:List Pw) (M:Nat):Prop:=∀q∈l,q.1.mass≤M
theorem Gr {l:List Pw} {t:Tm} {m:Int} {M:Nat} (h:KM l M) (ht:t.mass≤M):KM (Z1 l t m) M:=by
 intro q hq;rcases VQ hq with hq | rfl | ⟨_,_,rfl,_⟩
 ·exact h q hq
 ·exact ht
 ·exact ht
theorem QcD: ∀(t:Tm) (l:List Pw) (m:Int) (M:Nat),KM l M→t.mass≤M→KM (Xw l t m) M:=by
 refine Zo ?_;intro k n s ks ih l m M h hm;have hme:=Qu (.mk k n s ks);simp only[QZ,Zu]at hme;have hL: ∀(xs:List Tm) (l:List Pw) (m:Int),(∀x∈xs,x∈ks)→KM l M→KM (colL l xs m) M:=by
  intro xs
  induction xs with
  | nil=>intro l m _ h;simpa[colL]using h
  | cons x xs IH=>
   intro l m hx h;simp only[colL];exact IH _ m (fun y hy=>hx y (by simp[hy])) (ih x (hx x (by simp)) l m M h (by have:=QB (hx x (by simp));omega))
 rw[Rh];split
 ·exact hL ks l _ (fun x hx=>hx) h
 ·exact Gr h hm
theorem NG: ∀(b a:List Pw) (M:Nat),KM a M→KM b M→KM (YN a b) M
 | [],a,M,h,_=>h
 | q:: b,a,M,h,hb=>NG b _ M (Gr h (hb q (by simp))) fun x hx=>hb x (by simp[hx])
theorem Rk (t:Tm) (M:Nat) (h:t.mass≤M):KM (ofP t) M:=by
 unfold ofP;split
 ·exact QcD t [] 1 M (fun q hq=>by simp at hq) h
 ·intro q hq;simp at hq
theorem UK (t:Tm): (ofP t).length≤200:=by
 unfold ofP;split
 ·rename_i h;unfold ofE at h;split at h
  ·rename_i h1;exact absurd h h1
  ·split at h
   ·split at h
    ·cases h
    ·omega
   ·cases h
 ·simp
theorem FO {l:List Pw} (h:ZL l=0):l.length≤200:=by
 unfold ZL at h;split at h
 ·cases h
 ·split at h
  ·cases h
  ·omega
theorem Ie (a b:List Pw): (Xd a b).length≤200:=by
 unfold Xd;split
 ·rename_i h;unfold XE at h;split at h
  ·rename_i h1;exact absurd h h1
  ·split at h
   ·rename_i h1;exact absurd h h1
   ·exact FO h
 ·simp
theorem Gs {a b:List Pw} {M:Nat} (ha:KM a M) (hb:KM b M):KM (Xd a b) M:=by
 unfold Xd;split
 ·exact NG b a M ha hb
 ·intro q hq;simp at hq
theorem M1 (n:Nat) (t:Tm):massL (List.replicate n t)=n*t.mass:=by
 induction n with
 | zero=>simp[massL]
 | succ n ih=>rw[List.replicate_succ,massL,ih,Nat.succ_mul];omega
theorem CH (t:Tm): (Vd t).mass=t.mass+5:=by simp only[Vd,Tm.mass,massL,INV,List.length_cons,List.length_nil];omega
theorem NN: ∀{l:List Pw} {M:Nat},KM l M→(∀q∈l,q.2≤8)→massL (Y5 l)≤l.length* (8*M)
 | [],M,_,_=>by simp[Y5,massL]
 | p:: l,M,h,hb=>by
  have h1:=NN (l:=l) (M:=M) (fun q hq=>h q (by simp[hq])) fun q hq=>hb q (by simp[hq]);have h2:=h p (by simp);have h3:=hb p (by simp);have h4:p.2.toNat* p.1.mass≤8*M:=Nat.mul_le_mul (by omega) h2;have e:Y5 (p:: l)=List.replicate p.2.toNat p.1 ++ Y5 l:=by simp[Y5]
  rw[e,Xx,M1,List.length_cons,Nat.succ_mul];omega
theorem NL: ∀{l:List Pw} {M:Nat},KM l M→(∀q∈l,-8≤q.2)→massL (Xj l)≤l.length* (8* (M+5))
 | [],M,_,_=>by simp[Xj,massL]
 | p:: l,M,h,hb=>by
  have h1:=NL (l:=l) (M:=M) (fun q hq=>h q (by simp[hq])) fun q hq=>hb q (by simp[hq]);have h2:=h p (by simp);have h3:=hb p (by simp);have h4: (-p.2).toNat* (Vd p.1).mass≤8* (M+5):=Nat.mul_le_mul (by omega) (by rw[CH];omega);have e:Xj (p:: l)=List.replicate (-p.2).toNat (Vd p.1)++ Xj l:=by simp[Xj]
  rw[e,Xx,M1,List.length_cons,Nat.succ_mul];omega
theorem NM {l:List Pw} (h:KM l 25000000) (hl:l.length≤200) (hb: ∀q∈l,-8≤q.2∧q.2≤8):massL (Zn l) < big - 100:=by
 have h1:=NN h fun q hq=>(hb q hq).2;have h2:=NL h fun q hq=>(hb q hq).1;have h3:l.length* (8*25000000)≤200* (8*25000000):=Nat.mul_le_mul_right _ hl;have h4:l.length* (8* (25000000+5))≤200* (8* (25000000+5)):=Nat.mul_le_mul_right _ hl;unfold Zn;rw[Xx];unfold big;omega
theorem OM {l:List Pw} (o:Bool) (bs:List (List AV)) (h:KM l 25000000) (hl:l.length≤200):call F.tb 196 [.sl o 5 (QF l)] bs=some (QP (Zs l),bs):=
 Qbl l o bs (by omega) (fun q hq=>by have:=h q hq;unfold big;omega) (NM h hl)
theorem ON {l:List Pw} (o:Bool) (bs:List (List AV)) (h:KM l 25000000) (hl:l.length≤200):call F.tb 258 [.sl o 5 (QF l)] bs=some (QP (Zs l),bs):=
 QbA l o bs (by omega) (fun q hq=>by have:=h q hq;unfold big;omega) (NM h hl)
def XV (b:Tm) (p:List Pw):Tm×Int:=if p=[]then(b,0)else if(Zs p).2≠0 then(QE,(Zs p).2)else(.mk 3 EXP 0 [b,(Zs p).1],0)
def YI (b e:Tm):Tm×Int:=
 if ofE e≠0 then(QE,ofE e)
 else if isB b EXP then
  if ofE (kid b 1)≠0 then(QE,ofE (kid b 1))else if XE (ofP (kid b 1)) (ofP e)≠0 then(QE,XE (ofP (kid b 1)) (ofP e))else XV (kid b 0) (Xd (ofP (kid b 1)) (ofP e))
 else XV b (ofP e)
def Z5 (t:Tm):Tm×Int:=if ofE t≠0 then(QE,ofE t)else Zs (ofP t)
theorem QR (t:Tm) (e:Int):QP (t,e)= .tup [.agg (Qb t),.int .i64 e]:=rfl
theorem Qby (t:Tm) (bs:List (List AV)) (hm:t.mass < 20000000):call F.tb 252 [.agg (Qb t)] bs=some (QP (Z5 t),bs):=by
 have h1:=Mj t bs (by omega);have h2:=ON false bs (Rk t 25000000 (by omega)) (UK t);rw[Qa F.tb_252 _ _ rfl];by_cases c:ofE t=0
 ·have e:Z5 t=Zs (ofP t):=by simp[Z5,c]
  rw[e];simp only[QP]at h2 ⊢;simp[F.f252C,h1,h2,c]
 ·have e:Z5 t=(QE,ofE t):=by simp[Z5,c]
  rw[e];simp[F.f252C,h1,c,QR,QG]
theorem Qbm (b e:Tm) (bs:List (List AV)) (hg:QS b=true) (hb:b.mass < 20000000) (he:e.mass < 20000000):call F.tb 199 [.agg (Qb b),.agg (Qb e)] bs=some (QP (YI b e),bs):=by
 have h1:=Mg e bs (by omega);have h2:=Pq b EXP bs;have ke:=Rk e 25000000 (by omega);have le:=UK e;rw[Qa F.tb_199 _ _ rfl];by_cases c1:ofE e=0
 ·cases hx:isB b EXP
  ·rw[hx]at h2;simp only[EXP]at h2
   have h4:=OM false bs ke le;have e0:YI b e=XV b (ofP e):=by simp[YI,c1,hx]
   rw[e0];generalize ofP e=p at *
   match p with
   | []=>
    simp only[Y3]at h1;simp[F.f199C,h1,h2,c1,XV,QR]
   | q:: r=>
    have n0: ¬(r.length:Int)+1=0:=by omega
    by_cases c2: (Zs (q:: r)).2=0
    ·have h5:=JG EXP [b,(Zs (q:: r)).1] false bs;simp only[QP,encTs]at h4 h5;simp only[EXP]at h5;simp[F.f199C,h1,h2,h4,h5,c1,c2,n0,XV,QR,EXP]
    ·simp only[QP]at h4;simp[F.f199C,h1,h2,h4,c1,c2,n0,XV,QR,QG]
  ·obtain⟨x,y,hk⟩:=YE hg hx (by simp[ZB]);rw[hx]at h2;simp only[EXP]at h2
   have hmb:=Qu b;rw[hk]at hmb;simp only[massL]at hmb;have k0:kid b 0=x:=by simp[kid,hk]
   have k1:kid b 1=y:=by simp[kid,hk]
   have h3:=Mg y bs (by omega);have ky:=Rk y 25000000 (by omega);have ly:=UK y;by_cases c2:ofE y=0
   ·have h4:=Qbn (ofP y) (ofP e) false false bs (by omega) (by omega) (fun q hq=>by have:=ky q hq;unfold big;omega) (fun q hq=>by have:=ke q hq;unfold big;omega);by_cases c3:XE (ofP y) (ofP e)=0
    ·have h6:=OM false bs (Gs ky ke) (Ie (ofP y) (ofP e));have e0:YI b e=XV x (Xd (ofP y) (ofP e)):=by simp[YI,c1,hx,k0,k1,c2,c3]
     rw[e0];generalize Xd (ofP y) (ofP e)=p at *
     match p with
     | []=>
      simp only[Y3]at h4;simp[F.f199C,h1,h2,h3,h4,hk,c1,c2,c3,XV,QR]
     | q:: r=>
      have n0: ¬(r.length:Int)+1=0:=by omega
      by_cases c4: (Zs (q:: r)).2=0
      ·have h5:=JG EXP [x,(Zs (q:: r)).1] false bs;simp only[QP,encTs]at h6 h5;simp only[EXP]at h5;simp[F.f199C,h1,h2,h3,h4,h5,h6,hk,c1,c2,c3,c4,n0,XV,QR,EXP]
      ·simp only[QP]at h6;simp[F.f199C,h1,h2,h3,h4,h6,hk,c1,c2,c3,c4,n0,XV,QR,QG]
    ·have e0:YI b e=(QE,XE (ofP y) (ofP e)):=by simp[YI,c1,hx,k1,c2,c3]
     rw[e0];simp[F.f199C,h1,h2,h3,h4,hk,c1,c2,c3,QR,QG]
   ·have e0:YI b e=(QE,ofE y):=by simp[YI,c1,hx,k1,c2]
    rw[e0];simp[F.f199C,h1,h2,h3,hk,c1,c2,QR,QG]
 ·have e0:YI b e=(QE,ofE e):=by simp[YI,c1]
  rw[e0];simp[F.f199C,h1,c1,QR,QG]
theorem QbC (b e:Tm) (bs:List (List AV)) (hg:QS b=true) (hb:b.mass < 20000000) (he:e.mass < 20000000):call F.tb 261 [.agg (Qb b),.agg (Qb e)] bs=some (QP (YI b e),bs):=by
 have h1:=Mj e bs (by omega);have h2:=OQ b EXP bs;have ke:=Rk e 25000000 (by omega);have le:=UK e;rw[Qa F.tb_261 _ _ rfl];by_cases c1:ofE e=0
 ·cases hx:isB b EXP
  ·rw[hx]at h2;simp only[EXP]at h2
   have h4:=ON false bs ke le;have e0:YI b e=XV b (ofP e):=by simp[YI,c1,hx]
   rw[e0];generalize ofP e=p at *
   match p with
   | []=>
    simp only[Y3]at h1;simp[F.f261C,h1,h2,c1,XV,QR]
   | q:: r=>
    have n0: ¬(r.length:Int)+1=0:=by omega
    by_cases c2: (Zs (q:: r)).2=0
    ·have h5:=X2 EXP [b,(Zs (q:: r)).1] false bs (by simp);simp only[QP,encTs]at h4 h5;simp only[EXP]at h5;simp[F.f261C,h1,h2,h4,h5,c1,c2,n0,XV,QR,EXP]
    ·simp only[QP]at h4;simp[F.f261C,h1,h2,h4,c1,c2,n0,XV,QR,QG]
  ·obtain⟨x,y,hk⟩:=YE hg hx (by simp[ZB]);rw[hx]at h2;simp only[EXP]at h2
   have hmb:=Qu b;rw[hk]at hmb;simp only[massL]at hmb;have k0:kid b 0=x:=by simp[kid,hk]
   have k1:kid b 1=y:=by simp[kid,hk]
   have h3:=Mj y bs (by omega);have ky:=Rk y 25000000 (by omega);have ly:=UK y;by_cases c2:ofE y=0
   ·have h4:=QbD (ofP y) (ofP e) false false bs (by omega) (by omega) (fun q hq=>by have:=ky q hq;unfold big;omega) (fun q hq=>by have:=ke q hq;unfold big;omega);by_cases c3:XE (ofP y) (ofP e)=0
    ·have h6:=ON false bs (Gs ky ke) (Ie (ofP y) (ofP e));have e0:YI b e=XV x (Xd (ofP y) (ofP e)):=by simp[YI,c1,hx,k0,k1,c2,c3]
     rw[e0];generalize Xd (ofP y) (ofP e)=p at *
     match p with
     | []=>
      simp only[Y3]at h4;simp[F.f261C,h1,h2,h3,h4,hk,c1,c2,c3,XV,QR]
     | q:: r=>
      have n0: ¬(r.length:Int)+1=0:=by omega
      by_cases c4: (Zs (q:: r)).2=0
      ·have h5:=X2 EXP [x,(Zs (q:: r)).1] false bs (by simp);simp only[QP,encTs]at h6 h5;simp only[EXP]at h5;simp[F.f261C,h1,h2,h3,h4,h5,h6,hk,c1,c2,c3,c4,n0,XV,QR,EXP]
      ·simp only[QP]at h6;simp[F.f261C,h1,h2,h3,h4,h6,hk,c1,c2,c3,c4,n0,XV,QR,QG]
    ·have e0:YI b e=(QE,XE (ofP y) (ofP e)):=by simp[YI,c1,hx,k1,c2,c3]
     rw[e0];simp[F.f261C,h1,h2,h3,h4,hk,c1,c2,c3,QR,QG]
   ·have e0:YI b e=(QE,ofE y):=by simp[YI,c1,hx,k1,c2]
    rw[e0];simp[F.f261C,h1,h2,h3,hk,c1,c2,QR,QG]
 ·have e0:YI b e=(QE,ofE e):=by simp[YI,c1]
  rw[e0];simp[F.f261C,h1,c1,QR,QG]
end Go.Am
