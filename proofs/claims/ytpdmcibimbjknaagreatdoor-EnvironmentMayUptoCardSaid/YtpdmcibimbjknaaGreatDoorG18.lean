/-
  Rc18, Rc19, Rc20, Rc21, Rc22, Rc23, Rc24.
-/
import Derived.Test.YtpdmcibimbjknaaGreatDoorG17
set_option linter.unusedVariables false
set_option linter.unusedSimpArgs false
namespace Go.Am
set_option maxRecDepth 8000
def Vy (t:Tm):Tm:= .mk 3 INV 0 [t]
def Xl (l:List Pw):List Tm:=(l.map fun p=>List.replicate p.2.toNat p.1).flatten
def XB (l:List Pw):List Tm:=(l.map fun p=>List.replicate (-p.2).toNat (Vy p.1)).flatten
def Zv (l:List Pw):List Tm:=Xl l ++ XB l
def Zm:List Tm→Tm
 | []=> .mk 3 ONE 0 []
 | [p]=>p
 | p:: q:: r=> .mk 3 MUL 0 (p:: q:: r)
def ZA (l:List Pw):Tm×Int:=
 if Ze l≠0 then(Qz,Ze l)else if 8 < (Zv l).length then(Qz,3)else if QK (Zm (Zv l))≠0 then(Qz,QK (Zm (Zv l)))else(Zm (Zv l),0)
theorem Hq (a:List Pw) (p:Pw):Xl (a ++ [p])=Xl a ++ List.replicate p.2.toNat p.1:=by simp[Xl]
theorem Hi (a:List Pw) (p:Pw):XB (a ++ [p])=XB a ++ List.replicate (-p.2).toNat (Vy p.1):=by simp[XB]
theorem Hr {l:List Pw} (h: ∀q∈l,q.2≤8): (Xl l).length≤8*l.length:=by
 induction l with
 | nil=>simp[Xl]
 | cons p l ih=>
  have h1:=ih fun q hq=>h q (by simp[hq]);have h2:=h p (by simp);simp only[Xl,List.map_cons,List.flatten_cons,List.length_append,List.length_replicate,List.length_cons]at h1 ⊢;omega
theorem Hj {l:List Pw} (h: ∀q∈l,-8≤q.2): (XB l).length≤8*l.length:=by
 induction l with
 | nil=>simp[XB]
 | cons p l ih=>
  have h1:=ih fun q hq=>h q (by simp[hq]);have h2:=h p (by simp);simp only[XB,List.map_cons,List.flatten_cons,List.length_append,List.length_replicate,List.length_cons]at h1 ⊢;omega
theorem Hs {l:List Pw} {p:Pw} (h:p∈l):p.2.toNat≤(Xl l).length:=by
 induction l with
 | nil=>simp at h
 | cons q l ih=>
  simp only[Xl,List.map_cons,List.flatten_cons,List.length_append,List.length_replicate]at ih ⊢;rcases List.mem_cons.1 h with rfl | h
  ·omega
  ·have:=ih h;omega
theorem Hk {l:List Pw} {p:Pw} (h:p∈l): (-p.2).toNat≤(XB l).length:=by
 induction l with
 | nil=>simp at h
 | cons q l ih=>
  simp only[XB,List.map_cons,List.flatten_cons,List.length_append,List.length_replicate]at ih ⊢;rcases List.mem_cons.1 h with rfl | h
  ·omega
  ·have:=ih h;omega
theorem M6 (n:List UInt8) (ks:List Tm) (o:Bool) (bs:List (List AV)):call F.tb 198 [.str n,.sl o 4 (encTs ks)] bs=some (.agg (Qc (.mk 3 n 0 ks)),bs):=by
 rw[Qa F.tb_198 _ _ rfl];simp[F.f198,F.f198C,WW]
theorem O6 {k:Nat} (acc:List Tm) (x:Tm): (acc ++ [x])++ List.replicate k x=acc ++ List.replicate (k+1) x:=by simp[List.replicate_succ]
theorem QeY {p:Pw} {bs:List (List AV)} (hp:p.1.mass < big) (hN: -8≤p.2∧p.2≤8) (c:AC) (K:Kn) (X:Out): ∀(k:Nat) (acc:List Tm) (i:Nat) (ρ:Nat→AV),i+k=p.2.toNat→acc.length+k < 100000000→ρ 5= .sl true 4 (encTs acc)→ρ 8= .bx (QT p)→ρ 34= .int .i64 p.2→ρ 35= .int .i64 i→
  (∀ρ':Nat→AV,ρ' 5= .sl true 4 (encTs (acc ++ List.replicate k p.1))→(∀j,j < 34→j≠5→ρ' j=ρ j)→R F.tb c ρ' bs K=X)→
  R F.tb (.loop F.f196l0) ρ bs (Qh 2 (Qq F.tb c K))=X:=by
 intro k
 induction k with
 | zero=>
  intro acc i ρ hi hl h5 h8 h34 h35 h;have hn: ¬(i:Int) < p.2:=by omega
  rw[Qb F.f196l0.eq_1];simp[h5,h8,h34,h35,hn];apply h
  ·simp[h5]
  ·intro j hj h5j;have:j≠36:=by omega
   simp[this]
 | succ k IH=>
  intro acc i ρ hi hl h5 h8 h34 h35 h;have hn: (i:Int) < p.2:=by omega
  have hw1:IntKind.i64.wrap ((i:Int)+1)=((i+1:Nat):Int):=by rw[QW (by omega) (by omega)];omega
  have hb: (acc.length+1)*56≤140737488355328:=Yu (by omega);have hc:=Up p.1 bs hp;rw[Qb F.f196l0.eq_1];simp[h5,h8,h34,h35,hn,hw1,hb,hc,Q7,QZ];refine IH (acc ++ [p.1]) (i+1) _ (by omega) (by simp;omega) ?_ ?_ ?_ ?_ ?_
  ·simp
  ·simp[h8]
  ·simp[h34]
  ·simp
  ·intro ρ' g5 gj;rw[O6]at g5;refine h ρ' g5 fun j hj h5j=> ?_;rw[gj j hj h5j];have e1:j≠35:=by omega
   have e2:j≠36:=by omega
   have e3:j≠37:=by omega
   have e4:j≠38:=by omega
   have e5:j≠39:=by omega
   have e6:j≠40:=by omega
   have e7:j≠41:=by omega
   have e8:j≠42:=by omega
   have e9:j≠43:=by omega
   simp[*]
theorem QeZ {p:Pw} {bs:List (List AV)} (hp:p.1.mass < big) (hN: -8≤p.2∧p.2≤8) (c:AC) (K:Kn) (X:Out): ∀(k:Nat) (acc:List Tm) (i:Nat) (ρ:Nat→AV),i+k=(-p.2).toNat→acc.length+k < 100000000→ρ 6= .sl true 4 (encTs acc)→ρ 8= .bx (QT p)→ρ 46= .int .i64 (-p.2)→ρ 47= .int .i64 i→
  (∀ρ':Nat→AV,ρ' 6= .sl true 4 (encTs (acc ++ List.replicate k (Vy p.1)))→(∀j,j < 34→j≠6→ρ' j=ρ j)→R F.tb c ρ' bs K=X)→
  R F.tb (.loop F.f196l1) ρ bs (Qh 4 (Qh 1 (Qq F.tb c K)))=X:=by
 intro k
 induction k with
 | zero=>
  intro acc i ρ hi hl h6 h8 h46 h47 h;have hn: ¬(i:Int) < -p.2:=by omega
  rw[Qb F.f196l1.eq_1];simp[h6,h8,h46,h47,hn];apply h
  ·simp[h6]
  ·intro j hj h5j;have:j≠48:=by omega
   simp[this]
 | succ k IH=>
  intro acc i ρ hi hl h6 h8 h46 h47 h;have hn: (i:Int) < -p.2:=by omega
  have hw1:IntKind.i64.wrap ((i:Int)+1)=((i+1:Nat):Int):=by rw[QW (by omega) (by omega)];omega
  have hb: (acc.length+1)*56≤140737488355328:=Yu (by omega);have hc:=Up p.1 bs hp;have hc2:=M6 INV [p.1] false bs;simp only[INV]at hc2;rw[Qb F.f196l1.eq_1];simp[h6,h8,h46,h47,hn,hw1,hb,hc,hc2,Q7];rw[show Qc (Tm.mk 3 [105,110,118] 0 [p.1])=Qc (Vy p.1)from rfl];simp[Q7,QZ];refine IH (acc ++ [Vy p.1]) (i+1) _ (by omega) (by simp;omega) ?_ ?_ ?_ ?_ ?_
  ·simp[Vy,INV]
  ·simp[h8]
  ·simp[h46]
  ·simp
  ·intro ρ' g6 gj;rw[O6]at g6;refine h ρ' g6 fun j hj h5j=> ?_;rw[gj j hj h5j];have e1:j≠47:=by omega
   have e2:j≠48:=by omega
   have e3:j≠49:=by omega
   have e4:j≠50:=by omega
   have e5:j≠51:=by omega
   have e6:j≠52:=by omega
   have e7:j≠53:=by omega
   have e8:j≠54:=by omega
   have e9:j≠55:=by omega
   have e10:j≠56:=by omega
   have e11:j≠57:=by omega
   simp[*]
theorem Qe1 (l:List Pw) (bs:List (List AV)) (hv:Ze l=0) (hl: (Zv l).length < 100000000) (hm:massL (Zv l) < big - 100) (ρ:Nat→AV) (h2:ρ 2= .bx [.int .i64 0,.str [],.int .i64 0,.sl true 4 []]) (h5:ρ 5= .sl true 4 (encTs (Xl l))) (h6:ρ 6= .sl true 4 (encTs (XB l))):
  R F.tb F.f196r2 ρ bs (Qx F.f196 bs)=some (QP (ZA l),bs):=by
 have hc:=Nb [Xl l,XB l] false bs (by simp) (by simpa[Zv]using hl);have hfl: [Xl l,XB l].flatten=Zv l:=by simp[Zv]
 rw[hfl]at hc;simp only[Ur,List.map_cons,List.map_nil]at hc;have ha:=M6 MUL (Zv l) false bs;have ha1:=M6 ONE [] true bs;simp only[MUL]at ha;simp only[ONE,encTs]at ha1;by_cases c8:8 < (Zv l).length
 ·have c8': (8:Int) < ((Zv l).length:Int):=by omega
  have e:ZA l=(Qz,3):=by simp[ZA,hv,c8]
  rw[e];simp[F.f196r2,h2,h5,h6,hc,c8',QP,QG]
 ·have c8': ¬(8:Int) < ((Zv l).length:Int):=by omega
  have hpm: (Zm (Zv l)).mass < big:=by
   unfold big at *
   match h:Zv l with
   | []=>simp[Zm,Qy,massL,ONE]
   | [p]=>rw[h]at hm;simp[Zm,massL]at hm ⊢;omega
   | p:: q:: r=>rw[h]at hm c8;simp[Zm,Qy,massL,MUL]at hm c8 ⊢;omega
  have hvv:=XZ (Zm (Zv l)) bs hpm;have e:ZA l=if QK (Zm (Zv l))≠0 then(Qz,QK (Zm (Zv l)))else(Zm (Zv l),0):=by simp[ZA,hv,c8]
  rw[e];generalize hL:Zv l=L at *
  match L,hL with
  | [],hL=>
   simp only[Zm,ONE]at hvv;simp only[encTs]at ha hc;by_cases cv:QK (.mk 3 [111,110,101] 0 [])=0
   ·rw[cv]at hvv;simp[F.f196r2,h2,h5,h6,hc,ha,ha1,hvv,cv,QP,Zm,ONE]
   ·simp[F.f196r2,h2,h5,h6,hc,ha,ha1,hvv,cv,QP,QG,Zm,ONE]
  | [p],hL=>
   simp only[Zm]at hvv;by_cases cv:QK p=0
   ·rw[cv]at hvv;simp[F.f196r2,h2,h5,h6,hc,ha,hvv,cv,QP,Zm]
   ·simp[F.f196r2,h2,h5,h6,hc,ha,hvv,cv,QP,QG,Zm]
  | p:: q:: r,hL=>
   simp only[Zm,MUL]at hvv;have c8'': ¬(8:Int) < (r.length:Int)+1+1:=by simpa using c8'
   have n0: ¬(r.length:Int)+1+1=0:=by omega
   have n1: ¬(r.length:Int)+1+1=1:=by omega
   by_cases cv:QK (.mk 3 [109,117,108] 0 (p:: q:: r))=0
   ·rw[cv]at hvv;simp[F.f196r2,h2,h5,h6,hc,ha,hvv,cv,c8'',n0,n1,QP,Zm,MUL]
   ·simp[F.f196r2,h2,h5,h6,hc,ha,hvv,cv,c8'',n0,n1,QP,QG,Zm,MUL]
theorem Qe0 (l:List Pw) (bs:List (List AV)) (hv:Ze l=0) (hl:l.length < 5000000) (hk: ∀q∈l,q.1.mass < big) (hm: (∀q∈l,-8≤q.2∧q.2≤8)→massL (Zv l) < big - 100):
  ∀(post pre:List Pw) (ρ:Nat→AV),l=pre ++ post→(∀q∈pre,-8≤q.2∧q.2≤8)→ρ 2= .bx [.int .i64 0,.str [],.int .i64 0,.sl true 4 []]→ρ 5= .sl true 4 (encTs (Xl pre))→ρ 6= .sl true 4 (encTs (XB pre))→
   ρ 18= .sl false 5 (Qt l)→ρ 19= .int .i64 l.length→ρ 20= .int .i64 pre.length→
  R F.tb (.loop F.f196l2) ρ bs (Qh 0 (Qq F.tb F.f196r2 (Qx F.f196 bs)))=some (QP (ZA l),bs):=by
 intro post
 induction post with
 | nil=>
  intro pre ρ hkk hq h2 h5 h6 h18 h19 h20;simp only[List.append_nil]at hkk;subst hkk;have hr:=Qe1 l bs hv (by
   have h1:=Hr (l:=l) fun q h=>(hq q h).2;have h2:=Hj (l:=l) fun q h=>(hq q h).1;simp only[Zv,List.length_append];omega) (hm hq)
  rw[Qb F.f196l2.eq_1];simp[h18,h19,h20];apply hr <;> simp[h2,h5,h6]
 | cons p post IH=>
  intro pre ρ hkk hq h2 h5 h6 h18 h19 h20;have hg:=Qn hkk;have hll:l.length=pre.length+ (post.length+1):=by rw[hkk];simp
  have hw1:=wr1 pre.length (by omega);have hlt: (pre.length:Int) < (l.length:Int):=by omega
  have hpl:p∈l:=by rw[hkk];simp
  have hmp:=hk p hpl;have hbig: ∀n,n < (Zv l).length→8≤n→ZA l=(Qz,3):=by
   intro n h1 h2;have:8 < (Zv l).length:=by omega
   simp[ZA,hv,this]
  rw[Qb F.f196l2.eq_1];by_cases c1:8 < p.2
  ·have h1:=Hs hpl;have e:=hbig 8 (by simp only[Zv,List.length_append];omega) (by omega);rw[e];simp[h2,h5,h6,h18,h19,h20,hg,hlt,c1,QP,QG]
  ·by_cases c2:p.2 < -8
   ·have h1:=Hk hpl;have e:=hbig 8 (by simp only[Zv,List.length_append];omega) (by omega);rw[e];simp[h2,h5,h6,h18,h19,h20,hg,hlt,c1,c2,QP,QG]
   ·have hN: -8≤p.2∧p.2≤8:=by omega
    have hw:IntKind.i64.wrap (-p.2)= -p.2:=QW (by omega) (by omega);have hq2: ∀q∈pre ++ [p],-8≤q.2∧q.2≤8:=by
     intro q h;rcases List.mem_append.1 h with h | h
     ·exact hq q h
     ·simp at h;subst h;exact hN
    have h1:=Hr (l:=pre) fun q h=>(hq q h).2;have h3:=Hj (l:=pre) fun q h=>(hq q h).1;have ih:=fun ρ=>IH (pre ++ [p]) ρ (by rw[hkk];simp) hq2;simp[h2,h5,h6,h18,h19,h20,hg,hlt,c1,c2];refine QeY hmp hN _ _ _ p.2.toNat (Xl pre) 0 _ (by omega) (by omega) ?_ ?_ ?_ ?_ ?_
    ·simp[h5]
    ·simp
    ·simp
    ·simp
    ·intro ρ' g5 gj;have g2:ρ' 2=_:=gj 2 (by omega) (by omega);have g6:ρ' 6=_:=gj 6 (by omega) (by omega);have g8:ρ' 8=_:=gj 8 (by omega) (by omega);have g18:ρ' 18=_:=gj 18 (by omega) (by omega);have g19:ρ' 19=_:=gj 19 (by omega) (by omega);have g20:ρ' 20=_:=gj 20 (by omega) (by omega);simp[h2,h6,h18,h19,h20]at g2 g6 g8 g18 g19 g20;simp[F.f196r0,g8,hw];refine QeZ hmp hN _ _ _ (-p.2).toNat (XB pre) 0 _ (by omega) (by omega) ?_ ?_ ?_ ?_ ?_
     ·simp[g6]
     ·simp[g8]
     ·simp
     ·simp
     ·intro ρ'' k6 kj;have k2:ρ'' 2=_:=kj 2 (by omega) (by omega);have k5:ρ'' 5=_:=kj 5 (by omega) (by omega);have k18:ρ'' 18=_:=kj 18 (by omega) (by omega);have k19:ρ'' 19=_:=kj 19 (by omega) (by omega);have k20:ρ'' 20=_:=kj 20 (by omega) (by omega);simp[g2,g5,g18,g19,g20]at k2 k5 k18 k19 k20;simp[F.f196r1,k20,hw1];apply ih <;> simp[k2,k5,k6,k18,k19,Hq,Hi]
theorem QcI (l:List Pw) (o:Bool) (bs:List (List AV)) (hl:l.length < 5000000) (hk: ∀q∈l,q.1.mass < big) (hm: (∀q∈l,-8≤q.2∧q.2≤8)→massL (Zv l) < big - 100):
  call F.tb 196 [.sl o 5 (Qt l)] bs=some (QP (ZA l),bs):=by
 have h1:=RM l false bs (by omega) hk;rw[Qa F.tb_196 _ _ rfl];by_cases hv:Ze l=0
 ·have h:=fun ρ=>Qe0 l bs hv hl hk hm l [] ρ rfl (by simp);simp[F.f196C,h1,hv];apply h <;> simp[Xl,XB,encTs]
 ·have e:ZA l=(Qz,Ze l):=by simp[ZA,hv]
  rw[e];simp[F.f196C,h1,hv,QP,QG]
theorem XF (n:List UInt8) (ks:List Tm) (o:Bool) (bs:List (List AV)) (hl:ks.length < 100000000):call F.tb 120 [.str n,.sl o 4 (encTs ks)] bs=some (.agg (Qc (.mk 3 n 0 ks)),bs):=by
 have hb:ks.length*56≤140737488355328:=Yu (by omega);rw[Qa F.tb_120 _ _ rfl];simp[F.f120C,hb,WW]
theorem PM {α:Type} (n:Nat) (a b:List α): (a.take n ++ b).take n=(a ++ b).take n:=by
 rw[List.take_append,List.take_append,List.take_take,List.length_take,Nat.min_self];congr 2;omega
theorem Qhy {l:List Pw} {p:Pw} {bs:List (List AV)} (hN: -1000≤p.2∧p.2≤1000) (c:AC) (K:Kn) (X:Out): ∀(k:Nat) (acc:List Tm) (i n:Nat) (o:Bool) (ρ:Nat→AV),l[n]? =some p→i+k=p.2.toNat→acc.length≤9→ρ 0= .sl o 5 (Qt l)→ρ 3= .sl true 4 (encTs acc)→ρ 4= .int .i64 n→ρ 5= .int .i64 i→
  (∀ρ':Nat→AV,ρ' 0= .sl o 5 (Qt l)→ρ' 4= .int .i64 n→ρ' 3= .sl true 4 (encTs ((acc ++ List.replicate k p.1).take 9))→R F.tb c ρ' bs K=X)→
  R F.tb (.loop F.f260l0) ρ bs (Qh 2 (Qh 1 (Qq F.tb c K)))=X:=by
 intro k
 induction k with
 | zero=>
  intro acc i n o ρ hg hi ha h0 h3 h4 h5 h;have hn: ¬(i:Int) < p.2:=by omega
  rw[Qb F.f260l0.eq_1];simp[h0,h3,h4,h5,hg,hn];apply h <;> simp[h0,h3,h4,List.take_of_length_le ha]
 | succ k IH=>
  intro acc i n o ρ hg hi ha h0 h3 h4 h5 h;have hn: (i:Int) < p.2:=by omega
  have hw1:IntKind.i64.wrap ((i:Int)+1)=((i+1:Nat):Int):=by rw[QW (by omega) (by omega)];omega
  rw[Qb F.f260l0.eq_1];by_cases c9:acc.length < 9
  ·have c9': (acc.length:Int) < 9:=by omega
   have hb: (acc.length+1)*56≤140737488355328:=Yu (by omega);simp[h0,h3,h4,h5,hg,hn,hw1,hb,c9',Q7,QZ];refine IH (acc ++ [p.1]) (i+1) n o _ hg (by omega) (by simp;omega) ?_ ?_ ?_ ?_ ?_
   ·simp[h0]
   ·simp
   ·simp[h4]
   ·simp
   ·intro ρ' g0 g4 g3;rw[O6]at g3;exact h ρ' g0 g4 g3
  ·have c9': ¬(acc.length:Int) < 9:=by omega
   have e: (acc ++ List.replicate (k+1) p.1).take 9=acc:=by rw[List.take_append_of_le_length (by omega),List.take_of_length_le ha]
   simp[h0,h3,h4,h5,hg,hn,c9'];apply h <;> simp[h0,h3,h4,e]
theorem QhA {l:List Pw} {p:Pw} {bs:List (List AV)} (hN: -1000≤p.2∧p.2≤1000) (c:AC) (K:Kn) (X:Out): ∀(k:Nat) (acc:List Tm) (i n:Nat) (o:Bool) (ρ:Nat→AV),l[n]? =some p→i+k=(-p.2).toNat→acc.length≤9→ρ 0= .sl o 5 (Qt l)→ρ 3= .sl true 4 (encTs acc)→ρ 6= .int .i64 n→ρ 7= .int .i64 i→
  (∀ρ':Nat→AV,ρ' 0= .sl o 5 (Qt l)→ρ' 6= .int .i64 n→ρ' 3= .sl true 4 (encTs ((acc ++ List.replicate k (Vy p.1)).take 9))→R F.tb c ρ' bs K=X)→
  R F.tb (.loop F.f260l2) ρ bs (Qh 6 (Qh 5 (Qq F.tb c K)))=X:=by
 have hw:IntKind.i64.wrap (-p.2)= -p.2:=QW (by omega) (by omega);intro k
 induction k with
 | zero=>
  intro acc i n o ρ hg hi ha h0 h3 h4 h5 h;have hn: ¬(i:Int) < -p.2:=by omega
  rw[Qb F.f260l2.eq_1];simp[h0,h3,h4,h5,hg,hw,hn];apply h <;> simp[h0,h3,h4,List.take_of_length_le ha]
 | succ k IH=>
  intro acc i n o ρ hg hi ha h0 h3 h4 h5 h;have hn: (i:Int) < -p.2:=by omega
  have hw1:IntKind.i64.wrap ((i:Int)+1)=((i+1:Nat):Int):=by rw[QW (by omega) (by omega)];omega
  rw[Qb F.f260l2.eq_1];by_cases c9:acc.length < 9
  ·have c9': (acc.length:Int) < 9:=by omega
   have hb: (acc.length+1)*56≤140737488355328:=Yu (by omega);have hc2:=XF INV [p.1] false bs (by simp);simp only[INV]at hc2;simp[h0,h3,h4,h5,hg,hw,hn,hw1,hb,hc2,c9',Q7];rw[show Qc (Tm.mk 3 [105,110,118] 0 [p.1])=Qc (Vy p.1)from rfl];simp[Q7,QZ];refine IH (acc ++ [Vy p.1]) (i+1) n o _ hg (by omega) (by simp;omega) ?_ ?_ ?_ ?_ ?_
   ·simp[h0]
   ·simp[Vy,INV]
   ·simp[h4]
   ·simp
   ·intro ρ' g0 g4 g3;rw[O6]at g3;exact h ρ' g0 g4 g3
  ·have c9': ¬(acc.length:Int) < 9:=by omega
   have e: (acc ++ List.replicate (k+1) (Vy p.1)).take 9=acc:=by rw[List.take_append_of_le_length (by omega),List.take_of_length_le ha]
   simp[h0,h3,h4,h5,hg,hw,hn,c9'];apply h <;> simp[h0,h3,h4,e]
theorem QhB (l:List Pw) (bs:List (List AV)) (hl:l.length < 5000000) (hN: ∀q∈l,-1000≤q.2∧q.2≤1000):
  ∀(post pre:List Pw) (o:Bool) (ρ:Nat→AV),l=pre ++ post→ρ 0= .sl o 5 (Qt l)→ρ 3= .sl true 4 (encTs ((Xl l ++ XB pre).take 9))→ρ 6= .int .i64 pre.length→
  R F.tb (.loop F.f260l3) ρ bs (Qh 4 (Qq F.tb F.f260r2 (Qx F.f260 bs)))=some (.sl false 4 (encTs ((Zv l).take 9)),bs):=by
 intro post
 induction post with
 | nil=>
  intro pre o ρ hk h0 h3 h6;simp only[List.append_nil]at hk;subst hk;rw[Qb F.f260l3.eq_1];simp[h0,h3,h6,F.f260r2,Zv]
 | cons p post IH=>
  intro pre o ρ hk h0 h3 h6;have hg:=Qn hk;have hll:=Qu hk;have hw1:=wr1 pre.length (by omega);have hlt:=Qv hk;have ih:=fun ρ=>IH (pre ++ [p]) o ρ (by rw[hk];simp);have hpN:=hN p (by rw[hk];simp);rw[Qb F.f260l3.eq_1];simp[h0,h3,h6,hlt];refine QhA hpN _ _ _ (-p.2).toNat ((Xl l ++ XB pre).take 9) 0 pre.length o _ hg (by omega) (by rw[List.length_take];omega) ?_ ?_ ?_ ?_ ?_
  ·simp[h0]
  ·simp[h3]
  ·simp[h6]
  ·simp
  ·intro ρ' g0 g6 g3;rw[PM,List.append_assoc,← Hi]at g3;simp[F.f260r1,g6,hw1];apply ih <;> simp[g0,g3]
theorem Qhz (l:List Pw) (bs:List (List AV)) (hl:l.length < 5000000) (hN: ∀q∈l,-1000≤q.2∧q.2≤1000):
  ∀(post pre:List Pw) (o:Bool) (ρ:Nat→AV),l=pre ++ post→ρ 0= .sl o 5 (Qt l)→ρ 3= .sl true 4 (encTs ((Xl pre).take 9))→ρ 4= .int .i64 pre.length→
  R F.tb (.loop F.f260l1) ρ bs (Qh 0 (Qq F.tb F.f260r3 (Qx F.f260 bs)))=some (.sl false 4 (encTs ((Zv l).take 9)),bs):=by
 intro post
 induction post with
 | nil=>
  intro pre o ρ hk h0 h3 h4;simp only[List.append_nil]at hk;subst hk;have h:=fun ρ=>QhB l bs hl hN l [] o ρ rfl;rw[Qb F.f260l1.eq_1];simp[h0,h3,h4,F.f260r3];apply h <;> simp[h0,h3,XB]
 | cons p post IH=>
  intro pre o ρ hk h0 h3 h4;have hg:=Qn hk;have hll:=Qu hk;have hw1:=wr1 pre.length (by omega);have hlt:=Qv hk;have ih:=fun ρ=>IH (pre ++ [p]) o ρ (by rw[hk];simp);have hpN:=hN p (by rw[hk];simp);rw[Qb F.f260l1.eq_1];simp[h0,h3,h4,hlt];refine Qhy hpN _ _ _ p.2.toNat ((Xl pre).take 9) 0 pre.length o _ hg (by omega) (by rw[List.length_take];omega) ?_ ?_ ?_ ?_ ?_
  ·simp[h0]
  ·simp[h3]
  ·simp[h4]
  ·simp
  ·intro ρ' g0 g4 g3;rw[PM,← Hq]at g3;simp[F.f260r0,g4,hw1];apply ih <;> simp[g0,g3]
theorem QcY (l:List Pw) (o:Bool) (bs:List (List AV)) (hl:l.length < 5000000) (hN: ∀q∈l,-1000≤q.2∧q.2≤1000):
  call F.tb 260 [.sl o 5 (Qt l)] bs=some (.sl false 4 (encTs ((Zv l).take 9)),bs):=by
 have h:=fun ρ=>Qhz l bs hl hN l [] false ρ rfl;rw[Qa F.tb_260 _ _ rfl];simp[F.f260C];apply h <;> simp[Xl,encTs]
theorem QcX (l:List Pw) (o:Bool) (bs:List (List AV)) (hl:l.length < 5000000) (hk: ∀q∈l,q.1.mass < big) (hm: (∀q∈l,-8≤q.2∧q.2≤8)→massL (Zv l) < big - 100):
  call F.tb 258 [.sl o 5 (Qt l)] bs=some (QP (ZA l),bs):=by
 have h1:=RN l false bs (by omega) hk;rw[Qa F.tb_258 _ _ rfl];by_cases hv:Ze l=0
 ·obtain⟨hinv,_,_⟩:=WB hv hk;have h2:=QcY l false bs hl fun q hq=>(hinv.bd q hq).2;by_cases c8:8 < (Zv l).length
  ·have c8': (8:Int) < ((min 9 (Zv l).length:Nat):Int):=by omega
   have e:ZA l=(Qz,3):=by simp[ZA,hv,c8]
   rw[e];simp[F.f258C,h1,hv,h2,c8',QP,QG]
  ·have hN8: ∀q∈l,-8≤q.2∧q.2≤8:=by
    intro q hq;have h3:=Hs hq;have h4:=Hk hq;simp only[Zv,List.length_append]at c8;omega
   have hm':=hm hN8;have hpm: (Zm (Zv l)).mass < big:=by
    unfold big at *
    match h:Zv l with
    | []=>simp[Zm,Qy,massL,ONE]
    | [p]=>rw[h]at hm';simp[Zm,massL]at hm' ⊢;omega
    | p:: q:: r=>rw[h]at hm' c8;simp[Zm,Qy,massL,MUL]at hm' c8 ⊢;omega
   have hvv:=Xf (Zm (Zv l)) bs hpm;have e:ZA l=if QK (Zm (Zv l))≠0 then(Qz,QK (Zm (Zv l)))else(Zm (Zv l),0):=by simp[ZA,hv,c8]
   rw[e];rw[List.take_of_length_le (by omega)]at h2;have ha:=XF MUL (Zv l) false bs (by omega);have ha1:=XF ONE [] true bs (by simp);simp only[MUL]at ha;simp only[ONE,encTs]at ha1;have c8': ¬(8:Int) < ((Zv l).length:Int):=by omega
   generalize hL:Zv l=L at *
   match L,hL with
   | [],hL=>
    simp only[Zm,ONE]at hvv;simp only[encTs]at ha h2;by_cases cv:QK (.mk 3 [111,110,101] 0 [])=0
    ·rw[cv]at hvv;simp[F.f258C,h1,hv,h2,ha,ha1,hvv,cv,QP,Zm,ONE]
    ·simp[F.f258C,h1,hv,h2,ha,ha1,hvv,cv,QP,QG,Zm,ONE]
   | [p],hL=>
    simp only[Zm]at hvv;by_cases cv:QK p=0
    ·rw[cv]at hvv;simp[F.f258C,h1,hv,h2,ha,hvv,cv,QP,Zm]
    ·simp[F.f258C,h1,hv,h2,ha,hvv,cv,QP,QG,Zm]
   | p:: q:: r,hL=>
    simp only[Zm,MUL]at hvv;have c8'': ¬(8:Int) < (r.length:Int)+1+1:=by simpa using c8'
    have n0: ¬(r.length:Int)+1+1=0:=by omega
    have n1: ¬(r.length:Int)+1+1=1:=by omega
    by_cases cv:QK (.mk 3 [109,117,108] 0 (p:: q:: r))=0
    ·rw[cv]at hvv;simp[F.f258C,h1,hv,h2,ha,hvv,cv,c8'',n0,n1,QP,Zm,MUL]
    ·simp[F.f258C,h1,hv,h2,ha,hvv,cv,c8'',n0,n1,QP,QG,Zm,MUL]
 ·have e:ZA l=(Qz,Ze l):=by simp[ZA,hv]
  rw[e];simp[F.f258C,h1,hv,QP,QG]
theorem Xj:Qt []=[]:=rfl
def Y4 (a:List Pw):List Pw→List Pw
 | []=>a
 | q:: b=>Y4 (Ya a q.1 q.2) b
def ZY (l:List Pw):Int:=if l.any (fun q=>YH q.2)then 7 else if 200 < l.length then 3 else 0
def Xt (a b:List Pw):Int:=if Ze a≠0 then Ze a else if Ze b≠0 then Ze b else ZY (Y4 a b)
def YG (a b:List Pw):List Pw:=if Xt a b=0 then Y4 a b else []
theorem EU (l:List Pw) (bs:List (List AV)) (hl:l.length < 100000000):
  ∀(post pre:List Pw) (o:Bool) (ρ:Nat→AV),l=pre ++ post→pre.any (fun q=>YH q.2)=false→ρ 0= .sl o 5 (Qt l)→ρ 3= .int .i64 pre.length→
  R F.tb (.loop F.f263l0) ρ bs (Qh 0 (Qq F.tb F.f263r0 (Qx F.f263 bs)))=some (.int .i64 (ZY l),bs):=by
 intro post
 induction post with
 | nil=>
  intro pre o ρ hk hp h0 h3;simp only[List.append_nil]at hk;rw[← hk]at h3 hp;rw[Qb F.f263l0.eq_1];by_cases c:200 < l.length
  ·have c': (200:Int) < (l.length:Int):=by omega
   simp[h0,h3,F.f263r0,ZY,hp,c,c',-List.any_eq_false,-List.any_eq_true]
  ·have c': ¬(200:Int) < (l.length:Int):=by omega
   simp[h0,h3,F.f263r0,ZY,hp,c,c',-List.any_eq_false,-List.any_eq_true]
 | cons p post IH=>
  intro pre o ρ hk hp h0 h3;have hg:=Qn hk;have hll:=Qu hk;have hw1:=wr1 pre.length (by omega);have hlt:=Qv hk;have hany:YH p.2=true→ZY l=7:=by
   intro h;have:l.any (fun q=>YH q.2)=true:=List.any_eq_true.2 ⟨p,by rw[hk];simp,h⟩;simp only[ZY,this,if_true]
  rw[Qb F.f263l0.eq_1];by_cases c4:p.2 < -1000
  ·rw[hany (by simp[YH,c4])];simp[h0,h3,hg,hlt,c4]
  ·by_cases c5:1000 < p.2
   ·rw[hany (by simp[YH,c5])];simp[h0,h3,hg,hlt,c4,c5]
   ·have ih:=fun ρ=>IH (pre ++ [p]) o ρ (by rw[hk];simp) (by rw[List.any_append,hp];simp[YH,c4,c5]);simp[h0,h3,hg,hlt,hw1,c4,c5];apply ih <;> simp[h0]
theorem Qc0 (l:List Pw) (o:Bool) (bs:List (List AV)) (hl:l.length < 100000000):call F.tb 263 [.sl o 5 (Qt l)] bs=some (.int .i64 (ZY l),bs):=by
 have h:=fun ρ=>EU l bs hl l [] false ρ rfl rfl;rw[Qa F.tb_263 _ _ rfl];simp[F.f263C];apply h <;> simp
theorem C8 (b:List Pw) (bs:List (List AV)) (hb:b.length≤200) (hbm: ∀q∈b,q.1.mass < big∧q.2≠0∧ -1000≤q.2∧q.2≤1000) (X:List Pw):
  ∀(post pre:List Pw) (acc:List Pw) (n:Nat) (o o2:Bool) (ρ:Nat→AV),b=pre ++ post→XT acc n→n+1000*post.length < 40000000→Y4 acc post=X→ρ 1= .sl o 5 (Qt b)→ρ 8= .sl o2 5 (Qt acc)→ρ 9= .int .i64 pre.length→
  R F.tb (.loop F.f262l0) ρ bs (Qh 0 (Qq F.tb F.f262r0 (Qx F.f262 bs)))=some (.tup [.sl false 5 (Qt (if ZY X=0 then X else [])),.int .i64 (ZY X)],bs):=by
 intro post
 induction post with
 | nil=>
  intro pre acc n o o2 ρ hk ha hn hX h1 h8 h9;simp only[List.append_nil]at hk;rw[← hk]at h9;simp only[Y4]at hX;subst hX;have hal:=ha.len;have hr:=Qc0 acc false bs (by simp at hn;omega);rw[Qb F.f262l0.eq_1];by_cases c:ZY acc=0
  ·simp[h1,h8,h9,F.f262r0,hr,c]
  ·simp[h1,h8,h9,F.f262r0,hr,c,Xj]
 | cons p post IH=>
  intro pre acc n o o2 ρ hk ha hn hX h1 h8 h9;have hg:=Qn hk;have hll:=Qu hk;have hw1:=wr1 pre.length (by omega);have hlt:=Qv hk;obtain⟨q1,q2,q3,q4⟩:=hbm p (by rw[hk];simp);simp only[List.length_cons]at hn;have hc:=GR (m:=p.2) false bs ha (by omega) q1 (by omega);have ih:=fun ρ=>IH (pre ++ [p]) (Ya acc p.1 p.2) (n+1000) o false ρ (by rw[hk];simp) (ha.add (c:=1000) q1 q2 (by omega) (by omega)) (by omega) (by rw[← hX];rfl);rw[Qb F.f262l0.eq_1];simp[h1,h8,h9,hg,hlt,hw1,hc];apply ih <;> simp[h1]
theorem GS (a b:List Pw) (o o2:Bool) (bs:List (List AV)) (ha:a.length < 100000000) (hb:b.length < 100000000) (hma: ∀q∈a,q.1.mass < big) (hmb: ∀q∈b,q.1.mass < big):
  call F.tb 262 [.sl o 5 (Qt a),.sl o2 5 (Qt b)] bs=some (.tup [.sl false 5 (Qt (YG a b)),.int .i64 (Xt a b)],bs):=by
 have h1:=RN a false bs ha hma;have h2:=RN b false bs hb hmb;rw[Qa F.tb_262 _ _ rfl];by_cases va:Ze a=0
 ·by_cases vb:Ze b=0
  ·obtain⟨ia,la,_⟩:=WB va hma;obtain⟨ib,lb,_⟩:=WB vb hmb;have h3:=fun ρ=>C8 b bs lb (fun q hq=>by obtain⟨x1,x2,x3⟩:=ib.bd q hq;exact⟨x1,ib.nz q hq,x2,x3⟩) _ b [] a 1000 false true ρ rfl ia (by omega) rfl;have e1:Xt a b=ZY (Y4 a b):=by simp[Xt,va,vb]
   have e2:YG a b=if ZY (Y4 a b)=0 then Y4 a b else []:=by simp[YG,e1]
   have hb64:a.length*64≤140737488355328:=Pq (by omega);rw[e1,e2];simp[F.f262C,h1,h2,va,vb,hb64];apply h3 <;> simp
  ·have e1:Xt a b=Ze b:=by simp[Xt,va,vb]
   have e2:YG a b=[]:=by simp[YG,e1,vb]
   rw[e1,e2];simp[F.f262C,h1,h2,va,vb,Xj]
 ·have e1:Xt a b=Ze a:=by simp[Xt,va]
  have e2:YG a b=[]:=by simp[YG,e1,va]
  rw[e1,e2];simp[F.f262C,h1,va,Xj]
theorem QhD {B0 B:List (List AV)} {v:AV} {l:List Pw} (p:Pw) (o:Bool) (h:PS B0 B v l) (hl:l.length < 50000000): ∃v' B',appM 64 5 v (.sl o 5 [QT p]) B=some (v',B')∧PS B0 B' v' (l ++ [p]):=by
 obtain⟨M,id,sz,rfl,rfl,hc⟩:=h;have hb: (l.length+1)*64≤140737488355328:=Pq (by omega);have hs:Wz 5 (.sl o 5 [QT p]) (B0 ++ M)=some (1,QT p):=by simp[Wz]
 rcases hc with⟨rfl,rfl,rfl⟩ | ⟨rfl,hid,t,hbx,hne⟩
 ·refine⟨.gs (B0 ++ M).length 0 5 1,B0 ++ (M ++ [QT p]),?_,M ++ [QT p],(B0 ++ M).length,5,rfl,rfl,.inr ⟨rfl,by simp,[],?_,?_⟩⟩
  ·simp[appM,hs]
  ·rw[← List.append_assoc,List.getElem?_concat_length];simp[QB,ZP]
  ·simp[QB,ZP,Fc]
 ·have hlt:=Wk hbx;have hr:=Yt l;have hle:l.length*5≤(QB l ++ t).length:=by rw[List.length_append,hr];omega
  have hrow:QB (l ++ [p])=QB l ++ QT p:=by simp[QB,Wo,RX]
  have htk: (QB l ++ t).take (l.length*5)=QB l:=by rw[← hr,List.take_left]
  have hne2: ∀x:List AV,QB l ++ (QT p ++ x)≠[]:=fun x e=>by
   have:=congrArg List.length e;simp at this
  by_cases hroom: (l.length+1)*5≤(QB l ++ t).length
  ·refine⟨.gs id 0 5 (l.length+1),(B0 ++ M).set id (QB l ++ (QT p ++ (QB l ++ t).drop (l.length*5+5))),?_,_,id,5,YI hid _,by simp,.inr ⟨rfl,hid,(QB l ++ t).drop (l.length*5+5),?_,?_⟩⟩
   ·simp only[appM,hs,Option.bind_some];rw[if_pos ⟨by omega,hb⟩,if_neg (by omega),if_neg (by omega),if_pos ⟨trivial,trivial⟩,hbx];simp only[Option.bind_some];rw[if_pos ⟨hne,hle⟩,if_pos hroom];simp only[put,htk,Xr];simp
   ·have:id < (B0 ++ M).length:=hlt;rw[List.getElem?_set,if_pos rfl,if_pos this,hrow];simp
   ·rw[hrow,List.append_assoc];exact hne2 _
  ·refine⟨.gs (B0 ++ M).length 0 5 (l.length+1),(B0 ++ M).set id []++ [QB l ++ QT p],?_,M.set (id - B0.length) []++ [QB l ++ QT p],(B0 ++ M).length,5,?_,by simp,.inr ⟨rfl,by simp,[],?_,?_⟩⟩
   ·have hst: (QB l).map AV.strip=QB l:=Yw X1 l;simp only[appM,hs,Option.bind_some];rw[if_pos ⟨by omega,hb⟩,if_neg (by omega),if_neg (by omega),if_pos ⟨trivial,trivial⟩,hbx];simp only[Option.bind_some];rw[if_pos ⟨hne,hle⟩,if_neg hroom,htk,hst]
   ·rw[YI hid,List.append_assoc]
   ·have e: (B0 ++ M).length=((B0 ++ M).set id []).length:=by simp
    rw[hrow,List.append_nil,e,List.getElem?_concat_length]
   ·rw[hrow,List.append_nil];have:=hne2 [];simpa using this
theorem H5 (l:List Pw) (B0 K:List (List AV)) (hl:l.length < 40000000) (hm: ∀q∈l,q.1.mass < big):
  ∀(post pre:List Pw) (B:List (List AV)) (v:AV) (ρ:Nat→AV),l=pre ++ post→PS B0 B v pre→ρ 3=v→ρ 6= .sl false 5 (Qt l)→ρ 7= .int .i64 l.length→ρ 8= .int .i64 pre.length→
  A3 B0 l (R F.tb (.loop F.f201l0) ρ B (Qh 0 (Qq F.tb F.f201r0 (Qx F.f201 K)))):=by
 intro post
 induction post with
 | nil=>
  intro pre B v ρ hk hps h3 h6 h7 h8;simp only[List.append_nil]at hk;subst hk;obtain⟨id,sz,rfl⟩:=Wy hps;rw[Qb F.f201l0.eq_1];refine⟨_,B,?_,hps⟩;simp[h3,h6,h7,h8,F.f201r0]
 | cons p post IH=>
  intro pre B v ρ hk hps h3 h6 h7 h8;have hg:=Qn hk;have hll:=Qu hk;have hw1:=wr1 pre.length (by omega);have hlt:=Qv hk;have hc:=Up p.1 B (hm p (by rw[hk];simp));obtain⟨v2,B2,ha,hps2⟩:=QhD p false hps (by omega);have ih:=fun ρ=>IH (pre ++ [p]) B2 v2 ρ (by rw[hk];simp) hps2;obtain⟨id,sz,rfl⟩:=Wy hps;obtain⟨id2,sz2,rfl⟩:=Wy hps2;have hf:Qc p.1 ++ [.int .i64 p.2]=QT p:=rfl;rw[Qb F.f201l0.eq_1];simp[h3,h6,h7,h8,hg,hlt,hw1,hc,List.take_append,List.drop_append,hf,ha];apply ih <;> simp[h6,h7]
theorem GQ (l:List Pw) (o:Bool) (B0:List (List AV)) (hl:l.length < 40000000) (hm: ∀q∈l,q.1.mass < big):A3 B0 l (call F.tb 201 [.sl o 5 (Qt l)] B0):=by
 have h:=fun ρ=>H5 l B0 B0 hl hm l [] B0 _ ρ rfl (B5 B0);rw[Qa F.tb_201 _ _ rfl];simp[F.f201C];apply h <;> simp
theorem QcL (p:Pw) (B:List (List AV)):call F.tb 203 [.agg (QT p)] B=some (.bool (YH p.2),B):=by
 rw[Qa F.tb_203 _ _ rfl];by_cases c4:p.2 < -1000
 ·simp[F.f203C,YH,c4]
 ·by_cases c5:1000 < p.2
  ·simp[F.f203C,YH,c4,c5]
  ·simp[F.f203C,YH,c4,c5]
def T6 (b:Bool) (B:List (List AV)) (r:Out):Prop:=∃i:Int,r=some (.int .i64 i,B)∧(0≤i↔b=true)
theorem Qem {B0 B:List (List AV)} {v:AV} {l:List Pw} (h:PS B0 B v l) (hl:l.length < 100000000):
  ∀(post pre:List Pw) (ρ:Nat→AV),l=pre ++ post→pre.any (fun q=>YH q.2)=false→ρ 0=v→ρ 1= .fn 203 []→ρ 7= .int .i64 l.length→ρ 8= .int .i64 pre.length→
  T6 (l.any fun q=>YH q.2) B (R F.tb (.loop F.f205l0) ρ B (Qh 0 (Qq F.tb F.f205r0 (Qx F.f205 B)))):=by
 obtain⟨M,id,sz,rfl,rfl,hc⟩:=h;have htk: (B0 ++ M).take (B0.length+M.length)=B0 ++ M:=List.take_of_length_le (by simp);intro post
 induction post with
 | nil=>
  intro pre ρ hk hp h0 h1 h7 h8;simp only[List.append_nil]at hk;rw[← hk]at h8 hp;rw[Qb F.f205l0.eq_1];refine⟨-1,?_,by rw[hp];simp⟩;simp[h0,h1,h7,h8,F.f205r0,htk]
 | cons p post IH=>
  intro pre ρ hk hp h0 h1 h7 h8;have hg:=Qn hk;have hll:=Qu hk;have hw1:=wr1 pre.length (by omega);have hlt:=Qv hk;have hlt':pre.length < l.length:=by omega
  rcases hc with⟨rfl,rfl,rfl⟩ | ⟨rfl,hid,t,hbx,hne⟩
  ·simp at hlt'
  have r1:=Lr (l:=l) (RW hg t);have hle:pre.length*5+5≤(QB l ++ t).length:=by rw[List.length_append,Yt];omega
  have hcall:=QcL p (B0 ++ M);have ih:=fun ρ hpp=>IH (pre ++ [p]) ρ (by rw[hk];simp) hpp;generalize QB l ++ t=c at *;rw[Qb F.f205l0.eq_1];cases ho:YH p.2
  ·have ih2:=fun ρ=>ih ρ (by rw[List.any_append,hp];simp[ho]);simp[-getElem?_pos,h0,h1,h7,h8,hlt,hlt',hw1,hbx,hle,r1,hcall,ho,-List.any_eq_false,-List.any_eq_true];apply ih2 <;> simp[h0,h1,h7]
  ·have hany:l.any (fun q=>YH q.2)=true:=List.any_eq_true.2 ⟨p,by rw[hk];simp,ho⟩;refine⟨pre.length,?_,by rw[hany];simp⟩;simp[-getElem?_pos,h0,h1,h7,h8,hlt,hlt',hbx,hle,r1,hcall,ho,htk]
theorem QcM {B0 B:List (List AV)} {v:AV} {l:List Pw} (h:PS B0 B v l) (hl:l.length < 100000000):call F.tb 204 [v,.fn 203 []] B=some (.bool (l.any fun q=>YH q.2),B):=by
 have h1:=fun ρ=>Qem h hl l [] ρ rfl rfl;obtain⟨id,sz,rfl⟩:=Wy h;have h2:T6 (l.any fun q=>YH q.2) B (call F.tb 205 [.gs id 0 sz l.length,.fn 203 []] B):=by
  rw[Qa F.tb_205 _ _ rfl];simp[F.f205C,-List.any_eq_false,-List.any_eq_true];apply h1 <;> simp
 obtain⟨i,hi,hb⟩:=h2;rw[Qa F.tb_204 _ _ rfl];simp[F.f204C,hi,-List.any_eq_false,-List.any_eq_true];cases hx:l.any fun q=>YH q.2
 ·rw[hx]at hb;simp at hb;simpa using hb
 ·rw[hx]at hb;simp at hb;simpa using hb
theorem QeI {B0 B:List (List AV)} {v:AV} {l:List Pw} (h:PS B0 B v l) (n:Nat): ∃o M2,(B0 ++ M2).length=B.length∧YT B (B0 ++ M2)=true∧∀ρ:Nat→AV,ρ n=v→ZO {env:=ρ,bs:=B} n 5=some (.sl o 5 (Qt l),{env:=upd ρ n .undef,bs:=B0 ++ M2}):=by
 obtain⟨M,id,sz,rfl,rfl,hc⟩:=h;rcases hc with⟨rfl,rfl,rfl⟩ | ⟨rfl,hid,t,hb,hne⟩
 ·exact⟨true,M,rfl,TQ _,fun ρ hn=>by simp[ZO,hn,Qt]⟩
 ·by_cases hl:l.length=0
  ·have:l=[]:=List.eq_nil_of_length_eq_zero hl;subst this;exact⟨false,M,rfl,TQ _,fun ρ hn=>by simp[ZO,hn,Qt]⟩
  ·refine⟨true,M.set (id - B0.length) [],by simp,by rw[← YI hid];exact IM _ _,fun ρ hn=> ?_⟩;have hle:0+l.length*5≤(QB l ++ t).length:=by rw[List.length_append,Yt];omega
   have hch:ZL (QB l ++ t) 0 5 l.length=Qt l:=YX (f:=QT) (k:=5) Xr X1 l t;simp only[ZO,hn];rw[if_pos ⟨trivial,by omega⟩,if_neg hl,hb];simp only[Option.bind_some];rw[if_pos hle,hch,YI hid];rfl
def Qh1 (B0:List (List AV)) (l:List Pw) (r:Out):Prop:=∃M,r=some (.tup [.sl false 5 (Qt (if ZY l=0 then l else [])),.int .i64 (ZY l)],B0 ++ M)
theorem QcK {B0 B:List (List AV)} {v:AV} {l:List Pw} (h:PS B0 B v l) (hl:l.length < 100000000):Qh1 B0 l (call F.tb 202 [v] B):=by
 have h1:=QcM h hl;obtain⟨o,M2,hlen,hchk,hf⟩:=QeI h 9;obtain⟨M,hM⟩: ∃M,B=B0 ++ M:=by obtain⟨M,_,_,h,_⟩:=h;exact⟨M,h⟩
 subst hM;have htk: (B0 ++ M2).take (B0.length+M.length)=B0 ++ M2:=List.take_of_length_le (by rw[hlen];simp);have htk0: (B0 ++ M).take (B0.length+M.length)=B0 ++ M:=List.take_of_length_le (by simp);have hgp:=Pi l;obtain⟨id,sz,rfl⟩:=Wy h;rw[Qa F.tb_202 _ _ rfl];cases ha:l.any fun q=>YH q.2
 ·rw[ha]at h1;by_cases c:200 < l.length
  ·have c': (200:Int) < (l.length:Int):=by omega
   have e:ZY l=3:=by simp only[ZY,ha,c,if_true];rfl
   refine⟨M,?_⟩;rw[e];simp[F.f202C,h1,c',Xj,htk0]
  ·have c': ¬(200:Int) < (l.length:Int):=by omega
   have e:ZY l=0:=by simp only[ZY,ha,c,if_false];rfl
   refine⟨M2,?_⟩;rw[e];simp[F.f202C,h1,c',hf,htk,hchk]
 ·rw[ha]at h1;have e:ZY l=7:=by simp only[ZY,ha,if_true]
  refine⟨M,?_⟩;rw[e];simp[F.f202C,h1,Xj,htk0]
theorem Qa0 (b:List Pw) (B0:List (List AV)) (hb:b.length≤200) (hbm: ∀q∈b,q.1.mass < big∧q.2≠0∧ -1000≤q.2∧q.2≤1000) (X:List Pw):
  ∀(post pre:List Pw) (acc:List Pw) (n:Nat) (B:List (List AV)) (v:AV) (ρ:Nat→AV),b=pre ++ post→PS B0 B v acc→XT acc n→n+1000*post.length < 40000000→Y4 acc post=X→ρ 8=v→ρ 23= .sl false 5 (Qt b)→ρ 24= .int .i64 b.length→ρ 25= .int .i64 pre.length→
  R F.tb (.loop F.f200l0) ρ B (Qh 0 (Qq F.tb F.f200r0 (Qx F.f200 B0)))=some (.tup [.sl false 5 (Qt (if ZY X=0 then X else [])),.int .i64 (ZY X)],B0):=by
 intro post
 induction post with
 | nil=>
  intro pre acc n B v ρ hk hps ha hn hX h8 h23 h24 h25;simp only[List.append_nil]at hk;rw[← hk]at h25;simp only[Y4]at hX;subst hX;have hal:=ha.len;obtain⟨M,hr⟩:=QcK hps (by simp at hn;omega);obtain⟨id,sz,rfl⟩:=Wy hps;rw[Qb F.f200l0.eq_1];generalize (if ZY acc=0 then acc else [])=X at *;simp[h8,h23,h24,h25,F.f200r0,hr]
 | cons p post IH=>
  intro pre acc n B v ρ hk hps ha hn hX h8 h23 h24 h25;have hg:=Qn hk;have hll:=Qu hk;have hw1:=wr1 pre.length (by omega);have hlt:=Qv hk;obtain⟨q1,q2,q3,q4⟩:=hbm p (by rw[hk];simp);simp only[List.length_cons]at hn;have hal:=ha.len;obtain⟨v2,B2,hc,hps2⟩:=GN (p:=p) hps (by omega) (fun q hq=>by obtain⟨a1,a2,a3⟩:=ha.bd q hq;exact⟨a1,by omega,by omega⟩) q1 (by omega) ha.asc;have ih:=fun ρ=>IH (pre ++ [p]) (Ya acc p.1 p.2) (n+1000) B2 v2 ρ (by rw[hk];simp) hps2 (ha.add (c:=1000) q1 q2 (by omega) (by omega)) (by omega) (by rw[← hX];rfl);obtain⟨id,sz,rfl⟩:=Wy hps;obtain⟨id2,sz2,rfl⟩:=Wy hps2;rw[Qb F.f200l0.eq_1];simp[h8,h23,h24,h25,hg,hlt,hw1,hc];apply ih <;> simp[h23,h24]
theorem GP (a b:List Pw) (o o2:Bool) (bs:List (List AV)) (ha:a.length < 100000000) (hb:b.length < 100000000) (hma: ∀q∈a,q.1.mass < big) (hmb: ∀q∈b,q.1.mass < big):
  call F.tb 200 [.sl o 5 (Qt a),.sl o2 5 (Qt b)] bs=some (.tup [.sl false 5 (Qt (YG a b)),.int .i64 (Xt a b)],bs):=by
 have h1:=RM a false bs ha hma;have h2:=RM b false bs hb hmb;rw[Qa F.tb_200 _ _ rfl];by_cases va:Ze a=0
 ·by_cases vb:Ze b=0
  ·obtain⟨ia,la,_⟩:=WB va hma;obtain⟨ib,lb,_⟩:=WB vb hmb;obtain⟨v,B,hc,hps⟩:=GQ a false bs (by omega) hma;have h3:=fun ρ=>Qa0 b bs lb (fun q hq=>by obtain⟨x1,x2,x3⟩:=ib.bd q hq;exact⟨x1,ib.nz q hq,x2,x3⟩) _ b [] a 1000 B v ρ rfl hps ia (by omega) rfl;obtain⟨id,sz,rfl⟩:=Wy hps;have e1:Xt a b=ZY (Y4 a b):=by simp[Xt,va,vb]
   have e2:YG a b=if ZY (Y4 a b)=0 then Y4 a b else []:=by simp[YG,e1]
   rw[e1,e2];simp[F.f200C,h1,h2,va,vb,hc];apply h3 <;> simp
  ·have e1:Xt a b=Ze b:=by simp[Xt,va,vb]
   have e2:YG a b=[]:=by simp[YG,e1,vb]
   rw[e1,e2];simp[F.f200C,h1,h2,va,vb,Xj]
 ·have e1:Xt a b=Ze a:=by simp[Xt,va]
  have e2:YG a b=[]:=by simp[YG,e1,va]
  rw[e1,e2];simp[F.f200C,h1,va,Xj]
@[simp] theorem QjD (x y:Tm) (a:List Tm) (h:1 < (encTs (x:: y:: a)).length): (encTs (x:: y:: a))[1]=Qc y:=by simp[encTs]
def ZG:List UInt8:=[112,97,105,114]
def ENC:List UInt8:=[101,110,99]
def Yc:List UInt8:=[97,101,110,99]
def PK:List UInt8:=[112,107]
def ZV:List UInt8:=[115,105,103,110]
def EXP:List UInt8:=[101,120,112]
def FST:List UInt8:=[102,115,116]
def SND:List UInt8:=[115,110,100]
def DEC:List UInt8:=[100,101,99]
def Zo:List UInt8:=[97,100,101,99]
def ZF:List UInt8:=[111,112,101,110]
def READ:List UInt8:=[114,101,97,100]
def ZH (n:List UInt8) (m:Nat):Bool:=
 if n=ZG∨n=ENC∨n=Yc∨n=ZV∨n=EXP∨n=DEC∨n=Zo∨n=ZF then decide (m=2)
 else if n=PK∨n=FST∨n=SND∨n=READ then decide (m=1)else true
mutual
def QN:Tm→Bool
 | .mk k n s ks=>(!(k == 3) || ((s == 0) && ZH n ks.length)) && goodL ks
def goodL:List Tm→Bool
 | []=>true
 | t:: ts=>QN t && goodL ts
end
theorem NG (t:Tm):QN t=((!(t.kind == 3) || ((t.sort == 0) && ZH t.name t.kids.length)) && goodL t.kids):=by cases t;simp[QN]
theorem YO: ∀{l:List Tm},goodL l=true↔∀x∈l,QN x=true
 | []=>by simp[goodL]
 | t:: ts=>by simp[goodL,YO (l:=ts)]
theorem X2 {t:Tm} (h:QN t=true):goodL t.kids=true:=by rw[NG]at h;simp at h;exact h.2
theorem WY {t:Tm} (h:QN t=true) (hk:t.kind=3):t.sort=0∧ZH t.name t.kids.length=true:=by
 rw[NG]at h;simp[hk]at h;exact h.1
theorem YV {t:Tm} {n:List UInt8} (h:QN t=true) (hb:isB t n=true) (hn:ZH n t.kids.length=decide (t.kids.length=2)): ∃x y,t.kids=[x,y]:=by
 obtain⟨hk,rfl⟩:=VH.1 hb;have:=(WY h hk).2;rw[hn]at this;simp at this
 match hh:t.kids with
 | [x,y]=>exact⟨x,y,rfl⟩
 | []=>rw[hh]at this;simp at this
 | [_]=>rw[hh]at this;simp at this
 | _:: _:: _:: _=>rw[hh]at this;simp at this
def kid (t:Tm) (i:Nat):Tm:=t.kids.getD i Qz
def pkT (t:Tm):Tm:= .mk 3 PK 0 [t]
theorem Fn {u:Tm} (h:QN u=true) (key:Tm):decide (Qm u (pkT key)=0)=(isB u PK && decide (Qm (kid u 0) key=0)):=by
 cases hb:isB u PK
 ·have: ¬Qm u (pkT key)=0:=by
   intro e;have:=Z6 _ _ e;subst this;simp[isB,pkT]at hb
  simp[this]
 ·obtain⟨hk,hn⟩:=VH.1 hb;obtain⟨hs,ha⟩:=WY h hk;rw[hn]at ha;have h1:u.kids.length=1:=by simpa[ZH,PK,ZG,ENC,Yc,ZV,EXP,DEC,Zo,ZF]using ha
  obtain⟨x,hx⟩:=List.length_eq_one_iff.1 h1;have hu:u=pkT x:=by rw[← Tm.eta u,hk,hn,hs,hx];rfl
  subst hu;have:kid (pkT x) 0=x:=rfl;rw[this];have e1:Qm (pkT x) (pkT key)=0↔Qm x key=0:=by
   constructor
   ·intro e;have:=Z6 _ _ e;injection this with _ _ _ h4
    injection h4 with h4
    subst h4;exact WU _
   ·intro e;have:=Z6 _ _ e;subst this;exact WU _
  simp[e1]
def QI (n:List UInt8) (us:List Tm):Tm:=
 let a:=us.getD 0 Qz
 let key:=us.getD 1 Qz
 let out:Tm:= .mk 3 n 0 us
 if n=FST then(if isB a ZG then kid a 0 else out)
 else if n=SND then(if isB a ZG then kid a 1 else out)
 else if n=DEC then(if isB a ENC && decide (Qm (kid a 1) key=0)then kid a 0 else out)
 else if n=Zo then(if isB a Yc && decide (Qm (kid a 1) (pkT key)=0)then kid a 0 else out)
 else if n=ZF then(if isB a ZV && decide (Qm key (pkT (kid a 1))=0)then kid a 0 else out)
 else if n=READ then(if isB a ZV then kid a 0 else out)
 else out
theorem OT (x y:Tm) (bs:List (List AV)) (hx:x.mass < big) (hy:y.mass < big):call F.tb 177 [.agg (Qc x),.agg (Qc y)] bs=some (.bool (decide (Qm x y=0)),bs):=by
 have h:=call_Compare x y bs hx hy;rw[Qa F.tb_177 _ _ rfl];simp[F.f177C,h]
def Wv (n:List UInt8):Bool:=n == FST || n == SND || n == DEC || n == Zo || n == ZF || n == READ
theorem Qau (n:List UInt8) (a:Tm) (bs:List (List AV)) (hn:n=FST∨n=SND∨n=READ) (hg:QN a=true) (hm:a.mass < big):
  call F.tb 176 [.agg (Qc (.mk 3 n 0 [a]))] bs=some (.agg (Qc (QI n [a])),bs):=by
 have h1:=fun m=>P7 a m bs;rw[Qa F.tb_176 _ _ rfl];rcases hn with rfl | rfl | rfl
 ·cases hb:isB a ZG
  ·have h2:=h1 ZG;rw[hb]at h2;simp only[ZG]at h2
   have e:QI FST [a]= .mk 3 FST 0 [a]:=by simp[QI,hb]
   rw[e];simp only[FST];simp[F.f176C,h2]
  ·have h2:=h1 ZG;rw[hb]at h2;simp only[ZG]at h2
   obtain⟨x,y,hk⟩:=YV hg hb (by simp[ZH]);have e:QI FST [a]=x:=by simp[QI,hb,kid,hk]
   rw[e];simp only[FST];simp[F.f176C,h2,hk]
 ·cases hb:isB a ZG
  ·have h2:=h1 ZG;rw[hb]at h2;simp only[ZG]at h2
   have e:QI SND [a]= .mk 3 SND 0 [a]:=by simp[QI,hb,SND,FST]
   rw[e];simp only[SND];simp[F.f176C,h2]
  ·have h2:=h1 ZG;rw[hb]at h2;simp only[ZG]at h2
   obtain⟨x,y,hk⟩:=YV hg hb (by simp[ZH]);have e:QI SND [a]=y:=by simp[QI,hb,kid,hk,SND,FST]
   rw[e];simp only[SND];simp[F.f176C,h2,hk]
 ·cases hb:isB a ZV
  ·have h2:=h1 ZV;rw[hb]at h2;simp only[ZV]at h2
   have e:QI READ [a]= .mk 3 READ 0 [a]:=by simp[QI,hb,SND,FST,DEC,Zo,ZF,READ]
   rw[e];simp only[READ];simp[F.f176C,h2]
  ·have h2:=h1 ZV;rw[hb]at h2;simp only[ZV]at h2
   obtain⟨x,y,hk⟩:=YV hg hb (by simp[ZH]);have e:QI READ [a]=x:=by simp[QI,hb,kid,hk,SND,FST,DEC,Zo,ZF,READ]
   rw[e];simp only[READ];simp[F.f176C,h2,hk]
theorem Qav (n:List UInt8) (a key:Tm) (bs:List (List AV)) (hn:n=DEC∨n=Zo∨n=ZF) (hg:QN a=true) (hgk:QN key=true) (hm:a.mass < big - 10) (hmk:key.mass < big - 10):
  call F.tb 176 [.agg (Qc (.mk 3 n 0 [a,key]))] bs=some (.agg (Qc (QI n [a,key])),bs):=by
 have h1:=fun t m=>P7 t m bs;rw[Qa F.tb_176 _ _ rfl];rcases hn with rfl | rfl | rfl
 ·cases hb:isB a ENC
  ·have h2:=h1 a ENC;rw[hb]at h2;simp only[ENC]at h2
   have e:QI DEC [a,key]= .mk 3 DEC 0 [a,key]:=by simp[QI,hb,SND,FST,DEC]
   rw[e];simp only[DEC];simp[F.f176C,h2]
  ·have h2:=h1 a ENC;rw[hb]at h2;simp only[ENC]at h2
   obtain⟨x,y,hk⟩:=YV hg hb (by simp[ZH]);have hma:=Qy a;rw[hk]at hma;simp only[massL]at hma;have h3:=OT y key bs (by omega) (by omega);by_cases hc:Qm y key=0
   ·have e:QI DEC [a,key]=x:=by simp[QI,hb,kid,hk,hc,SND,FST,DEC]
    rw[e];simp only[DEC];simp[F.f176C,h2,h3,hc,hk]
   ·have e:QI DEC [a,key]= .mk 3 DEC 0 [a,key]:=by simp[QI,hb,kid,hk,hc,SND,FST,DEC]
    rw[e];simp only[DEC];simp[F.f176C,h2,h3,hc,hk]
 ·cases hb:isB a Yc
  ·have h2:=h1 a Yc;rw[hb]at h2;simp only[Yc]at h2
   have e:QI Zo [a,key]= .mk 3 Zo 0 [a,key]:=by simp[QI,hb,SND,FST,DEC,Zo]
   rw[e];simp only[Zo];simp[F.f176C,h2]
  ·have h2:=h1 a Yc;rw[hb]at h2;simp only[Yc]at h2
   obtain⟨x,y,hk⟩:=YV hg hb (by simp[ZH]);have hma:=Qy a;have hgy:QN y=true:=by
    have:=X2 hg;rw[hk]at this;simp[goodL]at this;exact this.2
   rw[hk]at hma;simp only[massL]at hma;have hpk:=Fn hgy key;have h4:=h1 y PK;have e0:QI Zo [a,key]=if isB y PK && decide (Qm (kid y 0) key=0)then x else .mk 3 Zo 0 [a,key]:=by
    rw[← hpk];simp[QI,hb,kid,hk,SND,FST,DEC,Zo]
   rw[e0];cases hbp:isB y PK
   ·rw[hbp]at h4;simp only[PK]at h4
    simp only[Zo];simp[F.f176C,h2,h4,hk]
   ·rw[hbp]at h4;simp only[PK]at h4
    obtain⟨hyk,hyn⟩:=VH.1 hbp;have har:=(WY hgy hyk).2;rw[hyn]at har;have hl1:y.kids.length=1:=by simpa[ZH,PK,ZG,ENC,Yc,ZV,EXP,DEC,Zo,ZF]using har
    obtain⟨z,hz⟩:=List.length_eq_one_iff.1 hl1;have hmy:=Qy y;rw[hz]at hmy;simp only[massL]at hmy;have h3:=OT z key bs (by omega) (by omega);have hk0:kid y 0=z:=by simp[kid,hz]
    rw[hk0];by_cases hc:Qm z key=0
    ·simp only[Zo];simp[F.f176C,h2,h3,h4,hc,hk,hz]
    ·simp only[Zo];simp[F.f176C,h2,h3,h4,hc,hk,hz]
 ·cases hb:isB a ZV
  ·have h2:=h1 a ZV;rw[hb]at h2;simp only[ZV]at h2
   have e:QI ZF [a,key]= .mk 3 ZF 0 [a,key]:=by simp[QI,hb,SND,FST,DEC,Zo,ZF]
   rw[e];simp only[ZF];simp[F.f176C,h2]
  ·have h2:=h1 a ZV;rw[hb]at h2;simp only[ZV]at h2
   obtain⟨x,y,hk⟩:=YV hg hb (by simp[ZH]);have hma:=Qy a;rw[hk]at hma;simp only[massL]at hma;have hpk:=Fn hgk y;have h4:=h1 key PK;have e0:QI ZF [a,key]=if isB key PK && decide (Qm (kid key 0) y=0)then x else .mk 3 ZF 0 [a,key]:=by
    rw[← hpk];simp[QI,hb,kid,hk,SND,FST,DEC,Zo,ZF]
   rw[e0];cases hbp:isB key PK
   ·rw[hbp]at h4;simp only[PK]at h4
    simp only[ZF];simp[F.f176C,h2,h4,hk]
   ·rw[hbp]at h4;simp only[PK]at h4
    obtain⟨hyk,hyn⟩:=VH.1 hbp;have har:=(WY hgk hyk).2;rw[hyn]at har;have hl1:key.kids.length=1:=by simpa[ZH,PK,ZG,ENC,Yc,ZV,EXP,DEC,Zo,ZF]using har
    obtain⟨z,hz⟩:=List.length_eq_one_iff.1 hl1;have hmy:=Qy key;rw[hz]at hmy;simp only[massL]at hmy;have h3:=OT y z bs (by omega) (by omega);have hk0:kid key 0=z:=by simp[kid,hz]
    have hsym: (Qm z y=0)=(Qm y z=0):=by
     have:=Xh y z;rw[eq_iff_iff];omega
    rw[hk0];by_cases hc:Qm y z=0
    ·simp only[ZF];simp[F.f176C,h2,h3,h4,hc,hk,hz,hsym]
    ·simp only[ZF];simp[F.f176C,h2,h3,h4,hc,hk,hz,hsym]
theorem Ho (t:Tm): (pkT t).mass=t.mass+4:=by simp only[pkT,Tm.mass,massL,PK,List.length_cons,List.length_nil];omega
def AZ (t:Tm) (bs:List (List AV)) (r:Out):Prop:=∃b,r=some (.tup [.agg (Qc t),.bool b],bs)
theorem C6 (n:List UInt8) (a:Tm) (bs:List (List AV)) (hn:n=FST∨n=SND∨n=READ) (hg:QN a=true) (hm:a.mass < big):
  AZ (QI n [a]) bs (call F.tb 243 [.agg (Qc (.mk 3 n 0 [a]))] bs):=by
 have h1:=fun m=>Tq a m bs;rw[Qa F.tb_243 _ _ rfl];rcases hn with rfl | rfl | rfl
 ·cases hb:isB a ZG
  ·have h2:=h1 ZG;rw[hb]at h2;simp only[ZG]at h2
   have e:QI FST [a]= .mk 3 FST 0 [a]:=by simp[QI,hb]
   rw[e];refine⟨false,?_⟩;simp only[FST];simp[F.f243C,h2]
  ·have h2:=h1 ZG;rw[hb]at h2;simp only[ZG]at h2
   obtain⟨x,y,hk⟩:=YV hg hb (by simp[ZH]);have e:QI FST [a]=x:=by simp[QI,hb,kid,hk]
   rw[e];refine⟨true,?_⟩;simp only[FST];simp[F.f243C,h2,hk]
 ·cases hb:isB a ZG
  ·have h2:=h1 ZG;rw[hb]at h2;simp only[ZG]at h2
   have e:QI SND [a]= .mk 3 SND 0 [a]:=by simp[QI,hb,SND,FST]
   rw[e];refine⟨false,?_⟩;simp only[SND];simp[F.f243C,h2]
  ·have h2:=h1 ZG;rw[hb]at h2;simp only[ZG]at h2
   obtain⟨x,y,hk⟩:=YV hg hb (by simp[ZH]);have e:QI SND [a]=y:=by simp[QI,hb,kid,hk,SND,FST]
   rw[e];refine⟨true,?_⟩;simp only[SND];simp[F.f243C,h2,hk]
 ·cases hb:isB a ZV
  ·have h2:=h1 ZV;rw[hb]at h2;simp only[ZV]at h2
   have e:QI READ [a]= .mk 3 READ 0 [a]:=by simp[QI,hb,SND,FST,DEC,Zo,ZF,READ]
   rw[e];refine⟨false,?_⟩;simp only[READ];simp[F.f243C,h2]
  ·have h2:=h1 ZV;rw[hb]at h2;simp only[ZV]at h2
   obtain⟨x,y,hk⟩:=YV hg hb (by simp[ZH]);have e:QI READ [a]=x:=by simp[QI,hb,kid,hk,SND,FST,DEC,Zo,ZF,READ]
   rw[e];refine⟨true,?_⟩;simp only[READ];simp[F.f243C,h2,hk]
theorem C7 (n:List UInt8) (a key:Tm) (bs:List (List AV)) (hn:n=DEC∨n=Zo∨n=ZF) (hg:QN a=true) (hm:a.mass < big - 10) (hmk:key.mass < big - 10):
  AZ (QI n [a,key]) bs (call F.tb 243 [.agg (Qc (.mk 3 n 0 [a,key]))] bs):=by
 have h1:=fun t m=>Tq t m bs;rw[Qa F.tb_243 _ _ rfl];rcases hn with rfl | rfl | rfl
 ·cases hb:isB a ENC
  ·have h2:=h1 a ENC;rw[hb]at h2;simp only[ENC]at h2
   have e:QI DEC [a,key]= .mk 3 DEC 0 [a,key]:=by simp[QI,hb,SND,FST,DEC]
   rw[e];refine⟨false,?_⟩;simp only[DEC];simp[F.f243C,h2]
  ·have h2:=h1 a ENC;rw[hb]at h2;simp only[ENC]at h2
   obtain⟨x,y,hk⟩:=YV hg hb (by simp[ZH]);have hma:=Qy a;rw[hk]at hma;simp only[massL]at hma;have h3:=Yi y key bs (by omega) (by omega);by_cases hc:Qm y key=0
   ·have e:QI DEC [a,key]=x:=by simp[QI,hb,kid,hk,hc,SND,FST,DEC]
    rw[e];refine⟨true,?_⟩;simp only[DEC];simp[F.f243C,h2,h3,hc,hk]
   ·have e:QI DEC [a,key]= .mk 3 DEC 0 [a,key]:=by simp[QI,hb,kid,hk,hc,SND,FST,DEC]
    rw[e];refine⟨false,?_⟩;simp only[DEC];simp[F.f243C,h2,h3,hc,hk]
 ·cases hb:isB a Yc
  ·have h2:=h1 a Yc;rw[hb]at h2;simp only[Yc]at h2
   have e:QI Zo [a,key]= .mk 3 Zo 0 [a,key]:=by simp[QI,hb,SND,FST,DEC,Zo]
   rw[e];refine⟨false,?_⟩;simp only[Zo];simp[F.f243C,h2]
  ·have h2:=h1 a Yc;rw[hb]at h2;simp only[Yc]at h2
   obtain⟨x,y,hk⟩:=YV hg hb (by simp[ZH]);have hma:=Qy a;rw[hk]at hma;simp only[massL]at hma;have hpm: (pkT key).mass < big:=by rw[Ho];unfold big at *;omega
   have h3:=Yi y (pkT key) bs (by omega) hpm;have h4:=XF PK [key] false bs (by simp);simp only[pkT,PK]at h3 h4;by_cases hc:Qm y (pkT key)=0
   ·have e:QI Zo [a,key]=x:=by simp[QI,hb,kid,hk,hc,SND,FST,DEC,Zo]
    rw[e];refine⟨true,?_⟩;simp only[pkT,PK]at hc;simp only[Zo];simp[F.f243C,h2,h3,h4,hc,hk,Q7]
   ·have e:QI Zo [a,key]= .mk 3 Zo 0 [a,key]:=by simp[QI,hb,kid,hk,hc,SND,FST,DEC,Zo]
    rw[e];refine⟨false,?_⟩;simp only[pkT,PK]at hc;simp only[Zo];simp[F.f243C,h2,h3,h4,hc,hk,Q7]
 ·cases hb:isB a ZV
  ·have h2:=h1 a ZV;rw[hb]at h2;simp only[ZV]at h2
   have e:QI ZF [a,key]= .mk 3 ZF 0 [a,key]:=by simp[QI,hb,SND,FST,DEC,Zo,ZF]
   rw[e];refine⟨false,?_⟩;simp only[ZF];simp[F.f243C,h2]
  ·have h2:=h1 a ZV;rw[hb]at h2;simp only[ZV]at h2
   obtain⟨x,y,hk⟩:=YV hg hb (by simp[ZH]);have hma:=Qy a;rw[hk]at hma;simp only[massL]at hma;have hpm: (pkT y).mass < big:=by rw[Ho];unfold big at *;omega
   have h3:=Yi key (pkT y) bs (by omega) hpm;have h4:=XF PK [y] false bs (by simp);simp only[pkT,PK]at h3 h4;by_cases hc:Qm key (pkT y)=0
   ·have e:QI ZF [a,key]=x:=by simp[QI,hb,kid,hk,hc,SND,FST,DEC,Zo,ZF]
    rw[e];refine⟨true,?_⟩;simp only[pkT,PK]at hc;simp only[ZF];simp[F.f243C,h2,h3,h4,hc,hk,Q7]
   ·have e:QI ZF [a,key]= .mk 3 ZF 0 [a,key]:=by simp[QI,hb,kid,hk,hc,SND,FST,DEC,Zo,ZF]
    rw[e];refine⟨false,?_⟩;simp only[pkT,PK]at hc;simp only[ZF];simp[F.f243C,h2,h3,h4,hc,hk,Q7]
def KM (l:List Pw) (M:Nat):Prop:=∀q∈l,q.1.mass≤M
theorem Fq {l:List Pw} {t:Tm} {m:Int} {M:Nat} (h:KM l M) (ht:t.mass≤M):KM (Ya l t m) M:=by
 intro q hq;rcases Ua hq with hq | rfl | ⟨_,_,rfl,_⟩
 ·exact h q hq
 ·exact ht
 ·exact ht
theorem Qep: ∀(t:Tm) (l:List Pw) (m:Int) (M:Nat),KM l M→t.mass≤M→KM (XM l t m) M:=by
 refine ZD ?_;intro k n s ks ih l m M h hm;have hme:=Qy (.mk k n s ks);simp only[QY,Zl]at hme;have hL: ∀(xs:List Tm) (l:List Pw) (m:Int),(∀x∈xs,x∈ks)→KM l M→KM (colL l xs m) M:=by
  intro xs
  induction xs with
  | nil=>intro l m _ h;simpa[colL]using h
  | cons x xs IH=>
   intro l m hx h;simp only[colL];exact IH _ m (fun y hy=>hx y (by simp[hy])) (ih x (hx x (by simp)) l m M h (by have:=QF (hx x (by simp));omega))
 rw[RP];split
 ·exact hL ks l _ (fun x hx=>hx) h
 ·exact Fq h hm
theorem Mt: ∀(b a:List Pw) (M:Nat),KM a M→KM b M→KM (Y4 a b) M
 | [],a,M,h,_=>h
 | q:: b,a,M,h,hb=>Mt b _ M (Fq h (hb q (by simp))) fun x hx=>hb x (by simp[hx])
theorem Tz (t:Tm) (M:Nat) (h:t.mass≤M):KM (ofP t) M:=by
 unfold ofP;split
 ·exact Qep t [] 1 M (fun q hq=>by simp at hq) h
 ·intro q hq;simp at hq
theorem Ul (t:Tm): (ofP t).length≤200:=by
 unfold ofP;split
 ·rename_i h;unfold ofE at h;split at h
  ·rename_i h1;exact absurd h h1
  ·split at h
   ·split at h
    ·cases h
    ·omega
   ·cases h
 ·simp
theorem ET {l:List Pw} (h:ZY l=0):l.length≤200:=by
 unfold ZY at h;split at h
 ·cases h
 ·split at h
  ·cases h
  ·omega
theorem NK (a b:List Pw): (YG a b).length≤200:=by
 unfold YG;split
 ·rename_i h;unfold Xt at h;split at h
  ·rename_i h1;exact absurd h h1
  ·split at h
   ·rename_i h1;exact absurd h h1
   ·exact ET h
 ·simp
theorem Lo {a b:List Pw} {M:Nat} (ha:KM a M) (hb:KM b M):KM (YG a b) M:=by
 unfold YG;split
 ·exact Mt b a M ha hb
 ·intro q hq;simp at hq
theorem LW (n:Nat) (t:Tm):massL (List.replicate n t)=n*t.mass:=by
 induction n with
 | zero=>simp[massL]
 | succ n ih=>rw[List.replicate_succ,massL,ih,Nat.succ_mul];omega
theorem BN (t:Tm): (Vy t).mass=t.mass+5:=by simp only[Vy,Tm.mass,massL,INV,List.length_cons,List.length_nil];omega
theorem MA: ∀{l:List Pw} {M:Nat},KM l M→(∀q∈l,q.2≤8)→massL (Xl l)≤l.length* (8*M)
 | [],M,_,_=>by simp[Xl,massL]
 | p:: l,M,h,hb=>by
  have h1:=MA (l:=l) (M:=M) (fun q hq=>h q (by simp[hq])) fun q hq=>hb q (by simp[hq]);have h2:=h p (by simp);have h3:=hb p (by simp);have h4:p.2.toNat* p.1.mass≤8*M:=Nat.mul_le_mul (by omega) h2;have e:Xl (p:: l)=List.replicate p.2.toNat p.1 ++ Xl l:=by simp[Xl]
  rw[e,XO,LW,List.length_cons,Nat.succ_mul];omega
theorem My: ∀{l:List Pw} {M:Nat},KM l M→(∀q∈l,-8≤q.2)→massL (XB l)≤l.length* (8* (M+5))
 | [],M,_,_=>by simp[XB,massL]
 | p:: l,M,h,hb=>by
  have h1:=My (l:=l) (M:=M) (fun q hq=>h q (by simp[hq])) fun q hq=>hb q (by simp[hq]);have h2:=h p (by simp);have h3:=hb p (by simp);have h4: (-p.2).toNat* (Vy p.1).mass≤8* (M+5):=Nat.mul_le_mul (by omega) (by rw[BN];omega);have e:XB (p:: l)=List.replicate (-p.2).toNat (Vy p.1)++ XB l:=by simp[XB]
  rw[e,XO,LW,List.length_cons,Nat.succ_mul];omega
theorem Mz {l:List Pw} (h:KM l 25000000) (hl:l.length≤200) (hb: ∀q∈l,-8≤q.2∧q.2≤8):massL (Zv l) < big - 100:=by
 have h1:=MA h fun q hq=>(hb q hq).2;have h2:=My h fun q hq=>(hb q hq).1;have h3:l.length* (8*25000000)≤200* (8*25000000):=Nat.mul_le_mul_right _ hl;have h4:l.length* (8* (25000000+5))≤200* (8* (25000000+5)):=Nat.mul_le_mul_right _ hl;unfold Zv;rw[XO];unfold big;omega
theorem Nu {l:List Pw} (o:Bool) (bs:List (List AV)) (h:KM l 25000000) (hl:l.length≤200):call F.tb 196 [.sl o 5 (Qt l)] bs=some (QP (ZA l),bs):=
 QcI l o bs (by omega) (fun q hq=>by have:=h q hq;unfold big;omega) (Mz h hl)
theorem Nv {l:List Pw} (o:Bool) (bs:List (List AV)) (h:KM l 25000000) (hl:l.length≤200):call F.tb 258 [.sl o 5 (Qt l)] bs=some (QP (ZA l),bs):=
 QcX l o bs (by omega) (fun q hq=>by have:=h q hq;unfold big;omega) (Mz h hl)
def Wb (b:Tm) (p:List Pw):Tm×Int:=if p=[]then(b,0)else if(ZA p).2≠0 then(Qz,(ZA p).2)else(.mk 3 EXP 0 [b,(ZA p).1],0)
def Y0 (b e:Tm):Tm×Int:=
 if ofE e≠0 then(Qz,ofE e)
 else if isB b EXP then
  if ofE (kid b 1)≠0 then(Qz,ofE (kid b 1))else if Xt (ofP (kid b 1)) (ofP e)≠0 then(Qz,Xt (ofP (kid b 1)) (ofP e))else Wb (kid b 0) (YG (ofP (kid b 1)) (ofP e))
 else Wb b (ofP e)
def Ye (t:Tm):Tm×Int:=if ofE t≠0 then(Qz,ofE t)else ZA (ofP t)
theorem QR (t:Tm) (e:Int):QP (t,e)= .tup [.agg (Qc t),.int .i64 e]:=rfl
theorem QcV (t:Tm) (bs:List (List AV)) (hm:t.mass < 20000000):call F.tb 252 [.agg (Qc t)] bs=some (QP (Ye t),bs):=by
 have h1:=Ta t bs (by omega);have h2:=Nv false bs (Tz t 25000000 (by omega)) (Ul t);rw[Qa F.tb_252 _ _ rfl];by_cases c:ofE t=0
 ·have e:Ye t=ZA (ofP t):=by simp[Ye,c]
  rw[e];simp only[QP]at h2 ⊢;simp[F.f252C,h1,h2,c]
 ·have e:Ye t=(Qz,ofE t):=by simp[Ye,c]
  rw[e];simp[F.f252C,h1,c,QR,QG]
theorem QcJ (b e:Tm) (bs:List (List AV)) (hg:QN b=true) (hb:b.mass < 20000000) (he:e.mass < 20000000):call F.tb 199 [.agg (Qc b),.agg (Qc e)] bs=some (QP (Y0 b e),bs):=by
 have h1:=U9 e bs (by omega);have h2:=P7 b EXP bs;have ke:=Tz e 25000000 (by omega);have le:=Ul e;rw[Qa F.tb_199 _ _ rfl];by_cases c1:ofE e=0
 ·cases hx:isB b EXP
  ·rw[hx]at h2;simp only[EXP]at h2
   have h4:=Nu false bs ke le;have e0:Y0 b e=Wb b (ofP e):=by simp[Y0,c1,hx]
   rw[e0];generalize ofP e=p at *
   match p with
   | []=>
    simp only[Xj]at h1;simp[F.f199C,h1,h2,c1,Wb,QR]
   | q:: r=>
    have n0: ¬(r.length:Int)+1=0:=by omega
    by_cases c2: (ZA (q:: r)).2=0
    ·have h5:=ID EXP [b,(ZA (q:: r)).1] false bs;simp only[QP,encTs]at h4 h5;simp only[EXP]at h5;simp[F.f199C,h1,h2,h4,h5,c1,c2,n0,Wb,QR,EXP]
    ·simp only[QP]at h4;simp[F.f199C,h1,h2,h4,c1,c2,n0,Wb,QR,QG]
  ·obtain⟨x,y,hk⟩:=YV hg hx (by simp[ZH]);rw[hx]at h2;simp only[EXP]at h2
   have hmb:=Qy b;rw[hk]at hmb;simp only[massL]at hmb;have k0:kid b 0=x:=by simp[kid,hk]
   have k1:kid b 1=y:=by simp[kid,hk]
   have h3:=U9 y bs (by omega);have ky:=Tz y 25000000 (by omega);have ly:=Ul y;by_cases c2:ofE y=0
   ·have h4:=GP (ofP y) (ofP e) false false bs (by omega) (by omega) (fun q hq=>by have:=ky q hq;unfold big;omega) (fun q hq=>by have:=ke q hq;unfold big;omega);by_cases c3:Xt (ofP y) (ofP e)=0
    ·have h6:=Nu false bs (Lo ky ke) (NK (ofP y) (ofP e));have e0:Y0 b e=Wb x (YG (ofP y) (ofP e)):=by simp[Y0,c1,hx,k0,k1,c2,c3]
     rw[e0];generalize YG (ofP y) (ofP e)=p at *
     match p with
     | []=>
      simp only[Xj]at h4;simp[F.f199C,h1,h2,h3,h4,hk,c1,c2,c3,Wb,QR]
     | q:: r=>
      have n0: ¬(r.length:Int)+1=0:=by omega
      by_cases c4: (ZA (q:: r)).2=0
      ·have h5:=ID EXP [x,(ZA (q:: r)).1] false bs;simp only[QP,encTs]at h6 h5;simp only[EXP]at h5;simp[F.f199C,h1,h2,h3,h4,h5,h6,hk,c1,c2,c3,c4,n0,Wb,QR,EXP]
      ·simp only[QP]at h6;simp[F.f199C,h1,h2,h3,h4,h6,hk,c1,c2,c3,c4,n0,Wb,QR,QG]
    ·have e0:Y0 b e=(Qz,Xt (ofP y) (ofP e)):=by simp[Y0,c1,hx,k1,c2,c3]
     rw[e0];simp[F.f199C,h1,h2,h3,h4,hk,c1,c2,c3,QR,QG]
   ·have e0:Y0 b e=(Qz,ofE y):=by simp[Y0,c1,hx,k1,c2]
    rw[e0];simp[F.f199C,h1,h2,h3,hk,c1,c2,QR,QG]
 ·have e0:Y0 b e=(Qz,ofE e):=by simp[Y0,c1]
  rw[e0];simp[F.f199C,h1,c1,QR,QG]
theorem QcZ (b e:Tm) (bs:List (List AV)) (hg:QN b=true) (hb:b.mass < 20000000) (he:e.mass < 20000000):call F.tb 261 [.agg (Qc b),.agg (Qc e)] bs=some (QP (Y0 b e),bs):=by
 have h1:=Ta e bs (by omega);have h2:=Tq b EXP bs;have ke:=Tz e 25000000 (by omega);have le:=Ul e;rw[Qa F.tb_261 _ _ rfl];by_cases c1:ofE e=0
 ·cases hx:isB b EXP
  ·rw[hx]at h2;simp only[EXP]at h2
   have h4:=Nv false bs ke le;have e0:Y0 b e=Wb b (ofP e):=by simp[Y0,c1,hx]
   rw[e0];generalize ofP e=p at *
   match p with
   | []=>
    simp only[Xj]at h1;simp[F.f261C,h1,h2,c1,Wb,QR]
   | q:: r=>
    have n0: ¬(r.length:Int)+1=0:=by omega
    by_cases c2: (ZA (q:: r)).2=0
    ·have h5:=XF EXP [b,(ZA (q:: r)).1] false bs (by simp);simp only[QP,encTs]at h4 h5;simp only[EXP]at h5;simp[F.f261C,h1,h2,h4,h5,c1,c2,n0,Wb,QR,EXP]
    ·simp only[QP]at h4;simp[F.f261C,h1,h2,h4,c1,c2,n0,Wb,QR,QG]
  ·obtain⟨x,y,hk⟩:=YV hg hx (by simp[ZH]);rw[hx]at h2;simp only[EXP]at h2
   have hmb:=Qy b;rw[hk]at hmb;simp only[massL]at hmb;have k0:kid b 0=x:=by simp[kid,hk]
   have k1:kid b 1=y:=by simp[kid,hk]
   have h3:=Ta y bs (by omega);have ky:=Tz y 25000000 (by omega);have ly:=Ul y;by_cases c2:ofE y=0
   ·have h4:=GS (ofP y) (ofP e) false false bs (by omega) (by omega) (fun q hq=>by have:=ky q hq;unfold big;omega) (fun q hq=>by have:=ke q hq;unfold big;omega);by_cases c3:Xt (ofP y) (ofP e)=0
    ·have h6:=Nv false bs (Lo ky ke) (NK (ofP y) (ofP e));have e0:Y0 b e=Wb x (YG (ofP y) (ofP e)):=by simp[Y0,c1,hx,k0,k1,c2,c3]
     rw[e0];generalize YG (ofP y) (ofP e)=p at *
     match p with
     | []=>
      simp only[Xj]at h4;simp[F.f261C,h1,h2,h3,h4,hk,c1,c2,c3,Wb,QR]
     | q:: r=>
      have n0: ¬(r.length:Int)+1=0:=by omega
      by_cases c4: (ZA (q:: r)).2=0
      ·have h5:=XF EXP [x,(ZA (q:: r)).1] false bs (by simp);simp only[QP,encTs]at h6 h5;simp only[EXP]at h5;simp[F.f261C,h1,h2,h3,h4,h5,h6,hk,c1,c2,c3,c4,n0,Wb,QR,EXP]
      ·simp only[QP]at h6;simp[F.f261C,h1,h2,h3,h4,h6,hk,c1,c2,c3,c4,n0,Wb,QR,QG]
    ·have e0:Y0 b e=(Qz,Xt (ofP y) (ofP e)):=by simp[Y0,c1,hx,k1,c2,c3]
     rw[e0];simp[F.f261C,h1,h2,h3,h4,hk,c1,c2,c3,QR,QG]
   ·have e0:Y0 b e=(Qz,ofE y):=by simp[Y0,c1,hx,k1,c2]
    rw[e0];simp[F.f261C,h1,h2,h3,hk,c1,c2,QR,QG]
 ·have e0:Y0 b e=(Qz,ofE e):=by simp[Y0,c1]
  rw[e0];simp[F.f261C,h1,c1,QR,QG]
end Go.Am
