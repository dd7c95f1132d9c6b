/-
  Rc18, Rc19, Rc20, Rc21, Rc22, Rc23, Rc24.
-/
import Derived.Test.YtiibekjjcelboaaGreatDoorG17
set_option linter.unusedVariables false
set_option linter.unusedSimpArgs false
namespace Go.Am
set_option maxRecDepth 8000
def Vp (t:Tm):Tm:= .mk 3 INV 0 [t]
def Xb (l:List Pw):List Tm:=(l.map fun p=>List.replicate p.2.toNat p.1).flatten
def Xu (l:List Pw):List Tm:=(l.map fun p=>List.replicate (-p.2).toNat (Vp p.1)).flatten
def Zv (l:List Pw):List Tm:=Xb l ++ Xu l
def Zp:List Tm→Tm
 | []=> .mk 3 ONE 0 []
 | [p]=>p
 | p:: q:: r=> .mk 3 MUL 0 (p:: q:: r)
def ZD (l:List Pw):Tm×Int:=
 if Zi l≠0 then(QD,Zi l)else if 8 < (Zv l).length then(QD,3)else if Qz (Zp (Zv l))≠0 then(QD,Qz (Zp (Zv l)))else(Zp (Zv l),0)
theorem Iu (a:List Pw) (p:Pw):Xb (a ++ [p])=Xb a ++ List.replicate p.2.toNat p.1:=by simp[Xb]
theorem Ig (a:List Pw) (p:Pw):Xu (a ++ [p])=Xu a ++ List.replicate (-p.2).toNat (Vp p.1):=by simp[Xu]
theorem Iv {l:List Pw} (h: ∀q∈l,q.2≤8): (Xb l).length≤8*l.length:=by
 induction l with
 | nil=>simp[Xb]
 | cons p l ih=>
  have h1:=ih fun q hq=>h q (by simp[hq]);have h2:=h p (by simp);simp only[Xb,List.map_cons,List.flatten_cons,List.length_append,List.length_replicate,List.length_cons]at h1 ⊢;omega
theorem Ih {l:List Pw} (h: ∀q∈l,-8≤q.2): (Xu l).length≤8*l.length:=by
 induction l with
 | nil=>simp[Xu]
 | cons p l ih=>
  have h1:=ih fun q hq=>h q (by simp[hq]);have h2:=h p (by simp);simp only[Xu,List.map_cons,List.flatten_cons,List.length_append,List.length_replicate,List.length_cons]at h1 ⊢;omega
theorem Iw {l:List Pw} {p:Pw} (h:p∈l):p.2.toNat≤(Xb l).length:=by
 induction l with
 | nil=>simp at h
 | cons q l ih=>
  simp only[Xb,List.map_cons,List.flatten_cons,List.length_append,List.length_replicate]at ih ⊢;rcases List.mem_cons.1 h with rfl | h
  ·omega
  ·have:=ih h;omega
theorem Ii {l:List Pw} {p:Pw} (h:p∈l): (-p.2).toNat≤(Xu l).length:=by
 induction l with
 | nil=>simp at h
 | cons q l ih=>
  simp only[Xu,List.map_cons,List.flatten_cons,List.length_append,List.length_replicate]at ih ⊢;rcases List.mem_cons.1 h with rfl | h
  ·omega
  ·have:=ih h;omega
theorem Mx (n:List UInt8) (ks:List Tm) (o:Bool) (bs:List (List AV)):call F.tb 198 [.str n,.sl o 4 (encTs ks)] bs=some (.agg (Qb (.mk 3 n 0 ks)),bs):=by
 rw[Qa F.tb_198 _ _ rfl];simp[F.f198,F.f198C,WO]
theorem OB {k:Nat} (acc:List Tm) (x:Tm): (acc ++ [x])++ List.replicate k x=acc ++ List.replicate (k+1) x:=by simp[List.replicate_succ]
theorem QeG {p:Pw} {bs:List (List AV)} (hp:p.1.mass < big) (hN: -8≤p.2∧p.2≤8) (c:AC) (K:Kn) (X:Out): ∀(k:Nat) (acc:List Tm) (i:Nat) (ρ:Nat→AV),i+k=p.2.toNat→acc.length+k < 100000000→ρ 5= .sl true 4 (encTs acc)→ρ 8= .bx (Qw p)→ρ 34= .int .i64 p.2→ρ 35= .int .i64 i→
  (∀ρ':Nat→AV,ρ' 5= .sl true 4 (encTs (acc ++ List.replicate k p.1))→(∀j,j < 34→j≠5→ρ' j=ρ j)→R F.tb c ρ' bs K=X)→
  R F.tb (.loop F.f196l0) ρ bs (Qj 2 (Qu F.tb c K))=X:=by
 intro k
 induction k with
 | zero=>
  intro acc i ρ hi hl h5 h8 h34 h35 h;have hn: ¬(i:Int) < p.2:=by omega
  rw[Qc F.f196l0.eq_1];simp[h5,h8,h34,h35,hn];apply h
  ·simp[h5]
  ·intro j hj h5j;have:j≠36:=by omega
   simp[this]
 | succ k IH=>
  intro acc i ρ hi hl h5 h8 h34 h35 h;have hn: (i:Int) < p.2:=by omega
  have hw1:IntKind.i64.wrap ((i:Int)+1)=((i+1:Nat):Int):=by rw[QB (by omega) (by omega)];omega
  have hb: (acc.length+1)*56≤140737488355328:=YW (by omega);have hc:=Ux p.1 bs hp;rw[Qc F.f196l0.eq_1];simp[h5,h8,h34,h35,hn,hw1,hb,hc,Zt,Q7];refine IH (acc ++ [p.1]) (i+1) _ (by omega) (by simp;omega) ?_ ?_ ?_ ?_ ?_
  ·simp
  ·simp[h8]
  ·simp[h34]
  ·simp
  ·intro ρ' g5 gj;rw[OB]at g5;refine h ρ' g5 fun j hj h5j=> ?_;rw[gj j hj h5j];have e1:j≠35:=by omega
   have e2:j≠36:=by omega
   have e3:j≠37:=by omega
   have e4:j≠38:=by omega
   have e5:j≠39:=by omega
   have e6:j≠40:=by omega
   have e7:j≠41:=by omega
   have e8:j≠42:=by omega
   have e9:j≠43:=by omega
   simp[*]
theorem QeH {p:Pw} {bs:List (List AV)} (hp:p.1.mass < big) (hN: -8≤p.2∧p.2≤8) (c:AC) (K:Kn) (X:Out): ∀(k:Nat) (acc:List Tm) (i:Nat) (ρ:Nat→AV),i+k=(-p.2).toNat→acc.length+k < 100000000→ρ 6= .sl true 4 (encTs acc)→ρ 8= .bx (Qw p)→ρ 46= .int .i64 (-p.2)→ρ 47= .int .i64 i→
  (∀ρ':Nat→AV,ρ' 6= .sl true 4 (encTs (acc ++ List.replicate k (Vp p.1)))→(∀j,j < 34→j≠6→ρ' j=ρ j)→R F.tb c ρ' bs K=X)→
  R F.tb (.loop F.f196l1) ρ bs (Qj 4 (Qj 1 (Qu F.tb c K)))=X:=by
 intro k
 induction k with
 | zero=>
  intro acc i ρ hi hl h6 h8 h46 h47 h;have hn: ¬(i:Int) < -p.2:=by omega
  rw[Qc F.f196l1.eq_1];simp[h6,h8,h46,h47,hn];apply h
  ·simp[h6]
  ·intro j hj h5j;have:j≠48:=by omega
   simp[this]
 | succ k IH=>
  intro acc i ρ hi hl h6 h8 h46 h47 h;have hn: (i:Int) < -p.2:=by omega
  have hw1:IntKind.i64.wrap ((i:Int)+1)=((i+1:Nat):Int):=by rw[QB (by omega) (by omega)];omega
  have hb: (acc.length+1)*56≤140737488355328:=YW (by omega);have hc:=Ux p.1 bs hp;have hc2:=Mx INV [p.1] false bs;simp only[INV]at hc2;rw[Qc F.f196l1.eq_1];simp[h6,h8,h46,h47,hn,hw1,hb,hc,hc2,Zt];rw[show Qb (Tm.mk 3 [105,110,118] 0 [p.1])=Qb (Vp p.1)from rfl];simp[Zt,Q7];refine IH (acc ++ [Vp p.1]) (i+1) _ (by omega) (by simp;omega) ?_ ?_ ?_ ?_ ?_
  ·simp[Vp,INV]
  ·simp[h8]
  ·simp[h46]
  ·simp
  ·intro ρ' g6 gj;rw[OB]at g6;refine h ρ' g6 fun j hj h5j=> ?_;rw[gj j hj h5j];have e1:j≠47:=by omega
   have e2:j≠48:=by omega
   have e3:j≠49:=by omega
   have e4:j≠50:=by omega
   have e5:j≠51:=by omega
   have e6:j≠52:=by omega
   have e7:j≠53:=by omega
   have e8:j≠54:=by omega
   have e9:j≠55:=by omega
   have e10:j≠56:=by omega
   have e11:j≠57:=by omega
   simp[*]
theorem QeJ (l:List Pw) (bs:List (List AV)) (hv:Zi l=0) (hl: (Zv l).length < 100000000) (hm:massL (Zv l) < big - 100) (ρ:Nat→AV) (h2:ρ 2= .bx [.int .i64 0,.str [],.int .i64 0,.sl true 4 []]) (h5:ρ 5= .sl true 4 (encTs (Xb l))) (h6:ρ 6= .sl true 4 (encTs (Xu l))):
  R F.tb F.f196r2 ρ bs (Qx F.f196 bs)=some (QR (ZD l),bs):=by
 have hc:=Uw [Xb l,Xu l] false bs (by simp) (by simpa[Zv]using hl);have hfl: [Xb l,Xu l].flatten=Zv l:=by simp[Zv]
 rw[hfl]at hc;simp only[Vg,List.map_cons,List.map_nil]at hc;have ha:=Mx MUL (Zv l) false bs;have ha1:=Mx ONE [] true bs;simp only[MUL]at ha;simp only[ONE,encTs]at ha1;by_cases c8:8 < (Zv l).length
 ·have c8': (8:Int) < ((Zv l).length:Int):=by omega
  have e:ZD l=(QD,3):=by simp[ZD,hv,c8]
  rw[e];simp[F.f196r2,h2,h5,h6,hc,c8',QR,QJ]
 ·have c8': ¬(8:Int) < ((Zv l).length:Int):=by omega
  have hpm: (Zp (Zv l)).mass < big:=by
   unfold big at *
   match h:Zv l with
   | []=>simp[Zp,Qp,massL,ONE]
   | [p]=>rw[h]at hm;simp[Zp,massL]at hm ⊢;omega
   | p:: q:: r=>rw[h]at hm c8;simp[Zp,Qp,massL,MUL]at hm c8 ⊢;omega
  have hvv:=Wm (Zp (Zv l)) bs hpm;have e:ZD l=if Qz (Zp (Zv l))≠0 then(QD,Qz (Zp (Zv l)))else(Zp (Zv l),0):=by simp[ZD,hv,c8]
  rw[e];generalize hL:Zv l=L at *
  match L,hL with
  | [],hL=>
   simp only[Zp,ONE]at hvv;simp only[encTs]at ha hc;by_cases cv:Qz (.mk 3 [111,110,101] 0 [])=0
   ·rw[cv]at hvv;simp[F.f196r2,h2,h5,h6,hc,ha,ha1,hvv,cv,QR,Zp,ONE]
   ·simp[F.f196r2,h2,h5,h6,hc,ha,ha1,hvv,cv,QR,QJ,Zp,ONE]
  | [p],hL=>
   simp only[Zp]at hvv;by_cases cv:Qz p=0
   ·rw[cv]at hvv;simp[F.f196r2,h2,h5,h6,hc,ha,hvv,cv,QR,Zp]
   ·simp[F.f196r2,h2,h5,h6,hc,ha,hvv,cv,QR,QJ,Zp]
  | p:: q:: r,hL=>
   simp only[Zp,MUL]at hvv;have c8'': ¬(8:Int) < (r.length:Int)+1+1:=by simpa using c8'
   have n0: ¬(r.length:Int)+1+1=0:=by omega
   have n1: ¬(r.length:Int)+1+1=1:=by omega
   by_cases cv:Qz (.mk 3 [109,117,108] 0 (p:: q:: r))=0
   ·rw[cv]at hvv;simp[F.f196r2,h2,h5,h6,hc,ha,hvv,cv,c8'',n0,n1,QR,Zp,MUL]
   ·simp[F.f196r2,h2,h5,h6,hc,ha,hvv,cv,c8'',n0,n1,QR,QJ,Zp,MUL]
theorem QeI (l:List Pw) (bs:List (List AV)) (hv:Zi l=0) (hl:l.length < 5000000) (hk: ∀q∈l,q.1.mass < big) (hm: (∀q∈l,-8≤q.2∧q.2≤8)→massL (Zv l) < big - 100):
  ∀(post pre:List Pw) (ρ:Nat→AV),l=pre ++ post→(∀q∈pre,-8≤q.2∧q.2≤8)→ρ 2= .bx [.int .i64 0,.str [],.int .i64 0,.sl true 4 []]→ρ 5= .sl true 4 (encTs (Xb pre))→ρ 6= .sl true 4 (encTs (Xu pre))→
   ρ 18= .sl false 5 (Qr l)→ρ 19= .int .i64 l.length→ρ 20= .int .i64 pre.length→
  R F.tb (.loop F.f196l2) ρ bs (Qj 0 (Qu F.tb F.f196r2 (Qx F.f196 bs)))=some (QR (ZD l),bs):=by
 intro post
 induction post with
 | nil=>
  intro pre ρ hkk hq h2 h5 h6 h18 h19 h20;simp only[List.append_nil]at hkk;subst hkk;have hr:=QeJ l bs hv (by
   have h1:=Iv (l:=l) fun q h=>(hq q h).2;have h2:=Ih (l:=l) fun q h=>(hq q h).1;simp only[Zv,List.length_append];omega) (hm hq)
  rw[Qc F.f196l2.eq_1];simp[h18,h19,h20];apply hr <;> simp[h2,h5,h6]
 | cons p post IH=>
  intro pre ρ hkk hq h2 h5 h6 h18 h19 h20;have hg:=Qt hkk;have hll:l.length=pre.length+ (post.length+1):=by rw[hkk];simp
  have hw1:=wr1 pre.length (by omega);have hlt: (pre.length:Int) < (l.length:Int):=by omega
  have hpl:p∈l:=by rw[hkk];simp
  have hmp:=hk p hpl;have hbig: ∀n,n < (Zv l).length→8≤n→ZD l=(QD,3):=by
   intro n h1 h2;have:8 < (Zv l).length:=by omega
   simp[ZD,hv,this]
  rw[Qc F.f196l2.eq_1];by_cases c1:8 < p.2
  ·have h1:=Iw hpl;have e:=hbig 8 (by simp only[Zv,List.length_append];omega) (by omega);rw[e];simp[h2,h5,h6,h18,h19,h20,hg,hlt,c1,QR,QJ]
  ·by_cases c2:p.2 < -8
   ·have h1:=Ii hpl;have e:=hbig 8 (by simp only[Zv,List.length_append];omega) (by omega);rw[e];simp[h2,h5,h6,h18,h19,h20,hg,hlt,c1,c2,QR,QJ]
   ·have hN: -8≤p.2∧p.2≤8:=by omega
    have hw:IntKind.i64.wrap (-p.2)= -p.2:=QB (by omega) (by omega);have hq2: ∀q∈pre ++ [p],-8≤q.2∧q.2≤8:=by
     intro q h;rcases List.mem_append.1 h with h | h
     ·exact hq q h
     ·simp at h;subst h;exact hN
    have h1:=Iv (l:=pre) fun q h=>(hq q h).2;have h3:=Ih (l:=pre) fun q h=>(hq q h).1;have ih:=fun ρ=>IH (pre ++ [p]) ρ (by rw[hkk];simp) hq2;simp[h2,h5,h6,h18,h19,h20,hg,hlt,c1,c2];refine QeG hmp hN _ _ _ p.2.toNat (Xb pre) 0 _ (by omega) (by omega) ?_ ?_ ?_ ?_ ?_
    ·simp[h5]
    ·simp
    ·simp
    ·simp
    ·intro ρ' g5 gj;have g2:ρ' 2=_:=gj 2 (by omega) (by omega);have g6:ρ' 6=_:=gj 6 (by omega) (by omega);have g8:ρ' 8=_:=gj 8 (by omega) (by omega);have g18:ρ' 18=_:=gj 18 (by omega) (by omega);have g19:ρ' 19=_:=gj 19 (by omega) (by omega);have g20:ρ' 20=_:=gj 20 (by omega) (by omega);simp[h2,h6,h18,h19,h20]at g2 g6 g8 g18 g19 g20;simp[F.f196r0,g8,hw];refine QeH hmp hN _ _ _ (-p.2).toNat (Xu pre) 0 _ (by omega) (by omega) ?_ ?_ ?_ ?_ ?_
     ·simp[g6]
     ·simp[g8]
     ·simp
     ·simp
     ·intro ρ'' k6 kj;have k2:ρ'' 2=_:=kj 2 (by omega) (by omega);have k5:ρ'' 5=_:=kj 5 (by omega) (by omega);have k18:ρ'' 18=_:=kj 18 (by omega) (by omega);have k19:ρ'' 19=_:=kj 19 (by omega) (by omega);have k20:ρ'' 20=_:=kj 20 (by omega) (by omega);simp[g2,g5,g18,g19,g20]at k2 k5 k18 k19 k20;simp[F.f196r1,k20,hw1];apply ih <;> simp[k2,k5,k6,k18,k19,Iu,Ig]
theorem QcE (l:List Pw) (o:Bool) (bs:List (List AV)) (hl:l.length < 5000000) (hk: ∀q∈l,q.1.mass < big) (hm: (∀q∈l,-8≤q.2∧q.2≤8)→massL (Zv l) < big - 100):
  call F.tb 196 [.sl o 5 (Qr l)] bs=some (QR (ZD l),bs):=by
 have h1:=Rd l false bs (by omega) hk;rw[Qa F.tb_196 _ _ rfl];by_cases hv:Zi l=0
 ·have h:=fun ρ=>QeI l bs hv hl hk hm l [] ρ rfl (by simp);simp[F.f196C,h1,hv];apply h <;> simp[Xb,Xu,encTs]
 ·have e:ZD l=(QD,Zi l):=by simp[ZD,hv]
  rw[e];simp[F.f196C,h1,hv,QR,QJ]
theorem Vz (n:List UInt8) (ks:List Tm) (o:Bool) (bs:List (List AV)) (hl:ks.length < 100000000):call F.tb 120 [.str n,.sl o 4 (encTs ks)] bs=some (.agg (Qb (.mk 3 n 0 ks)),bs):=by
 have hb:ks.length*56≤140737488355328:=YW (by omega);rw[Qa F.tb_120 _ _ rfl];simp[F.f120C,hb,WO]
theorem Pg {α:Type} (n:Nat) (a b:List α): (a.take n ++ b).take n=(a ++ b).take n:=by
 rw[List.take_append,List.take_append,List.take_take,List.length_take,Nat.min_self];congr 2;omega
theorem QgF {l:List Pw} {p:Pw} {bs:List (List AV)} (hN: -1000≤p.2∧p.2≤1000) (c:AC) (K:Kn) (X:Out): ∀(k:Nat) (acc:List Tm) (i n:Nat) (o:Bool) (ρ:Nat→AV),l[n]? =some p→i+k=p.2.toNat→acc.length≤9→ρ 0= .sl o 5 (Qr l)→ρ 3= .sl true 4 (encTs acc)→ρ 4= .int .i64 n→ρ 5= .int .i64 i→
  (∀ρ':Nat→AV,ρ' 0= .sl o 5 (Qr l)→ρ' 4= .int .i64 n→ρ' 3= .sl true 4 (encTs ((acc ++ List.replicate k p.1).take 9))→R F.tb c ρ' bs K=X)→
  R F.tb (.loop F.f260l0) ρ bs (Qj 2 (Qj 1 (Qu F.tb c K)))=X:=by
 intro k
 induction k with
 | zero=>
  intro acc i n o ρ hg hi ha h0 h3 h4 h5 h;have hn: ¬(i:Int) < p.2:=by omega
  rw[Qc F.f260l0.eq_1];simp[h0,h3,h4,h5,hg,hn];apply h <;> simp[h0,h3,h4,List.take_of_length_le ha]
 | succ k IH=>
  intro acc i n o ρ hg hi ha h0 h3 h4 h5 h;have hn: (i:Int) < p.2:=by omega
  have hw1:IntKind.i64.wrap ((i:Int)+1)=((i+1:Nat):Int):=by rw[QB (by omega) (by omega)];omega
  rw[Qc F.f260l0.eq_1];by_cases c9:acc.length < 9
  ·have c9': (acc.length:Int) < 9:=by omega
   have hb: (acc.length+1)*56≤140737488355328:=YW (by omega);simp[h0,h3,h4,h5,hg,hn,hw1,hb,c9',Zt,Q7];refine IH (acc ++ [p.1]) (i+1) n o _ hg (by omega) (by simp;omega) ?_ ?_ ?_ ?_ ?_
   ·simp[h0]
   ·simp
   ·simp[h4]
   ·simp
   ·intro ρ' g0 g4 g3;rw[OB]at g3;exact h ρ' g0 g4 g3
  ·have c9': ¬(acc.length:Int) < 9:=by omega
   have e: (acc ++ List.replicate (k+1) p.1).take 9=acc:=by rw[List.take_append_of_le_length (by omega),List.take_of_length_le ha]
   simp[h0,h3,h4,h5,hg,hn,c9'];apply h <;> simp[h0,h3,h4,e]
theorem QgH {l:List Pw} {p:Pw} {bs:List (List AV)} (hN: -1000≤p.2∧p.2≤1000) (c:AC) (K:Kn) (X:Out): ∀(k:Nat) (acc:List Tm) (i n:Nat) (o:Bool) (ρ:Nat→AV),l[n]? =some p→i+k=(-p.2).toNat→acc.length≤9→ρ 0= .sl o 5 (Qr l)→ρ 3= .sl true 4 (encTs acc)→ρ 6= .int .i64 n→ρ 7= .int .i64 i→
  (∀ρ':Nat→AV,ρ' 0= .sl o 5 (Qr l)→ρ' 6= .int .i64 n→ρ' 3= .sl true 4 (encTs ((acc ++ List.replicate k (Vp p.1)).take 9))→R F.tb c ρ' bs K=X)→
  R F.tb (.loop F.f260l2) ρ bs (Qj 6 (Qj 5 (Qu F.tb c K)))=X:=by
 have hw:IntKind.i64.wrap (-p.2)= -p.2:=QB (by omega) (by omega);intro k
 induction k with
 | zero=>
  intro acc i n o ρ hg hi ha h0 h3 h4 h5 h;have hn: ¬(i:Int) < -p.2:=by omega
  rw[Qc F.f260l2.eq_1];simp[h0,h3,h4,h5,hg,hw,hn];apply h <;> simp[h0,h3,h4,List.take_of_length_le ha]
 | succ k IH=>
  intro acc i n o ρ hg hi ha h0 h3 h4 h5 h;have hn: (i:Int) < -p.2:=by omega
  have hw1:IntKind.i64.wrap ((i:Int)+1)=((i+1:Nat):Int):=by rw[QB (by omega) (by omega)];omega
  rw[Qc F.f260l2.eq_1];by_cases c9:acc.length < 9
  ·have c9': (acc.length:Int) < 9:=by omega
   have hb: (acc.length+1)*56≤140737488355328:=YW (by omega);have hc2:=Vz INV [p.1] false bs (by simp);simp only[INV]at hc2;simp[h0,h3,h4,h5,hg,hw,hn,hw1,hb,hc2,c9',Zt];rw[show Qb (Tm.mk 3 [105,110,118] 0 [p.1])=Qb (Vp p.1)from rfl];simp[Zt,Q7];refine IH (acc ++ [Vp p.1]) (i+1) n o _ hg (by omega) (by simp;omega) ?_ ?_ ?_ ?_ ?_
   ·simp[h0]
   ·simp[Vp,INV]
   ·simp[h4]
   ·simp
   ·intro ρ' g0 g4 g3;rw[OB]at g3;exact h ρ' g0 g4 g3
  ·have c9': ¬(acc.length:Int) < 9:=by omega
   have e: (acc ++ List.replicate (k+1) (Vp p.1)).take 9=acc:=by rw[List.take_append_of_le_length (by omega),List.take_of_length_le ha]
   simp[h0,h3,h4,h5,hg,hw,hn,c9'];apply h <;> simp[h0,h3,h4,e]
theorem QgI (l:List Pw) (bs:List (List AV)) (hl:l.length < 5000000) (hN: ∀q∈l,-1000≤q.2∧q.2≤1000):
  ∀(post pre:List Pw) (o:Bool) (ρ:Nat→AV),l=pre ++ post→ρ 0= .sl o 5 (Qr l)→ρ 3= .sl true 4 (encTs ((Xb l ++ Xu pre).take 9))→ρ 6= .int .i64 pre.length→
  R F.tb (.loop F.f260l3) ρ bs (Qj 4 (Qu F.tb F.f260r2 (Qx F.f260 bs)))=some (.sl false 4 (encTs ((Zv l).take 9)),bs):=by
 intro post
 induction post with
 | nil=>
  intro pre o ρ hk h0 h3 h6;simp only[List.append_nil]at hk;subst hk;rw[Qc F.f260l3.eq_1];simp[h0,h3,h6,F.f260r2,Zv]
 | cons p post IH=>
  intro pre o ρ hk h0 h3 h6;have hg:=Qt hk;have hll:=QE hk;have hw1:=wr1 pre.length (by omega);have hlt:=QF hk;have ih:=fun ρ=>IH (pre ++ [p]) o ρ (by rw[hk];simp);have hpN:=hN p (by rw[hk];simp);rw[Qc F.f260l3.eq_1];simp[h0,h3,h6,hlt];refine QgH hpN _ _ _ (-p.2).toNat ((Xb l ++ Xu pre).take 9) 0 pre.length o _ hg (by omega) (by rw[List.length_take];omega) ?_ ?_ ?_ ?_ ?_
  ·simp[h0]
  ·simp[h3]
  ·simp[h6]
  ·simp
  ·intro ρ' g0 g6 g3;rw[Pg,List.append_assoc,← Ig]at g3;simp[F.f260r1,g6,hw1];apply ih <;> simp[g0,g3]
theorem QgG (l:List Pw) (bs:List (List AV)) (hl:l.length < 5000000) (hN: ∀q∈l,-1000≤q.2∧q.2≤1000):
  ∀(post pre:List Pw) (o:Bool) (ρ:Nat→AV),l=pre ++ post→ρ 0= .sl o 5 (Qr l)→ρ 3= .sl true 4 (encTs ((Xb pre).take 9))→ρ 4= .int .i64 pre.length→
  R F.tb (.loop F.f260l1) ρ bs (Qj 0 (Qu F.tb F.f260r3 (Qx F.f260 bs)))=some (.sl false 4 (encTs ((Zv l).take 9)),bs):=by
 intro post
 induction post with
 | nil=>
  intro pre o ρ hk h0 h3 h4;simp only[List.append_nil]at hk;subst hk;have h:=fun ρ=>QgI l bs hl hN l [] o ρ rfl;rw[Qc F.f260l1.eq_1];simp[h0,h3,h4,F.f260r3];apply h <;> simp[h0,h3,Xu]
 | cons p post IH=>
  intro pre o ρ hk h0 h3 h4;have hg:=Qt hk;have hll:=QE hk;have hw1:=wr1 pre.length (by omega);have hlt:=QF hk;have ih:=fun ρ=>IH (pre ++ [p]) o ρ (by rw[hk];simp);have hpN:=hN p (by rw[hk];simp);rw[Qc F.f260l1.eq_1];simp[h0,h3,h4,hlt];refine QgF hpN _ _ _ p.2.toNat ((Xb pre).take 9) 0 pre.length o _ hg (by omega) (by rw[List.length_take];omega) ?_ ?_ ?_ ?_ ?_
  ·simp[h0]
  ·simp[h3]
  ·simp[h4]
  ·simp
  ·intro ρ' g0 g4 g3;rw[Pg,← Iu]at g3;simp[F.f260r0,g4,hw1];apply ih <;> simp[g0,g3]
theorem QcT (l:List Pw) (o:Bool) (bs:List (List AV)) (hl:l.length < 5000000) (hN: ∀q∈l,-1000≤q.2∧q.2≤1000):
  call F.tb 260 [.sl o 5 (Qr l)] bs=some (.sl false 4 (encTs ((Zv l).take 9)),bs):=by
 have h:=fun ρ=>QgG l bs hl hN l [] false ρ rfl;rw[Qa F.tb_260 _ _ rfl];simp[F.f260C];apply h <;> simp[Xb,encTs]
theorem QcS (l:List Pw) (o:Bool) (bs:List (List AV)) (hl:l.length < 5000000) (hk: ∀q∈l,q.1.mass < big) (hm: (∀q∈l,-8≤q.2∧q.2≤8)→massL (Zv l) < big - 100):
  call F.tb 258 [.sl o 5 (Qr l)] bs=some (QR (ZD l),bs):=by
 have h1:=Mz l false bs (by omega) hk;rw[Qa F.tb_258 _ _ rfl];by_cases hv:Zi l=0
 ·obtain⟨hinv,_,_⟩:=Wv hv hk;have h2:=QcT l false bs hl fun q hq=>(hinv.bd q hq).2;by_cases c8:8 < (Zv l).length
  ·have c8': (8:Int) < ((min 9 (Zv l).length:Nat):Int):=by omega
   have e:ZD l=(QD,3):=by simp[ZD,hv,c8]
   rw[e];simp[F.f258C,h1,hv,h2,c8',QR,QJ]
  ·have hN8: ∀q∈l,-8≤q.2∧q.2≤8:=by
    intro q hq;have h3:=Iw hq;have h4:=Ii hq;simp only[Zv,List.length_append]at c8;omega
   have hm':=hm hN8;have hpm: (Zp (Zv l)).mass < big:=by
    unfold big at *
    match h:Zv l with
    | []=>simp[Zp,Qp,massL,ONE]
    | [p]=>rw[h]at hm';simp[Zp,massL]at hm' ⊢;omega
    | p:: q:: r=>rw[h]at hm' c8;simp[Zp,Qp,massL,MUL]at hm' c8 ⊢;omega
   have hvv:=Y7 (Zp (Zv l)) bs hpm;have e:ZD l=if Qz (Zp (Zv l))≠0 then(QD,Qz (Zp (Zv l)))else(Zp (Zv l),0):=by simp[ZD,hv,c8]
   rw[e];rw[List.take_of_length_le (by omega)]at h2;have ha:=Vz MUL (Zv l) false bs (by omega);have ha1:=Vz ONE [] true bs (by simp);simp only[MUL]at ha;simp only[ONE,encTs]at ha1;have c8': ¬(8:Int) < ((Zv l).length:Int):=by omega
   generalize hL:Zv l=L at *
   match L,hL with
   | [],hL=>
    simp only[Zp,ONE]at hvv;simp only[encTs]at ha h2;by_cases cv:Qz (.mk 3 [111,110,101] 0 [])=0
    ·rw[cv]at hvv;simp[F.f258C,h1,hv,h2,ha,ha1,hvv,cv,QR,Zp,ONE]
    ·simp[F.f258C,h1,hv,h2,ha,ha1,hvv,cv,QR,QJ,Zp,ONE]
   | [p],hL=>
    simp only[Zp]at hvv;by_cases cv:Qz p=0
    ·rw[cv]at hvv;simp[F.f258C,h1,hv,h2,ha,hvv,cv,QR,Zp]
    ·simp[F.f258C,h1,hv,h2,ha,hvv,cv,QR,QJ,Zp]
   | p:: q:: r,hL=>
    simp only[Zp,MUL]at hvv;have c8'': ¬(8:Int) < (r.length:Int)+1+1:=by simpa using c8'
    have n0: ¬(r.length:Int)+1+1=0:=by omega
    have n1: ¬(r.length:Int)+1+1=1:=by omega
    by_cases cv:Qz (.mk 3 [109,117,108] 0 (p:: q:: r))=0
    ·rw[cv]at hvv;simp[F.f258C,h1,hv,h2,ha,hvv,cv,c8'',n0,n1,QR,Zp,MUL]
    ·simp[F.f258C,h1,hv,h2,ha,hvv,cv,c8'',n0,n1,QR,QJ,Zp,MUL]
 ·have e:ZD l=(QD,Zi l):=by simp[ZD,hv]
  rw[e];simp[F.f258C,h1,hv,QR,QJ]
theorem Y9:Qr []=[]:=rfl
def YZ (a:List Pw):List Pw→List Pw
 | []=>a
 | q:: b=>YZ (Z9 a q.1 q.2) b
def ZW (l:List Pw):Int:=if l.any (fun q=>Yz q.2)then 7 else if 200 < l.length then 3 else 0
def XP (a b:List Pw):Int:=if Zi a≠0 then Zi a else if Zi b≠0 then Zi b else ZW (YZ a b)
def Xl (a b:List Pw):List Pw:=if XP a b=0 then YZ a b else []
theorem Ee (l:List Pw) (bs:List (List AV)) (hl:l.length < 100000000):
  ∀(post pre:List Pw) (o:Bool) (ρ:Nat→AV),l=pre ++ post→pre.any (fun q=>Yz q.2)=false→ρ 0= .sl o 5 (Qr l)→ρ 3= .int .i64 pre.length→
  R F.tb (.loop F.f263l0) ρ bs (Qj 0 (Qu F.tb F.f263r0 (Qx F.f263 bs)))=some (.int .i64 (ZW l),bs):=by
 intro post
 induction post with
 | nil=>
  intro pre o ρ hk hp h0 h3;simp only[List.append_nil]at hk;rw[← hk]at h3 hp;rw[Qc F.f263l0.eq_1];by_cases c:200 < l.length
  ·have c': (200:Int) < (l.length:Int):=by omega
   simp[h0,h3,F.f263r0,ZW,hp,c,c',-List.any_eq_false,-List.any_eq_true]
  ·have c': ¬(200:Int) < (l.length:Int):=by omega
   simp[h0,h3,F.f263r0,ZW,hp,c,c',-List.any_eq_false,-List.any_eq_true]
 | cons p post IH=>
  intro pre o ρ hk hp h0 h3;have hg:=Qt hk;have hll:=QE hk;have hw1:=wr1 pre.length (by omega);have hlt:=QF hk;have hany:Yz p.2=true→ZW l=7:=by
   intro h;have:l.any (fun q=>Yz q.2)=true:=List.any_eq_true.2 ⟨p,by rw[hk];simp,h⟩;simp only[ZW,this,if_true]
  rw[Qc F.f263l0.eq_1];by_cases c4:p.2 < -1000
  ·rw[hany (by simp[Yz,c4])];simp[h0,h3,hg,hlt,c4]
  ·by_cases c5:1000 < p.2
   ·rw[hany (by simp[Yz,c5])];simp[h0,h3,hg,hlt,c4,c5]
   ·have ih:=fun ρ=>IH (pre ++ [p]) o ρ (by rw[hk];simp) (by rw[List.any_append,hp];simp[Yz,c4,c5]);simp[h0,h3,hg,hlt,hw1,c4,c5];apply ih <;> simp[h0]
theorem QcW (l:List Pw) (o:Bool) (bs:List (List AV)) (hl:l.length < 100000000):call F.tb 263 [.sl o 5 (Qr l)] bs=some (.int .i64 (ZW l),bs):=by
 have h:=fun ρ=>Ee l bs hl l [] false ρ rfl rfl;rw[Qa F.tb_263 _ _ rfl];simp[F.f263C];apply h <;> simp
theorem Ck (b:List Pw) (bs:List (List AV)) (hb:b.length≤200) (hbm: ∀q∈b,q.1.mass < big∧q.2≠0∧ -1000≤q.2∧q.2≤1000) (X:List Pw):
  ∀(post pre:List Pw) (acc:List Pw) (n:Nat) (o o2:Bool) (ρ:Nat→AV),b=pre ++ post→XM acc n→n+1000*post.length < 40000000→YZ acc post=X→ρ 1= .sl o 5 (Qr b)→ρ 8= .sl o2 5 (Qr acc)→ρ 9= .int .i64 pre.length→
  R F.tb (.loop F.f262l0) ρ bs (Qj 0 (Qu F.tb F.f262r0 (Qx F.f262 bs)))=some (.tup [.sl false 5 (Qr (if ZW X=0 then X else [])),.int .i64 (ZW X)],bs):=by
 intro post
 induction post with
 | nil=>
  intro pre acc n o o2 ρ hk ha hn hX h1 h8 h9;simp only[List.append_nil]at hk;rw[← hk]at h9;simp only[YZ]at hX;subst hX;have hal:=ha.len;have hr:=QcW acc false bs (by simp at hn;omega);rw[Qc F.f262l0.eq_1];by_cases c:ZW acc=0
  ·simp[h1,h8,h9,F.f262r0,hr,c]
  ·simp[h1,h8,h9,F.f262r0,hr,c,Y9]
 | cons p post IH=>
  intro pre acc n o o2 ρ hk ha hn hX h1 h8 h9;have hg:=Qt hk;have hll:=QE hk;have hw1:=wr1 pre.length (by omega);have hlt:=QF hk;obtain⟨q1,q2,q3,q4⟩:=hbm p (by rw[hk];simp);simp only[List.length_cons]at hn;have hc:=HY (m:=p.2) false bs ha (by omega) q1 (by omega);have ih:=fun ρ=>IH (pre ++ [p]) (Z9 acc p.1 p.2) (n+1000) o false ρ (by rw[hk];simp) (ha.add (c:=1000) q1 q2 (by omega) (by omega)) (by omega) (by rw[← hX];rfl);rw[Qc F.f262l0.eq_1];simp[h1,h8,h9,hg,hlt,hw1,hc];apply ih <;> simp[h1]
theorem QcV (a b:List Pw) (o o2:Bool) (bs:List (List AV)) (ha:a.length < 100000000) (hb:b.length < 100000000) (hma: ∀q∈a,q.1.mass < big) (hmb: ∀q∈b,q.1.mass < big):
  call F.tb 262 [.sl o 5 (Qr a),.sl o2 5 (Qr b)] bs=some (.tup [.sl false 5 (Qr (Xl a b)),.int .i64 (XP a b)],bs):=by
 have h1:=Mz a false bs ha hma;have h2:=Mz b false bs hb hmb;rw[Qa F.tb_262 _ _ rfl];by_cases va:Zi a=0
 ·by_cases vb:Zi b=0
  ·obtain⟨ia,la,_⟩:=Wv va hma;obtain⟨ib,lb,_⟩:=Wv vb hmb;have h3:=fun ρ=>Ck b bs lb (fun q hq=>by obtain⟨x1,x2,x3⟩:=ib.bd q hq;exact⟨x1,ib.nz q hq,x2,x3⟩) _ b [] a 1000 false true ρ rfl ia (by omega) rfl;have e1:XP a b=ZW (YZ a b):=by simp[XP,va,vb]
   have e2:Xl a b=if ZW (YZ a b)=0 then YZ a b else []:=by simp[Xl,e1]
   have hb64:a.length*64≤140737488355328:=Oy (by omega);rw[e1,e2];simp[F.f262C,h1,h2,va,vb,hb64];apply h3 <;> simp
  ·have e1:XP a b=Zi b:=by simp[XP,va,vb]
   have e2:Xl a b=[]:=by simp[Xl,e1,vb]
   rw[e1,e2];simp[F.f262C,h1,h2,va,vb,Y9]
 ·have e1:XP a b=Zi a:=by simp[XP,va]
  have e2:Xl a b=[]:=by simp[Xl,e1,va]
  rw[e1,e2];simp[F.f262C,h1,va,Y9]
theorem QgO {B0 B:List (List AV)} {v:AV} {l:List Pw} (p:Pw) (o:Bool) (h:PS B0 B v l) (hl:l.length < 50000000): ∃v' B',appM 64 5 v (.sl o 5 [Qw p]) B=some (v',B')∧PS B0 B' v' (l ++ [p]):=by
 obtain⟨M,id,sz,rfl,rfl,hc⟩:=h;have hb: (l.length+1)*64≤140737488355328:=Oy (by omega);have hs:YF 5 (.sl o 5 [Qw p]) (B0 ++ M)=some (1,Qw p):=by simp[YF]
 rcases hc with⟨rfl,rfl,rfl⟩ | ⟨rfl,hid,t,hbx,hne⟩
 ·refine⟨.gs (B0 ++ M).length 0 5 1,B0 ++ (M ++ [Qw p]),?_,M ++ [Qw p],(B0 ++ M).length,5,rfl,rfl,.inr ⟨rfl,by simp,[],?_,?_⟩⟩
  ·simp[appM,hs]
  ·rw[← List.append_assoc,List.getElem?_concat_length];simp[QM,ZA]
  ·simp[QM,ZA,Gh]
 ·have hlt:=ZI hbx;have hr:=YN l;have hle:l.length*5≤(QM l ++ t).length:=by rw[List.length_append,hr];omega
  have hrow:QM (l ++ [p])=QM l ++ Qw p:=by simp[QM,Xj,Tg]
  have htk: (QM l ++ t).take (l.length*5)=QM l:=by rw[← hr,List.take_left]
  have hne2: ∀x:List AV,QM l ++ (Qw p ++ x)≠[]:=fun x e=>by
   have:=congrArg List.length e;simp at this
  by_cases hroom: (l.length+1)*5≤(QM l ++ t).length
  ·refine⟨.gs id 0 5 (l.length+1),(B0 ++ M).set id (QM l ++ (Qw p ++ (QM l ++ t).drop (l.length*5+5))),?_,_,id,5,Xn hid _,by simp,.inr ⟨rfl,hid,(QM l ++ t).drop (l.length*5+5),?_,?_⟩⟩
   ·simp only[appM,hs,Option.bind_some];rw[if_pos ⟨by omega,hb⟩,if_neg (by omega),if_neg (by omega),if_pos ⟨trivial,trivial⟩,hbx];simp only[Option.bind_some];rw[if_pos ⟨hne,hle⟩,if_pos hroom];simp only[put,htk,Z2];simp
   ·have:id < (B0 ++ M).length:=hlt;rw[List.getElem?_set,if_pos rfl,if_pos this,hrow];simp
   ·rw[hrow,List.append_assoc];exact hne2 _
  ·refine⟨.gs (B0 ++ M).length 0 5 (l.length+1),(B0 ++ M).set id []++ [QM l ++ Qw p],?_,M.set (id - B0.length) []++ [QM l ++ Qw p],(B0 ++ M).length,5,?_,by simp,.inr ⟨rfl,by simp,[],?_,?_⟩⟩
   ·have hst: (QM l).map AV.strip=QM l:=Zl Yr l;simp only[appM,hs,Option.bind_some];rw[if_pos ⟨by omega,hb⟩,if_neg (by omega),if_neg (by omega),if_pos ⟨trivial,trivial⟩,hbx];simp only[Option.bind_some];rw[if_pos ⟨hne,hle⟩,if_neg hroom,htk,hst]
   ·rw[Xn hid,List.append_assoc]
   ·have e: (B0 ++ M).length=((B0 ++ M).set id []).length:=by simp
    rw[hrow,List.append_nil,e,List.getElem?_concat_length]
   ·rw[hrow,List.append_nil];have:=hne2 [];simpa using this
theorem Hl (l:List Pw) (B0 K:List (List AV)) (hl:l.length < 40000000) (hm: ∀q∈l,q.1.mass < big):
  ∀(post pre:List Pw) (B:List (List AV)) (v:AV) (ρ:Nat→AV),l=pre ++ post→PS B0 B v pre→ρ 3=v→ρ 6= .sl false 5 (Qr l)→ρ 7= .int .i64 l.length→ρ 8= .int .i64 pre.length→
  As B0 l (R F.tb (.loop F.f201l0) ρ B (Qj 0 (Qu F.tb F.f201r0 (Qx F.f201 K)))):=by
 intro post
 induction post with
 | nil=>
  intro pre B v ρ hk hps h3 h6 h7 h8;simp only[List.append_nil]at hk;subst hk;obtain⟨id,sz,rfl⟩:=Wt hps;rw[Qc F.f201l0.eq_1];refine⟨_,B,?_,hps⟩;simp[h3,h6,h7,h8,F.f201r0]
 | cons p post IH=>
  intro pre B v ρ hk hps h3 h6 h7 h8;have hg:=Qt hk;have hll:=QE hk;have hw1:=wr1 pre.length (by omega);have hlt:=QF hk;have hc:=Ux p.1 B (hm p (by rw[hk];simp));obtain⟨v2,B2,ha,hps2⟩:=QgO p false hps (by omega);have ih:=fun ρ=>IH (pre ++ [p]) B2 v2 ρ (by rw[hk];simp) hps2;obtain⟨id,sz,rfl⟩:=Wt hps;obtain⟨id2,sz2,rfl⟩:=Wt hps2;have hf:Qb p.1 ++ [.int .i64 p.2]=Qw p:=rfl;rw[Qc F.f201l0.eq_1];simp[h3,h6,h7,h8,hg,hlt,hw1,hc,List.take_append,List.drop_append,hf,ha];apply ih <;> simp[h6,h7]
theorem QcH (l:List Pw) (o:Bool) (B0:List (List AV)) (hl:l.length < 40000000) (hm: ∀q∈l,q.1.mass < big):As B0 l (call F.tb 201 [.sl o 5 (Qr l)] B0):=by
 have h:=fun ρ=>Hl l B0 B0 hl hm l [] B0 _ ρ rfl (Bm B0);rw[Qa F.tb_201 _ _ rfl];simp[F.f201C];apply h <;> simp
theorem QcJ (p:Pw) (B:List (List AV)):call F.tb 203 [.agg (Qw p)] B=some (.bool (Yz p.2),B):=by
 rw[Qa F.tb_203 _ _ rfl];by_cases c4:p.2 < -1000
 ·simp[F.f203C,Yz,c4]
 ·by_cases c5:1000 < p.2
  ·simp[F.f203C,Yz,c4,c5]
  ·simp[F.f203C,Yz,c4,c5]
def Ms (b:Bool) (B:List (List AV)) (r:Out):Prop:=∃i:Int,r=some (.int .i64 i,B)∧(0≤i↔b=true)
theorem Qd1 {B0 B:List (List AV)} {v:AV} {l:List Pw} (h:PS B0 B v l) (hl:l.length < 100000000):
  ∀(post pre:List Pw) (ρ:Nat→AV),l=pre ++ post→pre.any (fun q=>Yz q.2)=false→ρ 0=v→ρ 1= .fn 203 []→ρ 7= .int .i64 l.length→ρ 8= .int .i64 pre.length→
  Ms (l.any fun q=>Yz q.2) B (R F.tb (.loop F.f205l0) ρ B (Qj 0 (Qu F.tb F.f205r0 (Qx F.f205 B)))):=by
 obtain⟨M,id,sz,rfl,rfl,hc⟩:=h;have htk: (B0 ++ M).take (B0.length+M.length)=B0 ++ M:=List.take_of_length_le (by simp);intro post
 induction post with
 | nil=>
  intro pre ρ hk hp h0 h1 h7 h8;simp only[List.append_nil]at hk;rw[← hk]at h8 hp;rw[Qc F.f205l0.eq_1];refine⟨-1,?_,by rw[hp];simp⟩;simp[h0,h1,h7,h8,F.f205r0,htk]
 | cons p post IH=>
  intro pre ρ hk hp h0 h1 h7 h8;have hg:=Qt hk;have hll:=QE hk;have hw1:=wr1 pre.length (by omega);have hlt:=QF hk;have hlt':pre.length < l.length:=by omega
  rcases hc with⟨rfl,rfl,rfl⟩ | ⟨rfl,hid,t,hbx,hne⟩
  ·simp at hlt'
  have r1:=MP (l:=l) (P3 hg t);have hle:pre.length*5+5≤(QM l ++ t).length:=by rw[List.length_append,YN];omega
  have hcall:=QcJ p (B0 ++ M);have ih:=fun ρ hpp=>IH (pre ++ [p]) ρ (by rw[hk];simp) hpp;generalize QM l ++ t=c at *;rw[Qc F.f205l0.eq_1];cases ho:Yz p.2
  ·have ih2:=fun ρ=>ih ρ (by rw[List.any_append,hp];simp[ho]);simp[-getElem?_pos,h0,h1,h7,h8,hlt,hlt',hw1,hbx,hle,r1,hcall,ho,-List.any_eq_false,-List.any_eq_true];apply ih2 <;> simp[h0,h1,h7]
  ·have hany:l.any (fun q=>Yz q.2)=true:=List.any_eq_true.2 ⟨p,by rw[hk];simp,ho⟩;refine⟨pre.length,?_,by rw[hany];simp⟩;simp[-getElem?_pos,h0,h1,h7,h8,hlt,hlt',hbx,hle,r1,hcall,ho,htk]
theorem QcK {B0 B:List (List AV)} {v:AV} {l:List Pw} (h:PS B0 B v l) (hl:l.length < 100000000):call F.tb 204 [v,.fn 203 []] B=some (.bool (l.any fun q=>Yz q.2),B):=by
 have h1:=fun ρ=>Qd1 h hl l [] ρ rfl rfl;obtain⟨id,sz,rfl⟩:=Wt h;have h2:Ms (l.any fun q=>Yz q.2) B (call F.tb 205 [.gs id 0 sz l.length,.fn 203 []] B):=by
  rw[Qa F.tb_205 _ _ rfl];simp[F.f205C,-List.any_eq_false,-List.any_eq_true];apply h1 <;> simp
 obtain⟨i,hi,hb⟩:=h2;rw[Qa F.tb_204 _ _ rfl];simp[F.f204C,hi,-List.any_eq_false,-List.any_eq_true];cases hx:l.any fun q=>Yz q.2
 ·rw[hx]at hb;simp at hb;simpa using hb
 ·rw[hx]at hb;simp at hb;simpa using hb
theorem Qen {B0 B:List (List AV)} {v:AV} {l:List Pw} (h:PS B0 B v l) (n:Nat): ∃o M2,(B0 ++ M2).length=B.length∧Z7 B (B0 ++ M2)=true∧∀ρ:Nat→AV,ρ n=v→Zg {env:=ρ,bs:=B} n 5=some (.sl o 5 (Qr l),{env:=upd ρ n .undef,bs:=B0 ++ M2}):=by
 obtain⟨M,id,sz,rfl,rfl,hc⟩:=h;rcases hc with⟨rfl,rfl,rfl⟩ | ⟨rfl,hid,t,hb,hne⟩
 ·exact⟨true,M,rfl,TM _,fun ρ hn=>by simp[Zg,hn,Qr]⟩
 ·by_cases hl:l.length=0
  ·have:l=[]:=List.eq_nil_of_length_eq_zero hl;subst this;exact⟨false,M,rfl,TM _,fun ρ hn=>by simp[Zg,hn,Qr]⟩
  ·refine⟨true,M.set (id - B0.length) [],by simp,by rw[← Xn hid];exact Jy _ _,fun ρ hn=> ?_⟩;have hle:0+l.length*5≤(QM l ++ t).length:=by rw[List.length_append,YN];omega
   have hch:Q5 (QM l ++ t) 0 5 l.length=Qr l:=Yv (f:=Qw) (k:=5) Z2 Yr l t;simp only[Zg,hn];rw[if_pos ⟨trivial,by omega⟩,if_neg hl,hb];simp only[Option.bind_some];rw[if_pos hle,hch,Xn hid];rfl
def Qhj (B0:List (List AV)) (l:List Pw) (r:Out):Prop:=∃M,r=some (.tup [.sl false 5 (Qr (if ZW l=0 then l else [])),.int .i64 (ZW l)],B0 ++ M)
theorem QcI {B0 B:List (List AV)} {v:AV} {l:List Pw} (h:PS B0 B v l) (hl:l.length < 100000000):Qhj B0 l (call F.tb 202 [v] B):=by
 have h1:=QcK h hl;obtain⟨o,M2,hlen,hchk,hf⟩:=Qen h 9;obtain⟨M,hM⟩: ∃M,B=B0 ++ M:=by obtain⟨M,_,_,h,_⟩:=h;exact⟨M,h⟩
 subst hM;have htk: (B0 ++ M2).take (B0.length+M.length)=B0 ++ M2:=List.take_of_length_le (by rw[hlen];simp);have htk0: (B0 ++ M).take (B0.length+M.length)=B0 ++ M:=List.take_of_length_le (by simp);have hgp:=RB l;obtain⟨id,sz,rfl⟩:=Wt h;rw[Qa F.tb_202 _ _ rfl];cases ha:l.any fun q=>Yz q.2
 ·rw[ha]at h1;by_cases c:200 < l.length
  ·have c': (200:Int) < (l.length:Int):=by omega
   have e:ZW l=3:=by simp only[ZW,ha,c,if_true];rfl
   refine⟨M,?_⟩;rw[e];simp[F.f202C,h1,c',Y9,htk0]
  ·have c': ¬(200:Int) < (l.length:Int):=by omega
   have e:ZW l=0:=by simp only[ZW,ha,c,if_false];rfl
   refine⟨M2,?_⟩;rw[e];simp[F.f202C,h1,c',hf,htk,hchk]
 ·rw[ha]at h1;have e:ZW l=7:=by simp only[ZW,ha,if_true]
  refine⟨M,?_⟩;rw[e];simp[F.f202C,h1,Y9,htk0]
theorem QaX (b:List Pw) (B0:List (List AV)) (hb:b.length≤200) (hbm: ∀q∈b,q.1.mass < big∧q.2≠0∧ -1000≤q.2∧q.2≤1000) (X:List Pw):
  ∀(post pre:List Pw) (acc:List Pw) (n:Nat) (B:List (List AV)) (v:AV) (ρ:Nat→AV),b=pre ++ post→PS B0 B v acc→XM acc n→n+1000*post.length < 40000000→YZ acc post=X→ρ 8=v→ρ 23= .sl false 5 (Qr b)→ρ 24= .int .i64 b.length→ρ 25= .int .i64 pre.length→
  R F.tb (.loop F.f200l0) ρ B (Qj 0 (Qu F.tb F.f200r0 (Qx F.f200 B0)))=some (.tup [.sl false 5 (Qr (if ZW X=0 then X else [])),.int .i64 (ZW X)],B0):=by
 intro post
 induction post with
 | nil=>
  intro pre acc n B v ρ hk hps ha hn hX h8 h23 h24 h25;simp only[List.append_nil]at hk;rw[← hk]at h25;simp only[YZ]at hX;subst hX;have hal:=ha.len;obtain⟨M,hr⟩:=QcI hps (by simp at hn;omega);obtain⟨id,sz,rfl⟩:=Wt hps;rw[Qc F.f200l0.eq_1];generalize (if ZW acc=0 then acc else [])=X at *;simp[h8,h23,h24,h25,F.f200r0,hr]
 | cons p post IH=>
  intro pre acc n B v ρ hk hps ha hn hX h8 h23 h24 h25;have hg:=Qt hk;have hll:=QE hk;have hw1:=wr1 pre.length (by omega);have hlt:=QF hk;obtain⟨q1,q2,q3,q4⟩:=hbm p (by rw[hk];simp);simp only[List.length_cons]at hn;have hal:=ha.len;obtain⟨v2,B2,hc,hps2⟩:=HV (p:=p) hps (by omega) (fun q hq=>by obtain⟨a1,a2,a3⟩:=ha.bd q hq;exact⟨a1,by omega,by omega⟩) q1 (by omega) ha.asc;have ih:=fun ρ=>IH (pre ++ [p]) (Z9 acc p.1 p.2) (n+1000) B2 v2 ρ (by rw[hk];simp) hps2 (ha.add (c:=1000) q1 q2 (by omega) (by omega)) (by omega) (by rw[← hX];rfl);obtain⟨id,sz,rfl⟩:=Wt hps;obtain⟨id2,sz2,rfl⟩:=Wt hps2;rw[Qc F.f200l0.eq_1];simp[h8,h23,h24,h25,hg,hlt,hw1,hc];apply ih <;> simp[h23,h24]
theorem QcG (a b:List Pw) (o o2:Bool) (bs:List (List AV)) (ha:a.length < 100000000) (hb:b.length < 100000000) (hma: ∀q∈a,q.1.mass < big) (hmb: ∀q∈b,q.1.mass < big):
  call F.tb 200 [.sl o 5 (Qr a),.sl o2 5 (Qr b)] bs=some (.tup [.sl false 5 (Qr (Xl a b)),.int .i64 (XP a b)],bs):=by
 have h1:=Rd a false bs ha hma;have h2:=Rd b false bs hb hmb;rw[Qa F.tb_200 _ _ rfl];by_cases va:Zi a=0
 ·by_cases vb:Zi b=0
  ·obtain⟨ia,la,_⟩:=Wv va hma;obtain⟨ib,lb,_⟩:=Wv vb hmb;obtain⟨v,B,hc,hps⟩:=QcH a false bs (by omega) hma;have h3:=fun ρ=>QaX b bs lb (fun q hq=>by obtain⟨x1,x2,x3⟩:=ib.bd q hq;exact⟨x1,ib.nz q hq,x2,x3⟩) _ b [] a 1000 B v ρ rfl hps ia (by omega) rfl;obtain⟨id,sz,rfl⟩:=Wt hps;have e1:XP a b=ZW (YZ a b):=by simp[XP,va,vb]
   have e2:Xl a b=if ZW (YZ a b)=0 then YZ a b else []:=by simp[Xl,e1]
   rw[e1,e2];simp[F.f200C,h1,h2,va,vb,hc];apply h3 <;> simp
  ·have e1:XP a b=Zi b:=by simp[XP,va,vb]
   have e2:Xl a b=[]:=by simp[Xl,e1,vb]
   rw[e1,e2];simp[F.f200C,h1,h2,va,vb,Y9]
 ·have e1:XP a b=Zi a:=by simp[XP,va]
  have e2:Xl a b=[]:=by simp[Xl,e1,va]
  rw[e1,e2];simp[F.f200C,h1,va,Y9]
@[simp] theorem Qio (x y:Tm) (a:List Tm) (h:1 < (encTs (x:: y:: a)).length): (encTs (x:: y:: a))[1]=Qb y:=by simp[encTs]
def Zf:List UInt8:=[112,97,105,114]
def ENC:List UInt8:=[101,110,99]
def QY:List UInt8:=[97,101,110,99]
def PK:List UInt8:=[112,107]
def Zd:List UInt8:=[115,105,103,110]
def EXP:List UInt8:=[101,120,112]
def FST:List UInt8:=[102,115,116]
def SND:List UInt8:=[115,110,100]
def DEC:List UInt8:=[100,101,99]
def Zo:List UInt8:=[97,100,101,99]
def ZE:List UInt8:=[111,112,101,110]
def READ:List UInt8:=[114,101,97,100]
def ZF (n:List UInt8) (m:Nat):Bool:=
 if n=Zf∨n=ENC∨n=QY∨n=Zd∨n=EXP∨n=DEC∨n=Zo∨n=ZE then decide (m=2)
 else if n=PK∨n=FST∨n=SND∨n=READ then decide (m=1)else true
mutual
def QI:Tm→Bool
 | .mk k n s ks=>(!(k == 3) || ((s == 0) && ZF n ks.length)) && goodL ks
def goodL:List Tm→Bool
 | []=>true
 | t:: ts=>QI t && goodL ts
end
theorem O7 (t:Tm):QI t=((!(t.kind == 3) || ((t.sort == 0) && ZF t.name t.kids.length)) && goodL t.kids):=by cases t;simp[QI]
theorem Yj: ∀{l:List Tm},goodL l=true↔∀x∈l,QI x=true
 | []=>by simp[goodL]
 | t:: ts=>by simp[goodL,Yj (l:=ts)]
theorem XA {t:Tm} (h:QI t=true):goodL t.kids=true:=by rw[O7]at h;simp at h;exact h.2
theorem XW {t:Tm} (h:QI t=true) (hk:t.kind=3):t.sort=0∧ZF t.name t.kids.length=true:=by
 rw[O7]at h;simp[hk]at h;exact h.1
theorem YL {t:Tm} {n:List UInt8} (h:QI t=true) (hb:isB t n=true) (hn:ZF n t.kids.length=decide (t.kids.length=2)): ∃x y,t.kids=[x,y]:=by
 obtain⟨hk,rfl⟩:=W0.1 hb;have:=(XW h hk).2;rw[hn]at this;simp at this
 match hh:t.kids with
 | [x,y]=>exact⟨x,y,rfl⟩
 | []=>rw[hh]at this;simp at this
 | [_]=>rw[hh]at this;simp at this
 | _:: _:: _:: _=>rw[hh]at this;simp at this
def kid (t:Tm) (i:Nat):Tm:=t.kids.getD i QD
def pkT (t:Tm):Tm:= .mk 3 PK 0 [t]
theorem Gv {u:Tm} (h:QI u=true) (key:Tm):decide (Qh u (pkT key)=0)=(isB u PK && decide (Qh (kid u 0) key=0)):=by
 cases hb:isB u PK
 ·have: ¬Qh u (pkT key)=0:=by
   intro e;have:=ZV _ _ e;subst this;simp[isB,pkT]at hb
  simp[this]
 ·obtain⟨hk,hn⟩:=W0.1 hb;obtain⟨hs,ha⟩:=XW h hk;rw[hn]at ha;have h1:u.kids.length=1:=by simpa[ZF,PK,Zf,ENC,QY,Zd,EXP,DEC,Zo,ZE]using ha
  obtain⟨x,hx⟩:=List.length_eq_one_iff.1 h1;have hu:u=pkT x:=by rw[← Tm.eta u,hk,hn,hs,hx];rfl
  subst hu;have:kid (pkT x) 0=x:=rfl;rw[this];have e1:Qh (pkT x) (pkT key)=0↔Qh x key=0:=by
   constructor
   ·intro e;have:=ZV _ _ e;injection this with _ _ _ h4
    injection h4 with h4
    subst h4;exact YS _
   ·intro e;have:=ZV _ _ e;subst this;exact YS _
  simp[e1]
def QN (n:List UInt8) (us:List Tm):Tm:=
 let a:=us.getD 0 QD
 let key:=us.getD 1 QD
 let out:Tm:= .mk 3 n 0 us
 if n=FST then(if isB a Zf then kid a 0 else out)
 else if n=SND then(if isB a Zf then kid a 1 else out)
 else if n=DEC then(if isB a ENC && decide (Qh (kid a 1) key=0)then kid a 0 else out)
 else if n=Zo then(if isB a QY && decide (Qh (kid a 1) (pkT key)=0)then kid a 0 else out)
 else if n=ZE then(if isB a Zd && decide (Qh key (pkT (kid a 1))=0)then kid a 0 else out)
 else if n=READ then(if isB a Zd then kid a 0 else out)
 else out
theorem Ol (x y:Tm) (bs:List (List AV)) (hx:x.mass < big) (hy:y.mass < big):call F.tb 177 [.agg (Qb x),.agg (Qb y)] bs=some (.bool (decide (Qh x y=0)),bs):=by
 have h:=call_Compare x y bs hx hy;rw[Qa F.tb_177 _ _ rfl];simp[F.f177C,h]
def Wb (n:List UInt8):Bool:=n == FST || n == SND || n == DEC || n == Zo || n == ZE || n == READ
theorem Qau (n:List UInt8) (a:Tm) (bs:List (List AV)) (hn:n=FST∨n=SND∨n=READ) (hg:QI a=true) (hm:a.mass < big):
  call F.tb 176 [.agg (Qb (.mk 3 n 0 [a]))] bs=some (.agg (Qb (QN n [a])),bs):=by
 have h1:=fun m=>VB a m bs;rw[Qa F.tb_176 _ _ rfl];rcases hn with rfl | rfl | rfl
 ·cases hb:isB a Zf
  ·have h2:=h1 Zf;rw[hb]at h2;simp only[Zf]at h2
   have e:QN FST [a]= .mk 3 FST 0 [a]:=by simp[QN,hb]
   rw[e];simp only[FST];simp[F.f176C,h2]
  ·have h2:=h1 Zf;rw[hb]at h2;simp only[Zf]at h2
   obtain⟨x,y,hk⟩:=YL hg hb (by simp[ZF]);have e:QN FST [a]=x:=by simp[QN,hb,kid,hk]
   rw[e];simp only[FST];simp[F.f176C,h2,hk]
 ·cases hb:isB a Zf
  ·have h2:=h1 Zf;rw[hb]at h2;simp only[Zf]at h2
   have e:QN SND [a]= .mk 3 SND 0 [a]:=by simp[QN,hb,SND,FST]
   rw[e];simp only[SND];simp[F.f176C,h2]
  ·have h2:=h1 Zf;rw[hb]at h2;simp only[Zf]at h2
   obtain⟨x,y,hk⟩:=YL hg hb (by simp[ZF]);have e:QN SND [a]=y:=by simp[QN,hb,kid,hk,SND,FST]
   rw[e];simp only[SND];simp[F.f176C,h2,hk]
 ·cases hb:isB a Zd
  ·have h2:=h1 Zd;rw[hb]at h2;simp only[Zd]at h2
   have e:QN READ [a]= .mk 3 READ 0 [a]:=by simp[QN,hb,SND,FST,DEC,Zo,ZE,READ]
   rw[e];simp only[READ];simp[F.f176C,h2]
  ·have h2:=h1 Zd;rw[hb]at h2;simp only[Zd]at h2
   obtain⟨x,y,hk⟩:=YL hg hb (by simp[ZF]);have e:QN READ [a]=x:=by simp[QN,hb,kid,hk,SND,FST,DEC,Zo,ZE,READ]
   rw[e];simp only[READ];simp[F.f176C,h2,hk]
theorem Qav (n:List UInt8) (a key:Tm) (bs:List (List AV)) (hn:n=DEC∨n=Zo∨n=ZE) (hg:QI a=true) (hgk:QI key=true) (hm:a.mass < big - 10) (hmk:key.mass < big - 10):
  call F.tb 176 [.agg (Qb (.mk 3 n 0 [a,key]))] bs=some (.agg (Qb (QN n [a,key])),bs):=by
 have h1:=fun t m=>VB t m bs;rw[Qa F.tb_176 _ _ rfl];rcases hn with rfl | rfl | rfl
 ·cases hb:isB a ENC
  ·have h2:=h1 a ENC;rw[hb]at h2;simp only[ENC]at h2
   have e:QN DEC [a,key]= .mk 3 DEC 0 [a,key]:=by simp[QN,hb,SND,FST,DEC]
   rw[e];simp only[DEC];simp[F.f176C,h2]
  ·have h2:=h1 a ENC;rw[hb]at h2;simp only[ENC]at h2
   obtain⟨x,y,hk⟩:=YL hg hb (by simp[ZF]);have hma:=Qp a;rw[hk]at hma;simp only[massL]at hma;have h3:=Ol y key bs (by omega) (by omega);by_cases hc:Qh y key=0
   ·have e:QN DEC [a,key]=x:=by simp[QN,hb,kid,hk,hc,SND,FST,DEC]
    rw[e];simp only[DEC];simp[F.f176C,h2,h3,hc,hk]
   ·have e:QN DEC [a,key]= .mk 3 DEC 0 [a,key]:=by simp[QN,hb,kid,hk,hc,SND,FST,DEC]
    rw[e];simp only[DEC];simp[F.f176C,h2,h3,hc,hk]
 ·cases hb:isB a QY
  ·have h2:=h1 a QY;rw[hb]at h2;simp only[QY]at h2
   have e:QN Zo [a,key]= .mk 3 Zo 0 [a,key]:=by simp[QN,hb,SND,FST,DEC,Zo]
   rw[e];simp only[Zo];simp[F.f176C,h2]
  ·have h2:=h1 a QY;rw[hb]at h2;simp only[QY]at h2
   obtain⟨x,y,hk⟩:=YL hg hb (by simp[ZF]);have hma:=Qp a;have hgy:QI y=true:=by
    have:=XA hg;rw[hk]at this;simp[goodL]at this;exact this.2
   rw[hk]at hma;simp only[massL]at hma;have hpk:=Gv hgy key;have h4:=h1 y PK;have e0:QN Zo [a,key]=if isB y PK && decide (Qh (kid y 0) key=0)then x else .mk 3 Zo 0 [a,key]:=by
    rw[← hpk];simp[QN,hb,kid,hk,SND,FST,DEC,Zo]
   rw[e0];cases hbp:isB y PK
   ·rw[hbp]at h4;simp only[PK]at h4
    simp only[Zo];simp[F.f176C,h2,h4,hk]
   ·rw[hbp]at h4;simp only[PK]at h4
    obtain⟨hyk,hyn⟩:=W0.1 hbp;have har:=(XW hgy hyk).2;rw[hyn]at har;have hl1:y.kids.length=1:=by simpa[ZF,PK,Zf,ENC,QY,Zd,EXP,DEC,Zo,ZE]using har
    obtain⟨z,hz⟩:=List.length_eq_one_iff.1 hl1;have hmy:=Qp y;rw[hz]at hmy;simp only[massL]at hmy;have h3:=Ol z key bs (by omega) (by omega);have hk0:kid y 0=z:=by simp[kid,hz]
    rw[hk0];by_cases hc:Qh z key=0
    ·simp only[Zo];simp[F.f176C,h2,h3,h4,hc,hk,hz]
    ·simp only[Zo];simp[F.f176C,h2,h3,h4,hc,hk,hz]
 ·cases hb:isB a Zd
  ·have h2:=h1 a Zd;rw[hb]at h2;simp only[Zd]at h2
   have e:QN ZE [a,key]= .mk 3 ZE 0 [a,key]:=by simp[QN,hb,SND,FST,DEC,Zo,ZE]
   rw[e];simp only[ZE];simp[F.f176C,h2]
  ·have h2:=h1 a Zd;rw[hb]at h2;simp only[Zd]at h2
   obtain⟨x,y,hk⟩:=YL hg hb (by simp[ZF]);have hma:=Qp a;rw[hk]at hma;simp only[massL]at hma;have hpk:=Gv hgk y;have h4:=h1 key PK;have e0:QN ZE [a,key]=if isB key PK && decide (Qh (kid key 0) y=0)then x else .mk 3 ZE 0 [a,key]:=by
    rw[← hpk];simp[QN,hb,kid,hk,SND,FST,DEC,Zo,ZE]
   rw[e0];cases hbp:isB key PK
   ·rw[hbp]at h4;simp only[PK]at h4
    simp only[ZE];simp[F.f176C,h2,h4,hk]
   ·rw[hbp]at h4;simp only[PK]at h4
    obtain⟨hyk,hyn⟩:=W0.1 hbp;have har:=(XW hgk hyk).2;rw[hyn]at har;have hl1:key.kids.length=1:=by simpa[ZF,PK,Zf,ENC,QY,Zd,EXP,DEC,Zo,ZE]using har
    obtain⟨z,hz⟩:=List.length_eq_one_iff.1 hl1;have hmy:=Qp key;rw[hz]at hmy;simp only[massL]at hmy;have h3:=Ol y z bs (by omega) (by omega);have hk0:kid key 0=z:=by simp[kid,hz]
    have hsym: (Qh z y=0)=(Qh y z=0):=by
     have:=Z5 y z;rw[eq_iff_iff];omega
    rw[hk0];by_cases hc:Qh y z=0
    ·simp only[ZE];simp[F.f176C,h2,h3,h4,hc,hk,hz,hsym]
    ·simp only[ZE];simp[F.f176C,h2,h3,h4,hc,hk,hz,hsym]
theorem Is (t:Tm): (pkT t).mass=t.mass+4:=by simp only[pkT,Tm.mass,massL,PK,List.length_cons,List.length_nil];omega
def Ao (t:Tm) (bs:List (List AV)) (r:Out):Prop:=∃b,r=some (.tup [.agg (Qb t),.bool b],bs)
theorem Ci (n:List UInt8) (a:Tm) (bs:List (List AV)) (hn:n=FST∨n=SND∨n=READ) (hg:QI a=true) (hm:a.mass < big):
  Ao (QN n [a]) bs (call F.tb 243 [.agg (Qb (.mk 3 n 0 [a]))] bs):=by
 have h1:=fun m=>OZ a m bs;rw[Qa F.tb_243 _ _ rfl];rcases hn with rfl | rfl | rfl
 ·cases hb:isB a Zf
  ·have h2:=h1 Zf;rw[hb]at h2;simp only[Zf]at h2
   have e:QN FST [a]= .mk 3 FST 0 [a]:=by simp[QN,hb]
   rw[e];refine⟨false,?_⟩;simp only[FST];simp[F.f243C,h2]
  ·have h2:=h1 Zf;rw[hb]at h2;simp only[Zf]at h2
   obtain⟨x,y,hk⟩:=YL hg hb (by simp[ZF]);have e:QN FST [a]=x:=by simp[QN,hb,kid,hk]
   rw[e];refine⟨true,?_⟩;simp only[FST];simp[F.f243C,h2,hk]
 ·cases hb:isB a Zf
  ·have h2:=h1 Zf;rw[hb]at h2;simp only[Zf]at h2
   have e:QN SND [a]= .mk 3 SND 0 [a]:=by simp[QN,hb,SND,FST]
   rw[e];refine⟨false,?_⟩;simp only[SND];simp[F.f243C,h2]
  ·have h2:=h1 Zf;rw[hb]at h2;simp only[Zf]at h2
   obtain⟨x,y,hk⟩:=YL hg hb (by simp[ZF]);have e:QN SND [a]=y:=by simp[QN,hb,kid,hk,SND,FST]
   rw[e];refine⟨true,?_⟩;simp only[SND];simp[F.f243C,h2,hk]
 ·cases hb:isB a Zd
  ·have h2:=h1 Zd;rw[hb]at h2;simp only[Zd]at h2
   have e:QN READ [a]= .mk 3 READ 0 [a]:=by simp[QN,hb,SND,FST,DEC,Zo,ZE,READ]
   rw[e];refine⟨false,?_⟩;simp only[READ];simp[F.f243C,h2]
  ·have h2:=h1 Zd;rw[hb]at h2;simp only[Zd]at h2
   obtain⟨x,y,hk⟩:=YL hg hb (by simp[ZF]);have e:QN READ [a]=x:=by simp[QN,hb,kid,hk,SND,FST,DEC,Zo,ZE,READ]
   rw[e];refine⟨true,?_⟩;simp only[READ];simp[F.f243C,h2,hk]
theorem Cj (n:List UInt8) (a key:Tm) (bs:List (List AV)) (hn:n=DEC∨n=Zo∨n=ZE) (hg:QI a=true) (hm:a.mass < big - 10) (hmk:key.mass < big - 10):
  Ao (QN n [a,key]) bs (call F.tb 243 [.agg (Qb (.mk 3 n 0 [a,key]))] bs):=by
 have h1:=fun t m=>OZ t m bs;rw[Qa F.tb_243 _ _ rfl];rcases hn with rfl | rfl | rfl
 ·cases hb:isB a ENC
  ·have h2:=h1 a ENC;rw[hb]at h2;simp only[ENC]at h2
   have e:QN DEC [a,key]= .mk 3 DEC 0 [a,key]:=by simp[QN,hb,SND,FST,DEC]
   rw[e];refine⟨false,?_⟩;simp only[DEC];simp[F.f243C,h2]
  ·have h2:=h1 a ENC;rw[hb]at h2;simp only[ENC]at h2
   obtain⟨x,y,hk⟩:=YL hg hb (by simp[ZF]);have hma:=Qp a;rw[hk]at hma;simp only[massL]at hma;have h3:=WW y key bs (by omega) (by omega);by_cases hc:Qh y key=0
   ·have e:QN DEC [a,key]=x:=by simp[QN,hb,kid,hk,hc,SND,FST,DEC]
    rw[e];refine⟨true,?_⟩;simp only[DEC];simp[F.f243C,h2,h3,hc,hk]
   ·have e:QN DEC [a,key]= .mk 3 DEC 0 [a,key]:=by simp[QN,hb,kid,hk,hc,SND,FST,DEC]
    rw[e];refine⟨false,?_⟩;simp only[DEC];simp[F.f243C,h2,h3,hc,hk]
 ·cases hb:isB a QY
  ·have h2:=h1 a QY;rw[hb]at h2;simp only[QY]at h2
   have e:QN Zo [a,key]= .mk 3 Zo 0 [a,key]:=by simp[QN,hb,SND,FST,DEC,Zo]
   rw[e];refine⟨false,?_⟩;simp only[Zo];simp[F.f243C,h2]
  ·have h2:=h1 a QY;rw[hb]at h2;simp only[QY]at h2
   obtain⟨x,y,hk⟩:=YL hg hb (by simp[ZF]);have hma:=Qp a;rw[hk]at hma;simp only[massL]at hma;have hpm: (pkT key).mass < big:=by rw[Is];unfold big at *;omega
   have h3:=WW y (pkT key) bs (by omega) hpm;have h4:=Vz PK [key] false bs (by simp);simp only[pkT,PK]at h3 h4;by_cases hc:Qh y (pkT key)=0
   ·have e:QN Zo [a,key]=x:=by simp[QN,hb,kid,hk,hc,SND,FST,DEC,Zo]
    rw[e];refine⟨true,?_⟩;simp only[pkT,PK]at hc;simp only[Zo];simp[F.f243C,h2,h3,h4,hc,hk,Zt]
   ·have e:QN Zo [a,key]= .mk 3 Zo 0 [a,key]:=by simp[QN,hb,kid,hk,hc,SND,FST,DEC,Zo]
    rw[e];refine⟨false,?_⟩;simp only[pkT,PK]at hc;simp only[Zo];simp[F.f243C,h2,h3,h4,hc,hk,Zt]
 ·cases hb:isB a Zd
  ·have h2:=h1 a Zd;rw[hb]at h2;simp only[Zd]at h2
   have e:QN ZE [a,key]= .mk 3 ZE 0 [a,key]:=by simp[QN,hb,SND,FST,DEC,Zo,ZE]
   rw[e];refine⟨false,?_⟩;simp only[ZE];simp[F.f243C,h2]
  ·have h2:=h1 a Zd;rw[hb]at h2;simp only[Zd]at h2
   obtain⟨x,y,hk⟩:=YL hg hb (by simp[ZF]);have hma:=Qp a;rw[hk]at hma;simp only[massL]at hma;have hpm: (pkT y).mass < big:=by rw[Is];unfold big at *;omega
   have h3:=WW key (pkT y) bs (by omega) hpm;have h4:=Vz PK [y] false bs (by simp);simp only[pkT,PK]at h3 h4;by_cases hc:Qh key (pkT y)=0
   ·have e:QN ZE [a,key]=x:=by simp[QN,hb,kid,hk,hc,SND,FST,DEC,Zo,ZE]
    rw[e];refine⟨true,?_⟩;simp only[pkT,PK]at hc;simp only[ZE];simp[F.f243C,h2,h3,h4,hc,hk,Zt]
   ·have e:QN ZE [a,key]= .mk 3 ZE 0 [a,key]:=by simp[QN,hb,kid,hk,hc,SND,FST,DEC,Zo,ZE]
    rw[e];refine⟨false,?_⟩;simp only[pkT,PK]at hc;simp only[ZE];simp[F.f243C,h2,h3,h4,hc,hk,Zt]
def KM (l:List Pw) (M:Nat):Prop:=∀q∈l,q.1.mass≤M
theorem Gy {l:List Pw} {t:Tm} {m:Int} {M:Nat} (h:KM l M) (ht:t.mass≤M):KM (Z9 l t m) M:=by
 intro q hq;rcases Ud hq with hq | rfl | ⟨_,_,rfl,_⟩
 ·exact h q hq
 ·exact ht
 ·exact ht
theorem Qd4: ∀(t:Tm) (l:List Pw) (m:Int) (M:Nat),KM l M→t.mass≤M→KM (XG l t m) M:=by
 refine ZG ?_;intro k n s ks ih l m M h hm;have hme:=Qp (.mk k n s ks);simp only[Q0,ZH]at hme;have hL: ∀(xs:List Tm) (l:List Pw) (m:Int),(∀x∈xs,x∈ks)→KM l M→KM (colL l xs m) M:=by
  intro xs
  induction xs with
  | nil=>intro l m _ h;simpa[colL]using h
  | cons x xs IH=>
   intro l m hx h;simp only[colL];exact IH _ m (fun y hy=>hx y (by simp[hy])) (ih x (hx x (by simp)) l m M h (by have:=QC (hx x (by simp));omega))
 rw[Ta];split
 ·exact hL ks l _ (fun x hx=>hx) h
 ·exact Gy h hm
theorem N6: ∀(b a:List Pw) (M:Nat),KM a M→KM b M→KM (YZ a b) M
 | [],a,M,h,_=>h
 | q:: b,a,M,h,hb=>N6 b _ M (Gy h (hb q (by simp))) fun x hx=>hb x (by simp[hx])
theorem Rh (t:Tm) (M:Nat) (h:t.mass≤M):KM (ofP t) M:=by
 unfold ofP;split
 ·exact Qd4 t [] 1 M (fun q hq=>by simp at hq) h
 ·intro q hq;simp at hq
theorem Td (t:Tm): (ofP t).length≤200:=by
 unfold ofP;split
 ·rename_i h;unfold ofE at h;split at h
  ·rename_i h1;exact absurd h h1
  ·split at h
   ·split at h
    ·cases h
    ·omega
   ·cases h
 ·simp
theorem Ed {l:List Pw} (h:ZW l=0):l.length≤200:=by
 unfold ZW at h;split at h
 ·cases h
 ·split at h
  ·cases h
  ·omega
theorem Id (a b:List Pw): (Xl a b).length≤200:=by
 unfold Xl;split
 ·rename_i h;unfold XP at h;split at h
  ·rename_i h1;exact absurd h h1
  ·split at h
   ·rename_i h1;exact absurd h h1
   ·exact Ed h
 ·simp
theorem Gz {a b:List Pw} {M:Nat} (ha:KM a M) (hb:KM b M):KM (Xl a b) M:=by
 unfold Xl;split
 ·exact N6 b a M ha hb
 ·intro q hq;simp at hq
theorem Lo (n:Nat) (t:Tm):massL (List.replicate n t)=n*t.mass:=by
 induction n with
 | zero=>simp[massL]
 | succ n ih=>rw[List.replicate_succ,massL,ih,Nat.succ_mul];omega
theorem C5 (t:Tm): (Vp t).mass=t.mass+5:=by simp only[Vp,Tm.mass,massL,INV,List.length_cons,List.length_nil];omega
theorem Me: ∀{l:List Pw} {M:Nat},KM l M→(∀q∈l,q.2≤8)→massL (Xb l)≤l.length* (8*M)
 | [],M,_,_=>by simp[Xb,massL]
 | p:: l,M,h,hb=>by
  have h1:=Me (l:=l) (M:=M) (fun q hq=>h q (by simp[hq])) fun q hq=>hb q (by simp[hq]);have h2:=h p (by simp);have h3:=hb p (by simp);have h4:p.2.toNat* p.1.mass≤8*M:=Nat.mul_le_mul (by omega) h2;have e:Xb (p:: l)=List.replicate p.2.toNat p.1 ++ Xb l:=by simp[Xb]
  rw[e,XI,Lo,List.length_cons,Nat.succ_mul];omega
theorem Mc: ∀{l:List Pw} {M:Nat},KM l M→(∀q∈l,-8≤q.2)→massL (Xu l)≤l.length* (8* (M+5))
 | [],M,_,_=>by simp[Xu,massL]
 | p:: l,M,h,hb=>by
  have h1:=Mc (l:=l) (M:=M) (fun q hq=>h q (by simp[hq])) fun q hq=>hb q (by simp[hq]);have h2:=h p (by simp);have h3:=hb p (by simp);have h4: (-p.2).toNat* (Vp p.1).mass≤8* (M+5):=Nat.mul_le_mul (by omega) (by rw[C5];omega);have e:Xu (p:: l)=List.replicate (-p.2).toNat (Vp p.1)++ Xu l:=by simp[Xu]
  rw[e,XI,Lo,List.length_cons,Nat.succ_mul];omega
theorem Md {l:List Pw} (h:KM l 25000000) (hl:l.length≤200) (hb: ∀q∈l,-8≤q.2∧q.2≤8):massL (Zv l) < big - 100:=by
 have h1:=Me h fun q hq=>(hb q hq).2;have h2:=Mc h fun q hq=>(hb q hq).1;have h3:l.length* (8*25000000)≤200* (8*25000000):=Nat.mul_le_mul_right _ hl;have h4:l.length* (8* (25000000+5))≤200* (8* (25000000+5)):=Nat.mul_le_mul_right _ hl;unfold Zv;rw[XI];unfold big;omega
theorem OW {l:List Pw} (o:Bool) (bs:List (List AV)) (h:KM l 25000000) (hl:l.length≤200):call F.tb 196 [.sl o 5 (Qr l)] bs=some (QR (ZD l),bs):=
 QcE l o bs (by omega) (fun q hq=>by have:=h q hq;unfold big;omega) (Md h hl)
theorem OX {l:List Pw} (o:Bool) (bs:List (List AV)) (h:KM l 25000000) (hl:l.length≤200):call F.tb 258 [.sl o 5 (Qr l)] bs=some (QR (ZD l),bs):=
 QcS l o bs (by omega) (fun q hq=>by have:=h q hq;unfold big;omega) (Md h hl)
def X5 (b:Tm) (p:List Pw):Tm×Int:=if p=[]then(b,0)else if(ZD p).2≠0 then(QD,(ZD p).2)else(.mk 3 EXP 0 [b,(ZD p).1],0)
def YU (b e:Tm):Tm×Int:=
 if ofE e≠0 then(QD,ofE e)
 else if isB b EXP then
  if ofE (kid b 1)≠0 then(QD,ofE (kid b 1))else if XP (ofP (kid b 1)) (ofP e)≠0 then(QD,XP (ofP (kid b 1)) (ofP e))else X5 (kid b 0) (Xl (ofP (kid b 1)) (ofP e))
 else X5 b (ofP e)
def Yf (t:Tm):Tm×Int:=if ofE t≠0 then(QD,ofE t)else ZD (ofP t)
theorem QU (t:Tm) (e:Int):QR (t,e)= .tup [.agg (Qb t),.int .i64 e]:=rfl
theorem QcQ (t:Tm) (bs:List (List AV)) (hm:t.mass < 20000000):call F.tb 252 [.agg (Qb t)] bs=some (QR (Yf t),bs):=by
 have h1:=My t bs (by omega);have h2:=OX false bs (Rh t 25000000 (by omega)) (Td t);rw[Qa F.tb_252 _ _ rfl];by_cases c:ofE t=0
 ·have e:Yf t=ZD (ofP t):=by simp[Yf,c]
  rw[e];simp only[QR]at h2 ⊢;simp[F.f252C,h1,h2,c]
 ·have e:Yf t=(QD,ofE t):=by simp[Yf,c]
  rw[e];simp[F.f252C,h1,c,QU,QJ]
theorem QcF (b e:Tm) (bs:List (List AV)) (hg:QI b=true) (hb:b.mass < 20000000) (he:e.mass < 20000000):call F.tb 199 [.agg (Qb b),.agg (Qb e)] bs=some (QR (YU b e),bs):=by
 have h1:=Rc e bs (by omega);have h2:=VB b EXP bs;have ke:=Rh e 25000000 (by omega);have le:=Td e;rw[Qa F.tb_199 _ _ rfl];by_cases c1:ofE e=0
 ·cases hx:isB b EXP
  ·rw[hx]at h2;simp only[EXP]at h2
   have h4:=OW false bs ke le;have e0:YU b e=X5 b (ofP e):=by simp[YU,c1,hx]
   rw[e0];generalize ofP e=p at *
   match p with
   | []=>
    simp only[Y9]at h1;simp[F.f199C,h1,h2,c1,X5,QU]
   | q:: r=>
    have n0: ¬(r.length:Int)+1=0:=by omega
    by_cases c2: (ZD (q:: r)).2=0
    ·have h5:=Js EXP [b,(ZD (q:: r)).1] false bs;simp only[QR,encTs]at h4 h5;simp only[EXP]at h5;simp[F.f199C,h1,h2,h4,h5,c1,c2,n0,X5,QU,EXP]
    ·simp only[QR]at h4;simp[F.f199C,h1,h2,h4,c1,c2,n0,X5,QU,QJ]
  ·obtain⟨x,y,hk⟩:=YL hg hx (by simp[ZF]);rw[hx]at h2;simp only[EXP]at h2
   have hmb:=Qp b;rw[hk]at hmb;simp only[massL]at hmb;have k0:kid b 0=x:=by simp[kid,hk]
   have k1:kid b 1=y:=by simp[kid,hk]
   have h3:=Rc y bs (by omega);have ky:=Rh y 25000000 (by omega);have ly:=Td y;by_cases c2:ofE y=0
   ·have h4:=QcG (ofP y) (ofP e) false false bs (by omega) (by omega) (fun q hq=>by have:=ky q hq;unfold big;omega) (fun q hq=>by have:=ke q hq;unfold big;omega);by_cases c3:XP (ofP y) (ofP e)=0
    ·have h6:=OW false bs (Gz ky ke) (Id (ofP y) (ofP e));have e0:YU b e=X5 x (Xl (ofP y) (ofP e)):=by simp[YU,c1,hx,k0,k1,c2,c3]
     rw[e0];generalize Xl (ofP y) (ofP e)=p at *
     match p with
     | []=>
      simp only[Y9]at h4;simp[F.f199C,h1,h2,h3,h4,hk,c1,c2,c3,X5,QU]
     | q:: r=>
      have n0: ¬(r.length:Int)+1=0:=by omega
      by_cases c4: (ZD (q:: r)).2=0
      ·have h5:=Js EXP [x,(ZD (q:: r)).1] false bs;simp only[QR,encTs]at h6 h5;simp only[EXP]at h5;simp[F.f199C,h1,h2,h3,h4,h5,h6,hk,c1,c2,c3,c4,n0,X5,QU,EXP]
      ·simp only[QR]at h6;simp[F.f199C,h1,h2,h3,h4,h6,hk,c1,c2,c3,c4,n0,X5,QU,QJ]
    ·have e0:YU b e=(QD,XP (ofP y) (ofP e)):=by simp[YU,c1,hx,k1,c2,c3]
     rw[e0];simp[F.f199C,h1,h2,h3,h4,hk,c1,c2,c3,QU,QJ]
   ·have e0:YU b e=(QD,ofE y):=by simp[YU,c1,hx,k1,c2]
    rw[e0];simp[F.f199C,h1,h2,h3,hk,c1,c2,QU,QJ]
 ·have e0:YU b e=(QD,ofE e):=by simp[YU,c1]
  rw[e0];simp[F.f199C,h1,c1,QU,QJ]
theorem QcU (b e:Tm) (bs:List (List AV)) (hg:QI b=true) (hb:b.mass < 20000000) (he:e.mass < 20000000):call F.tb 261 [.agg (Qb b),.agg (Qb e)] bs=some (QR (YU b e),bs):=by
 have h1:=My e bs (by omega);have h2:=OZ b EXP bs;have ke:=Rh e 25000000 (by omega);have le:=Td e;rw[Qa F.tb_261 _ _ rfl];by_cases c1:ofE e=0
 ·cases hx:isB b EXP
  ·rw[hx]at h2;simp only[EXP]at h2
   have h4:=OX false bs ke le;have e0:YU b e=X5 b (ofP e):=by simp[YU,c1,hx]
   rw[e0];generalize ofP e=p at *
   match p with
   | []=>
    simp only[Y9]at h1;simp[F.f261C,h1,h2,c1,X5,QU]
   | q:: r=>
    have n0: ¬(r.length:Int)+1=0:=by omega
    by_cases c2: (ZD (q:: r)).2=0
    ·have h5:=Vz EXP [b,(ZD (q:: r)).1] false bs (by simp);simp only[QR,encTs]at h4 h5;simp only[EXP]at h5;simp[F.f261C,h1,h2,h4,h5,c1,c2,n0,X5,QU,EXP]
    ·simp only[QR]at h4;simp[F.f261C,h1,h2,h4,c1,c2,n0,X5,QU,QJ]
  ·obtain⟨x,y,hk⟩:=YL hg hx (by simp[ZF]);rw[hx]at h2;simp only[EXP]at h2
   have hmb:=Qp b;rw[hk]at hmb;simp only[massL]at hmb;have k0:kid b 0=x:=by simp[kid,hk]
   have k1:kid b 1=y:=by simp[kid,hk]
   have h3:=My y bs (by omega);have ky:=Rh y 25000000 (by omega);have ly:=Td y;by_cases c2:ofE y=0
   ·have h4:=QcV (ofP y) (ofP e) false false bs (by omega) (by omega) (fun q hq=>by have:=ky q hq;unfold big;omega) (fun q hq=>by have:=ke q hq;unfold big;omega);by_cases c3:XP (ofP y) (ofP e)=0
    ·have h6:=OX false bs (Gz ky ke) (Id (ofP y) (ofP e));have e0:YU b e=X5 x (Xl (ofP y) (ofP e)):=by simp[YU,c1,hx,k0,k1,c2,c3]
     rw[e0];generalize Xl (ofP y) (ofP e)=p at *
     match p with
     | []=>
      simp only[Y9]at h4;simp[F.f261C,h1,h2,h3,h4,hk,c1,c2,c3,X5,QU]
     | q:: r=>
      have n0: ¬(r.length:Int)+1=0:=by omega
      by_cases c4: (ZD (q:: r)).2=0
      ·have h5:=Vz EXP [x,(ZD (q:: r)).1] false bs (by simp);simp only[QR,encTs]at h6 h5;simp only[EXP]at h5;simp[F.f261C,h1,h2,h3,h4,h5,h6,hk,c1,c2,c3,c4,n0,X5,QU,EXP]
      ·simp only[QR]at h6;simp[F.f261C,h1,h2,h3,h4,h6,hk,c1,c2,c3,c4,n0,X5,QU,QJ]
    ·have e0:YU b e=(QD,XP (ofP y) (ofP e)):=by simp[YU,c1,hx,k1,c2,c3]
     rw[e0];simp[F.f261C,h1,h2,h3,h4,hk,c1,c2,c3,QU,QJ]
   ·have e0:YU b e=(QD,ofE y):=by simp[YU,c1,hx,k1,c2]
    rw[e0];simp[F.f261C,h1,h2,h3,hk,c1,c2,QU,QJ]
 ·have e0:YU b e=(QD,ofE e):=by simp[YU,c1]
  rw[e0];simp[F.f261C,h1,c1,QU,QJ]
end Go.Am
