/-
  Am21, Am22, Am23, Ge1, Ge2, Ge3, Ge4, Ge5, Ge6, Ge10, Ge11, Ge12, Ge26, Ge27, Ge28, Ge15, Rc1, Rc2, Rc3, Rc4, Rc5, Rc6, Rc7, Rc8, Rc9, Rc10, Rc11, Rc12, Rc13, Rc14, Rc15, Rc16, Rc17, Rc18, Rc19, Rc20, Rc21, Rc22, Rc23, Rc24, Rc25, Rc26, Rc27, Rc28, Rc29, Rc30, Rc31, Rc32, Rc33, Rc34, Rc35, Rc36, Rc37, Rc38, Rc39, Rc40, Rc41, Rc42, En1, En2, En3, En4, En5, En6, En7, En8, En9, En10, En11, En12, En13, En14, En15, En16, En17, En18, En19, En20, En21, En22, En23, En24, En25, En26, En30, En31, En32, En33, En34, En35, En36, En37, En38, En39, En40, En41, En42, En43.
-/
import Derived.Test.YthpfccfeelhpeaaGreatDoorG10
import Derived.Test.YthpfccfeelhpeaaGreatDoorG14
set_option linter.all false
open Go.Am.F
namespace Go.Am
abbrev Out:=Option (AV×List (List AV))
abbrev Kn:=Ex->St->Out
section
variable {T:Nat->Option AFn}
noncomputable def R (T:YX) (c:AC) (ρ:QA) (bs:Qe) (k:Kn):Out:=match run T c ⟨ρ,bs⟩with
 | some (e,s)=>k e s
 | none=>none
noncomputable def O (T:YX) (os:Zg) (ρ:QA) (bs:Qe) (k:Kn):Out:=match Zb (call T) os ⟨ρ,bs⟩with
 | some s=>k .normal s
 | none=>none
noncomputable def E (T:YX) (r:Option (AV×St)) (d:Zs) (os:Zg) (k:Kn):Out:=match r with
 | some p=>O T os (Zq p.2.env d p.1) p.2.bs k
 | none=>none
def Z1 (c b:Bool) (x y:Out):Out:=if c=b then x else y
noncomputable def Ym (T:YX) (b:AC) (k:Kn):Kn:=fun e s=>match e with
 | .normal=>match run T b s with
  | some (e,s)=>k e s
  | none=>none
 | e=>k e s
def ZJ (id:Nat) (k:Kn):Kn:=fun e s=>match e with
 | .exit i=>k (if i=id then .normal else .exit i) s
 | e=>k e s
def Xz (fn:QO) (n:Qe):Kn:=fun e s=>match e with
 | .normal=>ZS fn n s
 | .ret=>ZS fn n s
 | .exit _=>none
def SJ (x y:Out):Z1 true true x y=x:=rfl
def Oc (x y:Out):Z1 false false x y=x:=rfl
def Od (x y:Out):Z1 true false x y=y:=rfl
def SI (x y:Out):Z1 false true x y=y:=rfl
def LZ (c b:Bool) (x:Out):Z1 c b x x=x:=by unfold Z1;split <;> rfl
def Js (c b:Bool) (x y:Out):Z1 (!c) b x y=Z1 c (!b) x y:=by cases c <;> cases b <;> rfl
def Wg (c b:Bool) (x y:Out):Z1 c b x y=if c=b then x else y:=rfl
def Qba (ρ:QA) (bs:Qe) (k:Kn):R T .skip ρ bs k=k .normal ⟨ρ,bs⟩:=by simp only[R,LA]
def QcQ (ρ:QA) (bs:Qe) (k:Kn):R T .ret ρ bs k=k .ret ⟨ρ,bs⟩:=by simp only[R,KL]
def Qa8 (id:Nat) (ρ:QA) (bs:Qe) (k:Kn):R T (.exit id) ρ bs k=k (.exit id) ⟨ρ,bs⟩:=by simp only[R,Lx]
def QcP (d:Bool) (ops:Zg) (ρ:QA) (bs:Qe) (k:Kn):R T (.reg d ops) ρ bs k=O T ops ρ bs k:=by
 simp only[R,O,KK];cases Zb (call T) ops ⟨ρ,bs⟩ <;> rfl
def QcR (a b:AC) (ρ:QA) (bs:Qe) (k:Kn):R T (.seq a b) ρ bs k=R T a ρ bs (Ym T b k):=by
 simp only[R,KM];cases run T a ⟨ρ,bs⟩with
 | none=>rfl
 | some x=>
  obtain⟨e,s⟩:=x;cases e <;> rfl
def Dq (id:Nat) (c:AC) (ρ:QA) (bs:Qe) (k:Kn):R T (.block id c) ρ bs k=R T c ρ bs (ZJ id k):=by
 simp only[R,Om];cases run T c ⟨ρ,bs⟩with
 | none=>rfl
 | some x=>
  obtain⟨e,s⟩:=x;cases e <;> rfl
def Qa9 (c:AC) (ρ:QA) (bs:Qe) (k:Kn):R T (.loop c) ρ bs k=R T c ρ bs (Ym T (.loop c) k):=by
 simp only[R];rw[Lz];cases run T c ⟨ρ,bs⟩with
 | none=>rfl
 | some x=>
  obtain⟨e,s⟩:=x;cases e <;> rfl
def Ke (b:AC) (k:Kn) (ρ:QA) (bs:Qe):Ym T b k .normal ⟨ρ,bs⟩=R T b ρ bs k:=rfl
def EK (b:AC) (k:Kn) (s:St):Ym T b k .ret s=k .ret s:=rfl
def Fb (b:AC) (k:Kn) (s:St) (id:Nat):Ym T b k (.exit id) s=k (.exit id) s:=rfl
def Ow (id:Nat) (k:Kn) (s:St):ZJ id k .normal s=k .normal s:=rfl
def K9 (id:Nat) (k:Kn) (s:St):ZJ id k .ret s=k .ret s:=rfl
def LO (id:Nat) (k:Kn) (s:St):ZJ id k (.exit id) s=k .normal s:=by simp[ZJ]
def LV (fn:QO) (k:Qe) (s:St):Xz fn k .normal s=ZS fn k s:=rfl
def FY (fn:QO) (k:Qe) (s:St):Xz fn k .ret s=ZS fn k s:=rfl
noncomputable def Jf (T:YX) (v:AV) (n:Nat) (a b:AC) (ρ:QA) (bs:Qe) (k:Kn):Out:=match v with
 | .bool c=>Z1 c true (R T a (upd ρ n (.bool true)) bs k) (R T b (upd ρ n (.bool false)) bs k)
 | _=>none
def Xr {ρ:QA} {n:Nat} {v:AV} (h:ρ n=v):upd ρ n v=ρ:=by
 funext j;unfold upd;split
 ·rename_i hj;rw[hj,h]
 ·rfl
def Qa7 (n:Nat) (a b:AC) (ρ:QA) (bs:Qe) (k:Kn):R T (.cond (.t n) a b) ρ bs k=Jf T (ρ n) n a b ρ bs k:=by
 simp only[R,Lw,val,Jf];cases h:ρ n <;> try rfl
 rename_i c;cases c
 ·simp only[AV.strip,SI,Xr h]
 ·simp only[AV.strip,SJ,Xr h]
def Jg (c:Bool) (n:Nat) (a b:AC) (ρ:QA) (bs:Qe) (k:Kn):
  Jf T (.bool c) n a b ρ bs k=Z1 c true (R T a (upd ρ n (.bool true)) bs k) (R T b (upd ρ n (.bool false)) bs k):=rfl
def Qcu (ρ:QA) (bs:Qe) (k:Kn):O T [] ρ bs k=k .normal ⟨ρ,bs⟩:=rfl
def Bb (d:Zs) (op:AOp) (os:Zg) (ρ:QA) (bs:Qe) (k:Kn):
  O T (⟨d,op,none⟩:: os) ρ bs k=E T (Qc (call T) op ⟨ρ,bs⟩) d os k:=by
 simp only[O,E,Zb,Q7];cases Qc (call T) op ⟨ρ,bs⟩ <;> rfl
noncomputable def Pf (T:YX) (v:AV) (t:Nat) (b:Bool) (d:Zs) (op:AOp) (os:Zg) (ρ:QA) (bs:Qe) (k:Kn):Out:=match v with
 | .bool c=>Z1 c b (E T (Qc (call T) op ⟨upd ρ t (.bool b),bs⟩) d os k) (O T os (Zq (upd ρ t (.bool (!b))) d (.tup [])) bs k)
 | .tup []=>O T os (Zq ρ d (.tup [])) bs k
 | _=>none
def Xu (d:Zs) (op:AOp) (t:Nat) (b:Bool) (os:Zg) (ρ:QA) (bs:Qe) (k:Kn):
  O T (⟨d,op,some (t,b)⟩:: os) ρ bs k=Pf T (ρ t) t b d op os ρ bs k:=by
 simp only[O,Zb,Q7,Pf];cases h:ρ t <;> try rfl
 ·rename_i c;by_cases hcb:c=b
  ·subst hcb;simp only[Z1,Q9,Xr h,E];cases Qc (call T) op ⟨ρ,bs⟩ <;> rfl
  ·have hcb2:c= !b:=by cases c <;> cases b <;> simp_all
   subst hcb2;simp only[Z1,hcb,Zz,Xr h];rfl
 ·rename_i vs;cases vs <;> rfl
def XL (c:Bool) (t:Nat) (b:Bool) (d:Zs) (op:AOp) (os:Zg) (ρ:QA) (bs:Qe) (k:Kn):
  Pf T (.bool c) t b d op os ρ bs k=Z1 c b (E T (Qc (call T) op ⟨upd ρ t (.bool b),bs⟩) d os k) (O T os (Zq (upd ρ t (.bool (!b))) d (.tup [])) bs k):=rfl
def Pg (t:Nat) (b:Bool) (d:Zs) (op:AOp) (os:Zg) (ρ:QA) (bs:Qe) (k:Kn):
  Pf T (.tup []) t b d op os ρ bs k=O T os (Zq ρ d (.tup [])) bs k:=rfl
def C7 (v:AV) (ρ:QA) (bs:Qe) (d:Nat) (os:Zg) (k:Kn):E T (some (v,⟨ρ,bs⟩)) (some d) os k=O T os (upd ρ d v) bs k:=rfl
def Dl (v:AV) (ρ:QA) (bs:Qe) (os:Zg) (k:Kn):E T (some (v,⟨ρ,bs⟩)) none os k=O T os ρ bs k:=rfl
def C6 (d:Zs) (os:Zg) (k:Kn):E T none d os k=none:=rfl
def Fe (ρ:QA) (d:Nat) (v:AV):Zq ρ (some d) v=upd ρ d v:=rfl
def Fc (ρ:QA) (v:AV):Zq ρ none v=ρ:=rfl
def UG {f:Nat} {fn:QO} (h:T f=some (.code fn)) (args:Qd) (bs:Qe) (hl:args.length=fn.nparams):
  call T f args bs=R T fn.body (ZY args) bs (Xz fn bs):=by
 rw[PE,h];simp only[hl,Q9,R];cases run T fn.body ⟨ZY args,bs⟩with
 | none=>rfl
 | some x=>
  obtain⟨e,s⟩:=x;cases e <;> rfl
def Ty {f:Nat} {g:Qd->Qe->Option (AV×Qe)} (h:T f=some (.orc g)) (args:Qd) (bs:Qe):call T f args bs=g args bs:=by
 rw[PE,h]
def Fu (a:AV) (aq:Qd):ZY (a:: aq) 0=a.strip:=rfl
def LN (a:AV) (aq:Qd) (i:Nat):ZY (a:: aq) (i+1)=ZY aq i:=rfl
def X8 (ρ:QA) (i:Nat) (v:AV):upd ρ i v i=v:=by simp[upd]
variable {K:Zi} (ρ:Nat->AV) (bs:List (List AV))
def Qdv (n:Nat):val ρ (.t n)=(ρ n).strip:=rfl
def Qdu (v:AV):val ρ (.c v)=v:=rfl
end
end Go.Am
namespace Go.Am
section
variable {T:Nat->Option AFn}
def Uu (b:Bool):AV->Bool
 | .bool c=>c == !b
 | .tup []=>true
 | _=>false
noncomputable def O2 (T:YX) (c:Bool) (_t:Nat) (b:Bool) (os:Zg) (ρ1 ρ2:QA) (bs1 bs2:Qe) (k:Kn):Out:=
 if c=b then O T os ρ1 bs1 k else O T os ρ2 bs2 k
noncomputable def E2 (T:YX) (c:Bool) (_t:Nat) (b:Bool) (r:Option (AV×St)) (d:Zs) (os:Zg) (ρ2:QA) (bs2:Qe) (k:Kn):Out:=
 if c=b then E T r d os k else O T os (Zq ρ2 d (.tup [])) bs2 k
def Zp (c b:Bool) (x y:AV):AV:=if c=b then x else y
def RH (c b:Bool) (x y:Qe):Qe:=if c=b then x else y
def mrg (c b:Bool) (ρ1 ρ2:QA):QA:=fun j=>Zp c b (ρ1 j) (ρ2 j)
def Cq (c b:Bool) (ρ1 ρ2:QA) (j:Nat):mrg c b ρ1 ρ2 j=Zp c b (ρ1 j) (ρ2 j):=rfl
def Kj (c:Bool) (t:Nat) (b:Bool) (os:Zg) (ρ1 ρ2:QA) (bs1 bs2:Qe) (k:Kn):
  O2 T c t b os ρ1 ρ2 bs1 bs2 k=O T os (mrg c b ρ1 ρ2) (RH c b bs1 bs2) k:=by
 unfold O2;split
 ·rename_i h;have:mrg c b ρ1 ρ2=ρ1:=by funext j;simp[mrg,Zp,h]
  rw[this,RH,Qj h]
 ·rename_i h;have:mrg c b ρ1 ρ2=ρ2:=by funext j;simp[mrg,Zp,h]
  rw[this,RH,Qi h]
def C9 (c:Bool) (t:Nat) (b:Bool) (ρ1 ρ2:QA) (bs1 bs2:Qe) (k:Kn):
  O2 T c t b [] ρ1 ρ2 bs1 bs2 k=O T [] (mrg c b ρ1 ρ2) (RH c b bs1 bs2) k:=Kj c t b [] ρ1 ρ2 bs1 bs2 k
def Dn (c:Bool) (t:Nat) (b:Bool) (d:Zs) (op:AOp) (os:Zg) (ρ1 ρ2:QA) (bs1 bs2:Qe) (k:Kn):
  O2 T c t b (⟨d,op,none⟩:: os) ρ1 ρ2 bs1 bs2 k=O T (⟨d,op,none⟩:: os) (mrg c b ρ1 ρ2) (RH c b bs1 bs2) k:=Kj c t b _ ρ1 ρ2 bs1 bs2 k
def Fq (c:Bool) (t:Nat) (b:Bool) (d:Zs) (op:AOp) (t':Nat) (b':Bool) (os:Zg) (ρ1 ρ2:QA) (bs1 bs2:Qe) (k:Kn) (_h: ((t' == t) && (b' == b))=false):
  O2 T c t b (⟨d,op,some (t',b')⟩:: os) ρ1 ρ2 bs1 bs2 k=Z1 c b (O T (⟨d,op,some (t',b')⟩:: os) ρ1 bs1 k) (O T (⟨d,op,some (t',b')⟩:: os) ρ2 bs2 k):=by
 unfold O2 Z1;rfl
def Do (c:Bool) (t:Nat) (b:Bool) (d:Zs) (op:AOp) (os:Zg) (ρ1 ρ2:QA) (bs1 bs2:Qe) (k:Kn) (h1:ρ1 t= .bool b) (h2:Uu b (ρ2 t)=true):
  O2 T c t b (⟨d,op,some (t,b)⟩:: os) ρ1 ρ2 bs1 bs2 k=E2 T c t b (Qc (call T) op ⟨ρ1,bs1⟩) d os ρ2 bs2 k:=by
 unfold O2 E2;split
 ·rw[Xu,h1,XL,Wg,Qj rfl,Xr h1]
 ·rw[Xu];unfold Uu at h2;split at h2
  ·rename_i c hc;rw[hc,XL];simp only[WT]at h2;subst h2;rw[Wg,Qi (by cases b <;> simp),Xr hc]
  ·rename_i hc;rw[hc,Pg]
  ·cases h2
def Dk (c:Bool) (t:Nat) (b:Bool) (v:AV) (ρ1:QA) (bs1:Qe) (d:Zs) (os:Zg) (ρ2:QA) (bs2:Qe) (k:Kn):
  E2 T c t b (some (v,⟨ρ1,bs1⟩)) d os ρ2 bs2 k=O2 T c t b os (Zq ρ1 d v) (Zq ρ2 d (.tup [])) bs1 bs2 k:=rfl
noncomputable def G (T:YX) (v:AV) (d:Zs) (op:AOp) (t:Nat) (b:Bool) (os:Zg) (ρ:QA) (bs:Qe) (k:Kn):Out:=match v with
 | .bool c=>O2 T c t b (⟨d,op,some (t,b)⟩:: os) (upd ρ t (.bool b)) (upd ρ t (.bool (!b))) bs bs k
 | .tup []=>O T os (Zq (upd ρ t (.tup [])) d (.tup [])) bs k
 | _=>none
def UY (c:Bool) (d:Zs) (op:AOp) (t:Nat) (b:Bool) (os:Zg) (ρ:QA) (bs:Qe) (k:Kn):
  G T (.bool c) d op t b os ρ bs k=O2 T c t b (⟨d,op,some (t,b)⟩:: os) (upd ρ t (.bool b)) (upd ρ t (.bool (!b))) bs bs k:=rfl
def EX (d:Zs) (op:AOp) (t:Nat) (b:Bool) (os:Zg) (ρ:QA) (bs:Qe) (k:Kn):
  G T (.tup []) d op t b os ρ bs k=O T os (Zq (upd ρ t (.tup [])) d (.tup [])) bs k:=rfl
def Dp (d:Zs) (op:AOp) (t:Nat) (b:Bool) (os:Zg) (ρ:QA) (bs:Qe) (k:Kn):
  O T (⟨d,op,some (t,b)⟩:: os) ρ bs k=G T (ρ t) d op t b os ρ bs k:=by
 cases h:ρ t <;> try (rw[Xu,h];rfl)
 ·rename_i c;rw[UY];unfold O2;by_cases hcb:c=b
  ·subst hcb;simp[Xr h]
  ·have hcb2:c= !b:=by cases c <;> cases b <;> simp_all
   subst hcb2;rw[Xr h,Qi hcb]
 ·rename_i vs;cases vs with
  | nil=>rw[EX,Xu,h,Pg,Xr h]
  | cons v vs=>rw[Xu,h];rfl
def C8 (d:Zs) (op:AOp) (t:Nat) (os:Zg) (ρ:QA) (bs:Qe) (k:Kn):
  G T (.bool true) d op t true os ρ bs k=E T (Qc (call T) op ⟨upd ρ t (.bool true),bs⟩) d os k:=by
 rw[UY];unfold O2;rw[Qj rfl,Xu,X8,XL,SJ,Xr (X8 _ _ _)]
def Dm (d:Zs) (op:AOp) (t:Nat) (os:Zg) (ρ:QA) (bs:Qe) (k:Kn):
  G T (.bool false) d op t false os ρ bs k=E T (Qc (call T) op ⟨upd ρ t (.bool false),bs⟩) d os k:=by
 rw[UY];unfold O2;rw[Qj rfl,Xu,X8,XL,Oc,Xr (X8 _ _ _)]
def QdD (d:Zs) (op:AOp) (t:Nat) (os:Zg) (ρ:QA) (bs:Qe) (k:Kn):
  G T (.bool true) d op t false os ρ bs k=O T os (Zq (upd ρ t (.bool true)) d (.tup [])) bs k:=by
 rw[UY];unfold O2;rw[Qi (by simp),Xu,X8];simp only[XL,Od,Bool.not_false];rw[Xr (X8 _ _ _)]
def QdC (d:Zs) (op:AOp) (t:Nat) (os:Zg) (ρ:QA) (bs:Qe) (k:Kn):
  G T (.bool false) d op t true os ρ bs k=O T os (Zq (upd ρ t (.bool false)) d (.tup [])) bs k:=by
 rw[UY];unfold O2;rw[Qi (by simp),Xu,X8];simp only[XL,SI,Bool.not_true];rw[Xr (X8 _ _ _)]
def G8 (c b:Bool) (x:AV):Zp c b x x=x:=by unfold Zp;split <;> rfl
def G5 (c b:Bool) (x:Qe):RH c b x x=x:=by unfold RH;split <;> rfl
def Qcl (c b:Bool) (x y z:AV):Zp c b (Zp c b x y) z=Zp c b x z:=by unfold Zp;split <;> simp_all
def Qcm (c b:Bool) (x y z:AV):Zp c b x (Zp c b y z)=Zp c b x z:=by unfold Zp;split <;> simp_all
def CP (c:Bool) (x y z:AV):Zp c true (Zp c false x y) z=Zp c true y z:=by cases c <;> rfl
def CQ (c:Bool) (x y z:AV):Zp c true x (Zp c false y z)=Zp c true x y:=by cases c <;> rfl
def CM (c:Bool) (x y z:AV):Zp c false (Zp c true x y) z=Zp c false y z:=by cases c <;> rfl
def CN (c:Bool) (x y z:AV):Zp c false x (Zp c true y z)=Zp c false x y:=by cases c <;> rfl
def Fa (c:Bool) (x y:AV):Zp c false x y=Zp c true y x:=by cases c <;> rfl
def EI (x y:AV):Zp true true x y=x:=rfl
def G7 (x y:AV):Zp false true x y=y:=rfl
def G6 (c x y:Bool):Zp c true (.bool x) (.bool y)= .bool (bif c then x else y):=by cases c <;> rfl
def EH (c:Bool) (k:IntKind) (x y:Int):Zp c true (.int k x) (.int k y)= .int k (bif c then x else y):=by cases c <;> rfl
def J3 (c b:Bool) (x y:AV): (Zp c b x y).strip=Zp c b x.strip y.strip:=by unfold Zp;split <;> rfl
def CO (c b:Bool) (x y:AV): (Zp c b x y).ok=if c=b then x.ok else y.ok:=by unfold Zp;split <;> rfl
def EJ (c b:Bool) (x y:AV): (Zp c b x y).one=if c=b then x.one else y.one:=by unfold Zp;split <;> rfl
def G9 (c b d:Bool) (x y:AV):Uu d (Zp c b x y)=if c=b then Uu d x else Uu d y:=by unfold Zp;split <;> rfl
def L1 (c b:Bool):Uu b (.bool c)=(c == !b):=rfl
def Jx (b:Bool):Uu b (.tup [])=true:=rfl
def JJ (v x y:AV) (s:St):Option (AV×St):=match v with
 | .bool c=>let v:=Zp c true x y;if v.ok then some (v,s)else none
 | _=>none
def Qbx {K:Zi} (c a b:AO) (ρ:QA) (bs:Qe):Qc K (.pick c a b) ⟨ρ,bs⟩=JJ (val ρ c) (val ρ a) (val ρ b) ⟨ρ,bs⟩:=by
 simp only[Qc,JJ];cases val ρ c <;> try rfl
 rename_i x;cases x <;> rfl
def JK (c:Bool) (x y:AV) (s:St):JJ (.bool c) x y s=if(Zp c true x y).ok then some (Zp c true x y,s)else none:=rfl
end
end Go.Am
namespace Go.Am
def CY (ρ:QA) (i:Nat) (v:AV) (j:Nat):upd ρ i v j=if j=i then v else ρ j:=rfl
def OH:AV.strip (.undef)= .undef:=rfl
def JU:AV.ok (.undef)=false:=rfl
def L7:AV.one (.undef)=false:=rfl
def L6:AV.gpfree (.undef)=true:=rfl
def Ka (k:IntKind) (n:Int):AV.strip (.int k n)= .int k n:=rfl
def Ey (k:IntKind) (n:Int):AV.ok (.int k n)=true:=rfl
def G1 (k:IntKind) (n:Int):AV.one (.int k n)=true:=rfl
def GS (k:IntKind) (n:Int):AV.gpfree (.int k n)=true:=rfl
def LC (b:Bool):AV.strip (.bool b)= .bool b:=rfl
def GX (b:Bool):AV.ok (.bool b)=true:=rfl
def JW (b:Bool):AV.one (.bool b)=true:=rfl
def JS (b:Bool):AV.gpfree (.bool b)=true:=rfl
def Kb:AV.strip (.nlp)= .nlp:=rfl
def Ez:AV.ok (.nlp)=true:=rfl
def G2:AV.one (.nlp)=true:=rfl
def GT:AV.gpfree (.nlp)=true:=rfl
def LB:AV.strip (.anyb)= .anyb:=rfl
def GW:AV.ok (.anyb)=true:=rfl
def JV:AV.one (.anyb)=true:=rfl
def JR:AV.gpfree (.anyb)=true:=rfl
def Kc (s:QG):AV.strip (.str s)= .str s:=rfl
def EA (s:QG):AV.ok (.str s)=true:=rfl
def G3 (s:QG):AV.one (.str s)=true:=rfl
def GU (s:QG):AV.gpfree (.str s)=true:=rfl
def L8 (cs:Qd):AV.strip (.agg cs)= .agg cs:=rfl
def Ev (cs:Qd):AV.ok (.agg cs)=true:=rfl
def GZ (cs:Qd):AV.one (.agg cs)=false:=rfl
def GQ (cs:Qd):AV.gpfree (.agg cs)=QI cs:=rfl
def J2 (o:Bool) (z:Nat) (xs:Qe):AV.strip (.sl o z xs)= .sl false z xs:=rfl
def CL (o:Bool) (z:Nat) (xs:Qe):AV.ok (.sl o z xs)=true:=rfl
def EG (o:Bool) (z:Nat) (xs:Qe):AV.one (.sl o z xs)=true:=rfl
def Eu (o:Bool) (z:Nat) (xs:Qe):AV.gpfree (.sl o z xs)=Z5 xs:=rfl
def JY (cs:Qd):AV.strip (.bx cs)= .bx cs:=rfl
def CH (cs:Qd):AV.ok (.bx cs)=false:=rfl
def EC (cs:Qd):AV.one (.bx cs)=false:=rfl
def Ep (cs:Qd):AV.gpfree (.bx cs)=QI cs:=rfl
def J0 (i o:Nat):AV.strip (.gp i o)= .gp i o:=rfl
def CJ (i o:Nat):AV.ok (.gp i o)=true:=rfl
def EE (i o:Nat):AV.one (.gp i o)=true:=rfl
def Et (i o:Nat):AV.gpfree (.gp i o)=false:=rfl
def J1 (i o z n:Nat):AV.strip (.gs i o z n)= .gs i o z n:=rfl
def CK (i o z n:Nat):AV.ok (.gs i o z n)=true:=rfl
def EF (i o z n:Nat):AV.one (.gs i o z n)=true:=rfl
def LD (cs:Qd):AV.strip (.rptr cs)= .rptr cs:=rfl
def GY (cs:Qd):AV.ok (.rptr cs)=true:=rfl
def JX (cs:Qd):AV.one (.rptr cs)=true:=rfl
def JT (cs:Qd):AV.gpfree (.rptr cs)=QI cs:=rfl
def JZ (f:Nat) (cs:Qd):AV.strip (.fn f cs)= .fn f cs:=rfl
def CI (f:Nat) (cs:Qd):AV.ok (.fn f cs)=true:=rfl
def ED (f:Nat) (cs:Qd):AV.one (.fn f cs)=true:=rfl
def Er (f:Nat) (cs:Qd):AV.gpfree (.fn f cs)=QI cs:=rfl
def Kd (vs:Qd):AV.strip (.tup vs)= .tup vs:=rfl
def EB (vs:Qd):AV.ok (.tup vs)=true:=rfl
def G4 (vs:Qd):AV.one (.tup vs)=false:=rfl
def GV (vs:Qd):AV.gpfree (.tup vs)=QI vs:=rfl
def L9 (b:Bool):AV.strip (.err b)= .err b:=rfl
def Ew (b:Bool):AV.ok (.err b)=true:=rfl
def G0 (b:Bool):AV.one (.err b)=true:=rfl
def GR (b:Bool):AV.gpfree (.err b)=true:=rfl
def F6 {α:Type} (p:Prop) [Decidable p] (a b c:α): (if p then(if p then a else b)else c)=if p then a else c:=by split <;> simp_all
def F5 {α:Type} (p:Prop) [Decidable p] (a b c:α): (if p then a else(if p then b else c))=if p then a else c:=by split <;> simp_all
attribute [simp] Kb Ez G2 GT OH JU L7 L6 Ka Ey G1 GS LC GX JW JS LB GW JV JR Kc EA G3 GU L8 Ev GZ GQ J2 CL EG Eu JY CH EC Ep J0 CJ EE Et J1 CK EF LD GY JX JT JZ CI ED Er Kd EB G4 GV L9 Ew G0 GR F6 F5
attribute [simp] UJ Qba QcQ Qa8 QcP QcR Dq Qa7 Qcu Bb Dp C7 Dl C6 Fe Fc Jg Ke EK Fb Ow K9 LO LV FY SJ Od Oc SI Js LZ Qc Qdv Qdu Fu LN Rv aun ZS Z7 Xq QI Z5 Z2 ZE cellsOf put CY C9 Dn Fq Do Dk Cq UY EX L1 Jx G8 G5 Qcl Qcm CP CQ CM CN Fa EI G7 G6 EH J3 CO EJ G9 JK
attribute [simp ↓] Qbx
attribute [simp 2000] C8 Dm QdD QdC
def L0 (c:Bool) (x y:Out):Z1 c false x y=Z1 c true y x:=by cases c <;> rfl
def LY (c x y:Bool) (s:Qe):Z1 c true (some (.bool x,s)) (some (.bool y,s))=some (.bool (bif c then x else y),s):=by cases c <;> rfl
def La (c:Bool) (k:IntKind) (x y:Int) (s:Qe):Z1 c true (some (.int k x,s)) (some (.int k y,s))=some (.int k (bif c then x else y),s):=by cases c <;> rfl
def Q3 {T:YX} {c c':AC} (h:c=c') (ρ:QA) (bs:Qe) (k:Kn):R T (.loop c) ρ bs k=R T c' ρ bs (Ym T (.loop c) k):=by
 subst h;exact Qa9 c ρ bs k
attribute [simp] toI
attribute [simp] L0 LY La Xf ZX QT Bool.cond_decide
def X9 {n:Int} (h1: -9223372036854775808<=n) (h2:n < 9223372036854775808):IntKind.i64.wrap n=n:=by
 simp only[IntKind.wrap_i64];omega
def wr1 (n:Nat) (h:n+1 < 9223372036854775808):IntKind.i64.wrap ((n:Int)+1)=(n:Int)+1:=X9 (by omega) (by omega)
def XH {α:Type} {l pre post:List α} {x:α} (h:l=pre ++ x:: post):l.length=pre.length+ (post.length+1):=by rw[h];simp
def X5 {α:Type} {l pre post:List α} {x:α} (h:l=pre ++ x:: post): (pre.length:Int) < (l.length:Int):=by have:=XH h;omega
@[simp] def Qe4 (n:Nat) (vs:Qd):stV (.t n) vs=vs.map AV.strip:=rfl
@[simp] def Qe2 (z:Nat) (vs:Qd):stV (.c (.sl true z [])) vs=vs.map fun _=> .sl true z []:=rfl
@[simp] def Qe1 (k:IntKind) (n:Int) (vs:Qd):stV (.c (.int k n)) vs=vs.map AV.strip:=rfl
@[simp] def Qe3 (s:QG) (vs:Qd):stV (.c (.str s)) vs=vs.map AV.strip:=rfl
@[simp] def QeC (b:Bool) (vs:Qd):stV (.c (.bool b)) vs=vs.map AV.strip:=rfl
@[simp] def QeZ (cs:Qd) (vs:Qd):stV (.c (.agg cs)) vs=vs.map AV.strip:=rfl
@[simp] def Qe0 (b:Bool) (vs:Qd):stV (.c (.err b)) vs=vs.map AV.strip:=rfl
@[simp] def QeS (i o k:Nat):VU (.gs i o 0 0) (.sl true k [])= .sl true k []:=rfl
@[simp] def Qen (k:IntKind) (n:Int) (z:AV):VU (.int k n) z= .int k n:=rfl
@[simp] def Qeo (s:QG) (z:AV):VU (.str s) z= .str s:=rfl
@[simp] def Qdz (b:Bool) (z:AV):VU (.bool b) z= .bool b:=rfl
@[simp] def QeT (o:Bool) (k:Nat) (xs:Qe) (z:AV):VU (.sl o k xs) z= .sl false k xs:=rfl
attribute [simp] YI
@[simp] def Qds (i:Nat):AV.strip (.mp i)= .mp i:=rfl
@[simp] def Qck (z:Nat) (xs:Qe) (vs:Qd):AV.strip (.otup z xs vs)= .tup (.sl false z xs:: vs):=rfl
@[simp] def QdA (z:Nat) (xs:Qe) (vs:Qd):AV.ok (.otup z xs vs)=true:=rfl
@[simp] def Qdo (z:Nat) (xs:Qe) (vs:Qd):AV.gpfree (.otup z xs vs)=(Z5 xs && QI vs):=rfl
@[simp] def Qdt (z:Nat) (cs:Qd):AV.strip (.pv z cs)= .pv z cs:=rfl
@[simp] def QeY (z:Nat) (cs:Qd):AV.ok (.pv z cs)=false:=rfl
@[simp] def QeX (i:Nat):AV.ok (.mp i)=true:=rfl
@[simp] def QeA (i:Nat):AV.one (.mp i)=true:=rfl
@[simp] def Qew (i:Nat):AV.gpfree (.mp i)=false:=rfl
def R8:=@Bool.true_or
@[simp] def Sw: ∀bs:Qe,Yf bs bs=true
 | []=>rfl
 | x:: xs=>by simp only[Yf,ZM,Sw xs,R8,Ta]
@[simp] def QdH (ys:Qe):Yf [] ys=true:=rfl
@[simp] def LP (a b c:Qe):Yf (a ++ b) (a ++ c)=Yf b c:=by
 induction a with
 | nil=>rfl
 | cons x xs ih=>simp only[VH,Yf,ZM,ih,R8,Ta]
@[simp] def QdG (a c:Qe):Yf a (a ++ c)=true:=by
 have:=LP a [] c;simpa using this
@[simp] def Qdx (x:Qd) (xs ys:Qe):Yf (x:: xs) (x:: ys)=Yf xs ys:=by simp only[Yf,ZM,R8,Ta]
@[simp] def MU {cs:Qd} (h:QI cs=true): ∀(bs:Qe) (i:Nat),Yf bs (bs.set i cs)=true
 | [],_=>rfl
 | x:: xs,0=>by simp only[List.set_cons_zero,Yf,h,Sw,Bool.or_true,VI]
 | x:: xs,i+1=>by simp only[List.set_cons_succ,Yf,ZM,MU h xs i,R8,VI]
def Ko: ∀{xs ys:Qe},xs.length<=ys.length->(∀(i:Nat) (x y:Qd),xs[i]? =some x->ys[i]? =some y->x=y\/QI y=true)->Yf xs ys=true
 | [],_,_,_=>rfl
 | _:: _,[],h,_=>by simp at h
 | x:: xs,y:: ys,h,hh=>by
  simp only[Yf,Qh,XU];refine⟨?_,Ko (by simpa using h) fun i a b ha hb=>hh (i+1) a b (by simpa using ha) (by simpa using hb)⟩;rcases hh 0 x y rfl rfl with h1 | h1
  ·subst h1;exact .inl (ZM x)
  ·exact .inr h1
@[simp] def QeN {x y:Qd} (h:QI y=true) (xs ys:Qe):Yf (x:: xs) (y:: ys)=Yf xs ys:=by simp only[Yf,h,Bool.or_true,Ta]
@[simp] def Qcs:QI []=true:=rfl
@[simp] def M8 (x:AV) (xs:Qd):QI (x:: xs)=(x.gpfree && QI xs):=rfl
@[simp] def LX: ∀n:Nat,QI (List.replicate n .undef)=true
 | 0=>rfl
 | n+1=>by rw[List.replicate_succ,M8,LX n];rfl
@[simp] def Qbn (bs:Qe) (i:Nat):Yf bs (bs.set i [])=true:=MU rfl bs i
@[simp] def Qdq (t i n:Nat):AV.strip (.gb t i n)= .gb t i n:=rfl
@[simp] def QeV (t i n:Nat):AV.ok (.gb t i n)=true:=rfl
@[simp] def Qey (t i n:Nat):AV.one (.gb t i n)=true:=rfl
@[simp] def Qeu (t i n:Nat):AV.gpfree (.gb t i n)=false:=rfl
@[simp] def Qdr (t i:Nat):AV.strip (.gt t i)= .gt t i:=rfl
@[simp] def QeW (t i:Nat):AV.ok (.gt t i)=true:=rfl
@[simp] def Qez (t i:Nat):AV.one (.gt t i)=true:=rfl
@[simp] def Qev (t i:Nat):AV.gpfree (.gt t i)=false:=rfl
@[simp] def Qdp (f:Nat) (cs:Qd):AV.strip (.bf f cs)= .bf f cs:=rfl
@[simp] def QeU (f:Nat) (cs:Qd):AV.ok (.bf f cs)=true:=rfl
@[simp] def Qex (f:Nat) (cs:Qd):AV.one (.bf f cs)=true:=rfl
@[simp] def Qet (f:Nat) (cs:Qd):AV.gpfree (.bf f cs)=QI cs:=by simp only[AV.gpfree]
def zcc (n:Nat) {fn:QO} (h:tb n=some (.code fn)) {args:Qd} {bs:Qe} (hl:args.length=fn.nparams):
  call tb n args bs=R tb fn.body (ZY args) bs (Xz fn bs):=UG h args bs hl
end Go.Am
namespace Go.Am
set_option maxRecDepth 20000
def Su (a b:Int) (bs:Qe):call tb 32 [.int .i64 a,.int .i64 b] bs=some (.int .i64 (if a < b then -1 else if a > b then 1 else 0),bs):=by
 rw[zcc 32 rfl rfl];simp[f32,f32C]
def Di (c:UInt8):Bool:=(97<=c.toNat && c.toNat<=122) || (65<=c.toNat && c.toNat<=90) || (48<=c.toNat && c.toNat<=57) || c.toNat == 95 || c.toNat == 35
def KC:QG->Bool
 | []=>false
 | c:: r=>decide (r.length < 24) && Di c && !(decide (48<=c.toNat) && decide (c.toNat<=57)) && c.toNat != 95 && c.toNat != 35 && r.all Di
end Go.Am
namespace Go.Am
set_option maxRecDepth 20000
attribute [simp] PM PN
attribute [simp] PP PQ PR PO
attribute [simp] Us P8 Xl Pa P7 P6 Gf Gg Gh Gi Ks Kt Ku Kv S7 TE
attribute [simp] Int.toNat_natCast
attribute [simp] PM PN
def Sd (t:Tm) (bs:Qe) (hm:t.mass < big) (ih: ∀x∈t.kids,∀bs,call tb 31 [.agg (QU x)] bs=some (.int .i64 x.nodes,bs)):
  ∀(post pre:Qx) (ρ:QA),t.kids=pre ++ post->ρ 7= .sl false 4 (Q6 t.kids)->ρ 8= .int .i64 t.kids.length->ρ 9= .int .i64 pre.length->ρ 3= .int .i64 (1+Za pre:Nat)->
  R tb (.loop f31l0) ρ bs (ZJ 0 (Ym tb f31r0 (Xz f31 bs)))=some (.int .i64 t.nodes,bs):=by
 have hm2:=XN t;have hn:=Wh t.kids;unfold big at hm;intro post
 induction post with
 | nil=>
  intro pre ρ hk h7 h8 h9 h3;rw[Q3 f31l0.eq_1];simp at hk;simp[h3,h8,h9,<- hk,f31r0,RF]
 | cons x post IH=>
  intro pre ρ hk h7 h8 h9 h3;have hg:=Yw hk;have hl:=XH hk;have hnn:Za t.kids=Za pre+ (x.nodes+Za post):=by rw[hk,Wz];simp[Za]
  have hw1:=wr1 pre.length (by omega);have hw2:IntKind.i64.wrap (1+ (Za pre:Int)+ (x.nodes:Int))=1+ (Za pre:Int)+ (x.nodes:Int):=X9 (by omega) (by omega);have hlt:=X5 hk;rw[Q3 f31l0.eq_1];simp[h3,h7,h8,h9,hg,hw1,hw2,hlt,ih x (by rw[hk];simp)];rw[IH (pre ++ [x])] <;> simp[h3,h7,h8,h9,hk,Wz,Za];omega
def VL: ∀(t:Tm) (bs:Qe),t.mass < big->call tb 31 [.agg (QU t)] bs=some (.int .i64 t.nodes,bs):=by
 refine VR ?_;intro k n s ks ih bs hm;rw[zcc 31 rfl rfl];simp[f31C];refine Sd (.mk k n s ks) bs hm (fun x hx bs=>ih x hx bs ?_) ks [] _ ?_ ?_ ?_ ?_ ?_ <;> (try simp[Za]);have:=X6 hx;have:=XN (.mk k n s ks);simp at *;omega
end Go.Am
namespace Go.Am
set_option maxRecDepth 20000
section
variable {bs:List (List AV)} {i j:Nat} {n d m:Int}
end
def Dg (t:Tm):Int:=
 if t.kind=1\/t.kind=2 then
  if(t.sort < 0\/5 < t.sort)\/0 < t.kids.length then 1 else if KC t.name=false then 2 else if 8 < t.kids.length then 3 else 0
 else if t.kind=3 then
  if t.sort≠0 then 1 else if KC t.name=false then 2 else if 8 < t.kids.length then 3 else 0
 else 1
mutual
def Jn:Tm->Int
 | .mk k n s ks=>if Dg (.mk k n s ks)≠0 then Dg (.mk k n s ks)else QbA ks
def QbA:List Tm->Int
 | []=>0
 | t:: ts=>if Jn t≠0 then Jn t else QbA ts
end
def Yr (t:Tm):Int:=if Jn t≠0 then Jn t else if 400 < t.nodes\/40 < t.depth then 3 else 0
end Go.Am
namespace Go.Am
set_option maxRecDepth 20000
def Tz (a b:Int) (bs:Qe):call tb 32 [.int .i64 a,.int .i64 b] bs=some (.int .i64 (sgn a b),bs):=Su a b bs
def Rx (a b:QG) (bs:Qe):call tb 33 [.str a,.str b] bs=some (.int .i64 (YK a b),bs):=by
 rw[Ty tb_33];rfl
def Ud (t u:Tm) (bs:Qe) (hm:t.mass < big) (hu:u.mass < big)
  (ih: ∀x∈t.kids,∀y bs,y.mass < big->call tb 30 [.agg (QU x),.agg (QU y)] bs=some (.int .i64 (Q8 x y),bs)):
  ∀(xs ys pre pre':Qx) (c:Int) (ρ:QA),t.kids=pre ++ xs->u.kids=pre' ++ ys->pre.length=pre'.length->(c=0->xs.length=ys.length)->
   ρ 2= .bx (QU t)->ρ 3= .bx (QU u)->ρ 5= .int .i64 c->ρ 6= .int .i64 pre.length->
  R tb (.loop f30l0) ρ bs (ZJ 0 (Ym tb f30r0 (Xz f30 bs)))=some (.int .i64 (or0 c (Yg xs ys)),bs):=by
 have hm2:=XN t;have hu2:=XN u;intro xs
 induction xs with
 | nil=>
  intro ys pre pre' c ρ hk hk' hp hc h2 h3 h5 h6;rw[Q3 f30l0.eq_1];simp at hk;by_cases h0:c=0
  ·simp[h2,h3,h5,h6,h0,f30r0,hk,Yg,OQ]
  ·simp[h2,h3,h5,h6,h0,f30r0,Yg,OQ]
 | cons x xs IH=>
  intro ys pre pre' c ρ hk hk' hp hc h2 h3 h5 h6;rw[Q3 f30l0.eq_1];by_cases h0:c=0
  ·obtain⟨y,ys',rfl⟩: ∃y ys',ys=y:: ys':=by
    have:=hc h0;cases ys with
    | nil=>simp at this
    | cons y ys'=>exact⟨y,ys',rfl⟩
   have hg:=Yw hk;have hg':=Yw hk';rw[<- hp]at hg';have hl:t.kids.length=pre.length+ (xs.length+1):=by rw[hk];simp
   have hlt: (pre.length:Int) < (t.kids.length:Int):=by omega
   have hym:y.mass < big:=by have:=X6 (x:=y) (ks:=u.kids) (by rw[hk'];simp);omega
   unfold big at hm hu;have hw1:=wr1 pre.length (by omega);simp[h2,h3,h5,h6,h0,hlt,hg,hg',hw1,ih x (by rw[hk];simp) y bs hym];rw[IH ys' (pre ++ [x]) (pre' ++ [y]) (Q8 x y)] <;> first | omega | (simp[hk,hk',hp,h2,h3,Yg,W0];done) | (intro _;have:=hc h0;simp at this;omega)
  ·simp[h2,h3,h5,h6,h0,f30r0,Yg,Uw]
def call_Compare: ∀(t u:Tm) (bs:Qe),t.mass < big->u.mass < big->call tb 30 [.agg (QU t),.agg (QU u)] bs=some (.int .i64 (Q8 t u),bs):=by
 refine VR ?_;intro k n s ks ih u bs hm hu;have hloop:=Ud (.mk k n s ks) u bs hm hu (fun x hx y bs hy=>ih x hx y bs (by have:=X6 hx;have:=XN (.mk k n s ks);simp at *;omega) hy) ks u.kids [] [] (hdT (.mk k n s ks) u);rw[zcc 30 rfl rfl,V6];have hsz:=VL (.mk k n s ks) bs hm;have hsz':=VL u bs hu;simp[f30C,hsz,hsz',Tz,Rx];by_cases c1:sgn (Tm.mk k n s ks).nodes u.nodes=0 <;> by_cases c2:sgn k u.kind=0 <;> by_cases c3:YK n u.name=0 <;> by_cases c4:sgn s u.sort=0 <;>
  simp[c1,c2,c3,c4,Wg] <;> rw[hloop] <;> first | (simp[hdT,c1,c2,c3,c4,W0,Uw];done) | (simp[hdT,c1,c2,c3,c4,UX,W0,Uw];omega) | skip
end Go.Am
namespace Go.Am
set_option maxRecDepth 20000
mutual
def WW:Tm->Int->Int
 | .mk _ n _ ks,m=>if m<=0\/40 < n.length then -1 else Wn ks (m - 1)
def Wn:List Tm->Int->Int
 | [],m=>m
 | t:: ts,m=>if WW t m < 0 then -1 else Wn ts (WW t m)
end
mutual
theorem PD: ∀(t:Tm) (m:Int),WW t m= -1\/0<=WW t m/\WW t m+t.nodes<=m/\t.mass+1<=42*t.nodes
 | .mk k n s ks,m=>by
  simp only[WW,Tm.nodes,Tm.mass];split
  ·exact .inl rfl
  ·rename_i h;rcases Kl ks (m - 1) (by omega)with h1 | h1
   ·exact .inl h1
   ·right;omega
theorem Kl: ∀(ts:List Tm) (m:Int),0<=m->Wn ts m= -1\/0<=Wn ts m/\Wn ts m+Za ts<=m/\Wy ts+ts.length<=42*Za ts
 | [],m,h=>by simp[Wn,Za,Wy];omega
 | t:: ts,m,h=>by
  simp only[Wn,Za,Wy,Xp];split
  ·exact .inl rfl
  ·rename_i h0;rcases PD t m with h1 | h1
   ·omega
   ·rcases Kl ts (WW t m) (by omega)with h2 | h2
    ·exact .inl h2
    ·right;omega
end
def Fy (t:Tm) (bs:Qe) (m0:Int) (hm:m0 < 1000000) (ih: ∀x∈t.kids,∀(m:Int) bs,m < 1000000->call tb 102 [.agg (QU x),.int .i64 m] bs=some (.int .i64 (WW x m),bs)):
  ∀(post pre:Qx) (m:Int) (ρ:QA),t.kids=pre ++ post->0<=m->m+pre.length<=m0->ρ 2= .bx (QU t)->ρ 5= .int .i64 pre.length->ρ 1= .int .i64 m->
  R tb (.loop f102l0) ρ bs (ZJ 0 (Ym tb f102r0 (Xz f102 bs)))=some (.int .i64 (Wn post m),bs):=by
 intro post
 induction post with
 | nil=>
  intro pre m ρ hk h0 hp h2 h5 h1;rw[Q3 f102l0.eq_1];simp at hk;simp[h1,h2,h5,hk,f102r0,Wn]
 | cons x post IH=>
  intro pre m ρ hk h0 hp h2 h5 h1;have hg:=Yw hk;have hl:=XH hk;have hw1:=wr1 pre.length (by omega);have hlt:=X5 hk;have hn:=RF x;rw[Q3 f102l0.eq_1];rcases PD x m with hb | hb
  ·simp[h1,h2,h5,hg,hw1,hlt,ih x (by rw[hk];simp) m bs (by omega),hb,Wn]
  ·have hb0: ¬WW x m < 0:=by omega
   simp[h1,h2,h5,hg,hw1,hlt,ih x (by rw[hk];simp) m bs (by omega),hb0,Wn];rw[IH (pre ++ [x]) (WW x m)] <;> first | omega | (simp[h1,h2,h5,hk];done) | (simp;omega)
def MS: ∀(t:Tm) (m:Int) (bs:Qe),m < 1000000->call tb 102 [.agg (QU t),.int .i64 m] bs=some (.int .i64 (WW t m),bs):=by
 refine VR ?_;intro k n s ks ih m bs hm;rw[zcc 102 rfl rfl];have hn: (40 < (n.length:Int))=(40 < n.length):=by rw[eq_iff_iff];omega
 simp[f102C,Wg,hn,WW];split
 ·rfl
 ·rename_i hc;have hw:IntKind.i64.wrap (m - 1)=m - 1:=X9 (by omega) (by omega);refine Fy (.mk k n s ks) bs m hm (fun x hx=>ih x hx) ks [] (m - 1) _ ?_ ?_ ?_ ?_ ?_ ?_ <;> first | (simp[hw];done) | (simp;omega)
def few (l:Qx) (n:Nat) (m:Int):Bool:=decide (l.length<=n) && decide (0<=Wn l m)
def FW (l:Qx) (o:Bool) (bs:Qe) (hl:l.length < 1000000):
  ∀(post pre:Qx) (m:Int) (ρ:QA),l=pre ++ post->0<=m->m < 1000000->ρ 0= .sl o 4 (Q6 l)->ρ 7= .int .i64 pre.length->ρ 2= .int .i64 m->
  R tb (.loop f101l0) ρ bs (ZJ 0 (Ym tb f101r0 (Xz f101 bs)))=some (.bool (decide (0<=Wn post m)),bs):=by
 intro post
 induction post with
 | nil=>
  intro pre m ρ hk h0 hm hr0 h7 h2;rw[Q3 f101l0.eq_1];simp at hk;simp[hr0,h7,h2,hk,f101r0,Wn,h0]
 | cons x post IH=>
  intro pre m ρ hk h0 hm hr0 h7 h2;have hg:=Yw hk;have hl:=XH hk;have hw1:=wr1 pre.length (by omega);have hlt:=X5 hk;rw[Q3 f101l0.eq_1];rcases PD x m with hb | hb
  ·simp[hr0,h7,h2,hg,hw1,hlt,MS x m bs (by omega),hb,Wn]
  ·have hb0: ¬WW x m < 0:=by omega
   simp[hr0,h7,h2,hg,hw1,hlt,MS x m bs (by omega),hb0,Wn];rw[IH (pre ++ [x]) (WW x m)] <;> first | omega | (simp[hr0,h7,h2,hk];done)
def FB (l:Qx) (o:Bool) (n:Nat) (m:Int) (bs:Qe) (hn:n < 1000000) (h0:0<=m) (hm:m < 1000000):
  call tb 101 [.sl o 4 (Q6 l),.int .i64 n,.int .i64 m] bs=some (.bool (few l n m),bs):=by
 rw[zcc 101 rfl rfl];have e1: ((n:Int) < (l.length:Int))=(n < l.length):=by rw[eq_iff_iff];omega
 simp[f101C,Wg,few];split
 ·have: ¬l.length<=n:=by omega
  simp[this]
 ·have:l.length<=n:=by omega
  rw[FW l false bs (by omega) l [] m] <;> simp[this,h0,hm]
end Go.Am
namespace Go.Am
set_option maxRecDepth 20000
end Go.Am
namespace Go.Am
set_option maxRecDepth 20000
def Yt: ∀a:QG,Op.bytesLess a a=false
 | []=>rfl
 | c:: r=>by simp[Op.bytesLess,Yt r]
def P1 (a:QG):YK a a=0:=by simp[YK,Yt]
def EM (a:Int):sgn a a=0:=UX.2 rfl
def F1 (t:Tm):hdT t t=0:=by simp[hdT,EM,P1,or0]
mutual
theorem P2: ∀t:Tm,Q8 t t=0
 | .mk k n s ks=>by rw[Q8,F1,W0];exact P0 ks
theorem P0: ∀ts:List Tm,Yg ts ts=0
 | []=>by simp[Yg]
 | t:: ts=>by rw[Yg,P2 t,W0];exact P0 ts
end
end Go.Am
namespace Go.Am
set_option maxRecDepth 20000
structure Sy where
 n:List UInt8
 l:Int
 m:Int
 k:Int
def QeF:List Sy:=[⟨[112,97,105,114],2,2,1⟩,⟨[101,110,99],2,2,1⟩,⟨[97,101,110,99],2,2,1⟩,⟨[112,107],1,1,1⟩,⟨[115,105,103,110],2,2,1⟩,⟨[104,97,115,104],1,1,1⟩,
 ⟨[120,111,114],2,8,1⟩,⟨[122,101,114,111],0,0,1⟩,⟨[101,120,112],2,2,1⟩,⟨[109,117,108],2,8,1⟩,⟨[105,110,118],1,1,1⟩,⟨[111,110,101],0,0,1⟩,
 ⟨[115,107],1,1,2⟩,⟨[115,104,107],2,2,2⟩,⟨[110,101,119],1,8,2⟩,⟨[102,115,116],1,1,3⟩,⟨[115,110,100],1,1,3⟩,⟨[100,101,99],2,2,3⟩,⟨[97,100,101,99],2,2,3⟩,⟨[111,112,101,110],2,2,3⟩,⟨[114,101,97,100],1,1,3⟩]
def Gs (n:QG):List Sy->Option Sy
 | []=>none
 | s:: ss=>if s.n=n then some s else Gs n ss
end Go.Am
namespace Go.Am
set_option maxRecDepth 20000
def Qdd (k:Tm):Bool:=k.kind == 3 || k.sort != 1
mutual
def FE:Tm->Int
 | .mk k n _ ks=>if k≠3 then 0 else match Gs n QeF with
  | none=>10
  | some y=>if(ks.length:Int) < y.l\/y.m < ks.length then 6 else if(n=[115,107]\/n=[115,104,107])/\ks.any Qdd then 10
   else if n=[110,101,119]/\ks.head?.map Tm.kind≠some 2 then 10 else Qbo ks
def Qbo:List Tm->Int
 | []=>0
 | t:: ts=>if FE t≠0 then FE t else Qbo ts
end
def thV (t:Tm):Int:=if Yr t≠0 then Yr t else FE t
end Go.Am
namespace Go.Am
set_option maxRecDepth 20000
end Go.Am
namespace Go.Am
set_option maxRecDepth 20000
def MR: ∀{a b:QG},YK a b=0->a=b:=by
 intro a b h;unfold YK at h;split at h
 ·simp at h
 ·split at h
  ·rename_i h2;exact WT.1 h2
  ·simp at h
mutual
theorem Ur: ∀(t u:Tm),Q8 t u=0->t=u
 | .mk k n s ks,.mk k' n' s' ks',h=>by
  rw[V6,Vo]at h;obtain⟨h1,h2⟩:=h;unfold hdT at h1;simp only[Vo,UX,PP,PQ,PR,PO]at h1 h2;obtain⟨_,h3,h4,h5,h6⟩:=h1;have e1:=MR h4;have e2:=MV ks ks' (by omega) h2;rw[h3,e1,h5,e2]
theorem MV: ∀(ts us:List Tm),ts.length=us.length->Yg ts us=0->ts=us
 | [],[],_,_=>rfl
 | [],_:: _,h,_=>by simp at h
 | _:: _,[],h,_=>by simp at h
 | t:: ts,u:: us,h,h2=>by
  rw[Yg,Vo]at h2;rw[Ur t u h2.1,MV ts us (by simpa using h) h2.2]
end
end Go.Am
namespace Go.Am
set_option maxRecDepth 20000
def isB (t:Tm) (n:QG):Bool:=decide (t.kind=3) && (t.name == n)
end Go.Am
namespace Go.Am
set_option maxRecDepth 20000
end Go.Am
namespace Go.Am
def TR (a b:Int):sgn b a= - sgn a b:=by unfold sgn;split <;> (try split) <;> (try split) <;> omega
def Ff {a b:Int}:sgn a b<=0↔a<=b:=by unfold sgn;split <;> (try split) <;> omega
def RC: ∀a b:QG,Op.bytesLess a b=true\/a=b\/Op.bytesLess b a=true
 | [],[]=> .inr (.inl rfl)
 | [],_:: _=> .inl rfl
 | _:: _,[]=> .inr (.inr rfl)
 | x:: xs,y:: ys=>by
  simp only[Op.bytesLess,XU,Ql,Qh,WT,List.cons.injEq];rcases Nat.lt_trichotomy x.toNat y.toNat with h | h | h
  ·have:x < y:=by rw[Tt];exact h
   simp[this]
  ·have e:x=y:=UInt8.toNat_inj.1 h;subst e;have hi: ¬x < x:=by rw[Tt];omega
   rcases RC xs ys with h | h | h
   ·simp[hi,h]
   ·simp[hi,h]
   ·simp[hi,h]
  ·have:y < x:=by rw[Tt];exact h
   have h2: ¬x < y:=by rw[Tt];omega
   simp[this,h2]
def TM: ∀a b c:QG,Op.bytesLess a b=true->Op.bytesLess b c=true->Op.bytesLess a c=true
 | [],_,[],_,h=>by cases ‹QG› <;> simp[Op.bytesLess]at h
 | [],_,_:: _,_,_=>rfl
 | _:: _,[],_,h,_=>by simp[Op.bytesLess]at h
 | _:: _,_:: _,[],_,h=>by simp[Op.bytesLess]at h
 | x:: xs,y:: ys,z:: zs,h1,h2=>by
  have ih:=TM xs ys zs;simp only[Op.bytesLess,XU,Ql,Qh,WT]at h1 h2 ⊢;rcases h1 with h1 | ⟨rfl,h1⟩
  ·rcases h2 with h2 | ⟨rfl,h2⟩
   ·left;rw[Tt]at *;omega
   ·exact .inl h1
  ·rcases h2 with h2 | ⟨rfl,h2⟩
   ·exact .inl h2
   ·exact .inr ⟨rfl,ih h1 h2⟩
def Pk (a b:QG) (h:Op.bytesLess a b=true):Op.bytesLess b a=false:=by
 cases hb:Op.bytesLess b a
 ·rfl
 ·have:=TM a b a h hb;rw[Yt]at this;cases this
def SB (a b:QG):YK b a= - YK a b:=by
 unfold YK;rcases RC a b with h | h | h
 ·have h2:=Pk a b h;have hne: (b == a)=false:=by
   rw[ME];intro e;subst e;rw[Yt]at h;cases h
  simp[h,h2,hne]
 ·subst h;simp[Yt]
 ·have h2:=Pk b a h;have hne: (a == b)=false:=by
   rw[ME];intro e;subst e;rw[Yt]at h;cases h
  simp[h,h2,hne]
def DK {a b:QG}:YK a b<=0↔Op.bytesLess a b=true\/a=b:=by
 unfold YK;split
 ·rename_i h;simp[h]
 ·rename_i h;split
  ·rename_i h2;simp at h2;simp[h2]
  ·rename_i h2;simp at h2;simp[h,h2]
def Jc {a b c:QG} (h1:YK a b<=0) (h2:YK b c<=0):YK a c<=0:=by
 rw[DK]at *;rcases h1 with h1 | rfl
 ·rcases h2 with h2 | rfl
  ·exact .inl (TM _ _ _ h1 h2)
  ·exact .inl h1
 ·exact h2
def MW {a b:QG} (h:YK a b=0):a=b:=by
 rcases RC a b with h2 | h2 | h2
 ·simp[YK,h2]at h
 ·exact h2
 ·have:=SB a b;rw[h]at this;simp[YK,h2]at this
def Vn {a b a' b':Int} (h1:a'= -a) (h2:b'= -b):or0 a' b'= - or0 a b:=by
 subst h1 h2;unfold or0;split <;> split <;> omega
def WG {a1 a2 a3 b1 b2 b3:Int} (ha:a1<=0->a2<=0->a3<=0) (hz:a3=0->a1<=0->a2<=0->a1=0/\a2=0) (hb:a1=0->a2=0->b1<=0->b2<=0->b3<=0)
  (h1:or0 a1 b1<=0) (h2:or0 a2 b2<=0):or0 a3 b3<=0:=by
 have g1:a1<=0:=by unfold or0 at h1;split at h1 <;> omega
 have g2:a2<=0:=by unfold or0 at h2;split at h2 <;> omega
 have g3:=ha g1 g2;by_cases hc:a3=0
 ·obtain⟨z1,z2⟩:=hz hc g1 g2;rw[z1,W0]at h1;rw[z2,W0]at h2;rw[hc,W0];exact hb z1 z2 h1 h2
 ·rw[Uw hc];exact g3
def UR {a b c:Int} (h1:sgn a b<=0) (h2:sgn b c<=0):sgn a c<=0:=by rw[Ff]at *;omega
def RI {a b c:Int} (h:sgn a c=0) (h1:sgn a b<=0) (h2:sgn b c<=0):sgn a b=0/\sgn b c=0:=by
 rw[UX]at *;rw[Ff]at h1 h2;rw[UX];omega
def H8 {a b c:QG} (h:YK a c=0) (h1:YK a b<=0) (h2:YK b c<=0):YK a b=0/\YK b c=0:=by
 have e:=MW h;subst e;have:=SB a b;constructor <;> omega
def Lb (t u:Tm):hdT u t= - hdT t u:=by
 unfold hdT;exact Vn (TR _ _) (Vn (TR _ _) (Vn (SB _ _) (Vn (TR _ _) (TR _ _))))
def RB {t u:Tm}:hdT t u=0↔t.nodes=u.nodes/\t.kind=u.kind/\t.name=u.name/\t.sort=u.sort/\t.kids.length=u.kids.length:=by
 unfold hdT;rw[Vo,Vo,Vo,Vo,UX,UX,UX,UX];constructor
 ·rintro⟨h1,h2,h3,h4,h5⟩
  exact⟨by omega,h2,MW h3,h4,by omega⟩
 ·rintro⟨h1,h2,h3,h4,h5⟩
  exact⟨by omega,h2,by rw[h3];exact P1 _,h4,by omega⟩
def Gu {t u v:Tm} (h1:hdT t u<=0) (h2:hdT u v<=0):hdT t v<=0:=by
 unfold hdT at *;refine WG UR (fun h a b=>RI h a b) (fun _ _=> ?_) h1 h2;refine WG UR (fun h a b=>RI h a b) (fun _ _=> ?_);refine WG Jc (fun h a b=>H8 h a b) (fun _ _=> ?_);exact WG UR (fun h a b=>RI h a b) (fun _ _=>UR)
def SA: ∀(ts us:Qx),(∀x∈ts,∀y,Q8 y x= - Q8 x y)->Yg us ts= - Yg ts us
 | [],[],_=>by simp[Yg]
 | [],_:: _,_=>by simp[Yg]
 | _:: _,[],_=>by simp[Yg]
 | t:: ts,u:: us,h=>by
  simp only[Yg];exact Vn (h t (by simp) u) (SA ts us fun x hx=>h x (by simp[hx]))
def VN: ∀(t u:Tm),Q8 u t= - Q8 t u:=by
 refine VR ?_;intro k n s ks ih u;rw[V6,V6];exact Vn (Lb _ _) (SA _ _ fun x hx y=>ih x hx y)
def TT: ∀(ts us vs:Qx),ts.length=us.length->us.length=vs.length->(∀x∈ts,∀y z,Q8 x y<=0->Q8 y z<=0->Q8 x z<=0)->Yg ts us<=0->Yg us vs<=0->Yg ts vs<=0
 | [],[],[],_,_,_,_,_=>by simp[Yg]
 | t:: ts,u:: us,v:: vs,h1,h2,h,g1,g2=>by
  simp only[Yg]at g1 g2 ⊢;refine WG (h t (by simp) u v) (fun h0 a b=> ?_) (fun _ _=>TT ts us vs (by simpa using h1) (by simpa using h2) fun x hx=>h x (by simp[hx])) g1 g2;have e:=Ur _ _ h0;subst e;have:=VN t u;constructor <;> omega
 | [],_:: _,_,h1,_,_,_,_=>by simp at h1
 | _:: _,[],_,h1,_,_,_,_=>by simp at h1
 | [],[],_:: _,_,h2,_,_,_=>by simp at h2
 | _:: _,_:: _,[],_,h2,_,_,_=>by simp at h2
def Jd: ∀(t u v:Tm),Q8 t u<=0->Q8 u v<=0->Q8 t v<=0:=by
 refine VR ?_;intro k n s ks ih u v h1 h2;rw[V6]at *;refine WG Gu (fun h0 a b=> ?_) (fun e1 e2=> ?_) h1 h2
 ·rw[RB]at h0;have z1:=RB (t:= .mk k n s ks) (u:=u);have e2:hdT u v=hdT u (.mk k n s ks):=by unfold hdT;rw[h0.1,h0.2.1,h0.2.2.1,h0.2.2.2.1,h0.2.2.2.2]
  rw[e2]at b ⊢;have:=Lb (.mk k n s ks) u;constructor <;> omega
 ·rw[RB]at e1 e2;exact TT _ _ _ e1.2.2.2.2 e2.2.2.2.2 fun x hx=>ih x hx
def UM {a b c:Tm} (h1:Q8 a b < 0) (h2:Q8 b c < 0):Q8 a c < 0:=by
 have h:=Jd a b c (by omega) (by omega);rcases Int.lt_or_eq_of_le h with h | h
 ·exact h
 ·have e:=Ur _ _ h;subst e;have:=VN a b;omega
def Qb7 {a b:Tm}:0 < Q8 a b↔Q8 b a < 0:=by have:=VN a b;omega
def MX (a b:Tm):Q8 a b < 0\/a=b\/Q8 b a < 0:=by
 rcases Int.lt_trichotomy (Q8 a b) 0 with h | h | h
 ·exact .inl h
 ·exact .inr (.inl (Ur _ _ h))
 ·exact .inr (.inr (Qb7.1 h))
def Asc (l:Qx):Prop:=l.Pairwise fun a b=>Q8 a b < 0
def Asc.nil:Asc []:=List.Pairwise.nil
def Tx {x:Tm} {l:Qx}:Asc (x:: l)↔(∀y∈l,Q8 x y < 0)/\Asc l:=Yo
def Fs (t:Tm):Qx->Qx
 | []=>[t]
 | x:: xs=>if Q8 t x < 0 then t:: x:: xs else if Q8 t x=0 then x:: xs else x:: Fs t xs
def Qbe (acc:Qx) (l:Qx):Qx:=l.foldl (fun a x=>Fs x a) acc
def QeB (l:Qx):Qx:=Qbe [] l
def Lp {t y:Tm}: ∀{l:Qx},y∈VT t l↔y=t\/y∈l
 | []=>by simp[VT]
 | x:: xs=>by
  simp only[VT];split
  ·simp only[ZK,Lp (l:=xs)];constructor
   ·rintro(h | h | h) <;> simp[h]
   ·rintro(h | h | h) <;> simp[h]
  ·simp
def Ld (t:Tm): ∀l:Qx,(VT t l).length=l.length+1
 | []=>rfl
 | x:: xs=>by simp only[VT];split <;> simp[Ld t xs]
def On: ∀l:Qx,(W8 l).length=l.length
 | []=>rfl
 | x:: xs=>by simp[W8,Ld,On xs]
end Go.Am
namespace Go.Am
set_option maxRecDepth 20000
section
variable {α:Type} (f:α->List AV) (k:Nat)
def Qdj (f:α->Qd) (l:List α):Qd:=(l.map f).flatten
variable {f k}
end
abbrev Qcj (l:List Tm):List AV:=Qdj QU l
end Go.Am
namespace Go.Am
set_option maxRecDepth 20000
end Go.Am
namespace Go.Am
set_option maxRecDepth 20000
def LF {α:Type} {B:List α} {i:Nat} {x:α} (h:B[i]? =some x):B.set i x=B:=by
 apply U9;intro j;rw[YM];split
 ·rename_i e;subst e;split
  ·exact h.symm
  ·rename_i hl;rw[QF (by omega)]
 ·rfl
def Tf {α:Type} {B:List α} {i:Nat} {x:α} (h:B[i]? =some x):i < B.length:=by
 rcases QC i B.length with h1 | h1
 ·exact h1
 ·rw[QF h1]at h;cases h
end Go.Am
namespace Go.Am
set_option maxRecDepth 20000
end Go.Am
namespace Go.Am
set_option maxRecDepth 20000
mutual
def Qbg:Tm->List Tm
 | .mk k n s ks=> .mk k n s ks:: Qbf ks
def Qbf:List Tm->List Tm
 | []=>[]
 | t:: ts=>Qbg t ++ Qbf ts
end
def Qdc (k:Int) (x:Tm):Bool:=decide (x.kind=k)
def Qdw (t:Tm):Qx:=QeB ((Qbg t).filter (Qdc 1))
end Go.Am
namespace Go.Am
set_option maxRecDepth 20000
end Go.Am
namespace Go.Am
set_option maxRecDepth 20000
def Qb8 (l:Qx) (t:Tm):Bool:=l.any fun x=>decide (Q8 x t=0)
def QeK (l:Qx) (t:Tm):Qx:=if Qb8 l t then l.filter (fun x=> !decide (Q8 x t=0))else Fs t l
def Qdh (a b:Qx):Qx:=b.foldl QeK a
def Qbc:QG:=[122,101,114,111]
def XOR:QG:=[120,111,114]
mutual
def LJ:Tm->List Tm
 | .mk k n s ks=>if k=3/\n=Qbc/\ks=[]then []else if k=3/\n=XOR then J6 [] ks else [.mk k n s ks]
def J6 (acc:List Tm):List Tm->List Tm
 | []=>acc
 | t:: ts=>J6 (Qdh acc (LJ t)) ts
end
end Go.Am
namespace Go.Am
set_option maxRecDepth 20000
@[simp] def Qd9 (x:Tm) (a:Qx) (h:0 < (Q6 (x:: a)).length): (Q6 (x:: a))[0]=QU x:=by simp[Q6]
end Go.Am
namespace Go.Am
set_option maxRecDepth 20000
def Pc:Qx->Int
 | []=>0
 | t:: ts=>if Yr t≠0 then Yr t else Pc ts
def GK (l:Qx):Int:=if 200 < l.length then 3 else Pc l
end Go.Am
namespace Go.Am
set_option maxRecDepth 20000
end Go.Am
namespace Go.Am
set_option maxRecDepth 20000
def YR:Tm:= .mk 0 [] 0 []
def tmX:Qx->Tm
 | []=> .mk 3 Qbc 0 []
 | [p]=>p
 | p:: q:: r=> .mk 3 XOR 0 (p:: q:: r)
def QeE (l:Qx):Tm×Int:=if GK l≠0 then(YR,GK l)else if Yr (tmX (J6 [] l))≠0 then(YR,3)else(tmX (J6 [] l),0)
end Go.Am
namespace Go.Am
set_option maxRecDepth 20000
abbrev Pw:=Tm×Int
abbrev Zx:=List Pw
def W2 (l:Zx):Qx:=l.map (·.1)
end Go.Am
namespace Go.Am
set_option maxRecDepth 20000
@[simp] def Qc4 (t:Tm): (QU t).drop 5=[]:=by simp[Yv]
def Vf:Zx->Tm->Int->Zx
 | [],t,n=>[(t,n)]
 | p:: r,t,n=>if Q8 p.1 t < 0 then p:: Vf r t n else if Q8 p.1 t=0 then(if p.2+n=0 then r else(p.1,p.2+n):: r)else(t,n):: p:: r
def EL {B0 M:Qe} {id:Nat} (h:B0.length<=id) (x:Qd): (B0 ++ M).set id x=B0 ++ M.set (id - B0.length) x:=by rw[List.set_append,Qi (by omega)]
end Go.Am
namespace Go.Am
set_option maxRecDepth 20000
def MUL:QG:=[109,117,108]
def INV:QG:=[105,110,118]
def ONE:QG:=[111,110,101]
def LK (t:Tm):Bool:=decide (t.kind=3) && (t.name == MUL || t.name == INV || t.name == ONE)
def QdJ (t:Tm):Bool:= !((t.name == MUL && decide (t.kids.length < 2)) || (t.name == INV && !decide (t.kids.length=1)) || (t.name == ONE && !decide (t.kids.length=0)))
mutual
def arB:Tm->Bool
 | .mk k n s ks=> !LK (.mk k n s ks) || (QdJ (.mk k n s ks) && arL ks)
def arL:List Tm->Bool
 | []=>true
 | t:: ts=>arB t && arL ts
end
mutual
def FH:List Pw->Tm->Int->List Pw
 | l,.mk k n s ks,m=>if LK (.mk k n s ks)then Qbs l ks (if n == INV then -m else m)else Vf l (.mk k n s ks) m
def Qbs:List Pw->List Tm->Int->List Pw
 | l,[],_=>l
 | l,t:: ts,m=>Qbs (FH l t m) ts m
end
def NZ (l:Zx):Prop:=∀q∈l,q.2≠0
end Go.Am
namespace Go.Am
set_option maxRecDepth 20000
def MN: ∀(l:Zx) (t:Tm) (n:Int),(Vf l t n).length<=l.length+1
 | [],_,_=>by simp[Vf]
 | p:: l,t,n=>by
  have:=MN l t n;simp only[Vf];split
  ·simp;omega
  ·split
   ·split <;> simp <;> omega
   ·simp
def Tu: ∀{l:Zx} {t:Tm} {n:Int} {q:Pw},q∈Vf l t n->q∈l\/q=(t,n)\/∃m,(t,m)∈l/\q=(t,m+n)/\m+n≠0
 | [],t,n,q,h=>by simp[Vf]at h;exact .inr (.inl h)
 | p:: l,t,n,q,h=>by
  simp only[Vf]at h;split at h
  ·rcases ZK.1 h with h | h
   ·exact .inl (by simp[h])
   ·rcases Tu h with h | h | ⟨m,h1,h2⟩
    ·exact .inl (by simp[h])
    ·exact .inr (.inl h)
    ·exact .inr (.inr ⟨m,by simp[h1],h2⟩)
  ·split at h
   ·rename_i hc;have he:=Ur _ _ hc;split at h
    ·exact .inl (by simp[h])
    ·rename_i hz;rcases ZK.1 h with h | h
     ·exact .inr (.inr ⟨p.2,by rw[<- he];simp,by rw[<- he];exact h,hz⟩)
     ·exact .inl (by simp[h])
   ·rcases ZK.1 h with h | h
    ·exact .inr (.inl h)
    ·exact .inl h
def MQ: ∀{l:Zx} {t:Tm} {n:Int},Asc (W2 l)->Asc (W2 (Vf l t n))
 | [],t,n,_=>by simp[Vf,W2,Asc]
 | p:: l,t,n,h=>by
  have h':=h;simp only[W2,ZG]at h';obtain⟨h1,h2⟩:=Tx.1 h';simp only[Vf];split
  ·rename_i c;simp only[W2,ZG];refine Tx.2 ⟨fun y hy=> ?_,MQ h2⟩;obtain⟨q,hq,rfl⟩:=VJ.1 hy;rcases Tu hq with hq | rfl | ⟨m,hm,rfl,_⟩
   ·exact h1 _ (List.mem_map_of_mem hq)
   ·exact c
   ·exact c
  ·split
   ·split
    ·exact h2
    ·simp only[W2,ZG];exact h'
   ·rename_i c1 c2;simp only[W2,ZG];have c3:Q8 t p.1 < 0:=by have:=VN t p.1;omega
    refine Tx.2 ⟨fun y hy=> ?_,h'⟩;rcases ZK.1 hy with rfl | hy
    ·exact c3
    ·exact UM c3 (h1 y hy)
structure Ru (l:List Pw) (b:Nat):Prop where
 asc:Asc (W2 l)
 nz:NZ l
 len:l.length<=b
 bd: ∀q∈l,q.1.mass < big/\ -(b:Int)<=q.2/\q.2<=b
def Ru.mono {l:Zx} {b c:Nat} (h:Ru l b) (hbc:b<=c):Ru l c:=⟨h.asc,h.nz,X0 h.len hbc,fun q hq=>by obtain⟨h1,h2,h3⟩:=h.bd q hq;exact⟨h1,by omega,by omega⟩⟩
def Ru.add {l:Zx} {b c:Nat} {t:Tm} {n:Int} (h:Ru l b) (ht:t.mass < big) (hn:n≠0) (h1: -(c:Int)<=n) (h2:n<=c):Ru (Vf l t n) (b+c):=by
 refine⟨MQ h.asc,?_,?_,?_⟩
 ·intro q hq;rcases Tu hq with hq | rfl | ⟨m,hm,rfl,hz⟩
  ·exact h.nz q hq
  ·exact hn
  ·exact hz
 ·have:=MN l t n;have:=h.len;omega
 ·intro q hq;rcases Tu hq with hq | rfl | ⟨m,hm,rfl,hz⟩
  ·obtain⟨a1,a2,a3⟩:=h.bd q hq;exact⟨a1,by omega,by omega⟩
  ·exact⟨ht,by simp;omega,by simp;omega⟩
  ·obtain⟨a1,a2,a3⟩:=h.bd _ hm;simp at a2 a3;exact⟨ht,by simp;omega,by simp;omega⟩
def uno (m:Int):Prop:=m=1\/m= -1
def uno.neg {m:Int} (h:uno m):uno (-m):=by rcases h with rfl | rfl <;> simp[uno]
def ofE (t:Tm):Int:=if Yr t≠0 then Yr t else if arB t then(if 200 < (FH [] t 1).length then 3 else 0)else 6
def ofP (t:Tm):Zx:=if ofE t=0 then FH [] t 1 else []
end Go.Am
namespace Go.Am
set_option maxRecDepth 20000
def gtO (prev:Option Tm) (t:Tm):Bool:=match prev with
 | none=>true
 | some q=>decide (Q8 q t < 0)
def Eh (n:Int):Bool:=decide (n < -1000) || decide (1000 < n)
def vPL:Option Tm->Zx->Int
 | _,[]=>0
 | prev,p:: r=>if Yr p.1≠0 then Yr p.1 else if LK p.1 then 1 else if p.2=0\/Eh p.2=true then 7 else if gtO prev p.1 then vPL (some p.1) r else 5
def Wu (l:Zx):Int:=if 200 < l.length then 3 else vPL none l
def Pv: ∀(l:Zx) (prev:Option Tm),vPL prev l=0->(∀q∈l,Yr q.1=0/\LK q.1=false/\q.2≠0/\ -1000<=q.2/\q.2<=1000)/\Asc (W2 l)/\(∀a,prev=some a->∀q∈l,Q8 a q.1 < 0)
 | [],prev,_=>⟨fun q h=>by simp at h,Asc.nil,fun a _ q h=>by simp at h⟩
 | p:: r,prev,h=>by
  simp only[vPL]at h;split at h
  ·rename_i c;exact absurd h c
  rename_i c1;split at h
  ·cases h
  rename_i c2;split at h
  ·cases h
  rename_i c3;split at h
  ·rename_i c4;obtain⟨h1,h2,h3⟩:=Pv r (some p.1) h;have hpr:=h3 p.1 rfl;refine⟨fun q hq=> ?_,?_,?_⟩
   ·rcases ZK.1 hq with rfl | hq
    ·simp[Eh]at c3;exact⟨by simpa using c1,by simpa using c2,c3.1,c3.2.1,c3.2.2⟩
    ·exact h1 q hq
   ·simp only[W2,ZG];refine Tx.2 ⟨fun y hy=> ?_,h2⟩;obtain⟨q,hq,rfl⟩:=VJ.1 hy;exact hpr q hq
   ·intro a ha q hq;subst ha;have c5:Q8 a p.1 < 0:=by simpa[gtO]using c4
    rcases ZK.1 hq with rfl | hq
    ·exact c5
    ·exact UM c5 (hpr q hq)
  ·cases h
def Px {l:Zx} (h:Wu l=0) (hm: ∀q∈l,q.1.mass < big):Ru l 1000/\l.length<=200/\∀q∈l,Yr q.1=0/\LK q.1=false:=by
 unfold Wu at h;split at h
 ·cases h
 ·obtain⟨h1,h2,_⟩:=Pv l none h;exact⟨⟨h2,fun q hq=>(h1 q hq).2.2.1,by omega,fun q hq=>⟨hm q hq,(h1 q hq).2.2.2.1,(h1 q hq).2.2.2.2⟩⟩,by omega,fun q hq=>⟨(h1 q hq).1,(h1 q hq).2.1⟩⟩
end Go.Am
namespace Go.Am
set_option maxRecDepth 20000
def Qej (t:Tm):Tm:= .mk 3 INV 0 [t]
def Qep (l:Zx):Qx:=(l.map fun p=>List.replicate p.2.toNat p.1).flatten
def Qem (l:Zx):Qx:=(l.map fun p=>List.replicate (-p.2).toNat (Qej p.1)).flatten
def JG (l:Zx):Qx:=Qep l ++ Qem l
def JL:Qx->Tm
 | []=> .mk 3 ONE 0 []
 | [p]=>p
 | p:: q:: r=> .mk 3 MUL 0 (p:: q:: r)
def OT (l:Zx):Tm×Int:=
 if Wu l≠0 then(YR,Wu l)else if 8 < (JG l).length then(YR,3)else if Yr (JL (JG l))≠0 then(YR,Yr (JL (JG l)))else(JL (JG l),0)
end Go.Am
namespace Go.Am
set_option maxRecDepth 20000
end Go.Am
namespace Go.Am
set_option maxRecDepth 20000
def PA (a:Zx):Zx->Zx
 | []=>a
 | q:: b=>PA (Vf a q.1 q.2) b
def Qch (l:Zx):Int:=if l.any (fun q=>Eh q.2)then 7 else if 200 < l.length then 3 else 0
def Ec (a b:Zx):Int:=if Wu a≠0 then Wu a else if Wu b≠0 then Wu b else Qch (PA a b)
def Qel (a b:Zx):Zx:=if Ec a b=0 then PA a b else []
end Go.Am
namespace Go.Am
set_option maxRecDepth 20000
@[simp] def Qea (x y:Tm) (a:Qx) (h:1 < (Q6 (x:: y:: a)).length): (Q6 (x:: y:: a))[1]=QU y:=by simp[Q6]
def Bc:QG:=[112,97,105,114]
def ENC:QG:=[101,110,99]
def QdB:QG:=[97,101,110,99]
def PK:QG:=[112,107]
def Qbb:QG:=[115,105,103,110]
def EXP:QG:=[101,120,112]
def FST:QG:=[102,115,116]
def SND:QG:=[115,110,100]
def DEC:QG:=[100,101,99]
def C4:QG:=[97,100,101,99]
def Ba:QG:=[111,112,101,110]
def READ:QG:=[114,101,97,100]
def kid (t:Tm) (i:Nat):Tm:=t.kids.getD i YR
def pkT (t:Tm):Tm:= .mk 3 PK 0 [t]
def Qc2 (n:QG) (us:Qx):Tm:=
 let a:=us.getD 0 YR
 let key:=us.getD 1 YR
 let out:Tm:= .mk 3 n 0 us
 if n=FST then(if isB a Bc then kid a 0 else out)
 else if n=SND then(if isB a Bc then kid a 1 else out)
 else if n=DEC then(if isB a ENC && decide (Q8 (kid a 1) key=0)then kid a 0 else out)
 else if n=C4 then(if isB a QdB && decide (Q8 (kid a 1) (pkT key)=0)then kid a 0 else out)
 else if n=Ba then(if isB a Qbb && decide (Q8 key (pkT (kid a 1))=0)then kid a 0 else out)
 else if n=READ then(if isB a Qbb then kid a 0 else out)
 else out
def Dd (n:QG):Bool:=n == FST || n == SND || n == DEC || n == C4 || n == Ba || n == READ
end Go.Am
namespace Go.Am
set_option maxRecDepth 20000
end Go.Am
namespace Go.Am
set_option maxRecDepth 20000
def Qb5 (b:Tm) (p:Zx):Tm×Int:=if p=[]then(b,0)else if(OT p).2≠0 then(YR,(OT p).2)else(.mk 3 EXP 0 [b,(OT p).1],0)
def Qeq (b e:Tm):Tm×Int:=
 if ofE e≠0 then(YR,ofE e)
 else if isB b EXP then
  if ofE (kid b 1)≠0 then(YR,ofE (kid b 1))else if Ec (ofP (kid b 1)) (ofP e)≠0 then(YR,Ec (ofP (kid b 1)) (ofP e))else Qb5 (kid b 0) (Qel (ofP (kid b 1)) (ofP e))
 else Qb5 b (ofP e)
def Ei (t:Tm):Tm×Int:=if ofE t≠0 then(YR,ofE t)else OT (ofP t)
end Go.Am
namespace Go.Am
set_option maxRecDepth 20000
end Go.Am
namespace Go.Am
set_option maxRecDepth 20000
def Qdb (n:QG) (us:Qx):Tm×Int:=
 if Dd n then(Qc2 n us,0)else if n=XOR then QeE us else if n=MUL\/n=INV\/n=ONE then Ei (.mk 3 n 0 us)
 else if n=EXP then Qeq (us.getD 0 YR) (us.getD 1 YR)else(.mk 3 n 0 us,0)
mutual
def UO:Tm->Tm×Int
 | .mk k n s ks=>if k=3 then(if(Rc ks).2=0 then Qdb n (Rc ks).1 else(YR,(Rc ks).2))else(.mk k n s ks,0)
def Rc:List Tm->List Tm×Int
 | []=>([],0)
 | t:: ts=>if(UO t).2=0 then(if(Rc ts).2=0 then((UO t).1:: (Rc ts).1,0)else([],(Rc ts).2))else([],(UO t).2)
end
end Go.Am
namespace Go.Am
set_option maxRecDepth 20000
end Go.Am
namespace Go.Am
set_option maxRecDepth 20000
end Go.Am
namespace Go.Am
set_option maxRecDepth 20000
def Dh (t:Tm):Tm×Int:=if thV t≠0 then(YR,thV t)else if(UO t).2≠0 then(YR,(UO t).2)else if Yr (UO t).1≠0 then(YR,Yr (UO t).1)else((UO t).1,0)
def ndN (t:Tm):Bool:= !(decide (t.kind=3) && Dd t.name)
mutual
def evT:Tm->Bool
 | .mk k n s ks=>ndN (.mk k n s ks) && evL ks
def evL:List Tm->Bool
 | []=>true
 | t:: ts=>evT t && evL ts
end
def Qcg (t:Tm):Bool:=decide ((Dh t).2=0) && decide (Q8 (Dh t).1 t=0) && evT t
end Go.Am
namespace Go.Am
set_option maxRecDepth 20000
end Go.Am
namespace Go.Am
set_option maxRecDepth 20000
end Go.Am
namespace Go.Am
set_option maxRecDepth 20000
def KH (x:Tm):Int:=if thV x≠0 then thV x else if Qdw x≠[]then 13 else if Qcg x then 0 else 10
end Go.Am
namespace Go.Am
set_option maxRecDepth 20000
end Go.Am
namespace Go.Am
set_option maxRecDepth 20000
end Go.Am
namespace Go.Am
set_option maxRecDepth 20000
end Go.Am
namespace Go.Am
set_option maxRecDepth 20000
end Go.Am
namespace Go.Am
set_option maxRecDepth 20000
end Go.Am
namespace Go.Am
set_option maxRecDepth 20000
end Go.Am
namespace Go.Am
set_option maxRecDepth 20000
def Qei (i:Nat):Tm:= .mk 1 (119:: TC i) 0 []
end Go.Am
namespace Go.Am
set_option maxRecDepth 20000
end Go.Am
namespace Go.Am
set_option maxRecDepth 20000
def hbs:Nat->Qx->Qe
 | _,[]=>[]
 | k,t:: ts=>(QU (Qei k)++ QU t):: hbs (k+1) ts
end Go.Am
namespace Go.Am
set_option maxRecDepth 20000
end Go.Am
namespace Go.Am
set_option maxRecDepth 20000
end Go.Am
namespace Go.Am
set_option maxRecDepth 20000
def Ch (B1 B:Qe):Prop:=B1.length<=B.length/\∀(i:Nat) (x y:Qd),B1[i]? =some x->B[i]? =some y->x=y\/QI y=true
def Ch.refl (B:Qe):Ch B B:=⟨Zd _,fun i x y h1 h2=> .inl (by rw[h1]at h2;injection h2)⟩
def Ch.trans {B1 B2 B3:Qe} (h:Ch B1 B2) (k:Ch B2 B3):Ch B1 B3:=⟨X0 h.1 k.1,fun i x z h1 h3=>by
 have hlt:i < B1.length:=by
  rcases QC i B1.length with g | g
  ·exact g
  ·rw[QF g]at h1;cases h1
 have hlt2:i < B2.length:=Uh hlt h.1;obtain⟨y,hy⟩: ∃y,B2[i]? =some y:=⟨_,Ze hlt2⟩;rcases k.2 i y z hy h3 with e | e
 ·subst e;exact h.2 i x y h1 hy
 ·exact .inr e⟩
def Ch.set {B1 B:Qe} (h:Ch B1 B) {c:Qd} (hc:QI c=true) (id:Nat):Ch B1 (B.set id c):=⟨by rw[Sn];exact h.1,fun i x y h1 h2=>by
 rw[YM]at h2;split at h2
 ·split at h2
  ·injection h2 with h2;subst h2;exact .inr hc
  ·cases h2
 ·exact h.2 i x y h1 h2⟩
def Ch.app {B1 B:Qe} (h:Ch B1 B) (M:Qe):Ch B1 (B ++ M):=⟨by rw[YF];have:=h.1;omega,fun i x y h1 h2=>by
 have hlt:i < B1.length:=by
  rcases QC i B1.length with g | g
  ·exact g
  ·rw[QF g]at h1;cases h1
 rw[Zt (Uh hlt h.1)]at h2;exact h.2 i x y h1 h2⟩
def Ch.take {B1 B:Qe} (h:Ch B1 B):Yf B1 (B.take B1.length)=true:=Ko (by rw[YG];have:=h.1;omega) fun i x y h1 h2=>by
 have hlt:i < B1.length:=by
  rcases QC i B1.length with g | g
  ·exact g
  ·rw[QF g]at h1;cases h1
 rw[Y1 hlt]at h2;exact h.2 i x y h1 h2
end Go.Am
namespace Go.Am
set_option maxRecDepth 20000
end Go.Am
namespace Go.Am
set_option maxRecDepth 20000
end Go.Am
namespace Go.Am
set_option maxRecDepth 20000
end Go.Am
namespace Go.Am
set_option maxRecDepth 20000
end Go.Am
namespace Go.Am
set_option maxRecDepth 20000
end Go.Am
namespace Go.Am
set_option maxRecDepth 20000
end Go.Am
namespace Go.Am
set_option maxRecDepth 20000
end Go.Am
namespace Go.Am
set_option maxRecDepth 20000
end Go.Am
namespace Go.Am
set_option maxRecDepth 20000
end Go.Am
namespace Go.Am
set_option maxRecDepth 20000
end Go.Am
namespace Go.Am
set_option maxRecDepth 20000
end Go.Am
namespace Go.Am
set_option maxRecDepth 20000
end Go.Am
namespace Go.Am
set_option maxRecDepth 20000
end Go.Am
namespace Go.Am
set_option maxRecDepth 20000
end Go.Am
namespace Go.Am
set_option maxRecDepth 20000
end Go.Am
namespace Go.Am
set_option maxRecDepth 20000
end Go.Am
namespace Go.Am
set_option maxRecDepth 20000
end Go.Am
namespace Go.Am
set_option maxRecDepth 20000
end Go.Am
namespace Go.Am
set_option maxRecDepth 20000
end Go.Am
namespace Go.Am
set_option maxRecDepth 20000
end Go.Am
namespace Go.Am
set_option maxRecDepth 20000
end Go.Am
namespace Go.Am
set_option maxRecDepth 20000
end Go.Am
namespace Go.Am
set_option maxRecDepth 20000
end Go.Am
namespace Go.Am
set_option maxRecDepth 20000
end Go.Am
namespace Go.Am
set_option maxRecDepth 20000
end Go.Am
namespace Go.Am
set_option maxRecDepth 20000
structure Ded where
 r:Int
 n:Int
 a:List Int
 c:List Int
 t:Tm
def QZ (l:Qv):Qe:=l.map fun i=>[AV.int .i64 i]
@[simp] def Qd8 (l:Qv): (QZ l).length=l.length:=by simp[QZ]
@[simp] def X3 (l:Qv) (i:Nat): (QZ l)[i]? =(l[i]?).map fun i=>[AV.int .i64 i]:=by simp[QZ]
@[simp] def Tc: ∀l:Qv,Z5 (QZ l)=true
 | []=>rfl
 | i:: l=>by
  have:=Tc l;simp only[QZ]at this ⊢;simp[Z5,QI,AV.gpfree,this]
def Zl (d:Ded):Qd:=[.int .i64 d.r,.int .i64 d.n,.sl false 1 (QZ d.a),.sl false 1 (QZ d.c)]++ QU d.t
def YZ (d:Ded):Zl d=[.int .i64 d.r,.int .i64 d.n,.sl false 1 (QZ d.a),.sl false 1 (QZ d.c),.int .i64 d.t.kind,.str d.t.name,.int .i64 d.t.sort,.sl false 4 (Q6 d.t.kids)]:=by
 simp[Zl,Yv]
@[simp] def Qdy (d:Ded): (Zl d).length=8:=by simp[YZ]
@[simp] def Qcq (d:Ded): (Zl d).map AV.strip=Zl d:=by simp[YZ]
@[simp] def Qcr (d:Ded): (Zl d).take 8=Zl d:=XS (by simp)
@[simp] def LU (d:Ded): (Zl d).drop 4=QU d.t:=by simp[Zl]
@[simp] def Qcp (d:Ded): (Zl d).drop 8=[]:=by simp[YZ]
@[simp] def QeO (d:Ded): (Zl d)[0]? =some (.int .i64 d.r):=by simp[YZ]
@[simp] def QeP (d:Ded): (Zl d)[1]? =some (.int .i64 d.n):=by simp[YZ]
@[simp] def QeQ (d:Ded): (Zl d)[2]? =some (.sl false 1 (QZ d.a)):=by simp[YZ]
@[simp] def QeR (d:Ded): (Zl d)[3]? =some (.sl false 1 (QZ d.c)):=by simp[YZ]
@[simp] def Qd3 (d:Ded) (h:0 < (Zl d).length): (Zl d)[0]= .int .i64 d.r:=by simp[YZ]
@[simp] def Qd4 (d:Ded) (h:1 < (Zl d).length): (Zl d)[1]= .int .i64 d.n:=by simp[YZ]
@[simp] def Qd5 (d:Ded) (h:2 < (Zl d).length): (Zl d)[2]= .sl false 1 (QZ d.a):=by simp[YZ]
@[simp] def Qd6 (d:Ded) (h:3 < (Zl d).length): (Zl d)[3]= .sl false 1 (QZ d.c):=by simp[YZ]
@[simp] def Qd7 (d:Ded):QI (Zl d)=true:=by simp[Zl,QI,AV.gpfree,S7]
abbrev ZL:=List Ded
def Zo (l:ZL):Qe:=l.map Zl
@[simp] def Qc3 (l:ZL): (Zo l).length=l.length:=by simp[Zo]
@[simp] def Yh (l:ZL) (i:Nat): (Zo l)[i]? =(l[i]?).map Zl:=by simp[Zo]
@[simp] def Ga: ∀l:ZL,Z5 (Zo l)=true
 | []=>rfl
 | p:: l=>by
  have:=Ga l;simp only[Zo]at this ⊢;simp[Z5,this]
end Go.Am
namespace Go.Am
set_option maxRecDepth 20000
def Qdn:List (QG×Int):=[([],0),([103,105,118,101,110],0),([112,117,98,108,105,99],0),([112,97,105,114],2),([102,105,114,115,116],1),([115,101,99,111,110,100],1),([101,110,99],2),([100,101,99],2),([97,101,110,99],2),([97,100,101,99],2),([112,107],1),([115,105,103,110],2),([114,101,97,100],1),([104,97,115,104],1),([115,117,109],-1),([112,111,119,101,114],-2),([112,114,111,100,117,99,116],-1)]
def rOk (r:Int):Bool:=decide (1<=r) && decide (r<=16)
def K7 (r:Int):Int:=if rOk r then(Qdn[r.toNat]?.getD ([],0)).2 else 0
end Go.Am
namespace Go.Am
set_option maxRecDepth 20000
set_option maxHeartbeats 1000000
end Go.Am
namespace Go.Am
set_option maxRecDepth 20000
end Go.Am
namespace Go.Am
set_option maxRecDepth 20000
def SmP (g:Zx):Prop:=g.length < 1000000/\∀q∈g,q.1.mass < 1000000
def SmP.big {g:Zx} (h:SmP g): ∀q∈g,q.1.mass < big:=fun q hq=>by have:=h.2 q hq;unfold Go.Am.big;omega
end Go.Am
namespace Go.Am
set_option maxRecDepth 20000
end Go.Am
namespace Go.Am
set_option maxRecDepth 20000
def QK (l:Qv):Qd:=l.map fun i=>AV.int .i64 i
@[simp] def ZP (l:Qv): (QK l).length=l.length:=by simp[QK]
@[simp] def Qes (l:Qv) (i:Nat): (QK l)[i]? =(l[i]?).map fun i=>AV.int .i64 i:=by simp[QK]
@[simp] def Qdi (l:Qv): (QK l).map AV.strip=QK l:=by
 simp only[QK,List.map_map];exact MF fun i _=>rfl
end Go.Am
namespace Go.Am
set_option maxRecDepth 20000
def nz (i:Int):Bool:= !decide (i=0)
def okG (g:Zx):Prop:=Wu g=0/\SmP g
def okG.asc {g:Zx} (h:okG g):Asc (W2 g):=(Px h.1 h.2.big).1.asc
def okG.bd {g:Zx} (h:okG g): ∀q∈g,-1000<=q.2/\q.2<=1000:=fun q hq=>by
 have h1:=h.1;unfold Wu at h1;split at h1
 ·cases h1
 ·exact⟨((Pv g none h1).1 q hq).2.2.2.1,((Pv g none h1).1 q hq).2.2.2.2⟩
def okG.len {g:Zx} (h:okG g):g.length<=200:=(Px h.1 h.2.big).2.1
end Go.Am
namespace Go.Am
set_option maxRecDepth 20000
end Go.Am
namespace Go.Am
set_option maxRecDepth 20000
end Go.Am
namespace Go.Am
set_option maxRecDepth 20000
end Go.Am
namespace Go.Am
set_option maxRecDepth 20000
end Go.Am
namespace Go.Am
set_option maxRecDepth 20000
end Go.Am
namespace Go.Am
set_option maxRecDepth 20000
end Go.Am
