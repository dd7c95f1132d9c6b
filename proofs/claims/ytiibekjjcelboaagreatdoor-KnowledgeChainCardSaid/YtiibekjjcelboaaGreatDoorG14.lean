/-
  Am21, Am22, Am23, Ge1, Ge2, Ge3, Ge4, Ge5, Ge6, Ge10, Ge11.
-/
import Derived.Test.YtiibekjjcelboaaGreatDoorG09
import Derived.Test.YtiibekjjcelboaaGreatDoorG13
set_option linter.unusedVariables false
set_option linter.unusedSimpArgs false
namespace Go.Am
abbrev Out:=Option (AV×List (List AV))
abbrev Kn:=Ex→St→Out
section
variable {T:Nat→Option AFn}
noncomputable def R (T:Nat→Option AFn) (c:AC) (ρ:Nat→AV) (bs:List (List AV)) (k:Kn):Out:=match run T c ⟨ρ,bs⟩with
 | some (e,s)=>k e s
 | none=>none
noncomputable def O (T:Nat→Option AFn) (os:List Qn) (ρ:Nat→AV) (bs:List (List AV)) (k:Kn):Out:=match Zq (call T) os ⟨ρ,bs⟩with
 | some s=>k .normal s
 | none=>none
noncomputable def E (T:Nat→Option AFn) (r:Option (AV×St)) (d:Option Nat) (os:List Qn) (k:Kn):Out:=match r with
 | some p=>O T os (ZO p.2.env d p.1) p.2.bs k
 | none=>none
def Yo (c b:Bool) (x y:Out):Out:=if c=b then x else y
noncomputable def Qu (T:Nat→Option AFn) (b:AC) (k:Kn):Kn:=fun e s=>match e with
 | .normal=>match run T b s with
  | some (e,s)=>k e s
  | none=>none
 | e=>k e s
def Qj (id:Nat) (k:Kn):Kn:=fun e s=>match e with
 | .exit i=>k (if i=id then .normal else .exit i) s
 | e=>k e s
def Qx (fn:Qi) (n:List (List AV)):Kn:=fun e s=>match e with
 | .normal=>Yg fn n s
 | .ret=>Yg fn n s
 | .exit _=>none
theorem PP (x y:Out):Yo true true x y=x:=rfl
theorem Lj (x y:Out):Yo false false x y=x:=rfl
theorem Lk (x y:Out):Yo true false x y=y:=rfl
theorem PO (x y:Out):Yo false true x y=y:=rfl
theorem Hr (c b:Bool) (x:Out):Yo c b x x=x:=by unfold Yo;split <;> rfl
theorem FS (c b:Bool) (x y:Out):Yo (!c) b x y=Yo c (!b) x y:=by cases c <;> cases b <;> rfl
theorem XX (c b:Bool) (x y:Out):Yo c b x y=if c=b then x else y:=rfl
theorem QfQ (ρ:Nat→AV) (bs:List (List AV)) (k:Kn):R T .skip ρ bs k=k .normal ⟨ρ,bs⟩:=by simp only[R,IK]
theorem Qhh (ρ:Nat→AV) (bs:List (List AV)) (k:Kn):R T .ret ρ bs k=k .ret ⟨ρ,bs⟩:=by simp only[R,GO]
theorem QfO (id:Nat) (ρ:Nat→AV) (bs:List (List AV)) (k:Kn):R T (.exit id) ρ bs k=k (.exit id) ⟨ρ,bs⟩:=by simp only[R,IG]
theorem Qhg (d:Bool) (ops:List Qn) (ρ:Nat→AV) (bs:List (List AV)) (k:Kn):R T (.reg d ops) ρ bs k=O T ops ρ bs k:=by
 simp only[R,O,GN];cases Zq (call T) ops ⟨ρ,bs⟩ <;> rfl
theorem Qhi (a b:AC) (ρ:Nat→AV) (bs:List (List AV)) (k:Kn):R T (.seq a b) ρ bs k=R T a ρ bs (Qu T b k):=by
 simp only[R,GP];cases run T a ⟨ρ,bs⟩with
 | none=>rfl
 | some x=>
  obtain⟨e,s⟩:=x;cases e <;> rfl
theorem Qcp (id:Nat) (c:AC) (ρ:Nat→AV) (bs:List (List AV)) (k:Kn):R T (.block id c) ρ bs k=R T c ρ bs (Qj id k):=by
 simp only[R,Lv];cases run T c ⟨ρ,bs⟩with
 | none=>rfl
 | some x=>
  obtain⟨e,s⟩:=x;cases e <;> rfl
theorem QfP (c:AC) (ρ:Nat→AV) (bs:List (List AV)) (k:Kn):R T (.loop c) ρ bs k=R T c ρ bs (Qu T (.loop c) k):=by
 simp only[R];rw[IJ];cases run T c ⟨ρ,bs⟩with
 | none=>rfl
 | some x=>
  obtain⟨e,s⟩:=x;cases e <;> rfl
theorem HH (b:AC) (k:Kn) (ρ:Nat→AV) (bs:List (List AV)):Qu T b k .normal ⟨ρ,bs⟩=R T b ρ bs k:=rfl
theorem Qbx (b:AC) (k:Kn) (s:St):Qu T b k .ret s=k .ret s:=rfl
theorem BS (b:AC) (k:Kn) (s:St) (id:Nat):Qu T b k (.exit id) s=k (.exit id) s:=rfl
theorem LD (id:Nat) (k:Kn) (s:St):Qj id k .normal s=k .normal s:=rfl
theorem Fo (id:Nat) (k:Kn) (s:St):Qj id k .ret s=k .ret s:=rfl
theorem I9 (id:Nat) (k:Kn) (s:St):Qj id k (.exit id) s=k .normal s:=by simp[Qj]
theorem Mw (id i:Nat) (h: (i == id)=false) (k:Kn) (s:St):Qj id k (.exit i) s=k (.exit i) s:=by
 have:i≠id:=by simpa using h
 simp[Qj,this]
theorem Hn (fn:Qi) (k:List (List AV)) (s:St):Qx fn k .normal s=Yg fn k s:=rfl
theorem QaJ (fn:Qi) (k:List (List AV)) (s:St):Qx fn k .ret s=Yg fn k s:=rfl
noncomputable def FC (T:Nat→Option AFn) (v:AV) (n:Nat) (a b:AC) (ρ:Nat→AV) (bs:List (List AV)) (k:Kn):Out:=match v with
 | .bool c=>Yo c true (R T a (upd ρ n (.bool true)) bs k) (R T b (upd ρ n (.bool false)) bs k)
 | _=>none
theorem We {ρ:Nat→AV} {n:Nat} {v:AV} (h:ρ n=v):upd ρ n v=ρ:=by
 funext j;unfold upd;split
 ·rename_i hj;rw[hj,h]
 ·rfl
theorem QfN (n:Nat) (a b:AC) (ρ:Nat→AV) (bs:List (List AV)) (k:Kn):R T (.cond (.t n) a b) ρ bs k=FC T (ρ n) n a b ρ bs k:=by
 simp only[R,IF,val,FC];cases h:ρ n <;> try rfl
 rename_i c;cases c
 ·simp only[AV.strip,PO,We h]
 ·simp only[AV.strip,PP,We h]
theorem FE (c:Bool) (n:Nat) (a b:AC) (ρ:Nat→AV) (bs:List (List AV)) (k:Kn):
  FC T (.bool c) n a b ρ bs k=Yo c true (R T a (upd ρ n (.bool true)) bs k) (R T b (upd ρ n (.bool false)) bs k):=rfl
theorem Qhf (ρ:Nat→AV) (bs:List (List AV)) (k:Kn):O T [] ρ bs k=k .normal ⟨ρ,bs⟩:=rfl
theorem QfK (d:Option Nat) (op:AOp) (os:List Qn) (ρ:Nat→AV) (bs:List (List AV)) (k:Kn):
  O T (⟨d,op,none⟩:: os) ρ bs k=E T (Qe (call T) op ⟨ρ,bs⟩) d os k:=by
 simp only[O,E,Zq,Zn];cases Qe (call T) op ⟨ρ,bs⟩ <;> rfl
noncomputable def NW (T:Nat→Option AFn) (v:AV) (t:Nat) (b:Bool) (d:Option Nat) (op:AOp) (os:List Qn) (ρ:Nat→AV) (bs:List (List AV)) (k:Kn):Out:=match v with
 | .bool c=>Yo c b (E T (Qe (call T) op ⟨upd ρ t (.bool b),bs⟩) d os k) (O T os (ZO (upd ρ t (.bool (!b))) d (.tup [])) bs k)
 | .tup []=>O T os (ZO ρ d (.tup [])) bs k
 | _=>none
theorem Wk (d:Option Nat) (op:AOp) (t:Nat) (b:Bool) (os:List Qn) (ρ:Nat→AV) (bs:List (List AV)) (k:Kn):
  O T (⟨d,op,some (t,b)⟩:: os) ρ bs k=NW T (ρ t) t b d op os ρ bs k:=by
 simp only[O,Zq,Zn,NW];cases h:ρ t <;> try rfl
 ·rename_i c;by_cases hcb:c=b
  ·subst hcb;simp only[Yo,if_true,We h,E];cases Qe (call T) op ⟨ρ,bs⟩ <;> rfl
  ·have hcb2:c= !b:=by cases c <;> cases b <;> simp_all
   subst hcb2;simp only[Yo,hcb,if_false,We h];rfl
 ·rename_i vs;cases vs <;> rfl
theorem WE (c:Bool) (t:Nat) (b:Bool) (d:Option Nat) (op:AOp) (os:List Qn) (ρ:Nat→AV) (bs:List (List AV)) (k:Kn):
  NW T (.bool c) t b d op os ρ bs k=Yo c b (E T (Qe (call T) op ⟨upd ρ t (.bool b),bs⟩) d os k) (O T os (ZO (upd ρ t (.bool (!b))) d (.tup [])) bs k):=rfl
theorem NX (t:Nat) (b:Bool) (d:Option Nat) (op:AOp) (os:List Qn) (ρ:Nat→AV) (bs:List (List AV)) (k:Kn):
  NW T (.tup []) t b d op os ρ bs k=O T os (ZO ρ d (.tup [])) bs k:=rfl
theorem QeS (v:AV) (ρ:Nat→AV) (bs:List (List AV)) (d:Nat) (os:List Qn) (k:Kn):E T (some (v,⟨ρ,bs⟩)) (some d) os k=O T os (upd ρ d v) bs k:=rfl
theorem Qcj (v:AV) (ρ:Nat→AV) (bs:List (List AV)) (os:List Qn) (k:Kn):E T (some (v,⟨ρ,bs⟩)) none os k=O T os ρ bs k:=rfl
theorem QeR (d:Option Nat) (os:List Qn) (k:Kn):E T none d os k=none:=rfl
theorem BU (ρ:Nat→AV) (d:Nat) (v:AV):ZO ρ (some d) v=upd ρ d v:=rfl
theorem BT (ρ:Nat→AV) (v:AV):ZO ρ none v=ρ:=rfl
theorem Qa {f:Nat} {fn:Qi} (h:T f=some (.code fn)) (args:List AV) (bs:List (List AV)) (hl:args.length=fn.nparams):
  call T f args bs=R T fn.body (YA args) bs (Qx fn bs):=by
 rw[MC,h];simp only[hl,if_true,R];cases run T fn.body ⟨YA args,bs⟩with
 | none=>rfl
 | some x=>
  obtain⟨e,s⟩:=x;cases e <;> rfl
theorem ZP {f:Nat} {g:List AV→List (List AV)→Option (AV×List (List AV))} (h:T f=some (.orc g)) (args:List AV) (bs:List (List AV)):call T f args bs=g args bs:=by
 rw[MC,h]
theorem AD (a:AV) (aq:List AV):YA (a:: aq) 0=a.strip:=rfl
theorem I7 (a:AV) (aq:List AV) (i:Nat):YA (a:: aq) (i+1)=YA aq i:=rfl
theorem WT (ρ:Nat→AV) (i:Nat) (v:AV):upd ρ i v i=v:=by simp[upd]
variable {K:ZJ} (ρ:Nat→AV) (bs:List (List AV))
theorem QhS (n:Nat):val ρ (.t n)=(ρ n).strip:=rfl
theorem QhR (v:AV):val ρ (.c v)=v:=rfl
end
end Go.Am
namespace Go.Am
section
variable {T:Nat→Option AFn}
def Tw (b:Bool):AV→Bool
 | .bool c=>c == !b
 | .tup []=>true
 | _=>false
noncomputable def O2 (T:Nat→Option AFn) (c:Bool) (_t:Nat) (b:Bool) (os:List Qn) (ρ1 ρ2:Nat→AV) (bs1 bs2:List (List AV)) (k:Kn):Out:=
 if c=b then O T os ρ1 bs1 k else O T os ρ2 bs2 k
noncomputable def E2 (T:Nat→Option AFn) (c:Bool) (_t:Nat) (b:Bool) (r:Option (AV×St)) (d:Option Nat) (os:List Qn) (ρ2:Nat→AV) (bs2:List (List AV)) (k:Kn):Out:=
 if c=b then E T r d os k else O T os (ZO ρ2 d (.tup [])) bs2 k
def ZN (c b:Bool) (x y:AV):AV:=if c=b then x else y
def Nj (c b:Bool) (x y:List (List AV)):List (List AV):=if c=b then x else y
def mrg (c b:Bool) (ρ1 ρ2:Nat→AV):Nat→AV:=fun j=>ZN c b (ρ1 j) (ρ2 j)
theorem Qd6 (c b:Bool) (ρ1 ρ2:Nat→AV) (j:Nat):mrg c b ρ1 ρ2 j=ZN c b (ρ1 j) (ρ2 j):=rfl
theorem HR (c:Bool) (t:Nat) (b:Bool) (os:List Qn) (ρ1 ρ2:Nat→AV) (bs1 bs2:List (List AV)) (k:Kn):
  O2 T c t b os ρ1 ρ2 bs1 bs2 k=O T os (mrg c b ρ1 ρ2) (Nj c b bs1 bs2) k:=by
 unfold O2;split
 ·rename_i h;have:mrg c b ρ1 ρ2=ρ1:=by funext j;simp[mrg,ZN,h]
  rw[this,Nj,if_pos h]
 ·rename_i h;have:mrg c b ρ1 ρ2=ρ2:=by funext j;simp[mrg,ZN,h]
  rw[this,Nj,if_neg h]
theorem QfJ (c:Bool) (t:Nat) (b:Bool) (ρ1 ρ2:Nat→AV) (bs1 bs2:List (List AV)) (k:Kn):
  O2 T c t b [] ρ1 ρ2 bs1 bs2 k=O T [] (mrg c b ρ1 ρ2) (Nj c b bs1 bs2) k:=HR c t b [] ρ1 ρ2 bs1 bs2 k
theorem Qcl (c:Bool) (t:Nat) (b:Bool) (d:Option Nat) (op:AOp) (os:List Qn) (ρ1 ρ2:Nat→AV) (bs1 bs2:List (List AV)) (k:Kn):
  O2 T c t b (⟨d,op,none⟩:: os) ρ1 ρ2 bs1 bs2 k=O T (⟨d,op,none⟩:: os) (mrg c b ρ1 ρ2) (Nj c b bs1 bs2) k:=HR c t b _ ρ1 ρ2 bs1 bs2 k
theorem Aq (c:Bool) (t:Nat) (b:Bool) (d:Option Nat) (op:AOp) (t':Nat) (b':Bool) (os:List Qn) (ρ1 ρ2:Nat→AV) (bs1 bs2:List (List AV)) (k:Kn) (_h: ((t' == t) && (b' == b))=false):
  O2 T c t b (⟨d,op,some (t',b')⟩:: os) ρ1 ρ2 bs1 bs2 k=Yo c b (O T (⟨d,op,some (t',b')⟩:: os) ρ1 bs1 k) (O T (⟨d,op,some (t',b')⟩:: os) ρ2 bs2 k):=by
 unfold O2 Yo;rfl
theorem Qcm (c:Bool) (t:Nat) (b:Bool) (d:Option Nat) (op:AOp) (os:List Qn) (ρ1 ρ2:Nat→AV) (bs1 bs2:List (List AV)) (k:Kn) (h1:ρ1 t= .bool b) (h2:Tw b (ρ2 t)=true):
  O2 T c t b (⟨d,op,some (t,b)⟩:: os) ρ1 ρ2 bs1 bs2 k=E2 T c t b (Qe (call T) op ⟨ρ1,bs1⟩) d os ρ2 bs2 k:=by
 unfold O2 E2;split
 ·rw[Wk,h1,WE,XX,if_pos rfl,We h1]
 ·rw[Wk];unfold Tw at h2;split at h2
  ·rename_i c hc;rw[hc,WE];simp only[beq_iff_eq]at h2;subst h2;rw[XX,if_neg (by cases b <;> simp),We hc]
  ·rename_i hc;rw[hc,NX]
  ·cases h2
theorem Qci (c:Bool) (t:Nat) (b:Bool) (v:AV) (ρ1:Nat→AV) (bs1:List (List AV)) (d:Option Nat) (os:List Qn) (ρ2:Nat→AV) (bs2:List (List AV)) (k:Kn):
  E2 T c t b (some (v,⟨ρ1,bs1⟩)) d os ρ2 bs2 k=O2 T c t b os (ZO ρ1 d v) (ZO ρ2 d (.tup [])) bs1 bs2 k:=rfl
noncomputable def G (T:Nat→Option AFn) (v:AV) (d:Option Nat) (op:AOp) (t:Nat) (b:Bool) (os:List Qn) (ρ:Nat→AV) (bs:List (List AV)) (k:Kn):Out:=match v with
 | .bool c=>O2 T c t b (⟨d,op,some (t,b)⟩:: os) (upd ρ t (.bool b)) (upd ρ t (.bool (!b))) bs bs k
 | .tup []=>O T os (ZO (upd ρ t (.tup [])) d (.tup [])) bs k
 | _=>none
theorem Se (c:Bool) (d:Option Nat) (op:AOp) (t:Nat) (b:Bool) (os:List Qn) (ρ:Nat→AV) (bs:List (List AV)) (k:Kn):
  G T (.bool c) d op t b os ρ bs k=O2 T c t b (⟨d,op,some (t,b)⟩:: os) (upd ρ t (.bool b)) (upd ρ t (.bool (!b))) bs bs k:=rfl
theorem QbS (d:Option Nat) (op:AOp) (t:Nat) (b:Bool) (os:List Qn) (ρ:Nat→AV) (bs:List (List AV)) (k:Kn):
  G T (.tup []) d op t b os ρ bs k=O T os (ZO (upd ρ t (.tup [])) d (.tup [])) bs k:=rfl
theorem Qcn (d:Option Nat) (op:AOp) (t:Nat) (b:Bool) (os:List Qn) (ρ:Nat→AV) (bs:List (List AV)) (k:Kn):
  O T (⟨d,op,some (t,b)⟩:: os) ρ bs k=G T (ρ t) d op t b os ρ bs k:=by
 cases h:ρ t <;> try (rw[Wk,h];rfl)
 ·rename_i c;rw[Se];unfold O2;by_cases hcb:c=b
  ·subst hcb;simp[We h]
  ·have hcb2:c= !b:=by cases c <;> cases b <;> simp_all
   subst hcb2;rw[We h,if_neg hcb]
 ·rename_i vs;cases vs with
  | nil=>rw[QbS,Wk,h,NX,We h]
  | cons v vs=>rw[Wk,h];rfl
theorem QeT (d:Option Nat) (op:AOp) (t:Nat) (os:List Qn) (ρ:Nat→AV) (bs:List (List AV)) (k:Kn):
  G T (.bool true) d op t true os ρ bs k=E T (Qe (call T) op ⟨upd ρ t (.bool true),bs⟩) d os k:=by
 rw[Se];unfold O2;rw[if_pos rfl,Wk,WT,WE,PP,We (WT _ _ _)]
theorem Qck (d:Option Nat) (op:AOp) (t:Nat) (os:List Qn) (ρ:Nat→AV) (bs:List (List AV)) (k:Kn):
  G T (.bool false) d op t false os ρ bs k=E T (Qe (call T) op ⟨upd ρ t (.bool false),bs⟩) d os k:=by
 rw[Se];unfold O2;rw[if_pos rfl,Wk,WT,WE,Lj,We (WT _ _ _)]
theorem Qh3 (d:Option Nat) (op:AOp) (t:Nat) (os:List Qn) (ρ:Nat→AV) (bs:List (List AV)) (k:Kn):
  G T (.bool true) d op t false os ρ bs k=O T os (ZO (upd ρ t (.bool true)) d (.tup [])) bs k:=by
 rw[Se];unfold O2;rw[if_neg (by simp),Wk,WT];simp only[WE,Lk,Bool.not_false];rw[We (WT _ _ _)]
theorem Qh2 (d:Option Nat) (op:AOp) (t:Nat) (os:List Qn) (ρ:Nat→AV) (bs:List (List AV)) (k:Kn):
  G T (.bool false) d op t true os ρ bs k=O T os (ZO (upd ρ t (.bool false)) d (.tup [])) bs k:=by
 rw[Se];unfold O2;rw[if_neg (by simp),Wk,WT];simp only[WE,PO,Bool.not_true];rw[We (WT _ _ _)]
theorem BP (c b:Bool) (x:AV):ZN c b x x=x:=by unfold ZN;split <;> rfl
theorem BL (c b:Bool) (x:List (List AV)):Nj c b x x=x:=by unfold Nj;split <;> rfl
theorem QgV (c b:Bool) (x y z:AV):ZN c b (ZN c b x y) z=ZN c b x z:=by unfold ZN;split <;> simp_all
theorem QgW (c b:Bool) (x y z:AV):ZN c b x (ZN c b y z)=ZN c b x z:=by unfold ZN;split <;> simp_all
theorem QeC (c:Bool) (x y z:AV):ZN c true (ZN c false x y) z=ZN c true y z:=by cases c <;> rfl
theorem QeD (c:Bool) (x y z:AV):ZN c true x (ZN c false y z)=ZN c true x y:=by cases c <;> rfl
theorem Qez (c:Bool) (x y z:AV):ZN c false (ZN c true x y) z=ZN c false y z:=by cases c <;> rfl
theorem QeA (c:Bool) (x y z:AV):ZN c false x (ZN c true y z)=ZN c false x y:=by cases c <;> rfl
theorem BR (c:Bool) (x y:AV):ZN c false x y=ZN c true y x:=by cases c <;> rfl
theorem Qbv (x y:AV):ZN true true x y=x:=rfl
theorem BO (x y:AV):ZN false true x y=y:=rfl
theorem BN (c x y:Bool):ZN c true (.bool x) (.bool y)= .bool (bif c then x else y):=by cases c <;> rfl
theorem Qbu (c:Bool) (k:IntKind) (x y:Int):ZN c true (.int k x) (.int k y)= .int k (bif c then x else y):=by cases c <;> rfl
theorem EF (c b:Bool) (x y:AV): (ZN c b x y).strip=ZN c b x.strip y.strip:=by unfold ZN;split <;> rfl
theorem QeB (c b:Bool) (x y:AV): (ZN c b x y).ok=if c=b then x.ok else y.ok:=by unfold ZN;split <;> rfl
theorem Qbw (c b:Bool) (x y:AV): (ZN c b x y).one=if c=b then x.one else y.one:=by unfold ZN;split <;> rfl
theorem BQ (c b d:Bool) (x y:AV):Tw d (ZN c b x y)=if c=b then Tw d x else Tw d y:=by unfold ZN;split <;> rfl
theorem Hv (c b:Bool):Tw b (.bool c)=(c == !b):=rfl
theorem FW (b:Bool):Tw b (.tup [])=true:=rfl
def Eb (v x y:AV) (s:St):Option (AV×St):=match v with
 | .bool c=>let v:=ZN c true x y;if v.ok then some (v,s)else none
 | _=>none
theorem QfZ {K:ZJ} (c a b:AO) (ρ:Nat→AV) (bs:List (List AV)):Qe K (.pick c a b) ⟨ρ,bs⟩=Eb (val ρ c) (val ρ a) (val ρ b) ⟨ρ,bs⟩:=by
 simp only[Qe,Eb];cases val ρ c <;> try rfl
 rename_i x;cases x <;> rfl
theorem Ec (c:Bool) (x y:AV) (s:St):Eb (.bool c) x y s=if(ZN c true x y).ok then some (ZN c true x y,s)else none:=rfl
end
end Go.Am
namespace Go.Am
theorem QeM (ρ:Nat→AV) (i:Nat) (v:AV) (j:Nat):upd ρ i v j=if j=i then v else ρ j:=rfl
theorem LS:AV.strip (.undef)= .undef:=rfl
theorem Er:AV.ok (.undef)=false:=rfl
theorem HA:AV.one (.undef)=false:=rfl
theorem Hz:AV.gpfree (.undef)=true:=rfl
theorem HD (k:IntKind) (n:Int):AV.strip (.int k n)= .int k n:=rfl
theorem Qbk (k:IntKind) (n:Int):AV.ok (.int k n)=true:=rfl
theorem BH (k:IntKind) (n:Int):AV.one (.int k n)=true:=rfl
theorem Bw (k:IntKind) (n:Int):AV.gpfree (.int k n)=true:=rfl
theorem IM (b:Bool):AV.strip (.bool b)= .bool b:=rfl
theorem BD (b:Bool):AV.ok (.bool b)=true:=rfl
theorem Eu (b:Bool):AV.one (.bool b)=true:=rfl
theorem Eo (b:Bool):AV.gpfree (.bool b)=true:=rfl
theorem HE:AV.strip (.nlp)= .nlp:=rfl
theorem Qbl:AV.ok (.nlp)=true:=rfl
theorem BI:AV.one (.nlp)=true:=rfl
theorem Bx:AV.gpfree (.nlp)=true:=rfl
theorem IL:AV.strip (.anyb)= .anyb:=rfl
theorem BC:AV.ok (.anyb)=true:=rfl
theorem Et:AV.one (.anyb)=true:=rfl
theorem Em:AV.gpfree (.anyb)=true:=rfl
theorem HF (s:List UInt8):AV.strip (.str s)= .str s:=rfl
theorem Qbm (s:List UInt8):AV.ok (.str s)=true:=rfl
theorem BJ (s:List UInt8):AV.one (.str s)=true:=rfl
theorem Bz (s:List UInt8):AV.gpfree (.str s)=true:=rfl
theorem HB (cs:List AV):AV.strip (.agg cs)= .agg cs:=rfl
theorem Qbi (cs:List AV):AV.ok (.agg cs)=true:=rfl
theorem BF (cs:List AV):AV.one (.agg cs)=false:=rfl
theorem Bu (cs:List AV):AV.gpfree (.agg cs)=gpfreeL cs:=rfl
theorem ED (o:Bool) (z:Nat) (xs:List (List AV)):AV.strip (.sl o z xs)= .sl false z xs:=rfl
theorem Qex (o:Bool) (z:Nat) (xs:List (List AV)):AV.ok (.sl o z xs)=true:=rfl
theorem Qbs (o:Bool) (z:Nat) (xs:List (List AV)):AV.one (.sl o z xs)=true:=rfl
theorem Qbh (o:Bool) (z:Nat) (xs:List (List AV)):AV.gpfree (.sl o z xs)=gpfreeE xs:=rfl
theorem Ew (cs:List AV):AV.strip (.bx cs)= .bx cs:=rfl
theorem Qet (cs:List AV):AV.ok (.bx cs)=false:=rfl
theorem Qbo (cs:List AV):AV.one (.bx cs)=false:=rfl
theorem Qbe (cs:List AV):AV.gpfree (.bx cs)=gpfreeL cs:=rfl
theorem Ez (i o:Nat):AV.strip (.gp i o)= .gp i o:=rfl
theorem Qev (i o:Nat):AV.ok (.gp i o)=true:=rfl
theorem Qbq (i o:Nat):AV.one (.gp i o)=true:=rfl
theorem Qbg (i o:Nat):AV.gpfree (.gp i o)=false:=rfl
theorem EC (i o z n:Nat):AV.strip (.gs i o z n)= .gs i o z n:=rfl
theorem Qew (i o z n:Nat):AV.ok (.gs i o z n)=true:=rfl
theorem Qbr (i o z n:Nat):AV.one (.gs i o z n)=true:=rfl
theorem IO (cs:List AV):AV.strip (.rptr cs)= .rptr cs:=rfl
theorem BE (cs:List AV):AV.ok (.rptr cs)=true:=rfl
theorem Ev (cs:List AV):AV.one (.rptr cs)=true:=rfl
theorem Ep (cs:List AV):AV.gpfree (.rptr cs)=gpfreeL cs:=rfl
theorem Ey (f:Nat) (cs:List AV):AV.strip (.fn f cs)= .fn f cs:=rfl
theorem Qeu (f:Nat) (cs:List AV):AV.ok (.fn f cs)=true:=rfl
theorem Qbp (f:Nat) (cs:List AV):AV.one (.fn f cs)=true:=rfl
theorem Qbf (f:Nat) (cs:List AV):AV.gpfree (.fn f cs)=gpfreeL cs:=rfl
theorem HG (vs:List AV):AV.strip (.tup vs)= .tup vs:=rfl
theorem Qbn (vs:List AV):AV.ok (.tup vs)=true:=rfl
theorem BK (vs:List AV):AV.one (.tup vs)=false:=rfl
theorem BA (vs:List AV):AV.gpfree (.tup vs)=gpfreeL vs:=rfl
theorem HC (b:Bool):AV.strip (.err b)= .err b:=rfl
theorem Qbj (b:Bool):AV.ok (.err b)=true:=rfl
theorem BG (b:Bool):AV.one (.err b)=true:=rfl
theorem Bv (b:Bool):AV.gpfree (.err b)=true:=rfl
theorem QaU {α:Type} (p:Prop) [Decidable p] (a b c:α): (if p then(if p then a else b)else c)=if p then a else c:=by split <;> simp_all
theorem QaT {α:Type} (p:Prop) [Decidable p] (a b c:α): (if p then a else(if p then b else c))=if p then a else c:=by split <;> simp_all
attribute [simp] HE Qbl BI Bx LS Er HA Hz HD Qbk BH Bw IM BD Eu Eo IL BC Et Em HF Qbm BJ Bz HB Qbi BF Bu ED Qex Qbs Qbh Ew Qet Qbo Qbe Ez Qev Qbq Qbg EC Qew Qbr IO BE Ev Ep Ey Qeu Qbp Qbf HG Qbn BK BA HC Qbj BG Bv QaU QaT
attribute [simp] eqVE_refl QfQ Qhh QfO Qhg Qhi Qcp QfN Qhf QfK Qcn QeS Qcj QeR BU BT FE HH Qbx BS LD Fo I9 Hn QaJ PP Lk Lj PO FS Hr Qe QhS QhR AD I7 Ym aun Yg YC Wd gpfreeL gpfreeE YY Z1 cellsOf put QeM QfJ Qcl Aq Qcm Qci Qd6 Se QbS Hv FW BP BL QgV QgW QeC QeD Qez QeA BR Qbv BO BN Qbu EF QeB Qbw BQ Ec
attribute [simp ↓] QfZ
attribute [simp 2000] QeT Qck Qh3 Qh2
theorem Hs (c:Bool) (x y:Out):Yo c false x y=Yo c true y x:=by cases c <;> rfl
theorem Hq (c x y:Bool) (s:List (List AV)):Yo c true (some (.bool x,s)) (some (.bool y,s))=some (.bool (bif c then x else y),s):=by cases c <;> rfl
theorem J1 (c:Bool) (k:IntKind) (x y:Int) (s:List (List AV)):Yo c true (some (.int k x,s)) (some (.int k y,s))=some (.int k (bif c then x else y),s):=by cases c <;> rfl
theorem Qc {T:Nat→Option AFn} {c c':AC} (h:c=c') (ρ:Nat→AV) (bs:List (List AV)) (k:Kn):R T (.loop c) ρ bs k=R T c' ρ bs (Qu T (.loop c) k):=by
 subst h;exact QfP c ρ bs k
attribute [simp] toI
theorem QP {α:Type} (x:α) (xs:List α): (x:: xs)[0]? =some x:=rfl
attribute [simp] Hs Hq J1 XU Yk Q9 Bool.cond_decide
theorem QB {n:Int} (h1: -9223372036854775808≤n) (h2:n < 9223372036854775808):IntKind.i64.wrap n=n:=by
 simp only[IntKind.wrap_i64];omega
theorem wr1 (n:Nat) (h:n+1 < 9223372036854775808):IntKind.i64.wrap ((n:Int)+1)=(n:Int)+1:=QB (by omega) (by omega)
theorem QE {α:Type} {l pre post:List α} {x:α} (h:l=pre ++ x:: post):l.length=pre.length+ (post.length+1):=by rw[h];simp
theorem QF {α:Type} {l pre post:List α} {x:α} (h:l=pre ++ x:: post): (pre.length:Int) < (l.length:Int):=by have:=QE h;omega
@[simp] theorem QiM (n:Nat) (vs:List AV):stV (.t n) vs=vs.map AV.strip:=rfl
@[simp] theorem QiJ (z:Nat) (vs:List AV):stV (.c (.sl true z [])) vs=vs.map fun _=> .sl true z []:=rfl
@[simp] theorem QiI (k:IntKind) (n:Int) (vs:List AV):stV (.c (.int k n)) vs=vs.map AV.strip:=rfl
@[simp] theorem QiK (s:List UInt8) (vs:List AV):stV (.c (.str s)) vs=vs.map AV.strip:=rfl
@[simp] theorem Qix (b:Bool) (vs:List AV):stV (.c (.bool b)) vs=vs.map AV.strip:=rfl
@[simp] theorem QiG (cs:List AV) (vs:List AV):stV (.c (.agg cs)) vs=vs.map AV.strip:=rfl
@[simp] theorem QiH (b:Bool) (vs:List AV):stV (.c (.err b)) vs=vs.map AV.strip:=rfl
@[simp] theorem QiC (i o k:Nat):T9 (.gs i o 0 0) (.sl true k [])= .sl true k []:=rfl
@[simp] theorem Qir (k:IntKind) (n:Int) (z:AV):T9 (.int k n) z= .int k n:=rfl
@[simp] theorem Qis (s:List UInt8) (z:AV):T9 (.str s) z= .str s:=rfl
@[simp] theorem QhY (b:Bool) (z:AV):T9 (.bool b) z= .bool b:=rfl
@[simp] theorem QiD (o:Bool) (k:Nat) (xs:List (List AV)) (z:AV):T9 (.sl o k xs) z= .sl false k xs:=rfl
attribute [simp] XY
@[simp] theorem QhP (i:Nat):AV.strip (.mp i)= .mp i:=rfl
@[simp] theorem QgU (z:Nat) (xs:List (List AV)) (vs:List AV):AV.strip (.otup z xs vs)= .tup (.sl false z xs:: vs):=rfl
@[simp] theorem QhZ (z:Nat) (xs:List (List AV)) (vs:List AV):AV.ok (.otup z xs vs)=true:=rfl
@[simp] theorem QhO (z:Nat) (xs:List (List AV)) (vs:List AV):AV.gpfree (.otup z xs vs)=(gpfreeE xs && gpfreeL vs):=rfl
@[simp] theorem QhQ (z:Nat) (cs:List AV):AV.strip (.pv z cs)= .pv z cs:=rfl
@[simp] theorem QiF (z:Nat) (cs:List AV):AV.ok (.pv z cs)=false:=rfl
@[simp] theorem QiE (i:Nat):AV.ok (.mp i)=true:=rfl
@[simp] theorem Qiw (i:Nat):AV.one (.mp i)=true:=rfl
@[simp] theorem Qiv (i:Nat):AV.gpfree (.mp i)=false:=rfl
@[simp] theorem TM: ∀bs:List (List AV),Z7 bs bs=true
 | []=>rfl
 | x:: xs=>by simp only[Z7,eqVL_refl,TM xs,Bool.true_or,Bool.true_and]
@[simp] theorem Qh8 (ys:List (List AV)):Z7 [] ys=true:=rfl
@[simp] theorem Hj (a b c:List (List AV)):Z7 (a ++ b) (a ++ c)=Z7 b c:=by
 induction a with
 | nil=>rfl
 | cons x xs ih=>simp only[List.cons_append,Z7,eqVL_refl,ih,Bool.true_or,Bool.true_and]
@[simp] theorem Qh7 (a c:List (List AV)):Z7 a (a ++ c)=true:=by
 have:=Hj a [] c;simpa using this
@[simp] theorem QhU (x:List AV) (xs ys:List (List AV)):Z7 (x:: xs) (x:: ys)=Z7 xs ys:=by simp only[Z7,eqVL_refl,Bool.true_or,Bool.true_and]
@[simp] theorem Jx {cs:List AV} (h:gpfreeL cs=true): ∀(bs:List (List AV)) (i:Nat),Z7 bs (bs.set i cs)=true
 | [],_=>rfl
 | x:: xs,0=>by simp only[List.set_cons_zero,Z7,h,TM,Bool.or_true,Bool.and_true]
 | x:: xs,i+1=>by simp only[List.set_cons_succ,Z7,eqVL_refl,Jx h xs i,Bool.true_or,Bool.and_true]
theorem MD: ∀{xs ys:List (List AV)},xs.length≤ys.length→(∀(i:Nat) (x y:List AV),xs[i]? =some x→ys[i]? =some y→x=y∨gpfreeL y=true)→Z7 xs ys=true
 | [],_,_,_=>rfl
 | _:: _,[],h,_=>by simp at h
 | x:: xs,y:: ys,h,hh=>by
  simp only[Z7,Bool.and_eq_true,Bool.or_eq_true];refine⟨?_,MD (by simpa using h) fun i a b ha hb=>hh (i+1) a b (by simpa using ha) (by simpa using hb)⟩;rcases hh 0 x y rfl rfl with h1 | h1
  ·subst h1;exact .inl (eqVL_refl x)
  ·exact .inr h1
@[simp] theorem QiA {x y:List AV} (h:gpfreeL y=true) (xs ys:List (List AV)):Z7 (x:: xs) (y:: ys)=Z7 xs ys:=by simp only[Z7,h,Bool.or_true,Bool.true_and]
@[simp] theorem Qg3:gpfreeL []=true:=rfl
@[simp] theorem JZ (x:AV) (xs:List AV):gpfreeL (x:: xs)=(x.gpfree && gpfreeL xs):=rfl
@[simp] theorem Hp: ∀n:Nat,gpfreeL (List.replicate n .undef)=true
 | 0=>rfl
 | n+1=>by rw[List.replicate_succ,JZ,Hp n];rfl
@[simp] theorem Jy (bs:List (List AV)) (i:Nat):Z7 bs (bs.set i [])=true:=Jx rfl bs i
end Go.Am
namespace Go.Am
set_option maxRecDepth 8000
theorem Px (a b:Int) (bs:List (List AV)):call F.tb 32 [.int .i64 a,.int .i64 b] bs=some (.int .i64 (if a < b then -1 else if a > b then 1 else 0),bs):=by
 rw[Qa F.tb_32 _ _ rfl];simp[F.f32,F.f32C]
def V1 (c:UInt8):Bool:=(97≤c.toNat && c.toNat≤122) || (65≤c.toNat && c.toNat≤90) || (48≤c.toNat && c.toNat≤57) || c.toNat == 95 || c.toNat == 35
theorem Ju (n m:Nat): ((n:Int) == (m:Int))=(n == m):=by rw[Bool.eq_iff_iff,beq_iff_eq,beq_iff_eq];omega
theorem NL (n:Nat): ((n:Int) == 95)=(n == 95):=Ju n 95
theorem NK (n:Nat): ((n:Int) == 35)=(n == 35):=Ju n 35
theorem Pv (c:UInt8) (bs:List (List AV)):call F.tb 9 [.int .u8 c.toNat] bs=some (.bool (V1 c),bs):=by
 rw[Qa F.tb_9 _ _ rfl];simp (config:={maxSteps:=1000000}) [F.f9,F.f9C,V1,NL,NK];have e1: ∀m:Nat,((m:Int)≤(c.toNat:Int))=(m≤c.toNat):=fun m=>by simp
 have e2: ∀m:Nat,((c.toNat:Int)≤(m:Int))=(c.toNat≤m):=fun m=>by simp
 simp only[show(97:Int)=((97:Nat):Int)from rfl,show(122:Int)=((122:Nat):Int)from rfl,show(65:Int)=((65:Nat):Int)from rfl,show(90:Int)=((90:Nat):Int)from rfl,show(48:Int)=((48:Nat):Int)from rfl,show(57:Int)=((57:Nat):Int)from rfl,e1,e2];by_cases h1:97≤c.toNat <;> by_cases h2:c.toNat≤122 <;> by_cases h3:65≤c.toNat <;> by_cases h4:c.toNat≤90 <;> by_cases h5:48≤c.toNat <;> by_cases h6:c.toNat≤57 <;> simp[h1,h2,h3,h4,h5,h6]
theorem Hu (s:List UInt8) (bs:List (List AV)) (hs:s.length < 4611686018427387904): ∀(k i:Nat) (ρ:Nat→AV),s.length - i=k→i≤s.length→ρ 0= .str s→ρ 38= .int .i64 s.length→ρ 39= .int .i64 i→
  R F.tb (.loop F.f8l0) ρ bs (Qj 0 (Qu F.tb F.f8r0 (Qx F.f8 bs)))=some (.bool ((s.drop i).all V1),bs):=by
 intro k
 induction k with
 | zero=>
  intro i ρ hk hi h0 h38 h39;have:i=s.length:=by omega
  subst this;rw[Qc F.f8l0.eq_1];simp[h0,h38,h39,F.f8r0]
 | succ k ih=>
  intro i ρ hk hi h0 h38 h39;have hlt:i < s.length:=by omega
  have hw:IntKind.i64.wrap ((i:Int)+1)=((i+1:Nat):Int):=QB (by omega) (by omega);rw[Qc F.f8l0.eq_1,List.drop_eq_getElem_cons hlt,List.all_cons];cases hb:V1 s[i]
  ·simp[h0,h38,h39,hlt,Pv,hb]
  ·simp[h0,h38,h39,hlt,Pv,hb,hw];rw[ih (i+1)] <;> first | rfl | omega | simp[h0,h38]
def Xh:List UInt8→Bool
 | []=>false
 | c:: r=>decide (r.length < 24) && V1 c && !(decide (48≤c.toNat) && decide (c.toNat≤57)) && c.toNat != 95 && c.toNat != 35 && r.all V1
theorem Hf (s:List UInt8) (bs:List (List AV)) (hs:s.length < 4611686018427387904):call F.tb 8 [.str s] bs=some (.bool (Xh s),bs):=by
 rw[Qa F.tb_8 _ _ rfl];cases s with
 | nil=>simp[F.f8C,Xh]
 | cons c r=>
  have hl:=Hu (c:: r) bs hs ((c:: r).length - 0) 0;simp (config:={maxSteps:=1000000}) [F.f8C,Pv,hl,NL,NK];have e1: (24 < (r.length:Int)+1)=(¬r.length < 24):=by rw[eq_iff_iff];omega
  have e2: ((48:Int)≤(c.toNat:Int))=(48≤c.toNat):=by rw[eq_iff_iff];omega
  have e3: ((c.toNat:Int)≤57)=(c.toNat≤57):=by rw[eq_iff_iff];omega
  simp only[Xh,e1,e2,e3,bne];by_cases h1:r.length < 24 <;> by_cases h2:48≤c.toNat <;> by_cases h3:c.toNat≤57 <;> cases V1 c <;> simp[h1,h2,h3]
end Go.Am
namespace Go.Am
set_option maxRecDepth 8000
attribute [simp] MJ MK
attribute [simp] W2 ZH Uq Q0
attribute [simp] YJ UQ ZY QL Qg La CE CF CG CH Gj Gk Gl Gm Oo encTs_gp
attribute [simp] Int.toNat_natCast
attribute [simp] MJ MK
theorem Pp (t:Tm) (bs:List (List AV)) (hm:t.mass < big) (ih: ∀x∈t.kids,∀bs,call F.tb 31 [.agg (Qb x)] bs=some (.int .i64 x.nodes,bs)):
  ∀(post pre:List Tm) (ρ:Nat→AV),t.kids=pre ++ post→ρ 7= .sl false 4 (encTs t.kids)→ρ 8= .int .i64 t.kids.length→ρ 9= .int .i64 pre.length→ρ 3= .int .i64 (1+nodesL pre:Nat)→
  R F.tb (.loop F.f31l0) ρ bs (Qj 0 (Qu F.tb F.f31r0 (Qx F.f31 bs)))=some (.int .i64 t.nodes,bs):=by
 have hm2:=Qp t;have hn:=nodesL_le_mass t.kids;unfold big at hm;intro post
 induction post with
 | nil=>
  intro pre ρ hk h7 h8 h9 h3;rw[Qc F.f31l0.eq_1];simp at hk;simp[h3,h8,h9,← hk,F.f31r0,YM]
 | cons x post IH=>
  intro pre ρ hk h7 h8 h9 h3;have hg:=Qt hk;have hl:=QE hk;have hnn:nodesL t.kids=nodesL pre+ (x.nodes+nodesL post):=by rw[hk,Yu];simp[nodesL]
  have hw1:=wr1 pre.length (by omega);have hw2:IntKind.i64.wrap (1+ (nodesL pre:Int)+ (x.nodes:Int))=1+ (nodesL pre:Int)+ (x.nodes:Int):=QB (by omega) (by omega);have hlt:=QF hk;rw[Qc F.f31l0.eq_1];simp[h3,h7,h8,h9,hg,hw1,hw2,hlt,ih x (by rw[hk];simp)];rw[IH (pre ++ [x])] <;> simp[h3,h7,h8,h9,hk,Yu,nodesL];omega
theorem UO: ∀(t:Tm) (bs:List (List AV)),t.mass < big→call F.tb 31 [.agg (Qb t)] bs=some (.int .i64 t.nodes,bs):=by
 refine ZG ?_;intro k n s ks ih bs hm;rw[Qa F.tb_31 _ _ rfl];simp[F.f31C];refine Pp (.mk k n s ks) bs hm (fun x hx bs=>ih x hx bs ?_) ks [] _ ?_ ?_ ?_ ?_ ?_ <;> (try simp[nodesL]);have:=QC hx;have:=Qp (.mk k n s ks);simp at *;omega
end Go.Am
namespace Go.Am
set_option maxRecDepth 8000
def two (bs:List (List AV)) (i j:Nat) (n d:Int):List (List AV):=(bs.set i [.int .i64 n]).set j [.int .i64 d]
section
variable {bs:List (List AV)} {i j:Nat} {n d m:Int}
theorem Tj: (two bs i j n d).length=bs.length:=by simp[two]
theorem Qcb (hi:i < bs.length) (hij:i≠j): (two bs i j n d)[i]? =some [.int .i64 n]:=by
 rw[two,List.getElem?_set_ne (Ne.symm hij),List.getElem?_set_self hi]
theorem Qcc (hj:j < bs.length): (two bs i j n d)[j]? =some [.int .i64 d]:=by simp[two,hj]
theorem QbO (hij:i≠j): (two bs i j n d).set i [.int .i64 m]=two bs i j m d:=by
 simp only[two];rw[List.set_comm _ _ (Ne.symm hij),List.set_set]
@[simp] theorem Jz {n' d':Int}:Z7 (two bs i j n d) (two bs i j n' d')=true:=MD (by simp[Tj]) fun k x y hx hy=>by
 unfold two at hx hy;rw[List.getElem?_set]at hx hy;split at hy
 ·split at hy
  ·injection hy with hy;subst hy;exact .inr rfl
  ·cases hy
 ·rename_i hjk;rw[if_neg hjk]at hx;rw[List.getElem?_set]at hx hy;split at hy
  ·split at hy
   ·injection hy with hy;subst hy;exact .inr rfl
   ·cases hy
  ·rename_i hik;rw[if_neg hik,hy]at hx;injection hx with hx
   exact .inl hx.symm
theorem QbP: (two bs i j n d).set j [.int .i64 m]=two bs i j n m:=by simp[two]
end
def U2 (t:Tm):Int:=
 if t.kind=1∨t.kind=2 then
  if(t.sort < 0∨5 < t.sort)∨0 < t.kids.length then 1 else if Xh t.name=false then 2 else if 8 < t.kids.length then 3 else 0
 else if t.kind=3 then
  if t.sort≠0 then 1 else if Xh t.name=false then 2 else if 8 < t.kids.length then 3 else 0
 else 1
mutual
def YK:Tm→Int
 | .mk k n s ks=>if U2 (.mk k n s ks)≠0 then U2 (.mk k n s ks)else errL ks
def errL:List Tm→Int
 | []=>0
 | t:: ts=>if YK t≠0 then YK t else errL ts
end
mutual
def Wn:Tm→Int→Int×Int→Int×Int
 | .mk k n s ks,l,p=>if U2 (.mk k n s ks)≠0 then(p.1+1,if l > p.2 then l else p.2)else cntL ks l (p.1+1,if l > p.2 then l else p.2)
def cntL:List Tm→Int→Int×Int→Int×Int
 | [],_,p=>p
 | t:: ts,l,p=>if YK t≠0 then Wn t (l+1) p else cntL ts l (Wn t (l+1) p)
end
mutual
theorem Ga: ∀(t:Tm) (l:Int) (p:Int×Int),p.1≤(Wn t l p).1∧(Wn t l p).1≤p.1+t.nodes
 | .mk k n s ks,l,p=>by
  simp only[Wn,Tm.nodes];have:=cntL_le ks l (p.1+1,if l > p.2 then l else p.2);split <;> simp at * <;> omega
theorem cntL_le: ∀(ts:List Tm) (l:Int) (p:Int×Int),p.1≤(cntL ts l p).1∧(cntL ts l p).1≤p.1+nodesL ts
 | [],l,p=>by simp[cntL,nodesL]
 | t:: ts,l,p=>by
  simp only[cntL,nodesL];have:=Ga t (l+1) p;have:=cntL_le ts l (Wn t (l+1) p);split <;> omega
end
theorem Fz (t:Tm) (l:Int) (bs:List (List AV)) (i j:Nat) (hi:i < bs.length) (hj:j < bs.length) (hij:i≠j) (hm:t.mass < big) (hl:0≤l∧l+t.depth≤big) (n0 d0:Int)
  (ih: ∀x∈t.kids,∀n d:Int,0≤n→n+x.nodes < 2*big→call F.tb 7 [.agg (Qb x),.int .i64 (l+1),.gp i 0,.gp j 0] (two bs i j n d)=some (.int .i64 (YK x),two bs i j (Wn x (l+1) (n,d)).1 (Wn x (l+1) (n,d)).2)):
  ∀(post pre:List Tm) (n d:Int) (ρ:Nat→AV),0≤n→n+nodesL post < 2*big→t.kids=pre ++ post→ρ 57= .sl false 4 (encTs t.kids)→ρ 58= .int .i64 t.kids.length→ρ 59= .int .i64 pre.length→
   ρ 1= .int .i64 l→ρ 2= .gp i 0→ρ 3= .gp j 0→
  R F.tb (.loop F.f7l0) ρ (two bs i j n d) (Qj 1 (Qu F.tb F.f7r0 (Qx F.f7 (two bs i j n0 d0))))=
   some (.int .i64 (errL post),two bs i j (cntL post l (n,d)).1 (cntL post l (n,d)).2):=by
 have hm2:=Qp t;have hdp:=RA t;unfold big at *;have hji:=Ne.symm hij;intro post
 induction post with
 | nil=>
  intro pre n d ρ hn hnb hk h57 h58 h59 h1 h2 h3;rw[Qc F.f7l0.eq_1];simp at hk;simp[h1,h2,h3,h57,h58,h59,← hk,F.f7r0,errL,cntL,Tj];rw[List.take_of_length_le (by simp[Tj])];exact⟨Jz,rfl⟩
 | cons x post IH=>
  intro pre n d ρ hn hnb hk h57 h58 h59 h1 h2 h3;have hg:=Qt hk;have hlen:t.kids.length=pre.length+ (post.length+1):=by rw[hk];simp
  simp only[nodesL]at hnb;have hw1:=wr1 pre.length (by omega);have hw2:IntKind.i64.wrap (l+1)=l+1:=QB (by omega) (by omega);have hlt: (pre.length:Int) < (t.kids.length:Int):=by omega
  have hx:=ih x (by rw[hk];simp) n d hn (by omega);have hc:=Ga x (l+1) (n,d);rw[Qc F.f7l0.eq_1];by_cases he:YK x=0
  ·simp[h1,h2,h3,h57,h58,h59,hg,hw1,hw2,hlt,hx,he];simp only[errL,cntL,he,ne_eq,not_true,if_false];rw[IH (pre ++ [x])] <;> (first | (simp at hc;omega) | simp[h1,h2,h3,h57,h58,h59,hk])
  ·simp[h1,h2,h3,h57,h58,h59,hg,hw1,hw2,hlt,hx,he,errL,cntL];rw[List.take_of_length_le (by simp[Tj])];exact⟨Jz,rfl⟩
theorem Fv: ∀(t:Tm) (l:Int) (bs:List (List AV)) (i j:Nat) (n d:Int),i < bs.length→j < bs.length→i≠j→t.mass < big→0≤l→l+t.depth≤big→0≤n→n+t.nodes < 2*big→
  call F.tb 7 [.agg (Qb t),.int .i64 l,.gp i 0,.gp j 0] (two bs i j n d)=some (.int .i64 (YK t),two bs i j (Wn t l (n,d)).1 (Wn t l (n,d)).2):=by
 refine ZG ?_;intro k nm s ks ih l bs i j n d hi hj hij hm hl hld hn hnb;have hm2:=Qp (.mk k nm s ks);have hnn:=YM (.mk k nm s ks);have hdp:=RA (.mk k nm s ks);simp only[Q0,ZH]at hm2 hnn hdp;have hdl:=depthL_le_nodes ks;have hnm:=nodesL_le_mass ks;have hloop: ∀ρ:Nat→AV,ρ 57= .sl false 4 (encTs ks)→ρ 58= .int .i64 ks.length→ρ 59= .int .i64 0→
   ρ 1= .int .i64 l→ρ 2= .gp i 0→ρ 3= .gp j 0→
  R F.tb (.loop F.f7l0) ρ (two bs i j (n+1) (if l > d then l else d)) (Qj 1 (Qu F.tb F.f7r0 (Qx F.f7 (two bs i j n d))))=
   some (.int .i64 (errL ks),two bs i j (cntL ks l (n+1,if l > d then l else d)).1 (cntL ks l (n+1,if l > d then l else d)).2):=by
  intro ρ h57 h58 h59 h1 h2 h3;refine Fz (.mk k nm s ks) l bs i j hi hj hij hm ⟨hl,hld⟩ n d ?_ ks [] (n+1) (if l > d then l else d) ρ (by omega) (by omega) rfl h57 h58 h59 h1 h2 h3;intro x hx n d hn hnb;have h1:=QC hx;have h2:=NN hx;simp only[Q0]at h1 h2;exact ih x hx (l+1) bs i j n d hi hj hij (by omega) (by omega) (by omega) hn hnb
 unfold big at hm hnb;have hw:IntKind.i64.wrap (n+1)=n+1:=QB (by omega) (by omega);have hji:=Ne.symm hij;have htk: ∀(a b:Int),List.take bs.length (two bs i j a b)=two bs i j a b:=fun a b=>List.take_of_length_le (by simp[Tj]);have hnl:nm.length < 4611686018427387904:=by omega
 have hks: ((8:Int) < ks.length)=(8 < ks.length):=by rw[eq_iff_iff];omega
 rw[Qa F.tb_7 _ _ rfl];simp (config:={maxSteps:=1000000}) [F.f7C,hw,Qcb hi hij,Qcc hj,QbO hij,QbP,Tj,Hf,hnl,htk,hks];simp only[gt_iff_lt]at hloop;clear ih hm hl hld hn hnb hm2 hnn hdp hdl hnm hw htk hnl hks hi hj hij hji;generalize hdd: (if d < l then l else d)=d' at *;simp only[XX,decide_eq_true_eq,Bool.or_eq_true]
 repeat' split
 all_goals simp only[YK,Wn,U2,W2,Uq,ZH,Q0,gt_iff_lt,hdd]
 all_goals first
  | (rw[hloop] <;> simp[*];done)
  | (simp[*];done)
  | skip
def Qz (t:Tm):Int:=if YK t≠0 then YK t else if 400 < t.nodes∨40 < t.depth then 3 else 0
mutual
theorem Gc: ∀(t:Tm) (l:Int) (p:Int×Int),YK t=0→Wn t l p=(p.1+t.nodes,max p.2 (l+t.depth - 1))
 | .mk k n s ks,l,p,h=>by
  simp only[YK]at h;split at h
  ·rename_i hne;exact absurd h hne
  ·rename_i hne;simp only[Wn,hne,if_false,Tm.nodes,Tm.depth];rw[cntL_ok ks l _ h];refine Prod.ext ?_ ?_
   ·simp;omega
   ·cases ks with
    | nil=>simp[depthL,nodesL];split <;> omega
    | cons t ts=>simp[depthL];split <;> omega
theorem cntL_ok: ∀(ts:List Tm) (l:Int) (p:Int×Int),errL ts=0→cntL ts l p=(p.1+nodesL ts,if ts=[]then p.2 else max p.2 (l+depthL ts))
 | [],l,p,_=>by simp[cntL,nodesL]
 | t:: ts,l,p,h=>by
  simp only[errL]at h;split at h
  ·rename_i hne;exact absurd h hne
  ·rename_i hne;have he:YK t=0:=by simpa using hne
   simp only[cntL,hne,if_false,nodesL,depthL];rw[cntL_ok ts l _ h,Gc t (l+1) p he];refine Prod.ext ?_ ?_
   ·simp;omega
   ·cases ts with
    | nil=>simp[depthL];omega
    | cons u us=>simp[depthL];omega
end
theorem Wm (t:Tm) (bs:List (List AV)) (hm:t.mass < big):call F.tb 6 [.agg (Qb t)] bs=some (.int .i64 (Qz t),bs):=by
 have h2:bs ++ [[AV.int .i64 0],[AV.int .i64 0]]=two (bs ++ [[AV.int .i64 0],[AV.int .i64 0]]) bs.length (bs.length+1) 0 0:=by
  simp[two]
 have hn:=ZL t;have hd:=Re t;have hb:big=1099511627776:=rfl;have hc:=Fv t 1 (bs ++ [[AV.int .i64 0],[AV.int .i64 0]]) bs.length (bs.length+1) 0 0 (by simp) (by simp) (by omega) hm (by omega) (by omega) (by omega) (by omega);rw[← h2]at hc;have hi:=Qcb (bs:=bs ++ [[AV.int .i64 0],[AV.int .i64 0]]) (i:=bs.length) (j:=bs.length+1) (n:=(Wn t 1 (0,0)).1) (d:=(Wn t 1 (0,0)).2) (by simp) (by omega);have hj:=Qcc (bs:=bs ++ [[AV.int .i64 0],[AV.int .i64 0]]) (i:=bs.length) (j:=bs.length+1) (n:=(Wn t 1 (0,0)).1) (d:=(Wn t 1 (0,0)).2) (by simp);have htk:List.take bs.length (two (bs ++ [[AV.int .i64 0],[AV.int .i64 0]]) bs.length (bs.length+1) (Wn t 1 (0,0)).1 (Wn t 1 (0,0)).2)=bs:=by
  simp[two]
 have hcnt:=Gc t 1 (0,0);rw[Qa F.tb_6 _ _ rfl];simp[F.f6C,hc,hi,hj,htk,Qz];by_cases he:YK t=0
 ·have:=RA t;have e1: (400 < (t.nodes:Int))=(400 < t.nodes):=by rw[eq_iff_iff];omega
  have e2: (40 < (max 0 (1+ (t.depth:Int) - 1)))=(40 < t.depth):=by rw[eq_iff_iff];omega
  simp[he,hcnt he,e1,e2,XX]
 ·simp[he]
end Go.Am
namespace Go.Am
set_option maxRecDepth 8000
theorem Rx (a b:Int) (bs:List (List AV)):call F.tb 32 [.int .i64 a,.int .i64 b] bs=some (.int .i64 (sgn a b),bs):=Px a b bs
theorem O0 (a b:List UInt8) (bs:List (List AV)):call F.tb 33 [.str a,.str b] bs=some (.int .i64 (Y1 a b),bs):=by
 rw[ZP F.tb_33];rfl
theorem Tk (t u:Tm) (bs:List (List AV)) (hm:t.mass < big) (hu:u.mass < big)
  (ih: ∀x∈t.kids,∀y bs,y.mass < big→call F.tb 30 [.agg (Qb x),.agg (Qb y)] bs=some (.int .i64 (Qh x y),bs)):
  ∀(xs ys pre pre':List Tm) (c:Int) (ρ:Nat→AV),t.kids=pre ++ xs→u.kids=pre' ++ ys→pre.length=pre'.length→(c=0→xs.length=ys.length)→
   ρ 2= .bx (Qb t)→ρ 3= .bx (Qb u)→ρ 5= .int .i64 c→ρ 6= .int .i64 pre.length→
  R F.tb (.loop F.f30l0) ρ bs (Qj 0 (Qu F.tb F.f30r0 (Qx F.f30 bs)))=some (.int .i64 (or0 c (cmpL xs ys)),bs):=by
 have hm2:=Qp t;have hu2:=Qp u;intro xs
 induction xs with
 | nil=>
  intro ys pre pre' c ρ hk hk' hp hc h2 h3 h5 h6;rw[Qc F.f30l0.eq_1];simp at hk;by_cases h0:c=0
  ·simp[h2,h3,h5,h6,h0,F.f30r0,hk,cmpL,L0]
  ·simp[h2,h3,h5,h6,h0,F.f30r0,cmpL,L0]
 | cons x xs IH=>
  intro ys pre pre' c ρ hk hk' hp hc h2 h3 h5 h6;rw[Qc F.f30l0.eq_1];by_cases h0:c=0
  ·obtain⟨y,ys',rfl⟩: ∃y ys',ys=y:: ys':=by
    have:=hc h0;cases ys with
    | nil=>simp at this
    | cons y ys'=>exact⟨y,ys',rfl⟩
   have hg:=Qt hk;have hg':=Qt hk';rw[← hp]at hg';have hl:t.kids.length=pre.length+ (xs.length+1):=by rw[hk];simp
   have hlt: (pre.length:Int) < (t.kids.length:Int):=by omega
   have hym:y.mass < big:=by have:=QC (x:=y) (ks:=u.kids) (by rw[hk'];simp);omega
   unfold big at hm hu;have hw1:=wr1 pre.length (by omega);simp[h2,h3,h5,h6,h0,hlt,hg,hg',hw1,ih x (by rw[hk];simp) y bs hym];rw[IH ys' (pre ++ [x]) (pre' ++ [y]) (Qh x y)] <;> first | omega | (simp[hk,hk',hp,h2,h3,cmpL,W6];done) | (intro _;have:=hc h0;simp at this;omega)
  ·simp[h2,h3,h5,h6,h0,F.f30r0,cmpL,V0]
theorem call_Compare: ∀(t u:Tm) (bs:List (List AV)),t.mass < big→u.mass < big→call F.tb 30 [.agg (Qb t),.agg (Qb u)] bs=some (.int .i64 (Qh t u),bs):=by
 refine ZG ?_;intro k n s ks ih u bs hm hu;have hloop:=Tk (.mk k n s ks) u bs hm hu (fun x hx y bs hy=>ih x hx y bs (by have:=QC hx;have:=Qp (.mk k n s ks);simp at *;omega) hy) ks u.kids [] [] (hdT (.mk k n s ks) u);rw[Qa F.tb_30 _ _ rfl,Uh];have hsz:=UO (.mk k n s ks) bs hm;have hsz':=UO u bs hu;simp[F.f30C,hsz,hsz',Rx,O0];by_cases c1:sgn (Tm.mk k n s ks).nodes u.nodes=0 <;> by_cases c2:sgn k u.kind=0 <;> by_cases c3:Y1 n u.name=0 <;> by_cases c4:sgn s u.sort=0 <;>
  simp[c1,c2,c3,c4,XX] <;> rw[hloop] <;> first | (simp[hdT,c1,c2,c3,c4,W6,V0];done) | (simp[hdT,c1,c2,c3,c4,TE,W6,V0];omega) | skip
theorem Fg (t:Tm) (bs:List (List AV)) (hm:t.mass < big) (ih: ∀x∈t.kids,∀bs,call F.tb 60 [.agg (Qb x)] bs=some (.int .i64 x.nodes,bs)):
  ∀(post pre:List Tm) (ρ:Nat→AV),t.kids=pre ++ post→ρ 1= .bx (Qb t)→ρ 4= .int .i64 pre.length→ρ 3= .int .i64 (1+nodesL pre:Nat)→
  R F.tb (.loop F.f60l0) ρ bs (Qj 0 (Qu F.tb F.f60r0 (Qx F.f60 bs)))=some (.int .i64 t.nodes,bs):=by
 have hm2:=Qp t;have hn:=nodesL_le_mass t.kids;unfold big at hm;intro post
 induction post with
 | nil=>
  intro pre ρ hk h1 h4 h3;rw[Qc F.f60l0.eq_1];simp at hk;simp[h1,h3,h4,← hk,F.f60r0,YM]
 | cons x post IH=>
  intro pre ρ hk h1 h4 h3;have hg:=Qt hk;have hl:=QE hk;have hnn:nodesL t.kids=nodesL pre+ (x.nodes+nodesL post):=by rw[hk,Yu];simp[nodesL]
  have hw1:=wr1 pre.length (by omega);have hw2:IntKind.i64.wrap (1+ (nodesL pre:Int)+ (x.nodes:Int))=1+ (nodesL pre:Int)+ (x.nodes:Int):=QB (by omega) (by omega);have hlt:=QF hk;rw[Qc F.f60l0.eq_1];simp[h3,h1,h4,hg,hw1,hw2,hlt,ih x (by rw[hk];simp)];rw[IH (pre ++ [x])] <;> simp[h3,h1,h4,hk,Yu,nodesL];omega
theorem Rw: ∀(t:Tm) (bs:List (List AV)),t.mass < big→call F.tb 60 [.agg (Qb t)] bs=some (.int .i64 t.nodes,bs):=by
 refine ZG ?_;intro k n s ks ih bs hm;rw[Qa F.tb_60 _ _ rfl];simp[F.f60C];refine Fg (.mk k n s ks) bs hm (fun x hx bs=>ih x hx bs ?_) ks [] _ ?_ ?_ ?_ ?_ <;> (try simp[nodesL]);have:=QC hx;have:=Qp (.mk k n s ks);simp at *;omega
theorem LH (a b:List Tm):depthL (a ++ b)=max (depthL a) (depthL b):=by
 induction a with
 | nil=>simp[depthL]
 | cons t ts ih=>simp[depthL,ih]
theorem I2 (t:Tm) (bs:List (List AV)) (hm:t.mass < big) (ih: ∀x∈t.kids,∀bs,call F.tb 61 [.agg (Qb x)] bs=some (.int .i64 x.depth,bs)):
  ∀(post pre:List Tm) (ρ:Nat→AV),t.kids=pre ++ post→ρ 1= .bx (Qb t)→ρ 4= .int .i64 pre.length→ρ 3= .int .i64 (depthL pre:Nat)→
  R F.tb (.loop F.f61l0) ρ bs (Qj 0 (Qu F.tb F.f61r0 (Qx F.f61 bs)))=some (.int .i64 t.depth,bs):=by
 have hm2:=Qp t;have hn:=depthL_le_nodes t.kids;have hn2:=nodesL_le_mass t.kids;unfold big at hm;intro post
 induction post with
 | nil=>
  intro pre ρ hk h1 h4 h3;rw[Qc F.f61l0.eq_1];simp at hk;have hw2:IntKind.i64.wrap ((depthL pre:Int)+1)=(depthL pre:Int)+1:=QB (by omega) (by rw[← hk];omega);simp[h1,h3,h4,hk,hw2,F.f61r0,RA]
 | cons x post IH=>
  intro pre ρ hk h1 h4 h3;have hg:=Qt hk;have hl:=QE hk;have hw1:=wr1 pre.length (by omega);have hlt:=QF hk;rw[Qc F.f61l0.eq_1];simp[h3,h1,h4,hg,hw1,hlt,ih x (by rw[hk];simp)];rw[IH (pre ++ [x])] <;> simp[h3,h1,h4,hk,LH,depthL];split <;> omega
theorem Hb: ∀(t:Tm) (bs:List (List AV)),t.mass < big→call F.tb 61 [.agg (Qb t)] bs=some (.int .i64 t.depth,bs):=by
 refine ZG ?_;intro k n s ks ih bs hm;rw[Qa F.tb_61 _ _ rfl];simp[F.f61C];refine I2 (.mk k n s ks) bs hm (fun x hx bs=>ih x hx bs ?_) ks [] _ ?_ ?_ ?_ ?_ <;> (try simp[depthL]);have:=QC hx;have:=Qp (.mk k n s ks);simp at *;omega
theorem Jo (a b:Int) (bs:List (List AV)):call F.tb 91 [.int .i64 a,.int .i64 b] bs=some (.int .i64 (sgn a b),bs):=by
 rw[Qa F.tb_91 _ _ rfl];simp[F.f91,F.f91C,sgn]
theorem LB (t u:Tm) (bs:List (List AV)) (hm:t.mass < big) (hu:u.mass < big)
  (ih: ∀x∈t.kids,∀y bs,y.mass < big→call F.tb 90 [.agg (Qb x),.agg (Qb y)] bs=some (.int .i64 (Qh x y),bs)):
  ∀(xs ys pre pre':List Tm) (ρ:Nat→AV),t.kids=pre ++ xs→u.kids=pre' ++ ys→pre.length=pre'.length→xs.length=ys.length→
   ρ 2= .bx (Qb t)→ρ 3= .bx (Qb u)→ρ 9= .int .i64 pre.length→
  R F.tb (.loop F.f90l0) ρ bs (Qj 0 (Qu F.tb F.f90r0 (Qx F.f90 bs)))=some (.int .i64 (cmpL xs ys),bs):=by
 have hm2:=Qp t;have hu2:=Qp u;intro xs
 induction xs with
 | nil=>
  intro ys pre pre' ρ hk hk' hp hc h2 h3 h9;rw[Qc F.f90l0.eq_1];simp at hk;simp[h2,h3,h9,F.f90r0,hk,cmpL]
 | cons x xs IH=>
  intro ys pre pre' ρ hk hk' hp hc h2 h3 h9;rw[Qc F.f90l0.eq_1];obtain⟨y,ys',rfl⟩: ∃y ys',ys=y:: ys':=by
   cases ys with
   | nil=>simp at hc
   | cons y ys'=>exact⟨y,ys',rfl⟩
  have hg:=Qt hk;have hg':=Qt hk';rw[← hp]at hg';have hl:t.kids.length=pre.length+ (xs.length+1):=by rw[hk];simp
  have hlt: (pre.length:Int) < (t.kids.length:Int):=by omega
  have hym:y.mass < big:=by have:=QC (x:=y) (ks:=u.kids) (by rw[hk'];simp);omega
  unfold big at hm hu;have hw1:=wr1 pre.length (by omega);by_cases h0:Qh x y=0
  ·simp[h2,h3,h9,h0,hlt,hg,hg',hw1,ih x (by rw[hk];simp) y bs hym];rw[IH ys' (pre ++ [x]) (pre' ++ [y])] <;> first | omega | (simp[hk,hk',hp,h0,h2,h3,cmpL,W6];done) | (simp at hc;omega)
  ·simp[h2,h3,h9,h0,hlt,hg,hg',hw1,ih x (by rw[hk];simp) y bs hym,cmpL,V0]
theorem Wz: ∀(t u:Tm) (bs:List (List AV)),t.mass < big→u.mass < big→call F.tb 90 [.agg (Qb t),.agg (Qb u)] bs=some (.int .i64 (Qh t u),bs):=by
 refine ZG ?_;intro k n s ks ih u bs hm hu;have hloop:=LB (.mk k n s ks) u bs hm hu (fun x hx y bs hy=>ih x hx y bs (by have:=QC hx;have:=Qp (.mk k n s ks);simp at *;omega) hy) ks u.kids [] [];rw[Qa F.tb_90 _ _ rfl,Uh];have hsz:=Rw (.mk k n s ks) bs hm;have hsz':=Rw u bs hu;simp[F.f90C,hsz,hsz',Jo];have b0:Y1 n u.name=if Op.bytesLess n u.name then -1 else if(Op.bytesLess n u.name || n == u.name)=false then 1 else 0:=by
  unfold Y1;cases Op.bytesLess n u.name <;> cases hh: (n == u.name) <;> simp
 generalize (n == u.name)=q at *;generalize Op.bytesLess n u.name=p at *;by_cases c1:sgn (Tm.mk k n s ks).nodes u.nodes=0 <;> by_cases c2:sgn k u.kind=0 <;> cases p <;> cases q <;> by_cases c4:sgn s u.sort=0 <;>
  by_cases c6:sgn ks.length u.kids.length=0 <;> simp[c1,c2,c4,c6,XX,hdT,W6,V0,b0]
 all_goals (rw[hloop] <;> (try simp) <;> (try (have:=TE.1 c6;omega)))
theorem WW (t u:Tm) (bs:List (List AV)) (hm:t.mass < big) (hu:u.mass < big):call F.tb 89 [.agg (Qb t),.agg (Qb u)] bs=some (.bool (decide (Qh t u=0)),bs):=by
 rw[Qa F.tb_89 _ _ rfl];simp[F.f89,F.f89C,Wz t u bs hm hu]
end Go.Am
namespace Go.Am
set_option maxRecDepth 8000
end Go.Am
namespace Go.Am
set_option maxRecDepth 8000
def VF (c:UInt8):Bool:=(97≤c.toNat && c.toNat≤122) || (65≤c.toNat && c.toNat≤90)
def Tu (c:UInt8):Bool:=48≤c.toNat && c.toNat≤57
theorem Vt (c:UInt8):V1 c=(VF c || Tu c || c.toNat == 95 || c.toNat == 35):=rfl
theorem WZ (m n:Nat): ((m:Int)≤(n:Int))=(m≤n):=by rw[eq_iff_iff];omega
theorem T4 (c:UInt8) (bs:List (List AV)):call F.tb 58 [.int .u8 c.toNat] bs=some (.bool (VF c),bs):=by
 rw[Qa F.tb_58 _ _ rfl];have e1: ((97:Int)≤(c.toNat:Int))=(97≤c.toNat):=WZ 97 _;have e2: ((c.toNat:Int)≤122)=(c.toNat≤122):=WZ _ 122;have e3: ((65:Int)≤(c.toNat:Int))=(65≤c.toNat):=WZ 65 _;have e4: ((c.toNat:Int)≤90)=(c.toNat≤90):=WZ _ 90;simp[F.f58,F.f58C,VF,e1,e2,e3,e4]
theorem NI (c:UInt8) (bs:List (List AV)):call F.tb 59 [.int .u8 c.toNat] bs=some (.bool (Tu c),bs):=by
 rw[Qa F.tb_59 _ _ rfl];have e1: ((48:Int)≤(c.toNat:Int))=(48≤c.toNat):=WZ 48 _;have e2: ((c.toNat:Int)≤57)=(c.toNat≤57):=WZ _ 57;simp[F.f59,F.f59C,Tu,e1,e2]
theorem M3 (n:Nat): ((n:Int)=95)=(n=95):=by rw[eq_iff_iff];omega
theorem M1 (n:Nat): ((n:Int)=35)=(n=35):=by rw[eq_iff_iff];omega
theorem K4 (s:List UInt8) (bs:List (List AV)) (hs:s.length < 4611686018427387904): ∀(post pre:List UInt8) (ρ:Nat→AV),s=pre ++ post→ρ 0= .str s→ρ 3= .int .i64 pre.length→
  R F.tb (.loop F.f57l0) ρ bs (Qj 0 (Qu F.tb F.f57r0 (Qx F.f57 bs)))=some (.bool (post.all V1),bs):=by
 intro post
 induction post with
 | nil=>
  intro pre ρ hk h0 h3;rw[Qc F.f57l0.eq_1];simp at hk;simp[h0,h3,hk,F.f57r0]
 | cons x post IH=>
  intro pre ρ hk h0 h3;have hg:=Qt hk;have hl:=QE hk;have hw1:=wr1 pre.length (by omega);have hlt:=QF hk;rw[Qc F.f57l0.eq_1];cases hp:V1 x
  ·rw[Vt]at hp;simp only[Bool.or_eq_false_iff]at hp;obtain⟨⟨⟨p1,p2⟩,p3⟩,p4⟩:=hp;have p3': ¬x.toNat=95:=by simpa using p3
   have p4': ¬x.toNat=35:=by simpa using p4
   simp[h0,h3,hg,hw1,hlt,T4,NI,p1,p2,p3',p4',M3,M1,Vt]
  ·simp[h0,h3,hg,hw1,hlt,T4,NI,M3,M1,Vt,XX];split
   ·rename_i hc;simp[Vt,hc]at hp
   ·rw[IH (pre ++ [x])]
    ·simp[Vt]at hp;simp[hp]
    ·simp[hk]
    ·simp[h0]
    ·simp
theorem F0 {c:UInt8} (h:VF c=true):Tu c=false∧(c.toNat == 95)=false∧(c.toNat == 35)=false:=by
 simp only[VF,Bool.or_eq_true,Bool.and_eq_true,decide_eq_true_eq]at h;refine⟨?_,?_,?_⟩
 ·simp only[Tu,Bool.and_eq_false_iff,decide_eq_false_iff_not];omega
 ·simp;omega
 ·simp;omega
theorem Ht (c:UInt8) (r:List UInt8):Xh (c:: r)=(decide (r.length < 24) && VF c && (c:: r).all V1):=by
 have hd: (decide (48≤c.toNat) && decide (c.toNat≤57))=Tu c:=rfl;simp only[Xh,List.all_cons,hd,bne];cases hl:VF c
 ·rw[Vt,hl];cases Tu c <;> cases (c.toNat == 95) <;> cases (c.toNat == 35) <;> simp
 ·obtain⟨h1,h2,h3⟩:=F0 hl;rw[Vt,hl,h1,h2,h3];simp
theorem Jn (s:List UInt8) (bs:List (List AV)) (hs:s.length < 4611686018427387904):call F.tb 57 [.str s] bs=some (.bool (Xh s),bs):=by
 rw[Qa F.tb_57 _ _ rfl];cases s with
 | nil=>simp[F.f57C,Xh]
 | cons c r=>
  have e1: (24 < (r.length:Int)+1)=¬(r.length < 24):=by rw[eq_iff_iff];omega
  have e2: ((r.length:Int)+1=0)=False:=eq_false (by omega);rw[Ht];by_cases h1:r.length < 24 <;> cases h2:VF c <;>
  simp[F.f57C,T4,e1,e2,h1,h2,-List.all_cons];rw[K4 (c:: r) bs hs (c:: r) []] <;> (try simp)
theorem Fq (s:List UInt8) (n:Int) (bs:List (List AV)):call F.tb 107 [.str s,.int .i64 n] bs=some (.agg (Qb (.mk 2 s n [])),bs):=by
 rw[Qa F.tb_107 _ _ rfl];simp[F.f107,F.f107C,FI]
end Go.Am
namespace Go.Am
set_option maxRecDepth 8000
theorem Y0: ∀a:List UInt8,Op.bytesLess a a=false
 | []=>rfl
 | c:: r=>by simp[Op.bytesLess,Y0 r]
theorem M4 (a:List UInt8):Y1 a a=0:=by simp[Y1,Y0]
theorem Qbz (a:Int):sgn a a=0:=TE.2 rfl
theorem QaP (t:Tm):hdT t t=0:=by simp[hdT,Qbz,M4,or0]
mutual
theorem YS: ∀t:Tm,Qh t t=0
 | .mk k n s ks=>by rw[Qh,QaP,W6];exact cmpL_refl ks
theorem cmpL_refl: ∀ts:List Tm,cmpL ts ts=0
 | []=>by simp[cmpL]
 | t:: ts=>by rw[cmpL,YS t,W6];exact cmpL_refl ts
end
end Go.Am
namespace Go.Am
set_option maxRecDepth 8000
theorem FA (t:Tm) (bs:List (List AV)) (hm:t.mass < big) (ih: ∀x∈t.kids,∀bs,call F.tb 48 [.agg (Qb x)] bs=some (.agg (Qb x),bs)):
  ∀(post pre:List Tm) (ρ:Nat→AV),t.kids=pre ++ post→ρ 1= .bx [.int .i64 t.kind,.str t.name,.int .i64 t.sort,.sl true 4 (encTs pre)]→ρ 2= .bx [.int .i64 0,.str [],.int .i64 0,.sl true 4 []]→
   ρ 9= .sl false 4 (encTs t.kids)→ρ 10= .int .i64 t.kids.length→ρ 11= .int .i64 pre.length→
  R F.tb (.loop F.f48l0) ρ bs (Qj 0 (Qu F.tb F.f48r0 (Qx F.f48 bs)))=some (.agg (Qb t),bs):=by
 have hm2:=Qp t;unfold big at hm;intro post
 induction post with
 | nil=>
  intro pre ρ hk h1 h2 h9 h10 h11;rw[Qc F.f48l0.eq_1];simp at hk;rw[← hk]at h1 h11;simp[h1,h2,h9,h10,h11,F.f48r0,WO,Tm.eta]
 | cons x post IH=>
  intro pre ρ hk h1 h2 h9 h10 h11;have hg:=Qt hk;have hl:=QE hk;have hw1:=wr1 pre.length (by omega);have hlt:=QF hk;have ha: (pre.length+1)*56≤140737488355328:=by omega
  rw[Qc F.f48l0.eq_1];simp[h1,h2,h9,h10,h11,hg,hw1,hlt,ha,ih x (by rw[hk];simp),Zt,Q7];rw[IH (pre ++ [x])] <;> simp[h2,h9,h10,hk]
theorem U0: ∀(t:Tm) (bs:List (List AV)),t.mass < big→call F.tb 48 [.agg (Qb t)] bs=some (.agg (Qb t),bs):=by
 refine ZG ?_;intro k n s ks ih bs hm;rw[Qa F.tb_48 _ _ rfl];simp[F.f48C,Qb];refine FA (.mk k n s ks) bs hm (fun x hx bs=>ih x hx bs ?_) ks [] _ ?_ ?_ ?_ ?_ ?_ ?_ <;> (try simp[encTs]);have:=QC hx;have:=Qp (.mk k n s ks);simp at *;omega
theorem Qag (t:Tm) (bs:List (List AV)) (hm:t.mass < big) (o:Bool):call F.tb 47 [.agg (Qb t),.sl o 1 []] bs=some (.tup [.agg (Qb t),.int .i64 0],bs):=by
 rw[Qa F.tb_47 _ _ rfl];simp[F.f47C];rw[Qc F.f47l0.eq_1];simp[F.f47r0,U0 t bs hm]
theorem Js (n:List UInt8) (ks:List Tm) (o:Bool) (bs:List (List AV)):call F.tb 49 [.str n,.sl o 4 (encTs ks)] bs=some (.agg (Qb (.mk 3 n 0 ks)),bs):=by
 rw[Qa F.tb_49 _ _ rfl];simp[F.f49,F.f49C,WO]
structure Sy where
 n:List UInt8
 l:Int
 m:Int
 k:Int
def XO (s:Sy):List AV:=[.str s.n,.int .i64 s.l,.int .i64 s.m,.int .i64 s.k]
def YG:List Sy:=[⟨[112,97,105,114],2,2,1⟩,⟨[101,110,99],2,2,1⟩,⟨[97,101,110,99],2,2,1⟩,⟨[112,107],1,1,1⟩,⟨[115,105,103,110],2,2,1⟩,⟨[104,97,115,104],1,1,1⟩,
 ⟨[120,111,114],2,8,1⟩,⟨[122,101,114,111],0,0,1⟩,⟨[101,120,112],2,2,1⟩,⟨[109,117,108],2,8,1⟩,⟨[105,110,118],1,1,1⟩,⟨[111,110,101],0,0,1⟩,
 ⟨[115,107],1,1,2⟩,⟨[115,104,107],2,2,2⟩,⟨[110,101,119],1,8,2⟩,⟨[102,115,116],1,1,3⟩,⟨[115,110,100],1,1,3⟩,⟨[100,101,99],2,2,3⟩,⟨[97,100,101,99],2,2,3⟩,⟨[111,112,101,110],2,2,3⟩,⟨[114,101,97,100],1,1,3⟩]
def Xs (ys:List Sy):List (List AV):=ys.map XO
@[simp] theorem LJ (ys:List Sy):gpfreeE (Xs ys)=true:=by
 induction ys with
 | nil=>rfl
 | cons y ys ih=>simpa[Xs,XO,gpfreeE,gpfreeL,AV.gpfree]using ih
@[simp] theorem QhX (ys:List Sy): (Xs ys).length=ys.length:=by simp[Xs]
theorem Jr (k l m:Int) (n:List UInt8) (ys:List Sy) (bs:List (List AV)) (hx:ys.length < 1000):
  call F.tb 45 [.int .i64 k,.str n,.int .i64 l,.int .i64 m,.gp bs.length 0] (bs ++ [[.sl true 4 (Xs ys)]])=some (.tup [],bs ++ [[.sl true 4 (Xs (ys ++ [⟨n,l,m,k⟩]))]]):=by
 rw[Qa F.tb_45 _ _ rfl];have ha: (ys.length+1)*40≤140737488355328:=by omega
 have h1:Xs (ys ++ [⟨n,l,m,k⟩])=Xs ys ++ [[.str n,.int .i64 l,.int .i64 m,.int .i64 k]]:=by simp[Xs,XO]
 have h2:gpfreeE (Xs ys ++ [[.str n,.int .i64 l,.int .i64 m,.int .i64 k]])=true:=by rw[← h1];exact LJ _
 simp[F.f45,F.f45C,ha,h1,h2,List.take_of_length_le,gpfreeL]
theorem Cv (k l m:Int) (n:List UInt8) (bs:List (List AV)):
  call F.tb 45 [.int .i64 k,.str n,.int .i64 l,.int .i64 m,.gp bs.length 0] (bs ++ [[.sl true 4 []]])=some (.tup [],bs ++ [[.sl true 4 (Xs [⟨n,l,m,k⟩])]]):=Jr k l m n [] bs (by simp)
theorem Jq (bs:List (List AV)):call F.tb 44 [] bs=some (.sl false 4 (Xs YG),bs):=by
 rw[Qa F.tb_44 _ _ rfl];simp only[F.f44,F.f44C];simp[Cv,Jr,YG]
def Zu (n:List UInt8):List Sy→Option Sy
 | []=>none
 | s:: ss=>if s.n=n then some s else Zu n ss
theorem PH {l:List Sy} {pre post:List Sy} {s:Sy} (h:l=pre ++ s:: post): (Xs l)[pre.length]? =some (XO s):=by
 subst h;simp[Xs]
theorem HK (n:List UInt8) (l:List Sy) (bs:List (List AV)) (hn:l.length < 1000):
  ∀(post pre:List Sy) (ρ:Nat→AV),l=pre ++ post→ρ 0= .str n→ρ 2= .bx [.str [],.int .i64 0,.int .i64 0,.int .i64 0]→
   ρ 5= .sl false 4 (Xs l)→ρ 6= .int .i64 l.length→ρ 7= .int .i64 pre.length→
  R F.tb (.loop F.f43l0) ρ bs (Qj 0 (Qu F.tb F.f43r0 (Qx F.f43 bs)))=
   some (.agg (match Zu n post with | some s=>XO s | none=>[.str [],.int .i64 0,.int .i64 0,.int .i64 0]),bs):=by
 intro post
 induction post with
 | nil=>
  intro pre ρ hk h0 h2 h5 h6 h7;rw[Qc F.f43l0.eq_1];simp at hk;rw[← hk]at h7;simp[h0,h2,h5,h6,h7,F.f43r0,Zu]
 | cons x post IH=>
  intro pre ρ hk h0 h2 h5 h6 h7;have hg:=PH hk;have hl:=QE hk;have hw1:=wr1 pre.length (by omega);have hlt:=QF hk;rw[Qc F.f43l0.eq_1];by_cases hx:x.n=n
  ·simp[h0,h2,h5,h6,h7,hg,hw1,hlt,XO,hx,Zu]
  ·have hxb: (x.n == n)=false:=by simp[hx]
   simp[h0,h2,h5,h6,h7,hg,hw1,hlt,XO,hx,hxb,Zu];rw[IH (pre ++ [x])] <;> simp[h0,h2,h5,h6,hk,XO]
theorem Y5 (n:List UInt8) (bs:List (List AV)):call F.tb 43 [.str n] bs=some (.agg (match Zu n YG with | some s=>XO s | none=>[.str [],.int .i64 0,.int .i64 0,.int .i64 0]),bs):=by
 rw[Qa F.tb_43 _ _ rfl];simp[F.f43C,Jq];refine HK n YG bs (by simp[YG]) YG [] _ rfl ?_ ?_ ?_ ?_ ?_ <;> simp
end Go.Am
