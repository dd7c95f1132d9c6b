/-
  Am21, Am22, Am23, Ge1, Ge2, Ge3, Ge4, Ge5, Ge6, Ge10, Ge11.
-/
import Derived.Test.YtkikjgionglgaaaGreatDoorG09
import Derived.Test.YtkikjgionglgaaaGreatDoorG13
set_option linter.unusedVariables false
set_option linter.unusedSimpArgs false
namespace Go.Am
abbrev Out:=Option (AV×List (List AV))
abbrev Kn:=Ex→St→Out
section
variable {T:Nat→Option AFn}
noncomputable def R (T:Nat→Option AFn) (c:AC) (ρ:Nat→AV) (bs:List (List AV)) (k:Kn):Out:=match run T c ⟨ρ,bs⟩with
 | some (e,s)=>k e s
 | none=>none
noncomputable def O (T:Nat→Option AFn) (os:List Qp) (ρ:Nat→AV) (bs:List (List AV)) (k:Kn):Out:=match Zf (call T) os ⟨ρ,bs⟩with
 | some s=>k .normal s
 | none=>none
noncomputable def E (T:Nat→Option AFn) (r:Option (AV×St)) (d:Option Nat) (os:List Qp) (k:Kn):Out:=match r with
 | some p=>O T os (ZG p.2.env d p.1) p.2.bs k
 | none=>none
def Yk (c b:Bool) (x y:Out):Out:=if c=b then x else y
noncomputable def Qs (T:Nat→Option AFn) (b:AC) (k:Kn):Kn:=fun e s=>match e with
 | .normal=>match run T b s with
  | some (e,s)=>k e s
  | none=>none
 | e=>k e s
def Qi (id:Nat) (k:Kn):Kn:=fun e s=>match e with
 | .exit i=>k (if i=id then .normal else .exit i) s
 | e=>k e s
def Qy (fn:Qf) (n:List (List AV)):Kn:=fun e s=>match e with
 | .normal=>Yd fn n s
 | .ret=>Yd fn n s
 | .exit _=>none
theorem PE (x y:Out):Yk true true x y=x:=rfl
theorem MV (x y:Out):Yk false false x y=x:=rfl
theorem MW (x y:Out):Yk true false x y=y:=rfl
theorem PD (x y:Out):Yk false true x y=y:=rfl
theorem Hg (c b:Bool) (x:Out):Yk c b x x=x:=by unfold Yk;split <;> rfl
theorem Fv (c b:Bool) (x y:Out):Yk (!c) b x y=Yk c (!b) x y:=by cases c <;> cases b <;> rfl
theorem YW (c b:Bool) (x y:Out):Yk c b x y=if c=b then x else y:=rfl
theorem QeV (ρ:Nat→AV) (bs:List (List AV)) (k:Kn):R T .skip ρ bs k=k .normal ⟨ρ,bs⟩:=by simp only[R,IA]
theorem QfX (ρ:Nat→AV) (bs:List (List AV)) (k:Kn):R T .ret ρ bs k=k .ret ⟨ρ,bs⟩:=by simp only[R,Gy]
theorem QeT (id:Nat) (ρ:Nat→AV) (bs:List (List AV)) (k:Kn):R T (.exit id) ρ bs k=k (.exit id) ⟨ρ,bs⟩:=by simp only[R,Iy]
theorem QfW (d:Bool) (ops:List Qp) (ρ:Nat→AV) (bs:List (List AV)) (k:Kn):R T (.reg d ops) ρ bs k=O T ops ρ bs k:=by
 simp only[R,O,Gx];cases Zf (call T) ops ⟨ρ,bs⟩ <;> rfl
theorem QfY (a b:AC) (ρ:Nat→AV) (bs:List (List AV)) (k:Kn):R T (.seq a b) ρ bs k=R T a ρ bs (Qs T b k):=by
 simp only[R,Gz];cases run T a ⟨ρ,bs⟩with
 | none=>rfl
 | some x=>
  obtain⟨e,s⟩:=x;cases e <;> rfl
theorem Qa9 (id:Nat) (c:AC) (ρ:Nat→AV) (bs:List (List AV)) (k:Kn):R T (.block id c) ρ bs k=R T c ρ bs (Qi id k):=by
 simp only[R,M7];cases run T c ⟨ρ,bs⟩with
 | none=>rfl
 | some x=>
  obtain⟨e,s⟩:=x;cases e <;> rfl
theorem QeU (c:AC) (ρ:Nat→AV) (bs:List (List AV)) (k:Kn):R T (.loop c) ρ bs k=R T c ρ bs (Qs T (.loop c) k):=by
 simp only[R];rw[Iz];cases run T c ⟨ρ,bs⟩with
 | none=>rfl
 | some x=>
  obtain⟨e,s⟩:=x;cases e <;> rfl
theorem Hu (b:AC) (k:Kn) (ρ:Nat→AV) (bs:List (List AV)):Qs T b k .normal ⟨ρ,bs⟩=R T b ρ bs k:=rfl
theorem Qag (b:AC) (k:Kn) (s:St):Qs T b k .ret s=k .ret s:=rfl
theorem Bj (b:AC) (k:Kn) (s:St) (id:Nat):Qs T b k (.exit id) s=k (.exit id) s:=rfl
theorem Lg (id:Nat) (k:Kn) (s:St):Qi id k .normal s=k .normal s:=rfl
theorem G5 (id:Nat) (k:Kn) (s:St):Qi id k .ret s=k .ret s:=rfl
theorem IY (id:Nat) (k:Kn) (s:St):Qi id k (.exit id) s=k .normal s:=by simp[Qi]
theorem Hd (fn:Qf) (k:List (List AV)) (s:St):Qy fn k .normal s=Yd fn k s:=rfl
theorem As (fn:Qf) (k:List (List AV)) (s:St):Qy fn k .ret s=Yd fn k s:=rfl
noncomputable def Fk (T:Nat→Option AFn) (v:AV) (n:Nat) (a b:AC) (ρ:Nat→AV) (bs:List (List AV)) (k:Kn):Out:=match v with
 | .bool c=>Yk c true (R T a (upd ρ n (.bool true)) bs k) (R T b (upd ρ n (.bool false)) bs k)
 | _=>none
theorem X7 {ρ:Nat→AV} {n:Nat} {v:AV} (h:ρ n=v):upd ρ n v=ρ:=by
 funext j;unfold upd;split
 ·rename_i hj;rw[hj,h]
 ·rfl
theorem QeS (n:Nat) (a b:AC) (ρ:Nat→AV) (bs:List (List AV)) (k:Kn):R T (.cond (.t n) a b) ρ bs k=Fk T (ρ n) n a b ρ bs k:=by
 simp only[R,Ix,val,Fk];cases h:ρ n <;> try rfl
 rename_i c;cases c
 ·simp only[AV.strip,PD,X7 h]
 ·simp only[AV.strip,PE,X7 h]
theorem Fl (c:Bool) (n:Nat) (a b:AC) (ρ:Nat→AV) (bs:List (List AV)) (k:Kn):
  Fk T (.bool c) n a b ρ bs k=Yk c true (R T a (upd ρ n (.bool true)) bs k) (R T b (upd ρ n (.bool false)) bs k):=rfl
theorem QfV (ρ:Nat→AV) (bs:List (List AV)) (k:Kn):O T [] ρ bs k=k .normal ⟨ρ,bs⟩:=rfl
theorem QeQ (d:Option Nat) (op:AOp) (os:List Qp) (ρ:Nat→AV) (bs:List (List AV)) (k:Kn):
  O T (⟨d,op,none⟩:: os) ρ bs k=E T (Qe (call T) op ⟨ρ,bs⟩) d os k:=by
 simp only[O,E,Zf,Zj];cases Qe (call T) op ⟨ρ,bs⟩ <;> rfl
noncomputable def NA (T:Nat→Option AFn) (v:AV) (t:Nat) (b:Bool) (d:Option Nat) (op:AOp) (os:List Qp) (ρ:Nat→AV) (bs:List (List AV)) (k:Kn):Out:=match v with
 | .bool c=>Yk c b (E T (Qe (call T) op ⟨upd ρ t (.bool b),bs⟩) d os k) (O T os (ZG (upd ρ t (.bool (!b))) d (.tup [])) bs k)
 | .tup []=>O T os (ZG ρ d (.tup [])) bs k
 | _=>none
theorem Wb (d:Option Nat) (op:AOp) (t:Nat) (b:Bool) (os:List Qp) (ρ:Nat→AV) (bs:List (List AV)) (k:Kn):
  O T (⟨d,op,some (t,b)⟩:: os) ρ bs k=NA T (ρ t) t b d op os ρ bs k:=by
 simp only[O,Zf,Zj,NA];cases h:ρ t <;> try rfl
 ·rename_i c;by_cases hcb:c=b
  ·subst hcb;simp only[Yk,if_true,X7 h,E];cases Qe (call T) op ⟨ρ,bs⟩ <;> rfl
  ·have hcb2:c= !b:=by cases c <;> cases b <;> simp_all
   subst hcb2;simp only[Yk,hcb,if_false,X7 h];rfl
 ·rename_i vs;cases vs <;> rfl
theorem Ww (c:Bool) (t:Nat) (b:Bool) (d:Option Nat) (op:AOp) (os:List Qp) (ρ:Nat→AV) (bs:List (List AV)) (k:Kn):
  NA T (.bool c) t b d op os ρ bs k=Yk c b (E T (Qe (call T) op ⟨upd ρ t (.bool b),bs⟩) d os k) (O T os (ZG (upd ρ t (.bool (!b))) d (.tup [])) bs k):=rfl
theorem NB (t:Nat) (b:Bool) (d:Option Nat) (op:AOp) (os:List Qp) (ρ:Nat→AV) (bs:List (List AV)) (k:Kn):
  NA T (.tup []) t b d op os ρ bs k=O T os (ZG ρ d (.tup [])) bs k:=rfl
theorem Qdk (v:AV) (ρ:Nat→AV) (bs:List (List AV)) (d:Nat) (os:List Qp) (k:Kn):E T (some (v,⟨ρ,bs⟩)) (some d) os k=O T os (upd ρ d v) bs k:=rfl
theorem QaU (v:AV) (ρ:Nat→AV) (bs:List (List AV)) (os:List Qp) (k:Kn):E T (some (v,⟨ρ,bs⟩)) none os k=O T os ρ bs k:=rfl
theorem Qdj (d:Option Nat) (os:List Qp) (k:Kn):E T none d os k=none:=rfl
theorem Bl (ρ:Nat→AV) (d:Nat) (v:AV):ZG ρ (some d) v=upd ρ d v:=rfl
theorem Bk (ρ:Nat→AV) (v:AV):ZG ρ none v=ρ:=rfl
theorem Qa {f:Nat} {fn:Qf} (h:T f=some (.code fn)) (args:List AV) (bs:List (List AV)) (hl:args.length=fn.nparams):
  call T f args bs=R T fn.body (Yr args) bs (Qy fn bs):=by
 rw[Mp,h];simp only[hl,if_true,R];cases run T fn.body ⟨Yr args,bs⟩with
 | none=>rfl
 | some x=>
  obtain⟨e,s⟩:=x;cases e <;> rfl
theorem Xb {f:Nat} {g:List AV→List (List AV)→Option (AV×List (List AV))} (h:T f=some (.orc g)) (args:List AV) (bs:List (List AV)):call T f args bs=g args bs:=by
 rw[Mp,h]
theorem BO (a:AV) (aq:List AV):Yr (a:: aq) 0=a.strip:=rfl
theorem IX (a:AV) (aq:List AV) (i:Nat):Yr (a:: aq) (i+1)=Yr aq i:=rfl
theorem WN (ρ:Nat→AV) (i:Nat) (v:AV):upd ρ i v i=v:=by simp[upd]
variable {K:Zx} (ρ:Nat→AV) (bs:List (List AV))
theorem QgE (n:Nat):val ρ (.t n)=(ρ n).strip:=rfl
theorem QgD (v:AV):val ρ (.c v)=v:=rfl
end
end Go.Am
namespace Go.Am
section
variable {T:Nat→Option AFn}
def U0 (b:Bool):AV→Bool
 | .bool c=>c == !b
 | .tup []=>true
 | _=>false
noncomputable def O2 (T:Nat→Option AFn) (c:Bool) (_t:Nat) (b:Bool) (os:List Qp) (ρ1 ρ2:Nat→AV) (bs1 bs2:List (List AV)) (k:Kn):Out:=
 if c=b then O T os ρ1 bs1 k else O T os ρ2 bs2 k
noncomputable def E2 (T:Nat→Option AFn) (c:Bool) (_t:Nat) (b:Bool) (r:Option (AV×St)) (d:Option Nat) (os:List Qp) (ρ2:Nat→AV) (bs2:List (List AV)) (k:Kn):Out:=
 if c=b then E T r d os k else O T os (ZG ρ2 d (.tup [])) bs2 k
def Zz (c b:Bool) (x y:AV):AV:=if c=b then x else y
def Na (c b:Bool) (x y:List (List AV)):List (List AV):=if c=b then x else y
def mrg (c b:Bool) (ρ1 ρ2:Nat→AV):Nat→AV:=fun j=>Zz c b (ρ1 j) (ρ2 j)
theorem QcE (c b:Bool) (ρ1 ρ2:Nat→AV) (j:Nat):mrg c b ρ1 ρ2 j=Zz c b (ρ1 j) (ρ2 j):=rfl
theorem HL (c:Bool) (t:Nat) (b:Bool) (os:List Qp) (ρ1 ρ2:Nat→AV) (bs1 bs2:List (List AV)) (k:Kn):
  O2 T c t b os ρ1 ρ2 bs1 bs2 k=O T os (mrg c b ρ1 ρ2) (Na c b bs1 bs2) k:=by
 unfold O2;split
 ·rename_i h;have:mrg c b ρ1 ρ2=ρ1:=by funext j;simp[mrg,Zz,h]
  rw[this,Na,if_pos h]
 ·rename_i h;have:mrg c b ρ1 ρ2=ρ2:=by funext j;simp[mrg,Zz,h]
  rw[this,Na,if_neg h]
theorem QeP (c:Bool) (t:Nat) (b:Bool) (ρ1 ρ2:Nat→AV) (bs1 bs2:List (List AV)) (k:Kn):
  O2 T c t b [] ρ1 ρ2 bs1 bs2 k=O T [] (mrg c b ρ1 ρ2) (Na c b bs1 bs2) k:=HL c t b [] ρ1 ρ2 bs1 bs2 k
theorem Qa6 (c:Bool) (t:Nat) (b:Bool) (d:Option Nat) (op:AOp) (os:List Qp) (ρ1 ρ2:Nat→AV) (bs1 bs2:List (List AV)) (k:Kn):
  O2 T c t b (⟨d,op,none⟩:: os) ρ1 ρ2 bs1 bs2 k=O T (⟨d,op,none⟩:: os) (mrg c b ρ1 ρ2) (Na c b bs1 bs2) k:=HL c t b _ ρ1 ρ2 bs1 bs2 k
theorem BG (c:Bool) (t:Nat) (b:Bool) (d:Option Nat) (op:AOp) (t':Nat) (b':Bool) (os:List Qp) (ρ1 ρ2:Nat→AV) (bs1 bs2:List (List AV)) (k:Kn) (_h: ((t' == t) && (b' == b))=false):
  O2 T c t b (⟨d,op,some (t',b')⟩:: os) ρ1 ρ2 bs1 bs2 k=Yk c b (O T (⟨d,op,some (t',b')⟩:: os) ρ1 bs1 k) (O T (⟨d,op,some (t',b')⟩:: os) ρ2 bs2 k):=by
 unfold O2 Yk;rfl
theorem Qa7 (c:Bool) (t:Nat) (b:Bool) (d:Option Nat) (op:AOp) (os:List Qp) (ρ1 ρ2:Nat→AV) (bs1 bs2:List (List AV)) (k:Kn) (h1:ρ1 t= .bool b) (h2:U0 b (ρ2 t)=true):
  O2 T c t b (⟨d,op,some (t,b)⟩:: os) ρ1 ρ2 bs1 bs2 k=E2 T c t b (Qe (call T) op ⟨ρ1,bs1⟩) d os ρ2 bs2 k:=by
 unfold O2 E2;split
 ·rw[Wb,h1,Ww,YW,if_pos rfl,X7 h1]
 ·rw[Wb];unfold U0 at h2;split at h2
  ·rename_i c hc;rw[hc,Ww];simp only[beq_iff_eq]at h2;subst h2;rw[YW,if_neg (by cases b <;> simp),X7 hc]
  ·rename_i hc;rw[hc,NB]
  ·cases h2
theorem QaT (c:Bool) (t:Nat) (b:Bool) (v:AV) (ρ1:Nat→AV) (bs1:List (List AV)) (d:Option Nat) (os:List Qp) (ρ2:Nat→AV) (bs2:List (List AV)) (k:Kn):
  E2 T c t b (some (v,⟨ρ1,bs1⟩)) d os ρ2 bs2 k=O2 T c t b os (ZG ρ1 d v) (ZG ρ2 d (.tup [])) bs1 bs2 k:=rfl
noncomputable def G (T:Nat→Option AFn) (v:AV) (d:Option Nat) (op:AOp) (t:Nat) (b:Bool) (os:List Qp) (ρ:Nat→AV) (bs:List (List AV)) (k:Kn):Out:=match v with
 | .bool c=>O2 T c t b (⟨d,op,some (t,b)⟩:: os) (upd ρ t (.bool b)) (upd ρ t (.bool (!b))) bs bs k
 | .tup []=>O T os (ZG (upd ρ t (.tup [])) d (.tup [])) bs k
 | _=>none
theorem Re (c:Bool) (d:Option Nat) (op:AOp) (t:Nat) (b:Bool) (os:List Qp) (ρ:Nat→AV) (bs:List (List AV)) (k:Kn):
  G T (.bool c) d op t b os ρ bs k=O2 T c t b (⟨d,op,some (t,b)⟩:: os) (upd ρ t (.bool b)) (upd ρ t (.bool (!b))) bs bs k:=rfl
theorem QaI (d:Option Nat) (op:AOp) (t:Nat) (b:Bool) (os:List Qp) (ρ:Nat→AV) (bs:List (List AV)) (k:Kn):
  G T (.tup []) d op t b os ρ bs k=O T os (ZG (upd ρ t (.tup [])) d (.tup [])) bs k:=rfl
theorem Qa8 (d:Option Nat) (op:AOp) (t:Nat) (b:Bool) (os:List Qp) (ρ:Nat→AV) (bs:List (List AV)) (k:Kn):
  O T (⟨d,op,some (t,b)⟩:: os) ρ bs k=G T (ρ t) d op t b os ρ bs k:=by
 cases h:ρ t <;> try (rw[Wb,h];rfl)
 ·rename_i c;rw[Re];unfold O2;by_cases hcb:c=b
  ·subst hcb;simp[X7 h]
  ·have hcb2:c= !b:=by cases c <;> cases b <;> simp_all
   subst hcb2;rw[X7 h,if_neg hcb]
 ·rename_i vs;cases vs with
  | nil=>rw[QaI,Wb,h,NB,X7 h]
  | cons v vs=>rw[Wb,h];rfl
theorem QeO (d:Option Nat) (op:AOp) (t:Nat) (os:List Qp) (ρ:Nat→AV) (bs:List (List AV)) (k:Kn):
  G T (.bool true) d op t true os ρ bs k=E T (Qe (call T) op ⟨upd ρ t (.bool true),bs⟩) d os k:=by
 rw[Re];unfold O2;rw[if_pos rfl,Wb,WN,Ww,PE,X7 (WN _ _ _)]
theorem Qa5 (d:Option Nat) (op:AOp) (t:Nat) (os:List Qp) (ρ:Nat→AV) (bs:List (List AV)) (k:Kn):
  G T (.bool false) d op t false os ρ bs k=E T (Qe (call T) op ⟨upd ρ t (.bool false),bs⟩) d os k:=by
 rw[Re];unfold O2;rw[if_pos rfl,Wb,WN,Ww,MV,X7 (WN _ _ _)]
theorem QgN (d:Option Nat) (op:AOp) (t:Nat) (os:List Qp) (ρ:Nat→AV) (bs:List (List AV)) (k:Kn):
  G T (.bool true) d op t false os ρ bs k=O T os (ZG (upd ρ t (.bool true)) d (.tup [])) bs k:=by
 rw[Re];unfold O2;rw[if_neg (by simp),Wb,WN];simp only[Ww,MW,Bool.not_false];rw[X7 (WN _ _ _)]
theorem QgM (d:Option Nat) (op:AOp) (t:Nat) (os:List Qp) (ρ:Nat→AV) (bs:List (List AV)) (k:Kn):
  G T (.bool false) d op t true os ρ bs k=O T os (ZG (upd ρ t (.bool false)) d (.tup [])) bs k:=by
 rw[Re];unfold O2;rw[if_neg (by simp),Wb,WN];simp only[Ww,PD,Bool.not_true];rw[X7 (WN _ _ _)]
theorem Bg (c b:Bool) (x:AV):Zz c b x x=x:=by unfold Zz;split <;> rfl
theorem Bd (c b:Bool) (x:List (List AV)):Na c b x x=x:=by unfold Na;split <;> rfl
theorem QfH (c b:Bool) (x y z:AV):Zz c b (Zz c b x y) z=Zz c b x z:=by unfold Zz;split <;> simp_all
theorem QfI (c b:Bool) (x y z:AV):Zz c b x (Zz c b y z)=Zz c b x z:=by unfold Zz;split <;> simp_all
theorem Qc6 (c:Bool) (x y z:AV):Zz c true (Zz c false x y) z=Zz c true y z:=by cases c <;> rfl
theorem Qc7 (c:Bool) (x y z:AV):Zz c true x (Zz c false y z)=Zz c true x y:=by cases c <;> rfl
theorem Qc3 (c:Bool) (x y z:AV):Zz c false (Zz c true x y) z=Zz c false y z:=by cases c <;> rfl
theorem Qc4 (c:Bool) (x y z:AV):Zz c false x (Zz c true y z)=Zz c false x y:=by cases c <;> rfl
theorem Bi (c:Bool) (x y:AV):Zz c false x y=Zz c true y x:=by cases c <;> rfl
theorem Qae (x y:AV):Zz true true x y=x:=rfl
theorem Bf (x y:AV):Zz false true x y=y:=rfl
theorem Be (c x y:Bool):Zz c true (.bool x) (.bool y)= .bool (bif c then x else y):=by cases c <;> rfl
theorem Qad (c:Bool) (k:IntKind) (x y:Int):Zz c true (.int k x) (.int k y)= .int k (bif c then x else y):=by cases c <;> rfl
theorem F6 (c b:Bool) (x y:AV): (Zz c b x y).strip=Zz c b x.strip y.strip:=by unfold Zz;split <;> rfl
theorem Qc5 (c b:Bool) (x y:AV): (Zz c b x y).ok=if c=b then x.ok else y.ok:=by unfold Zz;split <;> rfl
theorem Qaf (c b:Bool) (x y:AV): (Zz c b x y).one=if c=b then x.one else y.one:=by unfold Zz;split <;> rfl
theorem Bh (c b d:Bool) (x y:AV):U0 d (Zz c b x y)=if c=b then U0 d x else U0 d y:=by unfold Zz;split <;> rfl
theorem Hk (c b:Bool):U0 b (.bool c)=(c == !b):=rfl
theorem Fz (b:Bool):U0 b (.tup [])=true:=rfl
def FM (v x y:AV) (s:St):Option (AV×St):=match v with
 | .bool c=>let v:=Zz c true x y;if v.ok then some (v,s)else none
 | _=>none
theorem Qe2 {K:Zx} (c a b:AO) (ρ:Nat→AV) (bs:List (List AV)):Qe K (.pick c a b) ⟨ρ,bs⟩=FM (val ρ c) (val ρ a) (val ρ b) ⟨ρ,bs⟩:=by
 simp only[Qe,FM];cases val ρ c <;> try rfl
 rename_i x;cases x <;> rfl
theorem FN (c:Bool) (x y:AV) (s:St):FM (.bool c) x y s=if(Zz c true x y).ok then some (Zz c true x y,s)else none:=rfl
end
end Go.Am
namespace Go.Am
theorem Qdf (ρ:Nat→AV) (i:Nat) (v:AV) (j:Nat):upd ρ i v j=if j=i then v else ρ j:=rfl
theorem Lx:AV.strip (.undef)= .undef:=rfl
theorem FX:AV.ok (.undef)=false:=rfl
theorem Ho:AV.one (.undef)=false:=rfl
theorem Hn:AV.gpfree (.undef)=true:=rfl
theorem Hr (k:IntKind) (n:Int):AV.strip (.int k n)= .int k n:=rfl
theorem A5 (k:IntKind) (n:Int):AV.ok (.int k n)=true:=rfl
theorem Ba (k:IntKind) (n:Int):AV.one (.int k n)=true:=rfl
theorem C2 (k:IntKind) (n:Int):AV.gpfree (.int k n)=true:=rfl
theorem IC (b:Bool):AV.strip (.bool b)= .bool b:=rfl
theorem C6 (b:Bool):AV.ok (.bool b)=true:=rfl
theorem FZ (b:Bool):AV.one (.bool b)=true:=rfl
theorem FV (b:Bool):AV.gpfree (.bool b)=true:=rfl
theorem IB:AV.strip (.anyb)= .anyb:=rfl
theorem C5:AV.ok (.anyb)=true:=rfl
theorem FY:AV.one (.anyb)=true:=rfl
theorem FU:AV.gpfree (.anyb)=true:=rfl
theorem Hs (s:List UInt8):AV.strip (.str s)= .str s:=rfl
theorem A6 (s:List UInt8):AV.ok (.str s)=true:=rfl
theorem Bb (s:List UInt8):AV.one (.str s)=true:=rfl
theorem C3 (s:List UInt8):AV.gpfree (.str s)=true:=rfl
theorem Hp (cs:List AV):AV.strip (.agg cs)= .agg cs:=rfl
theorem A3 (cs:List AV):AV.ok (.agg cs)=true:=rfl
theorem C8 (cs:List AV):AV.one (.agg cs)=false:=rfl
theorem C0 (cs:List AV):AV.gpfree (.agg cs)=gpfreeL cs:=rfl
theorem F5 (o:Bool) (z:Nat) (xs:List (List AV)):AV.strip (.sl o z xs)= .sl false z xs:=rfl
theorem Qc1 (o:Bool) (z:Nat) (xs:List (List AV)):AV.ok (.sl o z xs)=true:=rfl
theorem Qac (o:Bool) (z:Nat) (xs:List (List AV)):AV.one (.sl o z xs)=true:=rfl
theorem A1 (o:Bool) (z:Nat) (xs:List (List AV)):AV.gpfree (.sl o z xs)=gpfreeE xs:=rfl
theorem F1 (cs:List AV):AV.strip (.bx cs)= .bx cs:=rfl
theorem QcX (cs:List AV):AV.ok (.bx cs)=false:=rfl
theorem A8 (cs:List AV):AV.one (.bx cs)=false:=rfl
theorem AY (cs:List AV):AV.gpfree (.bx cs)=gpfreeL cs:=rfl
theorem F3 (i o:Nat):AV.strip (.gp i o)= .gp i o:=rfl
theorem QcZ (i o:Nat):AV.ok (.gp i o)=true:=rfl
theorem Qaa (i o:Nat):AV.one (.gp i o)=true:=rfl
theorem A0 (i o:Nat):AV.gpfree (.gp i o)=false:=rfl
theorem F4 (i o z n:Nat):AV.strip (.gs i o z n)= .gs i o z n:=rfl
theorem Qc0 (i o z n:Nat):AV.ok (.gs i o z n)=true:=rfl
theorem Qab (i o z n:Nat):AV.one (.gs i o z n)=true:=rfl
theorem ID (cs:List AV):AV.strip (.rptr cs)= .rptr cs:=rfl
theorem C7 (cs:List AV):AV.ok (.rptr cs)=true:=rfl
theorem F0 (cs:List AV):AV.one (.rptr cs)=true:=rfl
theorem FW (cs:List AV):AV.gpfree (.rptr cs)=gpfreeL cs:=rfl
theorem F2 (f:Nat) (cs:List AV):AV.strip (.fn f cs)= .fn f cs:=rfl
theorem QcY (f:Nat) (cs:List AV):AV.ok (.fn f cs)=true:=rfl
theorem A9 (f:Nat) (cs:List AV):AV.one (.fn f cs)=true:=rfl
theorem AZ (f:Nat) (cs:List AV):AV.gpfree (.fn f cs)=gpfreeL cs:=rfl
theorem Ht (vs:List AV):AV.strip (.tup vs)= .tup vs:=rfl
theorem A7 (vs:List AV):AV.ok (.tup vs)=true:=rfl
theorem Bc (vs:List AV):AV.one (.tup vs)=false:=rfl
theorem C4 (vs:List AV):AV.gpfree (.tup vs)=gpfreeL vs:=rfl
theorem Hq (b:Bool):AV.strip (.err b)= .err b:=rfl
theorem A4 (b:Bool):AV.ok (.err b)=true:=rfl
theorem C9 (b:Bool):AV.one (.err b)=true:=rfl
theorem C1 (b:Bool):AV.gpfree (.err b)=true:=rfl
theorem AB {α:Type} (p:Prop) [Decidable p] (a b c:α): (if p then(if p then a else b)else c)=if p then a else c:=by split <;> simp_all
theorem AA {α:Type} (p:Prop) [Decidable p] (a b c:α): (if p then a else(if p then b else c))=if p then a else c:=by split <;> simp_all
attribute [simp] Lx FX Ho Hn Hr A5 Ba C2 IC C6 FZ FV IB C5 FY FU Hs A6 Bb C3 Hp A3 C8 C0 F5 Qc1 Qac A1 F1 QcX A8 AY F3 QcZ Qaa A0 F4 Qc0 Qab ID C7 F0 FW F2 QcY A9 AZ Ht A7 Bc C4 Hq A4 C9 C1 AB AA
attribute [simp] eqVE_refl QeV QfX QeT QfW QfY Qa9 QeS QfV QeQ Qa8 Qdk QaU Qdj Bl Bk Fl Hu Qag Bj Lg G5 IY Hd As PE MW MV PD Fv Hg Qe QgE QgD BO IX OG aun Yd Xa Wx gpfreeL gpfreeE YL ZO cellsOf put Qdf QeP Qa6 BG Qa7 QaT QcE Re QaI Hk Fz Bg Bd QfH QfI Qc6 Qc7 Qc3 Qc4 Bi Qae Bf Be Qad F6 Qc5 Qaf Bh FN
attribute [simp ↓] Qe2
attribute [simp 2000] QeO Qa5 QgN QgM
theorem Hh (c:Bool) (x y:Out):Yk c false x y=Yk c true y x:=by cases c <;> rfl
theorem Hf (c x y:Bool) (s:List (List AV)):Yk c true (some (.bool x,s)) (some (.bool y,s))=some (.bool (bif c then x else y),s):=by cases c <;> rfl
theorem JY (c:Bool) (k:IntKind) (x y:Int) (s:List (List AV)):Yk c true (some (.int k x,s)) (some (.int k y,s))=some (.int k (bif c then x else y),s):=by cases c <;> rfl
theorem Qc {T:Nat→Option AFn} {c c':AC} (h:c=c') (ρ:Nat→AV) (bs:List (List AV)) (k:Kn):R T (.loop c) ρ bs k=R T c' ρ bs (Qs T (.loop c) k):=by
 subst h;exact QeU c ρ bs k
attribute [simp] toI
theorem IK {α:Type} (x:α) (xs:List α): (x:: xs)[0]? =some x:=rfl
attribute [simp] Hh Hf JY UY Yi Q7 Bool.cond_decide
theorem Zd {n:Int} (h1: -9223372036854775808≤n) (h2:n < 9223372036854775808):IntKind.i64.wrap n=n:=by
 simp only[IntKind.wrap_i64];omega
theorem wr1 (n:Nat) (h:n+1 < 9223372036854775808):IntKind.i64.wrap ((n:Int)+1)=(n:Int)+1:=Zd (by omega) (by omega)
theorem Qv {α:Type} {l pre post:List α} {x:α} (h:l=pre ++ x:: post):l.length=pre.length+ (post.length+1):=by rw[h];simp
theorem Qw {α:Type} {l pre post:List α} {x:α} (h:l=pre ++ x:: post): (pre.length:Int) < (l.length:Int):=by have:=Qv h;omega
@[simp] theorem Qhn (n:Nat) (vs:List AV):stV (.t n) vs=vs.map AV.strip:=rfl
@[simp] theorem Qhk (z:Nat) (vs:List AV):stV (.c (.sl true z [])) vs=vs.map fun _=> .sl true z []:=rfl
@[simp] theorem Qhj (k:IntKind) (n:Int) (vs:List AV):stV (.c (.int k n)) vs=vs.map AV.strip:=rfl
@[simp] theorem Qhl (s:List UInt8) (vs:List AV):stV (.c (.str s)) vs=vs.map AV.strip:=rfl
@[simp] theorem Qhb (b:Bool) (vs:List AV):stV (.c (.bool b)) vs=vs.map AV.strip:=rfl
@[simp] theorem Qhh (cs:List AV) (vs:List AV):stV (.c (.agg cs)) vs=vs.map AV.strip:=rfl
@[simp] theorem Qhi (b:Bool) (vs:List AV):stV (.c (.err b)) vs=vs.map AV.strip:=rfl
@[simp] theorem Qhe (i o k:Nat):TG (.gs i o 0 0) (.sl true k [])= .sl true k []:=rfl
@[simp] theorem Qg7 (k:IntKind) (n:Int) (z:AV):TG (.int k n) z= .int k n:=rfl
@[simp] theorem Qg8 (s:List UInt8) (z:AV):TG (.str s) z= .str s:=rfl
@[simp] theorem QgL (b:Bool) (z:AV):TG (.bool b) z= .bool b:=rfl
@[simp] theorem Qhf (o:Bool) (k:Nat) (xs:List (List AV)) (z:AV):TG (.sl o k xs) z= .sl false k xs:=rfl
attribute [simp] XM
@[simp] theorem QgC (i:Nat):AV.strip (.mp i)= .mp i:=rfl
@[simp] theorem Qhg (i:Nat):AV.ok (.mp i)=true:=rfl
@[simp] theorem Qha (i:Nat):AV.one (.mp i)=true:=rfl
@[simp] theorem Qg9 (i:Nat):AV.gpfree (.mp i)=false:=rfl
@[simp] theorem Tj: ∀bs:List (List AV),YB bs bs=true
 | []=>rfl
 | x:: xs=>by simp only[YB,eqVL_refl,Tj xs,Bool.true_or,Bool.true_and]
@[simp] theorem QgQ (ys:List (List AV)):YB [] ys=true:=rfl
@[simp] theorem I9 (a b c:List (List AV)):YB (a ++ b) (a ++ c)=YB b c:=by
 induction a with
 | nil=>rfl
 | cons x xs ih=>simp only[List.cons_append,YB,eqVL_refl,ih,Bool.true_or,Bool.true_and]
@[simp] theorem QgP (a c:List (List AV)):YB a (a ++ c)=true:=by
 have:=I9 a [] c;simpa using this
@[simp] theorem QgH (x:List AV) (xs ys:List (List AV)):YB (x:: xs) (x:: ys)=YB xs ys:=by simp only[YB,eqVL_refl,Bool.true_or,Bool.true_and]
@[simp] theorem JM {cs:List AV} (h:gpfreeL cs=true): ∀(bs:List (List AV)) (i:Nat),YB bs (bs.set i cs)=true
 | [],_=>rfl
 | x:: xs,0=>by simp only[List.set_cons_zero,YB,h,Tj,Bool.or_true,Bool.and_true]
 | x:: xs,i+1=>by simp only[List.set_cons_succ,YB,eqVL_refl,JM h xs i,Bool.true_or,Bool.and_true]
theorem Mq: ∀{xs ys:List (List AV)},xs.length≤ys.length→(∀(i:Nat) (x y:List AV),xs[i]? =some x→ys[i]? =some y→x=y∨gpfreeL y=true)→YB xs ys=true
 | [],_,_,_=>rfl
 | _:: _,[],h,_=>by simp at h
 | x:: xs,y:: ys,h,hh=>by
  simp only[YB,Bool.and_eq_true,Bool.or_eq_true];refine⟨?_,Mq (by simpa using h) fun i a b ha hb=>hh (i+1) a b (by simpa using ha) (by simpa using hb)⟩;rcases hh 0 x y rfl rfl with h1 | h1
  ·subst h1;exact .inl (eqVL_refl x)
  ·exact .inr h1
@[simp] theorem Qhc {x y:List AV} (h:gpfreeL y=true) (xs ys:List (List AV)):YB (x:: xs) (y:: ys)=YB xs ys:=by simp only[YB,h,Bool.or_true,Bool.true_and]
@[simp] theorem QfK:gpfreeL []=true:=rfl
@[simp] theorem JX (x:AV) (xs:List AV):gpfreeL (x:: xs)=(x.gpfree && gpfreeL xs):=rfl
@[simp] theorem He: ∀n:Nat,gpfreeL (List.replicate n .undef)=true
 | 0=>rfl
 | n+1=>by rw[List.replicate_succ,JX,He n];rfl
@[simp] theorem JN (bs:List (List AV)) (i:Nat):YB bs (bs.set i [])=true:=JM rfl bs i
end Go.Am
namespace Go.Am
set_option maxRecDepth 8000
theorem Pm (a b:Int) (bs:List (List AV)):call F.tb 32 [.int .i64 a,.int .i64 b] bs=some (.int .i64 (if a < b then -1 else if a > b then 1 else 0),bs):=by
 rw[Qa F.tb_32 _ _ rfl];simp[F.f32,F.f32C]
def VG (c:UInt8):Bool:=(97≤c.toNat && c.toNat≤122) || (65≤c.toNat && c.toNat≤90) || (48≤c.toNat && c.toNat≤57) || c.toNat == 95 || c.toNat == 35
theorem JJ (n m:Nat): ((n:Int) == (m:Int))=(n == m):=by rw[Bool.eq_iff_iff,beq_iff_eq,beq_iff_eq];omega
theorem Nr (n:Nat): ((n:Int) == 95)=(n == 95):=JJ n 95
theorem Nq (n:Nat): ((n:Int) == 35)=(n == 35):=JJ n 35
theorem Pk (c:UInt8) (bs:List (List AV)):call F.tb 9 [.int .u8 c.toNat] bs=some (.bool (VG c),bs):=by
 rw[Qa F.tb_9 _ _ rfl];simp (config:={maxSteps:=1000000}) [F.f9,F.f9C,VG,Nr,Nq];have e1: ∀m:Nat,((m:Int)≤(c.toNat:Int))=(m≤c.toNat):=fun m=>by simp
 have e2: ∀m:Nat,((c.toNat:Int)≤(m:Int))=(c.toNat≤m):=fun m=>by simp
 simp only[show(97:Int)=((97:Nat):Int)from rfl,show(122:Int)=((122:Nat):Int)from rfl,show(65:Int)=((65:Nat):Int)from rfl,show(90:Int)=((90:Nat):Int)from rfl,show(48:Int)=((48:Nat):Int)from rfl,show(57:Int)=((57:Nat):Int)from rfl,e1,e2];by_cases h1:97≤c.toNat <;> by_cases h2:c.toNat≤122 <;> by_cases h3:65≤c.toNat <;> by_cases h4:c.toNat≤90 <;> by_cases h5:48≤c.toNat <;> by_cases h6:c.toNat≤57 <;> simp[h1,h2,h3,h4,h5,h6]
theorem Hj (s:List UInt8) (bs:List (List AV)) (hs:s.length < 4611686018427387904): ∀(k i:Nat) (ρ:Nat→AV),s.length - i=k→i≤s.length→ρ 0= .str s→ρ 38= .int .i64 s.length→ρ 39= .int .i64 i→
  R F.tb (.loop F.f8l0) ρ bs (Qi 0 (Qs F.tb F.f8r0 (Qy F.f8 bs)))=some (.bool ((s.drop i).all VG),bs):=by
 intro k
 induction k with
 | zero=>
  intro i ρ hk hi h0 h38 h39;have:i=s.length:=by omega
  subst this;rw[Qc F.f8l0.eq_1];simp[h0,h38,h39,F.f8r0]
 | succ k ih=>
  intro i ρ hk hi h0 h38 h39;have hlt:i < s.length:=by omega
  have hw:IntKind.i64.wrap ((i:Int)+1)=((i+1:Nat):Int):=Zd (by omega) (by omega);rw[Qc F.f8l0.eq_1,List.drop_eq_getElem_cons hlt,List.all_cons];cases hb:VG s[i]
  ·simp[h0,h38,h39,hlt,Pk,hb]
  ·simp[h0,h38,h39,hlt,Pk,hb,hw];rw[ih (i+1)] <;> first | rfl | omega | simp[h0,h38]
def ZT:List UInt8→Bool
 | []=>false
 | c:: r=>decide (r.length < 24) && VG c && !(decide (48≤c.toNat) && decide (c.toNat≤57)) && c.toNat != 95 && c.toNat != 35 && r.all VG
theorem I4 (s:List UInt8) (bs:List (List AV)) (hs:s.length < 4611686018427387904):call F.tb 8 [.str s] bs=some (.bool (ZT s),bs):=by
 rw[Qa F.tb_8 _ _ rfl];cases s with
 | nil=>simp[F.f8C,ZT]
 | cons c r=>
  have hl:=Hj (c:: r) bs hs ((c:: r).length - 0) 0;simp (config:={maxSteps:=1000000}) [F.f8C,Pk,hl,Nr,Nq];have e1: (24 < (r.length:Int)+1)=(¬r.length < 24):=by rw[eq_iff_iff];omega
  have e2: ((48:Int)≤(c.toNat:Int))=(48≤c.toNat):=by rw[eq_iff_iff];omega
  have e3: ((c.toNat:Int)≤57)=(c.toNat≤57):=by rw[eq_iff_iff];omega
  simp only[ZT,e1,e2,e3,bne];by_cases h1:r.length < 24 <;> by_cases h2:48≤c.toNat <;> by_cases h3:c.toNat≤57 <;> cases VG c <;> simp[h1,h2,h3]
end Go.Am
namespace Go.Am
set_option maxRecDepth 8000
attribute [simp] Mt Mu
attribute [simp] WS Zu VX QZ
attribute [simp] WG Pz ZM Q5 QC MQ Ci Cj Ck Cl Gd Gf Gg Gh Mr encTs_gp
attribute [simp] Int.toNat_natCast
attribute [simp] Mt Mu
theorem Pe (t:Tm) (bs:List (List AV)) (hm:t.mass < big) (ih: ∀x∈t.kids,∀bs,call F.tb 31 [.agg (Qb x)] bs=some (.int .i64 x.nodes,bs)):
  ∀(post pre:List Tm) (ρ:Nat→AV),t.kids=pre ++ post→ρ 7= .sl false 4 (encTs t.kids)→ρ 8= .int .i64 t.kids.length→ρ 9= .int .i64 pre.length→ρ 3= .int .i64 (1+nodesL pre:Nat)→
  R F.tb (.loop F.f31l0) ρ bs (Qi 0 (Qs F.tb F.f31r0 (Qy F.f31 bs)))=some (.int .i64 t.nodes,bs):=by
 have hm2:=Qu t;have hn:=nodesL_le_mass t.kids;unfold big at hm;intro post
 induction post with
 | nil=>
  intro pre ρ hk h7 h8 h9 h3;rw[Qc F.f31l0.eq_1];simp at hk;simp[h3,h8,h9,← hk,F.f31r0,Yo]
 | cons x post IH=>
  intro pre ρ hk h7 h8 h9 h3;have hg:=Qn hk;have hl:=Qv hk;have hnn:nodesL t.kids=nodesL pre+ (x.nodes+nodesL post):=by rw[hk,Z6];simp[nodesL]
  have hw1:=wr1 pre.length (by omega);have hw2:IntKind.i64.wrap (1+ (nodesL pre:Int)+ (x.nodes:Int))=1+ (nodesL pre:Int)+ (x.nodes:Int):=Zd (by omega) (by omega);have hlt:=Qw hk;rw[Qc F.f31l0.eq_1];simp[h3,h7,h8,h9,hg,hw1,hw2,hlt,ih x (by rw[hk];simp)];rw[IH (pre ++ [x])] <;> simp[h3,h7,h8,h9,hk,Z6,nodesL];omega
theorem Uj: ∀(t:Tm) (bs:List (List AV)),t.mass < big→call F.tb 31 [.agg (Qb t)] bs=some (.int .i64 t.nodes,bs):=by
 refine Zo ?_;intro k n s ks ih bs hm;rw[Qa F.tb_31 _ _ rfl];simp[F.f31C];refine Pe (.mk k n s ks) bs hm (fun x hx bs=>ih x hx bs ?_) ks [] _ ?_ ?_ ?_ ?_ ?_ <;> (try simp[nodesL]);have:=QB hx;have:=Qu (.mk k n s ks);simp at *;omega
end Go.Am
namespace Go.Am
set_option maxRecDepth 8000
def two (bs:List (List AV)) (i j:Nat) (n d:Int):List (List AV):=(bs.set i [.int .i64 n]).set j [.int .i64 d]
section
variable {bs:List (List AV)} {i j:Nat} {n d m:Int}
theorem UP: (two bs i j n d).length=bs.length:=by simp[two]
theorem QaM (hi:i < bs.length) (hij:i≠j): (two bs i j n d)[i]? =some [.int .i64 n]:=by
 rw[two,List.getElem?_set_ne (Ne.symm hij),List.getElem?_set_self hi]
theorem QaN (hj:j < bs.length): (two bs i j n d)[j]? =some [.int .i64 d]:=by simp[two,hj]
theorem Qav (hij:i≠j): (two bs i j n d).set i [.int .i64 m]=two bs i j m d:=by
 simp only[two];rw[List.set_comm _ _ (Ne.symm hij),List.set_set]
@[simp] theorem JO {n' d':Int}:YB (two bs i j n d) (two bs i j n' d')=true:=Mq (by simp[UP]) fun k x y hx hy=>by
 unfold two at hx hy;rw[List.getElem?_set]at hx hy;split at hy
 ·split at hy
  ·injection hy with hy;subst hy;exact .inr rfl
  ·cases hy
 ·rename_i hjk;rw[if_neg hjk]at hx;rw[List.getElem?_set]at hx hy;split at hy
  ·split at hy
   ·injection hy with hy;subst hy;exact .inr rfl
   ·cases hy
  ·rename_i hik;rw[if_neg hik,hy]at hx;injection hx with hx
   exact .inl hx.symm
theorem Qaw: (two bs i j n d).set j [.int .i64 m]=two bs i j n m:=by simp[two]
end
def V9 (t:Tm):Int:=
 if t.kind=1∨t.kind=2 then
  if(t.sort < 0∨5 < t.sort)∨0 < t.kids.length then 1 else if ZT t.name=false then 2 else if 8 < t.kids.length then 3 else 0
 else if t.kind=3 then
  if t.sort≠0 then 1 else if ZT t.name=false then 2 else if 8 < t.kids.length then 3 else 0
 else 1
mutual
def Xc:Tm→Int
 | .mk k n s ks=>if V9 (.mk k n s ks)≠0 then V9 (.mk k n s ks)else errL ks
def errL:List Tm→Int
 | []=>0
 | t:: ts=>if Xc t≠0 then Xc t else errL ts
end
mutual
def Wf:Tm→Int→Int×Int→Int×Int
 | .mk k n s ks,l,p=>if V9 (.mk k n s ks)≠0 then(p.1+1,if l > p.2 then l else p.2)else cntL ks l (p.1+1,if l > p.2 then l else p.2)
def cntL:List Tm→Int→Int×Int→Int×Int
 | [],_,p=>p
 | t:: ts,l,p=>if Xc t≠0 then Wf t (l+1) p else cntL ts l (Wf t (l+1) p)
end
mutual
theorem H9: ∀(t:Tm) (l:Int) (p:Int×Int),p.1≤(Wf t l p).1∧(Wf t l p).1≤p.1+t.nodes
 | .mk k n s ks,l,p=>by
  simp only[Wf,Tm.nodes];have:=cntL_le ks l (p.1+1,if l > p.2 then l else p.2);split <;> simp at * <;> omega
theorem cntL_le: ∀(ts:List Tm) (l:Int) (p:Int×Int),p.1≤(cntL ts l p).1∧(cntL ts l p).1≤p.1+nodesL ts
 | [],l,p=>by simp[cntL,nodesL]
 | t:: ts,l,p=>by
  simp only[cntL,nodesL];have:=H9 t (l+1) p;have:=cntL_le ts l (Wf t (l+1) p);split <;> omega
end
theorem Fh (t:Tm) (l:Int) (bs:List (List AV)) (i j:Nat) (hi:i < bs.length) (hj:j < bs.length) (hij:i≠j) (hm:t.mass < big) (hl:0≤l∧l+t.depth≤big) (n0 d0:Int)
  (ih: ∀x∈t.kids,∀n d:Int,0≤n→n+x.nodes < 2*big→call F.tb 7 [.agg (Qb x),.int .i64 (l+1),.gp i 0,.gp j 0] (two bs i j n d)=some (.int .i64 (Xc x),two bs i j (Wf x (l+1) (n,d)).1 (Wf x (l+1) (n,d)).2)):
  ∀(post pre:List Tm) (n d:Int) (ρ:Nat→AV),0≤n→n+nodesL post < 2*big→t.kids=pre ++ post→ρ 57= .sl false 4 (encTs t.kids)→ρ 58= .int .i64 t.kids.length→ρ 59= .int .i64 pre.length→
   ρ 1= .int .i64 l→ρ 2= .gp i 0→ρ 3= .gp j 0→
  R F.tb (.loop F.f7l0) ρ (two bs i j n d) (Qi 1 (Qs F.tb F.f7r0 (Qy F.f7 (two bs i j n0 d0))))=
   some (.int .i64 (errL post),two bs i j (cntL post l (n,d)).1 (cntL post l (n,d)).2):=by
 have hm2:=Qu t;have hdp:=RC t;unfold big at *;have hji:=Ne.symm hij;intro post
 induction post with
 | nil=>
  intro pre n d ρ hn hnb hk h57 h58 h59 h1 h2 h3;rw[Qc F.f7l0.eq_1];simp at hk;simp[h1,h2,h3,h57,h58,h59,← hk,F.f7r0,errL,cntL,UP];rw[List.take_of_length_le (by simp[UP])];exact⟨JO,rfl⟩
 | cons x post IH=>
  intro pre n d ρ hn hnb hk h57 h58 h59 h1 h2 h3;have hg:=Qn hk;have hlen:t.kids.length=pre.length+ (post.length+1):=by rw[hk];simp
  simp only[nodesL]at hnb;have hw1:=wr1 pre.length (by omega);have hw2:IntKind.i64.wrap (l+1)=l+1:=Zd (by omega) (by omega);have hlt: (pre.length:Int) < (t.kids.length:Int):=by omega
  have hx:=ih x (by rw[hk];simp) n d hn (by omega);have hc:=H9 x (l+1) (n,d);rw[Qc F.f7l0.eq_1];by_cases he:Xc x=0
  ·simp[h1,h2,h3,h57,h58,h59,hg,hw1,hw2,hlt,hx,he];simp only[errL,cntL,he,ne_eq,not_true,if_false];rw[IH (pre ++ [x])] <;> (first | (simp at hc;omega) | simp[h1,h2,h3,h57,h58,h59,hk])
  ·simp[h1,h2,h3,h57,h58,h59,hg,hw1,hw2,hlt,hx,he,errL,cntL];rw[List.take_of_length_le (by simp[UP])];exact⟨JO,rfl⟩
theorem Fc: ∀(t:Tm) (l:Int) (bs:List (List AV)) (i j:Nat) (n d:Int),i < bs.length→j < bs.length→i≠j→t.mass < big→0≤l→l+t.depth≤big→0≤n→n+t.nodes < 2*big→
  call F.tb 7 [.agg (Qb t),.int .i64 l,.gp i 0,.gp j 0] (two bs i j n d)=some (.int .i64 (Xc t),two bs i j (Wf t l (n,d)).1 (Wf t l (n,d)).2):=by
 refine Zo ?_;intro k nm s ks ih l bs i j n d hi hj hij hm hl hld hn hnb;have hm2:=Qu (.mk k nm s ks);have hnn:=Yo (.mk k nm s ks);have hdp:=RC (.mk k nm s ks);simp only[QZ,Zu]at hm2 hnn hdp;have hdl:=depthL_le_nodes ks;have hnm:=nodesL_le_mass ks;have hloop: ∀ρ:Nat→AV,ρ 57= .sl false 4 (encTs ks)→ρ 58= .int .i64 ks.length→ρ 59= .int .i64 0→
   ρ 1= .int .i64 l→ρ 2= .gp i 0→ρ 3= .gp j 0→
  R F.tb (.loop F.f7l0) ρ (two bs i j (n+1) (if l > d then l else d)) (Qi 1 (Qs F.tb F.f7r0 (Qy F.f7 (two bs i j n d))))=
   some (.int .i64 (errL ks),two bs i j (cntL ks l (n+1,if l > d then l else d)).1 (cntL ks l (n+1,if l > d then l else d)).2):=by
  intro ρ h57 h58 h59 h1 h2 h3;refine Fh (.mk k nm s ks) l bs i j hi hj hij hm ⟨hl,hld⟩ n d ?_ ks [] (n+1) (if l > d then l else d) ρ (by omega) (by omega) rfl h57 h58 h59 h1 h2 h3;intro x hx n d hn hnb;have h1:=QB hx;have h2:=Ns hx;simp only[QZ]at h1 h2;exact ih x hx (l+1) bs i j n d hi hj hij (by omega) (by omega) (by omega) hn hnb
 unfold big at hm hnb;have hw:IntKind.i64.wrap (n+1)=n+1:=Zd (by omega) (by omega);have hji:=Ne.symm hij;have htk: ∀(a b:Int),List.take bs.length (two bs i j a b)=two bs i j a b:=fun a b=>List.take_of_length_le (by simp[UP]);have hnl:nm.length < 4611686018427387904:=by omega
 have hks: ((8:Int) < ks.length)=(8 < ks.length):=by rw[eq_iff_iff];omega
 rw[Qa F.tb_7 _ _ rfl];simp (config:={maxSteps:=1000000}) [F.f7C,hw,QaM hi hij,QaN hj,Qav hij,Qaw,UP,I4,hnl,htk,hks];simp only[gt_iff_lt]at hloop;clear ih hm hl hld hn hnb hm2 hnn hdp hdl hnm hw htk hnl hks hi hj hij hji;generalize hdd: (if d < l then l else d)=d' at *;simp only[YW,decide_eq_true_eq,Bool.or_eq_true]
 repeat' split
 all_goals simp only[Xc,Wf,V9,WS,VX,Zu,QZ,gt_iff_lt,hdd]
 all_goals first
  | (rw[hloop] <;> simp[*];done)
  | (simp[*];done)
  | skip
def QM (t:Tm):Int:=if Xc t≠0 then Xc t else if 400 < t.nodes∨40 < t.depth then 3 else 0
mutual
theorem Ga: ∀(t:Tm) (l:Int) (p:Int×Int),Xc t=0→Wf t l p=(p.1+t.nodes,max p.2 (l+t.depth - 1))
 | .mk k n s ks,l,p,h=>by
  simp only[Xc]at h;split at h
  ·rename_i hne;exact absurd h hne
  ·rename_i hne;simp only[Wf,hne,if_false,Tm.nodes,Tm.depth];rw[cntL_ok ks l _ h];refine Prod.ext ?_ ?_
   ·simp;omega
   ·cases ks with
    | nil=>simp[depthL,nodesL];split <;> omega
    | cons t ts=>simp[depthL];split <;> omega
theorem cntL_ok: ∀(ts:List Tm) (l:Int) (p:Int×Int),errL ts=0→cntL ts l p=(p.1+nodesL ts,if ts=[]then p.2 else max p.2 (l+depthL ts))
 | [],l,p,_=>by simp[cntL,nodesL]
 | t:: ts,l,p,h=>by
  simp only[errL]at h;split at h
  ·rename_i hne;exact absurd h hne
  ·rename_i hne;have he:Xc t=0:=by simpa using hne
   simp only[cntL,hne,if_false,nodesL,depthL];rw[cntL_ok ts l _ h,Ga t (l+1) p he];refine Prod.ext ?_ ?_
   ·simp;omega
   ·cases ts with
    | nil=>simp[depthL];omega
    | cons u us=>simp[depthL];omega
end
theorem XI (t:Tm) (bs:List (List AV)) (hm:t.mass < big):call F.tb 6 [.agg (Qb t)] bs=some (.int .i64 (QM t),bs):=by
 have h2:bs ++ [[AV.int .i64 0],[AV.int .i64 0]]=two (bs ++ [[AV.int .i64 0],[AV.int .i64 0]]) bs.length (bs.length+1) 0 0:=by
  simp[two]
 have hn:=ZK t;have hd:=Ri t;have hb:big=1099511627776:=rfl;have hc:=Fc t 1 (bs ++ [[AV.int .i64 0],[AV.int .i64 0]]) bs.length (bs.length+1) 0 0 (by simp) (by simp) (by omega) hm (by omega) (by omega) (by omega) (by omega);rw[← h2]at hc;have hi:=QaM (bs:=bs ++ [[AV.int .i64 0],[AV.int .i64 0]]) (i:=bs.length) (j:=bs.length+1) (n:=(Wf t 1 (0,0)).1) (d:=(Wf t 1 (0,0)).2) (by simp) (by omega);have hj:=QaN (bs:=bs ++ [[AV.int .i64 0],[AV.int .i64 0]]) (i:=bs.length) (j:=bs.length+1) (n:=(Wf t 1 (0,0)).1) (d:=(Wf t 1 (0,0)).2) (by simp);have htk:List.take bs.length (two (bs ++ [[AV.int .i64 0],[AV.int .i64 0]]) bs.length (bs.length+1) (Wf t 1 (0,0)).1 (Wf t 1 (0,0)).2)=bs:=by
  simp[two]
 have hcnt:=Ga t 1 (0,0);rw[Qa F.tb_6 _ _ rfl];simp[F.f6C,hc,hi,hj,htk,QM];by_cases he:Xc t=0
 ·have:=RC t;have e1: (400 < (t.nodes:Int))=(400 < t.nodes):=by rw[eq_iff_iff];omega
  have e2: (40 < (max 0 (1+ (t.depth:Int) - 1)))=(40 < t.depth):=by rw[eq_iff_iff];omega
  simp[he,hcnt he,e1,e2,YW]
 ·simp[he]
end Go.Am
namespace Go.Am
set_option maxRecDepth 8000
theorem Rz (a b:Int) (bs:List (List AV)):call F.tb 32 [.int .i64 a,.int .i64 b] bs=some (.int .i64 (sgn a b),bs):=Pm a b bs
theorem OR (a b:List UInt8) (bs:List (List AV)):call F.tb 33 [.str a,.str b] bs=some (.int .i64 (YP a b),bs):=by
 rw[Xb F.tb_33];rfl
theorem UQ (t u:Tm) (bs:List (List AV)) (hm:t.mass < big) (hu:u.mass < big)
  (ih: ∀x∈t.kids,∀y bs,y.mass < big→call F.tb 30 [.agg (Qb x),.agg (Qb y)] bs=some (.int .i64 (Qm x y),bs)):
  ∀(xs ys pre pre':List Tm) (c:Int) (ρ:Nat→AV),t.kids=pre ++ xs→u.kids=pre' ++ ys→pre.length=pre'.length→(c=0→xs.length=ys.length)→
   ρ 2= .bx (Qb t)→ρ 3= .bx (Qb u)→ρ 5= .int .i64 c→ρ 6= .int .i64 pre.length→
  R F.tb (.loop F.f30l0) ρ bs (Qi 0 (Qs F.tb F.f30r0 (Qy F.f30 bs)))=some (.int .i64 (or0 c (cmpL xs ys)),bs):=by
 have hm2:=Qu t;have hu2:=Qu u;intro xs
 induction xs with
 | nil=>
  intro ys pre pre' c ρ hk hk' hp hc h2 h3 h5 h6;rw[Qc F.f30l0.eq_1];simp at hk;by_cases h0:c=0
  ·simp[h2,h3,h5,h6,h0,F.f30r0,hk,cmpL,LE]
  ·simp[h2,h3,h5,h6,h0,F.f30r0,cmpL,LE]
 | cons x xs IH=>
  intro ys pre pre' c ρ hk hk' hp hc h2 h3 h5 h6;rw[Qc F.f30l0.eq_1];by_cases h0:c=0
  ·obtain⟨y,ys',rfl⟩: ∃y ys',ys=y:: ys':=by
    have:=hc h0;cases ys with
    | nil=>simp at this
    | cons y ys'=>exact⟨y,ys',rfl⟩
   have hg:=Qn hk;have hg':=Qn hk';rw[← hp]at hg';have hl:t.kids.length=pre.length+ (xs.length+1):=by rw[hk];simp
   have hlt: (pre.length:Int) < (t.kids.length:Int):=by omega
   have hym:y.mass < big:=by have:=QB (x:=y) (ks:=u.kids) (by rw[hk'];simp);omega
   unfold big at hm hu;have hw1:=wr1 pre.length (by omega);simp[h2,h3,h5,h6,h0,hlt,hg,hg',hw1,ih x (by rw[hk];simp) y bs hym];rw[IH ys' (pre ++ [x]) (pre' ++ [y]) (Qm x y)] <;> first | omega | (simp[hk,hk',hp,h2,h3,cmpL,WW];done) | (intro _;have:=hc h0;simp at this;omega)
  ·simp[h2,h3,h5,h6,h0,F.f30r0,cmpL,VF]
theorem call_Compare: ∀(t u:Tm) (bs:List (List AV)),t.mass < big→u.mass < big→call F.tb 30 [.agg (Qb t),.agg (Qb u)] bs=some (.int .i64 (Qm t u),bs):=by
 refine Zo ?_;intro k n s ks ih u bs hm hu;have hloop:=UQ (.mk k n s ks) u bs hm hu (fun x hx y bs hy=>ih x hx y bs (by have:=QB hx;have:=Qu (.mk k n s ks);simp at *;omega) hy) ks u.kids [] [] (hdT (.mk k n s ks) u);rw[Qa F.tb_30 _ _ rfl,VT];have hsz:=Uj (.mk k n s ks) bs hm;have hsz':=Uj u bs hu;simp[F.f30C,hsz,hsz',Rz,OR];by_cases c1:sgn (Tm.mk k n s ks).nodes u.nodes=0 <;> by_cases c2:sgn k u.kind=0 <;> by_cases c3:YP n u.name=0 <;> by_cases c4:sgn s u.sort=0 <;>
  simp[c1,c2,c3,c4,YW] <;> rw[hloop] <;> first | (simp[hdT,c1,c2,c3,c4,WW,VF];done) | (simp[hdT,c1,c2,c3,c4,Ta,WW,VF];omega) | skip
theorem G0 (t:Tm) (bs:List (List AV)) (hm:t.mass < big) (ih: ∀x∈t.kids,∀bs,call F.tb 60 [.agg (Qb x)] bs=some (.int .i64 x.nodes,bs)):
  ∀(post pre:List Tm) (ρ:Nat→AV),t.kids=pre ++ post→ρ 1= .bx (Qb t)→ρ 4= .int .i64 pre.length→ρ 3= .int .i64 (1+nodesL pre:Nat)→
  R F.tb (.loop F.f60l0) ρ bs (Qi 0 (Qs F.tb F.f60r0 (Qy F.f60 bs)))=some (.int .i64 t.nodes,bs):=by
 have hm2:=Qu t;have hn:=nodesL_le_mass t.kids;unfold big at hm;intro post
 induction post with
 | nil=>
  intro pre ρ hk h1 h4 h3;rw[Qc F.f60l0.eq_1];simp at hk;simp[h1,h3,h4,← hk,F.f60r0,Yo]
 | cons x post IH=>
  intro pre ρ hk h1 h4 h3;have hg:=Qn hk;have hl:=Qv hk;have hnn:nodesL t.kids=nodesL pre+ (x.nodes+nodesL post):=by rw[hk,Z6];simp[nodesL]
  have hw1:=wr1 pre.length (by omega);have hw2:IntKind.i64.wrap (1+ (nodesL pre:Int)+ (x.nodes:Int))=1+ (nodesL pre:Int)+ (x.nodes:Int):=Zd (by omega) (by omega);have hlt:=Qw hk;rw[Qc F.f60l0.eq_1];simp[h3,h1,h4,hg,hw1,hw2,hlt,ih x (by rw[hk];simp)];rw[IH (pre ++ [x])] <;> simp[h3,h1,h4,hk,Z6,nodesL];omega
theorem Rx: ∀(t:Tm) (bs:List (List AV)),t.mass < big→call F.tb 60 [.agg (Qb t)] bs=some (.int .i64 t.nodes,bs):=by
 refine Zo ?_;intro k n s ks ih bs hm;rw[Qa F.tb_60 _ _ rfl];simp[F.f60C];refine G0 (.mk k n s ks) bs hm (fun x hx bs=>ih x hx bs ?_) ks [] _ ?_ ?_ ?_ ?_ <;> (try simp[nodesL]);have:=QB hx;have:=Qu (.mk k n s ks);simp at *;omega
theorem Ln (a b:List Tm):depthL (a ++ b)=max (depthL a) (depthL b):=by
 induction a with
 | nil=>simp[depthL]
 | cons t ts ih=>simp[depthL,ih]
theorem IQ (t:Tm) (bs:List (List AV)) (hm:t.mass < big) (ih: ∀x∈t.kids,∀bs,call F.tb 61 [.agg (Qb x)] bs=some (.int .i64 x.depth,bs)):
  ∀(post pre:List Tm) (ρ:Nat→AV),t.kids=pre ++ post→ρ 1= .bx (Qb t)→ρ 4= .int .i64 pre.length→ρ 3= .int .i64 (depthL pre:Nat)→
  R F.tb (.loop F.f61l0) ρ bs (Qi 0 (Qs F.tb F.f61r0 (Qy F.f61 bs)))=some (.int .i64 t.depth,bs):=by
 have hm2:=Qu t;have hn:=depthL_le_nodes t.kids;have hn2:=nodesL_le_mass t.kids;unfold big at hm;intro post
 induction post with
 | nil=>
  intro pre ρ hk h1 h4 h3;rw[Qc F.f61l0.eq_1];simp at hk;have hw2:IntKind.i64.wrap ((depthL pre:Int)+1)=(depthL pre:Int)+1:=Zd (by omega) (by rw[← hk];omega);simp[h1,h3,h4,hk,hw2,F.f61r0,RC]
 | cons x post IH=>
  intro pre ρ hk h1 h4 h3;have hg:=Qn hk;have hl:=Qv hk;have hw1:=wr1 pre.length (by omega);have hlt:=Qw hk;rw[Qc F.f61l0.eq_1];simp[h3,h1,h4,hg,hw1,hlt,ih x (by rw[hk];simp)];rw[IH (pre ++ [x])] <;> simp[h3,h1,h4,hk,Ln,depthL];split <;> omega
theorem I0: ∀(t:Tm) (bs:List (List AV)),t.mass < big→call F.tb 61 [.agg (Qb t)] bs=some (.int .i64 t.depth,bs):=by
 refine Zo ?_;intro k n s ks ih bs hm;rw[Qa F.tb_61 _ _ rfl];simp[F.f61C];refine IQ (.mk k n s ks) bs hm (fun x hx bs=>ih x hx bs ?_) ks [] _ ?_ ?_ ?_ ?_ <;> (try simp[depthL]);have:=QB hx;have:=Qu (.mk k n s ks);simp at *;omega
theorem JC (a b:Int) (bs:List (List AV)):call F.tb 91 [.int .i64 a,.int .i64 b] bs=some (.int .i64 (sgn a b),bs):=by
 rw[Qa F.tb_91 _ _ rfl];simp[F.f91,F.f91C,sgn]
theorem Lc (t u:Tm) (bs:List (List AV)) (hm:t.mass < big) (hu:u.mass < big)
  (ih: ∀x∈t.kids,∀y bs,y.mass < big→call F.tb 90 [.agg (Qb x),.agg (Qb y)] bs=some (.int .i64 (Qm x y),bs)):
  ∀(xs ys pre pre':List Tm) (ρ:Nat→AV),t.kids=pre ++ xs→u.kids=pre' ++ ys→pre.length=pre'.length→xs.length=ys.length→
   ρ 2= .bx (Qb t)→ρ 3= .bx (Qb u)→ρ 9= .int .i64 pre.length→
  R F.tb (.loop F.f90l0) ρ bs (Qi 0 (Qs F.tb F.f90r0 (Qy F.f90 bs)))=some (.int .i64 (cmpL xs ys),bs):=by
 have hm2:=Qu t;have hu2:=Qu u;intro xs
 induction xs with
 | nil=>
  intro ys pre pre' ρ hk hk' hp hc h2 h3 h9;rw[Qc F.f90l0.eq_1];simp at hk;simp[h2,h3,h9,F.f90r0,hk,cmpL]
 | cons x xs IH=>
  intro ys pre pre' ρ hk hk' hp hc h2 h3 h9;rw[Qc F.f90l0.eq_1];obtain⟨y,ys',rfl⟩: ∃y ys',ys=y:: ys':=by
   cases ys with
   | nil=>simp at hc
   | cons y ys'=>exact⟨y,ys',rfl⟩
  have hg:=Qn hk;have hg':=Qn hk';rw[← hp]at hg';have hl:t.kids.length=pre.length+ (xs.length+1):=by rw[hk];simp
  have hlt: (pre.length:Int) < (t.kids.length:Int):=by omega
  have hym:y.mass < big:=by have:=QB (x:=y) (ks:=u.kids) (by rw[hk'];simp);omega
  unfold big at hm hu;have hw1:=wr1 pre.length (by omega);by_cases h0:Qm x y=0
  ·simp[h2,h3,h9,h0,hlt,hg,hg',hw1,ih x (by rw[hk];simp) y bs hym];rw[IH ys' (pre ++ [x]) (pre' ++ [y])] <;> first | omega | (simp[hk,hk',hp,h0,h2,h3,cmpL,WW];done) | (simp at hc;omega)
  ·simp[h2,h3,h9,h0,hlt,hg,hg',hw1,ih x (by rw[hk];simp) y bs hym,cmpL,VF]
theorem Wr: ∀(t u:Tm) (bs:List (List AV)),t.mass < big→u.mass < big→call F.tb 90 [.agg (Qb t),.agg (Qb u)] bs=some (.int .i64 (Qm t u),bs):=by
 refine Zo ?_;intro k n s ks ih u bs hm hu;have hloop:=Lc (.mk k n s ks) u bs hm hu (fun x hx y bs hy=>ih x hx y bs (by have:=QB hx;have:=Qu (.mk k n s ks);simp at *;omega) hy) ks u.kids [] [];rw[Qa F.tb_90 _ _ rfl,VT];have hsz:=Rx (.mk k n s ks) bs hm;have hsz':=Rx u bs hu;simp[F.f90C,hsz,hsz',JC];have b0:YP n u.name=if Op.bytesLess n u.name then -1 else if(Op.bytesLess n u.name || n == u.name)=false then 1 else 0:=by
  unfold YP;cases Op.bytesLess n u.name <;> cases hh: (n == u.name) <;> simp
 generalize (n == u.name)=q at *;generalize Op.bytesLess n u.name=p at *;by_cases c1:sgn (Tm.mk k n s ks).nodes u.nodes=0 <;> by_cases c2:sgn k u.kind=0 <;> cases p <;> cases q <;> by_cases c4:sgn s u.sort=0 <;>
  by_cases c6:sgn ks.length u.kids.length=0 <;> simp[c1,c2,c4,c6,YW,hdT,WW,VF,b0]
 all_goals (rw[hloop] <;> (try simp) <;> (try (have:=Ta.1 c6;omega)))
theorem We (t u:Tm) (bs:List (List AV)) (hm:t.mass < big) (hu:u.mass < big):call F.tb 89 [.agg (Qb t),.agg (Qb u)] bs=some (.bool (decide (Qm t u=0)),bs):=by
 rw[Qa F.tb_89 _ _ rfl];simp[F.f89,F.f89C,Wr t u bs hm hu]
end Go.Am
namespace Go.Am
set_option maxRecDepth 8000
mutual
def VA:Tm→Int→Int
 | .mk _ n _ ks,m=>if m≤0∨40 < n.length then -1 else budL ks (m - 1)
def budL:List Tm→Int→Int
 | [],m=>m
 | t:: ts,m=>if VA t m < 0 then -1 else budL ts (VA t m)
end
mutual
theorem Mf: ∀(t:Tm) (m:Int),VA t m= -1∨0≤VA t m∧VA t m+t.nodes≤m∧t.mass+1≤42*t.nodes
 | .mk k n s ks,m=>by
  simp only[VA,Tm.nodes,Tm.mass];split
  ·exact .inl rfl
  ·rename_i h;rcases budL_le ks (m - 1) (by omega)with h1 | h1
   ·exact .inl h1
   ·right;omega
theorem budL_le: ∀(ts:List Tm) (m:Int),0≤m→budL ts m= -1∨0≤budL ts m∧budL ts m+nodesL ts≤m∧massL ts+ts.length≤42*nodesL ts
 | [],m,h=>by simp[budL,nodesL,massL];omega
 | t:: ts,m,h=>by
  simp only[budL,nodesL,massL,List.length_cons];split
  ·exact .inl rfl
  ·rename_i h0;rcases Mf t m with h1 | h1
   ·omega
   ·rcases budL_le ts (VA t m) (by omega)with h2 | h2
    ·exact .inl h2
    ·right;omega
end
theorem BR (t:Tm) (bs:List (List AV)) (m0:Int) (hm:m0 < 1000000) (ih: ∀x∈t.kids,∀(m:Int) bs,m < 1000000→call F.tb 102 [.agg (Qb x),.int .i64 m] bs=some (.int .i64 (VA x m),bs)):
  ∀(post pre:List Tm) (m:Int) (ρ:Nat→AV),t.kids=pre ++ post→0≤m→m+pre.length≤m0→ρ 2= .bx (Qb t)→ρ 5= .int .i64 pre.length→ρ 1= .int .i64 m→
  R F.tb (.loop F.f102l0) ρ bs (Qi 0 (Qs F.tb F.f102r0 (Qy F.f102 bs)))=some (.int .i64 (budL post m),bs):=by
 intro post
 induction post with
 | nil=>
  intro pre m ρ hk h0 hp h2 h5 h1;rw[Qc F.f102l0.eq_1];simp at hk;simp[h1,h2,h5,hk,F.f102r0,budL]
 | cons x post IH=>
  intro pre m ρ hk h0 hp h2 h5 h1;have hg:=Qn hk;have hl:=Qv hk;have hw1:=wr1 pre.length (by omega);have hlt:=Qw hk;have hn:=Yo x;rw[Qc F.f102l0.eq_1];rcases Mf x m with hb | hb
  ·simp[h1,h2,h5,hg,hw1,hlt,ih x (by rw[hk];simp) m bs (by omega),hb,budL]
  ·have hb0: ¬VA x m < 0:=by omega
   simp[h1,h2,h5,hg,hw1,hlt,ih x (by rw[hk];simp) m bs (by omega),hb0,budL];rw[IH (pre ++ [x]) (VA x m)] <;> first | omega | (simp[h1,h2,h5,hk];done) | (simp;omega)
theorem JH: ∀(t:Tm) (m:Int) (bs:List (List AV)),m < 1000000→call F.tb 102 [.agg (Qb t),.int .i64 m] bs=some (.int .i64 (VA t m),bs):=by
 refine Zo ?_;intro k n s ks ih m bs hm;rw[Qa F.tb_102 _ _ rfl];have hn: (40 < (n.length:Int))=(40 < n.length):=by rw[eq_iff_iff];omega
 simp[F.f102C,YW,hn,VA];split
 ·rfl
 ·rename_i hc;have hw:IntKind.i64.wrap (m - 1)=m - 1:=Zd (by omega) (by omega);refine BR (.mk k n s ks) bs m hm (fun x hx=>ih x hx) ks [] (m - 1) _ ?_ ?_ ?_ ?_ ?_ ?_ <;> first | (simp[hw];done) | (simp;omega)
def few (l:List Tm) (n:Nat) (m:Int):Bool:=decide (l.length≤n) && decide (0≤budL l m)
theorem Aq (l:List Tm) (o:Bool) (bs:List (List AV)) (hl:l.length < 1000000):
  ∀(post pre:List Tm) (m:Int) (ρ:Nat→AV),l=pre ++ post→0≤m→m < 1000000→ρ 0= .sl o 4 (encTs l)→ρ 7= .int .i64 pre.length→ρ 2= .int .i64 m→
  R F.tb (.loop F.f101l0) ρ bs (Qi 0 (Qs F.tb F.f101r0 (Qy F.f101 bs)))=some (.bool (decide (0≤budL post m)),bs):=by
 intro post
 induction post with
 | nil=>
  intro pre m ρ hk h0 hm hr0 h7 h2;rw[Qc F.f101l0.eq_1];simp at hk;simp[hr0,h7,h2,hk,F.f101r0,budL,h0]
 | cons x post IH=>
  intro pre m ρ hk h0 hm hr0 h7 h2;have hg:=Qn hk;have hl:=Qv hk;have hw1:=wr1 pre.length (by omega);have hlt:=Qw hk;rw[Qc F.f101l0.eq_1];rcases Mf x m with hb | hb
  ·simp[hr0,h7,h2,hg,hw1,hlt,JH x m bs (by omega),hb,budL]
  ·have hb0: ¬VA x m < 0:=by omega
   simp[hr0,h7,h2,hg,hw1,hlt,JH x m bs (by omega),hb0,budL];rw[IH (pre ++ [x]) (VA x m)] <;> first | omega | (simp[hr0,h7,h2,hk];done)
theorem OS (l:List Tm) (o:Bool) (n:Nat) (m:Int) (bs:List (List AV)) (hn:n < 1000000) (h0:0≤m) (hm:m < 1000000):
  call F.tb 101 [.sl o 4 (encTs l),.int .i64 n,.int .i64 m] bs=some (.bool (few l n m),bs):=by
 rw[Qa F.tb_101 _ _ rfl];have e1: ((n:Int) < (l.length:Int))=(n < l.length):=by rw[eq_iff_iff];omega
 simp[F.f101C,YW,few];split
 ·have: ¬l.length≤n:=by omega
  simp[this]
 ·have:l.length≤n:=by omega
  rw[Aq l false bs (by omega) l [] m] <;> simp[this,h0,hm]
end Go.Am
namespace Go.Am
set_option maxRecDepth 8000
def Vl (c:UInt8):Bool:=(97≤c.toNat && c.toNat≤122) || (65≤c.toNat && c.toNat≤90)
def UX (c:UInt8):Bool:=48≤c.toNat && c.toNat≤57
theorem Ve (c:UInt8):VG c=(Vl c || UX c || c.toNat == 95 || c.toNat == 35):=rfl
theorem WR (m n:Nat): ((m:Int)≤(n:Int))=(m≤n):=by rw[eq_iff_iff];omega
theorem TB (c:UInt8) (bs:List (List AV)):call F.tb 58 [.int .u8 c.toNat] bs=some (.bool (Vl c),bs):=by
 rw[Qa F.tb_58 _ _ rfl];have e1: ((97:Int)≤(c.toNat:Int))=(97≤c.toNat):=WR 97 _;have e2: ((c.toNat:Int)≤122)=(c.toNat≤122):=WR _ 122;have e3: ((65:Int)≤(c.toNat:Int))=(65≤c.toNat):=WR 65 _;have e4: ((c.toNat:Int)≤90)=(c.toNat≤90):=WR _ 90;simp[F.f58,F.f58C,Vl,e1,e2,e3,e4]
theorem Nn (c:UInt8) (bs:List (List AV)):call F.tb 59 [.int .u8 c.toNat] bs=some (.bool (UX c),bs):=by
 rw[Qa F.tb_59 _ _ rfl];have e1: ((48:Int)≤(c.toNat:Int))=(48≤c.toNat):=WR 48 _;have e2: ((c.toNat:Int)≤57)=(c.toNat≤57):=WR _ 57;simp[F.f59,F.f59C,UX,e1,e2]
theorem ML (n:Nat): ((n:Int)=95)=(n=95):=by rw[eq_iff_iff];omega
theorem MK (n:Nat): ((n:Int)=35)=(n=35):=by rw[eq_iff_iff];omega
theorem Jm (s:List UInt8) (bs:List (List AV)) (hs:s.length < 4611686018427387904): ∀(post pre:List UInt8) (ρ:Nat→AV),s=pre ++ post→ρ 0= .str s→ρ 3= .int .i64 pre.length→
  R F.tb (.loop F.f57l0) ρ bs (Qi 0 (Qs F.tb F.f57r0 (Qy F.f57 bs)))=some (.bool (post.all VG),bs):=by
 intro post
 induction post with
 | nil=>
  intro pre ρ hk h0 h3;rw[Qc F.f57l0.eq_1];simp at hk;simp[h0,h3,hk,F.f57r0]
 | cons x post IH=>
  intro pre ρ hk h0 h3;have hg:=Qn hk;have hl:=Qv hk;have hw1:=wr1 pre.length (by omega);have hlt:=Qw hk;rw[Qc F.f57l0.eq_1];cases hp:VG x
  ·rw[Ve]at hp;simp only[Bool.or_eq_false_iff]at hp;obtain⟨⟨⟨p1,p2⟩,p3⟩,p4⟩:=hp;have p3': ¬x.toNat=95:=by simpa using p3
   have p4': ¬x.toNat=35:=by simpa using p4
   simp[h0,h3,hg,hw1,hlt,TB,Nn,p1,p2,p3',p4',ML,MK,Ve]
  ·simp[h0,h3,hg,hw1,hlt,TB,Nn,ML,MK,Ve,YW];split
   ·rename_i hc;simp[Ve,hc]at hp
   ·rw[IH (pre ++ [x])]
    ·simp[Ve]at hp;simp[hp]
    ·simp[hk]
    ·simp[h0]
    ·simp
theorem FC {c:UInt8} (h:Vl c=true):UX c=false∧(c.toNat == 95)=false∧(c.toNat == 35)=false:=by
 simp only[Vl,Bool.or_eq_true,Bool.and_eq_true,decide_eq_true_eq]at h;refine⟨?_,?_,?_⟩
 ·simp only[UX,Bool.and_eq_false_iff,decide_eq_false_iff_not];omega
 ·simp;omega
 ·simp;omega
theorem Hi (c:UInt8) (r:List UInt8):ZT (c:: r)=(decide (r.length < 24) && Vl c && (c:: r).all VG):=by
 have hd: (decide (48≤c.toNat) && decide (c.toNat≤57))=UX c:=rfl;simp only[ZT,List.all_cons,hd,bne];cases hl:Vl c
 ·rw[Ve,hl];cases UX c <;> cases (c.toNat == 95) <;> cases (c.toNat == 35) <;> simp
 ·obtain⟨h1,h2,h3⟩:=FC hl;rw[Ve,hl,h1,h2,h3];simp
theorem Pi (s:List UInt8) (bs:List (List AV)) (hs:s.length < 4611686018427387904):call F.tb 57 [.str s] bs=some (.bool (ZT s),bs):=by
 rw[Qa F.tb_57 _ _ rfl];cases s with
 | nil=>simp[F.f57C,ZT]
 | cons c r=>
  have e1: (24 < (r.length:Int)+1)=¬(r.length < 24):=by rw[eq_iff_iff];omega
  have e2: ((r.length:Int)+1=0)=False:=eq_false (by omega);rw[Hi];by_cases h1:r.length < 24 <;> cases h2:Vl c <;>
  simp[F.f57C,TB,e1,e2,h1,h2,-List.all_cons];rw[Jm (c:: r) bs hs (c:: r) []] <;> (try simp)
theorem Rw (s:List UInt8) (n:Int) (bs:List (List AV)):call F.tb 107 [.str s,.int .i64 n] bs=some (.agg (Qb (.mk 2 s n [])),bs):=by
 rw[Qa F.tb_107 _ _ rfl];simp[F.f107,F.f107C,Fo]
end Go.Am
namespace Go.Am
set_option maxRecDepth 8000
theorem YO: ∀a:List UInt8,Op.bytesLess a a=false
 | []=>rfl
 | c:: r=>by simp[Op.bytesLess,YO r]
theorem MM (a:List UInt8):YP a a=0:=by simp[YP,YO]
theorem Qah (a:Int):sgn a a=0:=Ta.2 rfl
theorem Aw (t:Tm):hdT t t=0:=by simp[hdT,Qah,MM,or0]
mutual
theorem Wa: ∀t:Tm,Qm t t=0
 | .mk k n s ks=>by rw[Qm,Aw,WW];exact cmpL_refl ks
theorem cmpL_refl: ∀ts:List Tm,cmpL ts ts=0
 | []=>by simp[cmpL]
 | t:: ts=>by rw[cmpL,Wa t,WW];exact cmpL_refl ts
end
theorem GY (a:List Tm) (bs:List (List AV)) (oa ob:Bool) (ha:massL a < big) (hl:a.length < 4611686018427387904):
  ∀(post pre:List Tm) (ρ:Nat→AV),a=pre ++ post→ρ 0= .sl oa 4 (encTs a)→ρ 1= .sl ob 4 (encTs a)→ρ 5= .int .i64 pre.length→
  R F.tb (.loop F.f112l0) ρ bs (Qi 0 (Qs F.tb F.f112r0 (Qy F.f112 bs)))=some (.bool true,bs):=by
 intro post
 induction post with
 | nil=>
  intro pre ρ hk h0 h1 h5;rw[Qc F.f112l0.eq_1];simp at hk;simp[h0,h1,h5,hk,F.f112r0]
 | cons x post IH=>
  intro pre ρ hk h0 h1 h5;have hg:=Qn hk;have hl:=Qv hk;have hw1:=wr1 pre.length (by omega);have hlt:=Qw hk;have hx:x.mass < big:=by have:=QB (x:=x) (ks:=a) (by rw[hk];simp);omega
  rw[Qc F.f112l0.eq_1];simp[h0,h1,h5,hg,hw1,hlt,We x x bs hx hx,Wa];rw[IH (pre ++ [x])] <;> simp[h0,h1,hk]
theorem Ti (a:List Tm) (bs:List (List AV)) (oa ob:Bool) (ha:massL a < big) (hl:a.length < 4611686018427387904):
  call F.tb 112 [.sl oa 4 (encTs a),.sl ob 4 (encTs a)] bs=some (.bool true,bs):=by
 rw[Qa F.tb_112 _ _ rfl];simp[F.f112C];rw[GY a bs false false ha hl a []] <;> simp
theorem RG {l:List Tm} {n:Nat} {m:Int} (h0:0≤m) (h:few l n m=true):l.length≤n∧massL l+l.length≤42*m.toNat∧nodesL l≤m.toNat:=by
 simp only[few,Bool.and_eq_true,decide_eq_true_eq]at h;rcases budL_le l m h0 with h1 | h1
 ·omega
 ·omega
end Go.Am
namespace Go.Am
set_option maxRecDepth 8000
theorem Fi (t:Tm) (bs:List (List AV)) (hm:t.mass < big) (ih: ∀x∈t.kids,∀bs,call F.tb 48 [.agg (Qb x)] bs=some (.agg (Qb x),bs)):
  ∀(post pre:List Tm) (ρ:Nat→AV),t.kids=pre ++ post→ρ 1= .bx [.int .i64 t.kind,.str t.name,.int .i64 t.sort,.sl true 4 (encTs pre)]→ρ 2= .bx [.int .i64 0,.str [],.int .i64 0,.sl true 4 []]→
   ρ 9= .sl false 4 (encTs t.kids)→ρ 10= .int .i64 t.kids.length→ρ 11= .int .i64 pre.length→
  R F.tb (.loop F.f48l0) ρ bs (Qi 0 (Qs F.tb F.f48r0 (Qy F.f48 bs)))=some (.agg (Qb t),bs):=by
 have hm2:=Qu t;unfold big at hm;intro post
 induction post with
 | nil=>
  intro pre ρ hk h1 h2 h9 h10 h11;rw[Qc F.f48l0.eq_1];simp at hk;rw[← hk]at h1 h11;simp[h1,h2,h9,h10,h11,F.f48r0,WF,Tm.eta]
 | cons x post IH=>
  intro pre ρ hk h1 h2 h9 h10 h11;have hg:=Qn hk;have hl:=Qv hk;have hw1:=wr1 pre.length (by omega);have hlt:=Qw hk;have ha: (pre.length+1)*56≤140737488355328:=by omega
  rw[Qc F.f48l0.eq_1];simp[h1,h2,h9,h10,h11,hg,hw1,hlt,ha,ih x (by rw[hk];simp),Zi,Q1];rw[IH (pre ++ [x])] <;> simp[h2,h9,h10,hk]
theorem Ry: ∀(t:Tm) (bs:List (List AV)),t.mass < big→call F.tb 48 [.agg (Qb t)] bs=some (.agg (Qb t),bs):=by
 refine Zo ?_;intro k n s ks ih bs hm;rw[Qa F.tb_48 _ _ rfl];simp[F.f48C,Qb];refine Fi (.mk k n s ks) bs hm (fun x hx bs=>ih x hx bs ?_) ks [] _ ?_ ?_ ?_ ?_ ?_ ?_ <;> (try simp[encTs]);have:=QB hx;have:=Qu (.mk k n s ks);simp at *;omega
theorem JG (n:List UInt8) (ks:List Tm) (o:Bool) (bs:List (List AV)):call F.tb 49 [.str n,.sl o 4 (encTs ks)] bs=some (.agg (Qb (.mk 3 n 0 ks)),bs):=by
 rw[Qa F.tb_49 _ _ rfl];simp[F.f49,F.f49C,WF]
structure Sy where
 n:List UInt8
 l:Int
 m:Int
 k:Int
def XD (s:Sy):List AV:=[.str s.n,.int .i64 s.l,.int .i64 s.m,.int .i64 s.k]
def Yy:List Sy:=[⟨[112,97,105,114],2,2,1⟩,⟨[101,110,99],2,2,1⟩,⟨[97,101,110,99],2,2,1⟩,⟨[112,107],1,1,1⟩,⟨[115,105,103,110],2,2,1⟩,⟨[104,97,115,104],1,1,1⟩,
 ⟨[120,111,114],2,8,1⟩,⟨[122,101,114,111],0,0,1⟩,⟨[101,120,112],2,2,1⟩,⟨[109,117,108],2,8,1⟩,⟨[105,110,118],1,1,1⟩,⟨[111,110,101],0,0,1⟩,
 ⟨[115,107],1,1,2⟩,⟨[115,104,107],2,2,2⟩,⟨[110,101,119],1,8,2⟩,⟨[102,115,116],1,1,3⟩,⟨[115,110,100],1,1,3⟩,⟨[100,101,99],2,2,3⟩,⟨[97,100,101,99],2,2,3⟩,⟨[111,112,101,110],2,2,3⟩,⟨[114,101,97,100],1,1,3⟩]
def Xi (ys:List Sy):List (List AV):=ys.map XD
@[simp] theorem Lp (ys:List Sy):gpfreeE (Xi ys)=true:=by
 induction ys with
 | nil=>rfl
 | cons y ys ih=>simpa[Xi,XD,gpfreeE,gpfreeL,AV.gpfree]using ih
@[simp] theorem QgK (ys:List Sy): (Xi ys).length=ys.length:=by simp[Xi]
theorem JF (k l m:Int) (n:List UInt8) (ys:List Sy) (bs:List (List AV)) (hx:ys.length < 1000):
  call F.tb 45 [.int .i64 k,.str n,.int .i64 l,.int .i64 m,.gp bs.length 0] (bs ++ [[.sl true 4 (Xi ys)]])=some (.tup [],bs ++ [[.sl true 4 (Xi (ys ++ [⟨n,l,m,k⟩]))]]):=by
 rw[Qa F.tb_45 _ _ rfl];have ha: (ys.length+1)*40≤140737488355328:=by omega
 have h1:Xi (ys ++ [⟨n,l,m,k⟩])=Xi ys ++ [[.str n,.int .i64 l,.int .i64 m,.int .i64 k]]:=by simp[Xi,XD]
 have h2:gpfreeE (Xi ys ++ [[.str n,.int .i64 l,.int .i64 m,.int .i64 k]])=true:=by rw[← h1];exact Lp _
 simp[F.f45,F.f45C,ha,h1,h2,List.take_of_length_le,gpfreeL]
theorem Cb (k l m:Int) (n:List UInt8) (bs:List (List AV)):
  call F.tb 45 [.int .i64 k,.str n,.int .i64 l,.int .i64 m,.gp bs.length 0] (bs ++ [[.sl true 4 []]])=some (.tup [],bs ++ [[.sl true 4 (Xi [⟨n,l,m,k⟩])]]):=JF k l m n [] bs (by simp)
theorem JE (bs:List (List AV)):call F.tb 44 [] bs=some (.sl false 4 (Xi Yy),bs):=by
 rw[Qa F.tb_44 _ _ rfl];simp only[F.f44,F.f44C];simp[Cb,JF,Yy]
def Zm (n:List UInt8):List Sy→Option Sy
 | []=>none
 | s:: ss=>if s.n=n then some s else Zm n ss
theorem PA {l:List Sy} {pre post:List Sy} {s:Sy} (h:l=pre ++ s:: post): (Xi l)[pre.length]? =some (XD s):=by
 subst h;simp[Xi]
theorem Hw (n:List UInt8) (l:List Sy) (bs:List (List AV)) (hn:l.length < 1000):
  ∀(post pre:List Sy) (ρ:Nat→AV),l=pre ++ post→ρ 0= .str n→ρ 2= .bx [.str [],.int .i64 0,.int .i64 0,.int .i64 0]→
   ρ 5= .sl false 4 (Xi l)→ρ 6= .int .i64 l.length→ρ 7= .int .i64 pre.length→
  R F.tb (.loop F.f43l0) ρ bs (Qi 0 (Qs F.tb F.f43r0 (Qy F.f43 bs)))=
   some (.agg (match Zm n post with | some s=>XD s | none=>[.str [],.int .i64 0,.int .i64 0,.int .i64 0]),bs):=by
 intro post
 induction post with
 | nil=>
  intro pre ρ hk h0 h2 h5 h6 h7;rw[Qc F.f43l0.eq_1];simp at hk;rw[← hk]at h7;simp[h0,h2,h5,h6,h7,F.f43r0,Zm]
 | cons x post IH=>
  intro pre ρ hk h0 h2 h5 h6 h7;have hg:=PA hk;have hl:=Qv hk;have hw1:=wr1 pre.length (by omega);have hlt:=Qw hk;rw[Qc F.f43l0.eq_1];by_cases hx:x.n=n
  ·simp[h0,h2,h5,h6,h7,hg,hw1,hlt,XD,hx,Zm]
  ·have hxb: (x.n == n)=false:=by simp[hx]
   simp[h0,h2,h5,h6,h7,hg,hw1,hlt,XD,hx,hxb,Zm];rw[IH (pre ++ [x])] <;> simp[h0,h2,h5,h6,hk,XD]
theorem YU (n:List UInt8) (bs:List (List AV)):call F.tb 43 [.str n] bs=some (.agg (match Zm n Yy with | some s=>XD s | none=>[.str [],.int .i64 0,.int .i64 0,.int .i64 0]),bs):=by
 rw[Qa F.tb_43 _ _ rfl];simp[F.f43C,JE];refine Hw n Yy bs (by simp[Yy]) Yy [] _ rfl ?_ ?_ ?_ ?_ ?_ <;> simp
end Go.Am
