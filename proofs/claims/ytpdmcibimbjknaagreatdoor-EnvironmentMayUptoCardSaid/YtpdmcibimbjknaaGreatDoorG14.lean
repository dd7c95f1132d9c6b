/-
  Am21, Am22, Am23, Ge1, Ge2, Ge3, Ge4, Ge5, Ge6, Ge10, Ge11.
-/
import Derived.Test.YtpdmcibimbjknaaGreatDoorG09
import Derived.Test.YtpdmcibimbjknaaGreatDoorG13
set_option linter.unusedVariables false
set_option linter.unusedSimpArgs false
namespace Go.Am
abbrev Out:=Option (AV×List (List AV))
abbrev Kn:=Ex→St→Out
section
variable {T:Nat→Option AFn}
noncomputable def R (T:Nat→Option AFn) (c:AC) (ρ:Nat→AV) (bs:List (List AV)) (k:Kn):Out:=match run T c ⟨ρ,bs⟩with
 | some (e,s)=>k e s
 | none=>none
noncomputable def O (T:Nat→Option AFn) (os:List Qr) (ρ:Nat→AV) (bs:List (List AV)) (k:Kn):Out:=match Zn (call T) os ⟨ρ,bs⟩with
 | some s=>k .normal s
 | none=>none
noncomputable def E (T:Nat→Option AFn) (r:Option (AV×St)) (d:Option Nat) (os:List Qr) (k:Kn):Out:=match r with
 | some p=>O T os (ZR p.2.env d p.1) p.2.bs k
 | none=>none
def YA (c b:Bool) (x y:Out):Out:=if c=b then x else y
noncomputable def Qq (T:Nat→Option AFn) (b:AC) (k:Kn):Kn:=fun e s=>match e with
 | .normal=>match run T b s with
  | some (e,s)=>k e s
  | none=>none
 | e=>k e s
def Qh (id:Nat) (k:Kn):Kn:=fun e s=>match e with
 | .exit i=>k (if i=id then .normal else .exit i) s
 | e=>k e s
def Qx (fn:Qe) (n:List (List AV)):Kn:=fun e s=>match e with
 | .normal=>Yn fn n s
 | .ret=>Yn fn n s
 | .exit _=>none
theorem Ok (x y:Out):YA true true x y=x:=rfl
theorem LQ (x y:Out):YA false false x y=x:=rfl
theorem LR (x y:Out):YA true false x y=y:=rfl
theorem Oj (x y:Out):YA false true x y=y:=rfl
theorem Ga (c b:Bool) (x:Out):YA c b x x=x:=by unfold YA;split <;> rfl
theorem Ev (c b:Bool) (x y:Out):YA (!c) b x y=YA c (!b) x y:=by cases c <;> cases b <;> rfl
theorem Xd (c b:Bool) (x y:Out):YA c b x y=if c=b then x else y:=rfl
theorem QgK (ρ:Nat→AV) (bs:List (List AV)) (k:Kn):R T .skip ρ bs k=k .normal ⟨ρ,bs⟩:=by simp only[R,HB]
theorem QhZ (ρ:Nat→AV) (bs:List (List AV)) (k:Kn):R T .ret ρ bs k=k .ret ⟨ρ,bs⟩:=by simp only[R,Fx]
theorem QgI (id:Nat) (ρ:Nat→AV) (bs:List (List AV)) (k:Kn):R T (.exit id) ρ bs k=k (.exit id) ⟨ρ,bs⟩:=by simp only[R,Hz]
theorem QhY (d:Bool) (ops:List Qr) (ρ:Nat→AV) (bs:List (List AV)) (k:Kn):R T (.reg d ops) ρ bs k=O T ops ρ bs k:=by
 simp only[R,O,Fw];cases Zn (call T) ops ⟨ρ,bs⟩ <;> rfl
theorem Qh0 (a b:AC) (ρ:Nat→AV) (bs:List (List AV)) (k:Kn):R T (.seq a b) ρ bs k=R T a ρ bs (Qq T b k):=by
 simp only[R,Fy];cases run T a ⟨ρ,bs⟩with
 | none=>rfl
 | some x=>
  obtain⟨e,s⟩:=x;cases e <;> rfl
theorem Qcu (id:Nat) (c:AC) (ρ:Nat→AV) (bs:List (List AV)) (k:Kn):R T (.block id c) ρ bs k=R T c ρ bs (Qh id k):=by
 simp only[R,L0];cases run T c ⟨ρ,bs⟩with
 | none=>rfl
 | some x=>
  obtain⟨e,s⟩:=x;cases e <;> rfl
theorem QgJ (c:AC) (ρ:Nat→AV) (bs:List (List AV)) (k:Kn):R T (.loop c) ρ bs k=R T c ρ bs (Qq T (.loop c) k):=by
 simp only[R];rw[HA];cases run T c ⟨ρ,bs⟩with
 | none=>rfl
 | some x=>
  obtain⟨e,s⟩:=x;cases e <;> rfl
theorem Gs (b:AC) (k:Kn) (ρ:Nat→AV) (bs:List (List AV)):Qq T b k .normal ⟨ρ,bs⟩=R T b ρ bs k:=rfl
theorem Qbw (b:AC) (k:Kn) (s:St):Qq T b k .ret s=k .ret s:=rfl
theorem Ax (b:AC) (k:Kn) (s:St) (id:Nat):Qq T b k (.exit id) s=k (.exit id) s:=rfl
theorem L7 (id:Nat) (k:Kn) (s:St):Qh id k .normal s=k .normal s:=rfl
theorem F2 (id:Nat) (k:Kn) (s:St):Qh id k .ret s=k .ret s:=rfl
theorem HT (id:Nat) (k:Kn) (s:St):Qh id k (.exit id) s=k .normal s:=by simp[Qh]
theorem H7 (fn:Qe) (k:List (List AV)) (s:St):Qx fn k .normal s=Yn fn k s:=rfl
theorem QaL (fn:Qe) (k:List (List AV)) (s:St):Qx fn k .ret s=Yn fn k s:=rfl
noncomputable def Eh (T:Nat→Option AFn) (v:AV) (n:Nat) (a b:AC) (ρ:Nat→AV) (bs:List (List AV)) (k:Kn):Out:=match v with
 | .bool c=>YA c true (R T a (upd ρ n (.bool true)) bs k) (R T b (upd ρ n (.bool false)) bs k)
 | _=>none
theorem Wp {ρ:Nat→AV} {n:Nat} {v:AV} (h:ρ n=v):upd ρ n v=ρ:=by
 funext j;unfold upd;split
 ·rename_i hj;rw[hj,h]
 ·rfl
theorem QgH (n:Nat) (a b:AC) (ρ:Nat→AV) (bs:List (List AV)) (k:Kn):R T (.cond (.t n) a b) ρ bs k=Eh T (ρ n) n a b ρ bs k:=by
 simp only[R,Hy,val,Eh];cases h:ρ n <;> try rfl
 rename_i c;cases c
 ·simp only[AV.strip,Oj,Wp h]
 ·simp only[AV.strip,Ok,Wp h]
theorem Ei (c:Bool) (n:Nat) (a b:AC) (ρ:Nat→AV) (bs:List (List AV)) (k:Kn):
  Eh T (.bool c) n a b ρ bs k=YA c true (R T a (upd ρ n (.bool true)) bs k) (R T b (upd ρ n (.bool false)) bs k):=rfl
theorem QhX (ρ:Nat→AV) (bs:List (List AV)) (k:Kn):O T [] ρ bs k=k .normal ⟨ρ,bs⟩:=rfl
theorem QgD (d:Option Nat) (op:AOp) (os:List Qr) (ρ:Nat→AV) (bs:List (List AV)) (k:Kn):
  O T (⟨d,op,none⟩:: os) ρ bs k=E T (Qg (call T) op ⟨ρ,bs⟩) d os k:=by
 simp only[O,E,Zn,Zr];cases Qg (call T) op ⟨ρ,bs⟩ <;> rfl
noncomputable def Mm (T:Nat→Option AFn) (v:AV) (t:Nat) (b:Bool) (d:Option Nat) (op:AOp) (os:List Qr) (ρ:Nat→AV) (bs:List (List AV)) (k:Kn):Out:=match v with
 | .bool c=>YA c b (E T (Qg (call T) op ⟨upd ρ t (.bool b),bs⟩) d os k) (O T os (ZR (upd ρ t (.bool (!b))) d (.tup [])) bs k)
 | .tup []=>O T os (ZR ρ d (.tup [])) bs k
 | _=>none
theorem Wr (d:Option Nat) (op:AOp) (t:Nat) (b:Bool) (os:List Qr) (ρ:Nat→AV) (bs:List (List AV)) (k:Kn):
  O T (⟨d,op,some (t,b)⟩:: os) ρ bs k=Mm T (ρ t) t b d op os ρ bs k:=by
 simp only[O,Zn,Zr,Mm];cases h:ρ t <;> try rfl
 ·rename_i c;by_cases hcb:c=b
  ·subst hcb;simp only[YA,if_true,Wp h,E];cases Qg (call T) op ⟨ρ,bs⟩ <;> rfl
  ·have hcb2:c= !b:=by cases c <;> cases b <;> simp_all
   subst hcb2;simp only[YA,hcb,if_false,Wp h];rfl
 ·rename_i vs;cases vs <;> rfl
theorem WL (c:Bool) (t:Nat) (b:Bool) (d:Option Nat) (op:AOp) (os:List Qr) (ρ:Nat→AV) (bs:List (List AV)) (k:Kn):
  Mm T (.bool c) t b d op os ρ bs k=YA c b (E T (Qg (call T) op ⟨upd ρ t (.bool b),bs⟩) d os k) (O T os (ZR (upd ρ t (.bool (!b))) d (.tup [])) bs k):=rfl
theorem Mn (t:Nat) (b:Bool) (d:Option Nat) (op:AOp) (os:List Qr) (ρ:Nat→AV) (bs:List (List AV)) (k:Kn):
  Mm T (.tup []) t b d op os ρ bs k=O T os (ZR ρ d (.tup [])) bs k:=rfl
theorem Qe7 (v:AV) (ρ:Nat→AV) (bs:List (List AV)) (d:Nat) (os:List Qr) (k:Kn):E T (some (v,⟨ρ,bs⟩)) (some d) os k=O T os (upd ρ d v) bs k:=rfl
theorem Qcf (v:AV) (ρ:Nat→AV) (bs:List (List AV)) (os:List Qr) (k:Kn):E T (some (v,⟨ρ,bs⟩)) none os k=O T os ρ bs k:=rfl
theorem Qe6 (d:Option Nat) (os:List Qr) (k:Kn):E T none d os k=none:=rfl
theorem Az (ρ:Nat→AV) (d:Nat) (v:AV):ZR ρ (some d) v=upd ρ d v:=rfl
theorem Ay (ρ:Nat→AV) (v:AV):ZR ρ none v=ρ:=rfl
theorem Qa {f:Nat} {fn:Qe} (h:T f=some (.code fn)) (args:List AV) (bs:List (List AV)) (hl:args.length=fn.nparams):
  call T f args bs=R T fn.body (YK args) bs (Qx fn bs):=by
 rw[Ld,h];simp only[hl,if_true,R];cases run T fn.body ⟨YK args,bs⟩with
 | none=>rfl
 | some x=>
  obtain⟨e,s⟩:=x;cases e <;> rfl
theorem Y6 {f:Nat} {g:List AV→List (List AV)→Option (AV×List (List AV))} (h:T f=some (.orc g)) (args:List AV) (bs:List (List AV)):call T f args bs=g args bs:=by
 rw[Ld,h]
theorem Qab (a:AV) (aq:List AV):YK (a:: aq) 0=a.strip:=rfl
theorem HS (a:AV) (aq:List AV) (i:Nat):YK (a:: aq) (i+1)=YK aq i:=rfl
theorem W8 (ρ:Nat→AV) (i:Nat) (v:AV):upd ρ i v i=v:=by simp[upd]
variable {K:ZJ} (ρ:Nat→AV) (bs:List (List AV))
theorem Qi5 (n:Nat):val ρ (.t n)=(ρ n).strip:=rfl
theorem Qi4 (v:AV):val ρ (.c v)=v:=rfl
end
end Go.Am
namespace Go.Am
section
variable {T:Nat→Option AFn}
def Ty (b:Bool):AV→Bool
 | .bool c=>c == !b
 | .tup []=>true
 | _=>false
noncomputable def O2 (T:Nat→Option AFn) (c:Bool) (_t:Nat) (b:Bool) (os:List Qr) (ρ1 ρ2:Nat→AV) (bs1 bs2:List (List AV)) (k:Kn):Out:=
 if c=b then O T os ρ1 bs1 k else O T os ρ2 bs2 k
noncomputable def E2 (T:Nat→Option AFn) (c:Bool) (_t:Nat) (b:Bool) (r:Option (AV×St)) (d:Option Nat) (os:List Qr) (ρ2:Nat→AV) (bs2:List (List AV)) (k:Kn):Out:=
 if c=b then E T r d os k else O T os (ZR ρ2 d (.tup [])) bs2 k
def ZM (c b:Bool) (x y:AV):AV:=if c=b then x else y
def NR (c b:Bool) (x y:List (List AV)):List (List AV):=if c=b then x else y
def mrg (c b:Bool) (ρ1 ρ2:Nat→AV):Nat→AV:=fun j=>ZM c b (ρ1 j) (ρ2 j)
theorem Qeq (c b:Bool) (ρ1 ρ2:Nat→AV) (j:Nat):mrg c b ρ1 ρ2 j=ZM c b (ρ1 j) (ρ2 j):=rfl
theorem GJ (c:Bool) (t:Nat) (b:Bool) (os:List Qr) (ρ1 ρ2:Nat→AV) (bs1 bs2:List (List AV)) (k:Kn):
  O2 T c t b os ρ1 ρ2 bs1 bs2 k=O T os (mrg c b ρ1 ρ2) (NR c b bs1 bs2) k:=by
 unfold O2;split
 ·rename_i h;have:mrg c b ρ1 ρ2=ρ1:=by funext j;simp[mrg,ZM,h]
  rw[this,NR,if_pos h]
 ·rename_i h;have:mrg c b ρ1 ρ2=ρ2:=by funext j;simp[mrg,ZM,h]
  rw[this,NR,if_neg h]
theorem QgC (c:Bool) (t:Nat) (b:Bool) (ρ1 ρ2:Nat→AV) (bs1 bs2:List (List AV)) (k:Kn):
  O2 T c t b [] ρ1 ρ2 bs1 bs2 k=O T [] (mrg c b ρ1 ρ2) (NR c b bs1 bs2) k:=GJ c t b [] ρ1 ρ2 bs1 bs2 k
theorem Qcr (c:Bool) (t:Nat) (b:Bool) (d:Option Nat) (op:AOp) (os:List Qr) (ρ1 ρ2:Nat→AV) (bs1 bs2:List (List AV)) (k:Kn):
  O2 T c t b (⟨d,op,none⟩:: os) ρ1 ρ2 bs1 bs2 k=O T (⟨d,op,none⟩:: os) (mrg c b ρ1 ρ2) (NR c b bs1 bs2) k:=GJ c t b _ ρ1 ρ2 bs1 bs2 k
theorem A1 (c:Bool) (t:Nat) (b:Bool) (d:Option Nat) (op:AOp) (t':Nat) (b':Bool) (os:List Qr) (ρ1 ρ2:Nat→AV) (bs1 bs2:List (List AV)) (k:Kn) (_h: ((t' == t) && (b' == b))=false):
  O2 T c t b (⟨d,op,some (t',b')⟩:: os) ρ1 ρ2 bs1 bs2 k=YA c b (O T (⟨d,op,some (t',b')⟩:: os) ρ1 bs1 k) (O T (⟨d,op,some (t',b')⟩:: os) ρ2 bs2 k):=by
 unfold O2 YA;rfl
theorem Qcs (c:Bool) (t:Nat) (b:Bool) (d:Option Nat) (op:AOp) (os:List Qr) (ρ1 ρ2:Nat→AV) (bs1 bs2:List (List AV)) (k:Kn) (h1:ρ1 t= .bool b) (h2:Ty b (ρ2 t)=true):
  O2 T c t b (⟨d,op,some (t,b)⟩:: os) ρ1 ρ2 bs1 bs2 k=E2 T c t b (Qg (call T) op ⟨ρ1,bs1⟩) d os ρ2 bs2 k:=by
 unfold O2 E2;split
 ·rw[Wr,h1,WL,Xd,if_pos rfl,Wp h1]
 ·rw[Wr];unfold Ty at h2;split at h2
  ·rename_i c hc;rw[hc,WL];simp only[beq_iff_eq]at h2;subst h2;rw[Xd,if_neg (by cases b <;> simp),Wp hc]
  ·rename_i hc;rw[hc,Mn]
  ·cases h2
theorem Qce (c:Bool) (t:Nat) (b:Bool) (v:AV) (ρ1:Nat→AV) (bs1:List (List AV)) (d:Option Nat) (os:List Qr) (ρ2:Nat→AV) (bs2:List (List AV)) (k:Kn):
  E2 T c t b (some (v,⟨ρ1,bs1⟩)) d os ρ2 bs2 k=O2 T c t b os (ZR ρ1 d v) (ZR ρ2 d (.tup [])) bs1 bs2 k:=rfl
noncomputable def G (T:Nat→Option AFn) (v:AV) (d:Option Nat) (op:AOp) (t:Nat) (b:Bool) (os:List Qr) (ρ:Nat→AV) (bs:List (List AV)) (k:Kn):Out:=match v with
 | .bool c=>O2 T c t b (⟨d,op,some (t,b)⟩:: os) (upd ρ t (.bool b)) (upd ρ t (.bool (!b))) bs bs k
 | .tup []=>O T os (ZR (upd ρ t (.tup [])) d (.tup [])) bs k
 | _=>none
theorem RL (c:Bool) (d:Option Nat) (op:AOp) (t:Nat) (b:Bool) (os:List Qr) (ρ:Nat→AV) (bs:List (List AV)) (k:Kn):
  G T (.bool c) d op t b os ρ bs k=O2 T c t b (⟨d,op,some (t,b)⟩:: os) (upd ρ t (.bool b)) (upd ρ t (.bool (!b))) bs bs k:=rfl
theorem Qb4 (d:Option Nat) (op:AOp) (t:Nat) (b:Bool) (os:List Qr) (ρ:Nat→AV) (bs:List (List AV)) (k:Kn):
  G T (.tup []) d op t b os ρ bs k=O T os (ZR (upd ρ t (.tup [])) d (.tup [])) bs k:=rfl
theorem Qct (d:Option Nat) (op:AOp) (t:Nat) (b:Bool) (os:List Qr) (ρ:Nat→AV) (bs:List (List AV)) (k:Kn):
  O T (⟨d,op,some (t,b)⟩:: os) ρ bs k=G T (ρ t) d op t b os ρ bs k:=by
 cases h:ρ t <;> try (rw[Wr,h];rfl)
 ·rename_i c;rw[RL];unfold O2;by_cases hcb:c=b
  ·subst hcb;simp[Wp h]
  ·have hcb2:c= !b:=by cases c <;> cases b <;> simp_all
   subst hcb2;rw[Wp h,if_neg hcb]
 ·rename_i vs;cases vs with
  | nil=>rw[Qb4,Wr,h,Mn,Wp h]
  | cons v vs=>rw[Wr,h];rfl
theorem QgB (d:Option Nat) (op:AOp) (t:Nat) (os:List Qr) (ρ:Nat→AV) (bs:List (List AV)) (k:Kn):
  G T (.bool true) d op t true os ρ bs k=E T (Qg (call T) op ⟨upd ρ t (.bool true),bs⟩) d os k:=by
 rw[RL];unfold O2;rw[if_pos rfl,Wr,W8,WL,Ok,Wp (W8 _ _ _)]
theorem Qcq (d:Option Nat) (op:AOp) (t:Nat) (os:List Qr) (ρ:Nat→AV) (bs:List (List AV)) (k:Kn):
  G T (.bool false) d op t false os ρ bs k=E T (Qg (call T) op ⟨upd ρ t (.bool false),bs⟩) d os k:=by
 rw[RL];unfold O2;rw[if_pos rfl,Wr,W8,WL,LQ,Wp (W8 _ _ _)]
theorem Qje (d:Option Nat) (op:AOp) (t:Nat) (os:List Qr) (ρ:Nat→AV) (bs:List (List AV)) (k:Kn):
  G T (.bool true) d op t false os ρ bs k=O T os (ZR (upd ρ t (.bool true)) d (.tup [])) bs k:=by
 rw[RL];unfold O2;rw[if_neg (by simp),Wr,W8];simp only[WL,LR,Bool.not_false];rw[Wp (W8 _ _ _)]
theorem Qjd (d:Option Nat) (op:AOp) (t:Nat) (os:List Qr) (ρ:Nat→AV) (bs:List (List AV)) (k:Kn):
  G T (.bool false) d op t true os ρ bs k=O T os (ZR (upd ρ t (.bool false)) d (.tup [])) bs k:=by
 rw[RL];unfold O2;rw[if_neg (by simp),Wr,W8];simp only[WL,Oj,Bool.not_true];rw[Wp (W8 _ _ _)]
theorem Au (c b:Bool) (x:AV):ZM c b x x=x:=by unfold ZM;split <;> rfl
theorem Ar (c b:Bool) (x:List (List AV)):NR c b x x=x:=by unfold NR;split <;> rfl
theorem QhF (c b:Bool) (x y z:AV):ZM c b (ZM c b x y) z=ZM c b x z:=by unfold ZM;split <;> simp_all
theorem QhG (c b:Bool) (x y z:AV):ZM c b x (ZM c b y z)=ZM c b x z:=by unfold ZM;split <;> simp_all
theorem QeS (c:Bool) (x y z:AV):ZM c true (ZM c false x y) z=ZM c true y z:=by cases c <;> rfl
theorem QeT (c:Bool) (x y z:AV):ZM c true x (ZM c false y z)=ZM c true x y:=by cases c <;> rfl
theorem QeP (c:Bool) (x y z:AV):ZM c false (ZM c true x y) z=ZM c false y z:=by cases c <;> rfl
theorem QeQ (c:Bool) (x y z:AV):ZM c false x (ZM c true y z)=ZM c false x y:=by cases c <;> rfl
theorem Aw (c:Bool) (x y:AV):ZM c false x y=ZM c true y x:=by cases c <;> rfl
theorem Qbu (x y:AV):ZM true true x y=x:=rfl
theorem At (x y:AV):ZM false true x y=y:=rfl
theorem As (c x y:Bool):ZM c true (.bool x) (.bool y)= .bool (bif c then x else y):=by cases c <;> rfl
theorem Qbt (c:Bool) (k:IntKind) (x y:Int):ZM c true (.int k x) (.int k y)= .int k (bif c then x else y):=by cases c <;> rfl
theorem Dg (c b:Bool) (x y:AV): (ZM c b x y).strip=ZM c b x.strip y.strip:=by unfold ZM;split <;> rfl
theorem QeR (c b:Bool) (x y:AV): (ZM c b x y).ok=if c=b then x.ok else y.ok:=by unfold ZM;split <;> rfl
theorem Qbv (c b:Bool) (x y:AV): (ZM c b x y).one=if c=b then x.one else y.one:=by unfold ZM;split <;> rfl
theorem Av (c b d:Bool) (x y:AV):Ty d (ZM c b x y)=if c=b then Ty d x else Ty d y:=by unfold ZM;split <;> rfl
theorem Gg (c b:Bool):Ty b (.bool c)=(c == !b):=rfl
theorem EB (b:Bool):Ty b (.tup [])=true:=rfl
def ER (v x y:AV) (s:St):Option (AV×St):=match v with
 | .bool c=>let v:=ZM c true x y;if v.ok then some (v,s)else none
 | _=>none
theorem QgY {K:ZJ} (c a b:AO) (ρ:Nat→AV) (bs:List (List AV)):Qg K (.pick c a b) ⟨ρ,bs⟩=ER (val ρ c) (val ρ a) (val ρ b) ⟨ρ,bs⟩:=by
 simp only[Qg,ER];cases val ρ c <;> try rfl
 rename_i x;cases x <;> rfl
theorem ES (c:Bool) (x y:AV) (s:St):ER (.bool c) x y s=if(ZM c true x y).ok then some (ZM c true x y,s)else none:=rfl
end
end Go.Am
namespace Go.Am
theorem Qe2 (ρ:Nat→AV) (i:Nat) (v:AV) (j:Nat):upd ρ i v j=if j=i then v else ρ j:=rfl
theorem Kp:AV.strip (.undef)= .undef:=rfl
theorem E7:AV.ok (.undef)=false:=rfl
theorem Gl:AV.one (.undef)=false:=rfl
theorem Gk:AV.gpfree (.undef)=true:=rfl
theorem Gp (k:IntKind) (n:Int):AV.strip (.int k n)= .int k n:=rfl
theorem Qbl (k:IntKind) (n:Int):AV.ok (.int k n)=true:=rfl
theorem Ao (k:IntKind) (n:Int):AV.one (.int k n)=true:=rfl
theorem Af (k:IntKind) (n:Int):AV.gpfree (.int k n)=true:=rfl
theorem HD (b:Bool):AV.strip (.bool b)= .bool b:=rfl
theorem Aj (b:Bool):AV.ok (.bool b)=true:=rfl
theorem E9 (b:Bool):AV.one (.bool b)=true:=rfl
theorem E5 (b:Bool):AV.gpfree (.bool b)=true:=rfl
theorem HC:AV.strip (.anyb)= .anyb:=rfl
theorem Ai:AV.ok (.anyb)=true:=rfl
theorem E8:AV.one (.anyb)=true:=rfl
theorem E0:AV.gpfree (.anyb)=true:=rfl
theorem Gq (s:List UInt8):AV.strip (.str s)= .str s:=rfl
theorem Qbm (s:List UInt8):AV.ok (.str s)=true:=rfl
theorem Ap (s:List UInt8):AV.one (.str s)=true:=rfl
theorem Ag (s:List UInt8):AV.gpfree (.str s)=true:=rfl
theorem Gm (cs:List AV):AV.strip (.agg cs)= .agg cs:=rfl
theorem Qbj (cs:List AV):AV.ok (.agg cs)=true:=rfl
theorem Al (cs:List AV):AV.one (.agg cs)=false:=rfl
theorem Ad (cs:List AV):AV.gpfree (.agg cs)=gpfreeL cs:=rfl
theorem Df (o:Bool) (z:Nat) (xs:List (List AV)):AV.strip (.sl o z xs)= .sl false z xs:=rfl
theorem QeO (o:Bool) (z:Nat) (xs:List (List AV)):AV.ok (.sl o z xs)=true:=rfl
theorem Qbs (o:Bool) (z:Nat) (xs:List (List AV)):AV.one (.sl o z xs)=true:=rfl
theorem Qbi (o:Bool) (z:Nat) (xs:List (List AV)):AV.gpfree (.sl o z xs)=gpfreeE xs:=rfl
theorem Db (cs:List AV):AV.strip (.bx cs)= .bx cs:=rfl
theorem QeK (cs:List AV):AV.ok (.bx cs)=false:=rfl
theorem Qbo (cs:List AV):AV.one (.bx cs)=false:=rfl
theorem Qbf (cs:List AV):AV.gpfree (.bx cs)=gpfreeL cs:=rfl
theorem Dd (i o:Nat):AV.strip (.gp i o)= .gp i o:=rfl
theorem QeM (i o:Nat):AV.ok (.gp i o)=true:=rfl
theorem Qbq (i o:Nat):AV.one (.gp i o)=true:=rfl
theorem Qbh (i o:Nat):AV.gpfree (.gp i o)=false:=rfl
theorem De (i o z n:Nat):AV.strip (.gs i o z n)= .gs i o z n:=rfl
theorem QeN (i o z n:Nat):AV.ok (.gs i o z n)=true:=rfl
theorem Qbr (i o z n:Nat):AV.one (.gs i o z n)=true:=rfl
theorem HE (cs:List AV):AV.strip (.rptr cs)= .rptr cs:=rfl
theorem Ak (cs:List AV):AV.ok (.rptr cs)=true:=rfl
theorem Da (cs:List AV):AV.one (.rptr cs)=true:=rfl
theorem E6 (cs:List AV):AV.gpfree (.rptr cs)=gpfreeL cs:=rfl
theorem Dc (f:Nat) (cs:List AV):AV.strip (.fn f cs)= .fn f cs:=rfl
theorem QeL (f:Nat) (cs:List AV):AV.ok (.fn f cs)=true:=rfl
theorem Qbp (f:Nat) (cs:List AV):AV.one (.fn f cs)=true:=rfl
theorem Qbg (f:Nat) (cs:List AV):AV.gpfree (.fn f cs)=gpfreeL cs:=rfl
theorem Gr (vs:List AV):AV.strip (.tup vs)= .tup vs:=rfl
theorem Qbn (vs:List AV):AV.ok (.tup vs)=true:=rfl
theorem Aq (vs:List AV):AV.one (.tup vs)=false:=rfl
theorem Ah (vs:List AV):AV.gpfree (.tup vs)=gpfreeL vs:=rfl
theorem Gn (b:Bool):AV.strip (.err b)= .err b:=rfl
theorem Qbk (b:Bool):AV.ok (.err b)=true:=rfl
theorem An (b:Bool):AV.one (.err b)=true:=rfl
theorem Ae (b:Bool):AV.gpfree (.err b)=true:=rfl
theorem QaT {α:Type} (p:Prop) [Decidable p] (a b c:α): (if p then(if p then a else b)else c)=if p then a else c:=by split <;> simp_all
theorem QaS {α:Type} (p:Prop) [Decidable p] (a b c:α): (if p then a else(if p then b else c))=if p then a else c:=by split <;> simp_all
attribute [simp] Kp E7 Gl Gk Gp Qbl Ao Af HD Aj E9 E5 HC Ai E8 E0 Gq Qbm Ap Ag Gm Qbj Al Ad Df QeO Qbs Qbi Db QeK Qbo Qbf Dd QeM Qbq Qbh De QeN Qbr HE Ak Da E6 Dc QeL Qbp Qbg Gr Qbn Aq Ah Gn Qbk An Ae QaT QaS
attribute [simp] eqVE_refl QgK QhZ QgI QhY Qh0 Qcu QgH QhX QgD Qct Qe7 Qcf Qe6 Az Ay Ei Gs Qbw Ax L7 F2 HT H7 QaL Ok LR LQ Oj Ev Ga Qg Qi5 Qi4 Qab HS Nq aun Yn Xq WM gpfreeL gpfreeE Y2 Z0 cellsOf put Qe2 QgC Qcr A1 Qcs Qce Qeq RL Qb4 Gg EB Au Ar QhF QhG QeS QeT QeP QeQ Aw Qbu At As Qbt Dg QeR Qbv Av ES
attribute [simp ↓] QgY
attribute [simp 2000] QgB Qcq Qje Qjd
theorem Gc (c:Bool) (x y:Out):YA c false x y=YA c true y x:=by cases c <;> rfl
theorem H9 (c x y:Bool) (s:List (List AV)):YA c true (some (.bool x,s)) (some (.bool y,s))=some (.bool (bif c then x else y),s):=by cases c <;> rfl
theorem I2 (c:Bool) (k:IntKind) (x y:Int) (s:List (List AV)):YA c true (some (.int k x,s)) (some (.int k y,s))=some (.int k (bif c then x else y),s):=by cases c <;> rfl
theorem Qb {T:Nat→Option AFn} {c c':AC} (h:c=c') (ρ:Nat→AV) (bs:List (List AV)) (k:Kn):R T (.loop c) ρ bs k=R T c' ρ bs (Qq T (.loop c) k):=by
 subst h;exact QgJ c ρ bs k
attribute [simp] toI
theorem QL {α:Type} (x:α) (xs:List α): (x:: xs)[0]? =some x:=rfl
attribute [simp] Gc H9 I2 Tv Yx Q9 Bool.cond_decide
theorem QW {n:Int} (h1: -9223372036854775808≤n) (h2:n < 9223372036854775808):IntKind.i64.wrap n=n:=by
 simp only[IntKind.wrap_i64];omega
theorem wr1 (n:Nat) (h:n+1 < 9223372036854775808):IntKind.i64.wrap ((n:Int)+1)=(n:Int)+1:=QW (by omega) (by omega)
theorem Qu {α:Type} {l pre post:List α} {x:α} (h:l=pre ++ x:: post):l.length=pre.length+ (post.length+1):=by rw[h];simp
theorem Qv {α:Type} {l pre post:List α} {x:α} (h:l=pre ++ x:: post): (pre.length:Int) < (l.length:Int):=by have:=Qu h;omega
@[simp] theorem QjZ (n:Nat) (vs:List AV):stV (.t n) vs=vs.map AV.strip:=rfl
@[simp] theorem QjW (z:Nat) (vs:List AV):stV (.c (.sl true z [])) vs=vs.map fun _=> .sl true z []:=rfl
@[simp] theorem QjV (k:IntKind) (n:Int) (vs:List AV):stV (.c (.int k n)) vs=vs.map AV.strip:=rfl
@[simp] theorem QjX (s:List UInt8) (vs:List AV):stV (.c (.str s)) vs=vs.map AV.strip:=rfl
@[simp] theorem QjJ (b:Bool) (vs:List AV):stV (.c (.bool b)) vs=vs.map AV.strip:=rfl
@[simp] theorem QjT (cs:List AV) (vs:List AV):stV (.c (.agg cs)) vs=vs.map AV.strip:=rfl
@[simp] theorem QjU (b:Bool) (vs:List AV):stV (.c (.err b)) vs=vs.map AV.strip:=rfl
@[simp] theorem QjQ (i o k:Nat):Se (.gs i o 0 0) (.sl true k [])= .sl true k []:=rfl
@[simp] theorem QjF (k:IntKind) (n:Int) (z:AV):Se (.int k n) z= .int k n:=rfl
@[simp] theorem QjG (s:List UInt8) (z:AV):Se (.str s) z= .str s:=rfl
@[simp] theorem Qjc (b:Bool) (z:AV):Se (.bool b) z= .bool b:=rfl
@[simp] theorem QjR (o:Bool) (k:Nat) (xs:List (List AV)) (z:AV):Se (.sl o k xs) z= .sl false k xs:=rfl
attribute [simp] X3
@[simp] theorem Qi3 (i:Nat):AV.strip (.mp i)= .mp i:=rfl
@[simp] theorem QjS (i:Nat):AV.ok (.mp i)=true:=rfl
@[simp] theorem QjI (i:Nat):AV.one (.mp i)=true:=rfl
@[simp] theorem QjH (i:Nat):AV.gpfree (.mp i)=false:=rfl
@[simp] theorem TQ: ∀bs:List (List AV),YT bs bs=true
 | []=>rfl
 | x:: xs=>by simp only[YT,eqVL_refl,TQ xs,Bool.true_or,Bool.true_and]
@[simp] theorem Qjh (ys:List (List AV)):YT [] ys=true:=rfl
@[simp] theorem H3 (a b c:List (List AV)):YT (a ++ b) (a ++ c)=YT b c:=by
 induction a with
 | nil=>rfl
 | cons x xs ih=>simp only[List.cons_append,YT,eqVL_refl,ih,Bool.true_or,Bool.true_and]
@[simp] theorem Qjg (a c:List (List AV)):YT a (a ++ c)=true:=by
 have:=H3 a [] c;simpa using this
@[simp] theorem Qi7 (x:List AV) (xs ys:List (List AV)):YT (x:: xs) (x:: ys)=YT xs ys:=by simp only[YT,eqVL_refl,Bool.true_or,Bool.true_and]
@[simp] theorem IL {cs:List AV} (h:gpfreeL cs=true): ∀(bs:List (List AV)) (i:Nat),YT bs (bs.set i cs)=true
 | [],_=>rfl
 | x:: xs,0=>by simp only[List.set_cons_zero,YT,h,TQ,Bool.or_true,Bool.and_true]
 | x:: xs,i+1=>by simp only[List.set_cons_succ,YT,eqVL_refl,IL h xs i,Bool.true_or,Bool.and_true]
theorem Lf: ∀{xs ys:List (List AV)},xs.length≤ys.length→(∀(i:Nat) (x y:List AV),xs[i]? =some x→ys[i]? =some y→x=y∨gpfreeL y=true)→YT xs ys=true
 | [],_,_,_=>rfl
 | _:: _,[],h,_=>by simp at h
 | x:: xs,y:: ys,h,hh=>by
  simp only[YT,Bool.and_eq_true,Bool.or_eq_true];refine⟨?_,Lf (by simpa using h) fun i a b ha hb=>hh (i+1) a b (by simpa using ha) (by simpa using hb)⟩;rcases hh 0 x y rfl rfl with h1 | h1
  ·subst h1;exact .inl (eqVL_refl x)
  ·exact .inr h1
@[simp] theorem QjK {x y:List AV} (h:gpfreeL y=true) (xs ys:List (List AV)):YT (x:: xs) (y:: ys)=YT xs ys:=by simp only[YT,h,Bool.or_true,Bool.true_and]
@[simp] theorem QhM:gpfreeL []=true:=rfl
@[simp] theorem I1 (x:AV) (xs:List AV):gpfreeL (x:: xs)=(x.gpfree && gpfreeL xs):=rfl
@[simp] theorem H8: ∀n:Nat,gpfreeL (List.replicate n .undef)=true
 | 0=>rfl
 | n+1=>by rw[List.replicate_succ,I1,H8 n];rfl
@[simp] theorem IM (bs:List (List AV)) (i:Nat):YT bs (bs.set i [])=true:=IL rfl bs i
end Go.Am
namespace Go.Am
set_option maxRecDepth 8000
theorem P4 (a b:Int) (bs:List (List AV)):call F.tb 32 [.int .i64 a,.int .i64 b] bs=some (.int .i64 (if a < b then -1 else if a > b then 1 else 0),bs):=by
 rw[Qa F.tb_32 _ _ rfl];simp[F.f32,F.f32C]
def V2 (c:UInt8):Bool:=(97≤c.toNat && c.toNat≤122) || (65≤c.toNat && c.toNat≤90) || (48≤c.toNat && c.toNat≤57) || c.toNat == 95 || c.toNat == 35
theorem II (n m:Nat): ((n:Int) == (m:Int))=(n == m):=by rw[Bool.eq_iff_iff,beq_iff_eq,beq_iff_eq];omega
theorem Ma (n:Nat): ((n:Int) == 95)=(n == 95):=II n 95
theorem N9 (n:Nat): ((n:Int) == 35)=(n == 35):=II n 35
theorem P3 (c:UInt8) (bs:List (List AV)):call F.tb 9 [.int .u8 c.toNat] bs=some (.bool (V2 c),bs):=by
 rw[Qa F.tb_9 _ _ rfl];simp (config:={maxSteps:=1000000}) [F.f9,F.f9C,V2,Ma,N9];have e1: ∀m:Nat,((m:Int)≤(c.toNat:Int))=(m≤c.toNat):=fun m=>by simp
 have e2: ∀m:Nat,((c.toNat:Int)≤(m:Int))=(c.toNat≤m):=fun m=>by simp
 simp only[show(97:Int)=((97:Nat):Int)from rfl,show(122:Int)=((122:Nat):Int)from rfl,show(65:Int)=((65:Nat):Int)from rfl,show(90:Int)=((90:Nat):Int)from rfl,show(48:Int)=((48:Nat):Int)from rfl,show(57:Int)=((57:Nat):Int)from rfl,e1,e2];by_cases h1:97≤c.toNat <;> by_cases h2:c.toNat≤122 <;> by_cases h3:65≤c.toNat <;> by_cases h4:c.toNat≤90 <;> by_cases h5:48≤c.toNat <;> by_cases h6:c.toNat≤57 <;> simp[h1,h2,h3,h4,h5,h6]
theorem Gf (s:List UInt8) (bs:List (List AV)) (hs:s.length < 4611686018427387904): ∀(k i:Nat) (ρ:Nat→AV),s.length - i=k→i≤s.length→ρ 0= .str s→ρ 38= .int .i64 s.length→ρ 39= .int .i64 i→
  R F.tb (.loop F.f8l0) ρ bs (Qh 0 (Qq F.tb F.f8r0 (Qx F.f8 bs)))=some (.bool ((s.drop i).all V2),bs):=by
 intro k
 induction k with
 | zero=>
  intro i ρ hk hi h0 h38 h39;have:i=s.length:=by omega
  subst this;rw[Qb F.f8l0.eq_1];simp[h0,h38,h39,F.f8r0]
 | succ k ih=>
  intro i ρ hk hi h0 h38 h39;have hlt:i < s.length:=by omega
  have hw:IntKind.i64.wrap ((i:Int)+1)=((i+1:Nat):Int):=QW (by omega) (by omega);rw[Qb F.f8l0.eq_1,List.drop_eq_getElem_cons hlt,List.all_cons];cases hb:V2 s[i]
  ·simp[h0,h38,h39,hlt,P3,hb]
  ·simp[h0,h38,h39,hlt,P3,hb,hw];rw[ih (i+1)] <;> first | rfl | omega | simp[h0,h38]
def Z4:List UInt8→Bool
 | []=>false
 | c:: r=>decide (r.length < 24) && V2 c && !(decide (48≤c.toNat) && decide (c.toNat≤57)) && c.toNat != 95 && c.toNat != 35 && r.all V2
theorem HZ (s:List UInt8) (bs:List (List AV)) (hs:s.length < 4611686018427387904):call F.tb 8 [.str s] bs=some (.bool (Z4 s),bs):=by
 rw[Qa F.tb_8 _ _ rfl];cases s with
 | nil=>simp[F.f8C,Z4]
 | cons c r=>
  have hl:=Gf (c:: r) bs hs ((c:: r).length - 0) 0;simp (config:={maxSteps:=1000000}) [F.f8C,P3,hl,Ma,N9];have e1: (24 < (r.length:Int)+1)=(¬r.length < 24):=by rw[eq_iff_iff];omega
  have e2: ((48:Int)≤(c.toNat:Int))=(48≤c.toNat):=by rw[eq_iff_iff];omega
  have e3: ((c.toNat:Int)≤57)=(c.toNat≤57):=by rw[eq_iff_iff];omega
  simp only[Z4,e1,e2,e3,bne];by_cases h1:r.length < 24 <;> by_cases h2:48≤c.toNat <;> by_cases h3:c.toNat≤57 <;> cases V2 c <;> simp[h1,h2,h3]
end Go.Am
namespace Go.Am
set_option maxRecDepth 8000
attribute [simp] Lk Ll
attribute [simp] Vd Zl Uk QY
attribute [simp] WX Og Yz Zk Qf LL Bn Bo Bp Bq Fd Fe Ff Fg OY encTs_gp
attribute [simp] Int.toNat_natCast
attribute [simp] Lk Ll
theorem PV (t:Tm) (bs:List (List AV)) (hm:t.mass < big) (ih: ∀x∈t.kids,∀bs,call F.tb 31 [.agg (Qc x)] bs=some (.int .i64 x.nodes,bs)):
  ∀(post pre:List Tm) (ρ:Nat→AV),t.kids=pre ++ post→ρ 7= .sl false 4 (encTs t.kids)→ρ 8= .int .i64 t.kids.length→ρ 9= .int .i64 pre.length→ρ 3= .int .i64 (1+nodesL pre:Nat)→
  R F.tb (.loop F.f31l0) ρ bs (Qh 0 (Qq F.tb F.f31r0 (Qx F.f31 bs)))=some (.int .i64 t.nodes,bs):=by
 have hm2:=Qy t;have hn:=nodesL_le_mass t.kids;unfold big at hm;intro post
 induction post with
 | nil=>
  intro pre ρ hk h7 h8 h9 h3;rw[Qb F.f31l0.eq_1];simp at hk;simp[h3,h8,h9,← hk,F.f31r0,YW]
 | cons x post IH=>
  intro pre ρ hk h7 h8 h9 h3;have hg:=Qn hk;have hl:=Qu hk;have hnn:nodesL t.kids=nodesL pre+ (x.nodes+nodesL post):=by rw[hk,YD];simp[nodesL]
  have hw1:=wr1 pre.length (by omega);have hw2:IntKind.i64.wrap (1+ (nodesL pre:Int)+ (x.nodes:Int))=1+ (nodesL pre:Int)+ (x.nodes:Int):=QW (by omega) (by omega);have hlt:=Qv hk;rw[Qb F.f31l0.eq_1];simp[h3,h7,h8,h9,hg,hw1,hw2,hlt,ih x (by rw[hk];simp)];rw[IH (pre ++ [x])] <;> simp[h3,h7,h8,h9,hk,YD,nodesL];omega
theorem UG: ∀(t:Tm) (bs:List (List AV)),t.mass < big→call F.tb 31 [.agg (Qc t)] bs=some (.int .i64 t.nodes,bs):=by
 refine ZD ?_;intro k n s ks ih bs hm;rw[Qa F.tb_31 _ _ rfl];simp[F.f31C];refine PV (.mk k n s ks) bs hm (fun x hx bs=>ih x hx bs ?_) ks [] _ ?_ ?_ ?_ ?_ ?_ <;> (try simp[nodesL]);have:=QF hx;have:=Qy (.mk k n s ks);simp at *;omega
end Go.Am
namespace Go.Am
set_option maxRecDepth 8000
def two (bs:List (List AV)) (i j:Nat) (n d:Int):List (List AV):=(bs.set i [.int .i64 n]).set j [.int .i64 d]
section
variable {bs:List (List AV)} {i j:Nat} {n d m:Int}
theorem Th: (two bs i j n d).length=bs.length:=by simp[two]
theorem Qb8 (hi:i < bs.length) (hij:i≠j): (two bs i j n d)[i]? =some [.int .i64 n]:=by
 rw[two,List.getElem?_set_ne (Ne.symm hij),List.getElem?_set_self hi]
theorem Qb9 (hj:j < bs.length): (two bs i j n d)[j]? =some [.int .i64 d]:=by simp[two,hj]
theorem QbR (hij:i≠j): (two bs i j n d).set i [.int .i64 m]=two bs i j m d:=by
 simp only[two];rw[List.set_comm _ _ (Ne.symm hij),List.set_set]
@[simp] theorem IO {n' d':Int}:YT (two bs i j n d) (two bs i j n' d')=true:=Lf (by simp[Th]) fun k x y hx hy=>by
 unfold two at hx hy;rw[List.getElem?_set]at hx hy;split at hy
 ·split at hy
  ·injection hy with hy;subst hy;exact .inr rfl
  ·cases hy
 ·rename_i hjk;rw[if_neg hjk]at hx;rw[List.getElem?_set]at hx hy;split at hy
  ·split at hy
   ·injection hy with hy;subst hy;exact .inr rfl
   ·cases hy
  ·rename_i hik;rw[if_neg hik,hy]at hx;injection hx with hx
   exact .inl hx.symm
theorem QbS: (two bs i j n d).set j [.int .i64 m]=two bs i j n m:=by simp[two]
end
def Uv (t:Tm):Int:=
 if t.kind=1∨t.kind=2 then
  if(t.sort < 0∨5 < t.sort)∨0 < t.kids.length then 1 else if Z4 t.name=false then 2 else if 8 < t.kids.length then 3 else 0
 else if t.kind=3 then
  if t.sort≠0 then 1 else if Z4 t.name=false then 2 else if 8 < t.kids.length then 3 else 0
 else 1
mutual
def Xs:Tm→Int
 | .mk k n s ks=>if Uv (.mk k n s ks)≠0 then Uv (.mk k n s ks)else errL ks
def errL:List Tm→Int
 | []=>0
 | t:: ts=>if Xs t≠0 then Xs t else errL ts
end
mutual
def Wu:Tm→Int→Int×Int→Int×Int
 | .mk k n s ks,l,p=>if Uv (.mk k n s ks)≠0 then(p.1+1,if l > p.2 then l else p.2)else cntL ks l (p.1+1,if l > p.2 then l else p.2)
def cntL:List Tm→Int→Int×Int→Int×Int
 | [],_,p=>p
 | t:: ts,l,p=>if Xs t≠0 then Wu t (l+1) p else cntL ts l (Wu t (l+1) p)
end
mutual
theorem G8: ∀(t:Tm) (l:Int) (p:Int×Int),p.1≤(Wu t l p).1∧(Wu t l p).1≤p.1+t.nodes
 | .mk k n s ks,l,p=>by
  simp only[Wu,Tm.nodes];have:=cntL_le ks l (p.1+1,if l > p.2 then l else p.2);split <;> simp at * <;> omega
theorem cntL_le: ∀(ts:List Tm) (l:Int) (p:Int×Int),p.1≤(cntL ts l p).1∧(cntL ts l p).1≤p.1+nodesL ts
 | [],l,p=>by simp[cntL,nodesL]
 | t:: ts,l,p=>by
  simp only[cntL,nodesL];have:=G8 t (l+1) p;have:=cntL_le ts l (Wu t (l+1) p);split <;> omega
end
theorem Ed (t:Tm) (l:Int) (bs:List (List AV)) (i j:Nat) (hi:i < bs.length) (hj:j < bs.length) (hij:i≠j) (hm:t.mass < big) (hl:0≤l∧l+t.depth≤big) (n0 d0:Int)
  (ih: ∀x∈t.kids,∀n d:Int,0≤n→n+x.nodes < 2*big→call F.tb 7 [.agg (Qc x),.int .i64 (l+1),.gp i 0,.gp j 0] (two bs i j n d)=some (.int .i64 (Xs x),two bs i j (Wu x (l+1) (n,d)).1 (Wu x (l+1) (n,d)).2)):
  ∀(post pre:List Tm) (n d:Int) (ρ:Nat→AV),0≤n→n+nodesL post < 2*big→t.kids=pre ++ post→ρ 57= .sl false 4 (encTs t.kids)→ρ 58= .int .i64 t.kids.length→ρ 59= .int .i64 pre.length→
   ρ 1= .int .i64 l→ρ 2= .gp i 0→ρ 3= .gp j 0→
  R F.tb (.loop F.f7l0) ρ (two bs i j n d) (Qh 1 (Qq F.tb F.f7r0 (Qx F.f7 (two bs i j n0 d0))))=
   some (.int .i64 (errL post),two bs i j (cntL post l (n,d)).1 (cntL post l (n,d)).2):=by
 have hm2:=Qy t;have hdp:=Ph t;unfold big at *;have hji:=Ne.symm hij;intro post
 induction post with
 | nil=>
  intro pre n d ρ hn hnb hk h57 h58 h59 h1 h2 h3;rw[Qb F.f7l0.eq_1];simp at hk;simp[h1,h2,h3,h57,h58,h59,← hk,F.f7r0,errL,cntL,Th];rw[List.take_of_length_le (by simp[Th])];exact⟨IO,rfl⟩
 | cons x post IH=>
  intro pre n d ρ hn hnb hk h57 h58 h59 h1 h2 h3;have hg:=Qn hk;have hlen:t.kids.length=pre.length+ (post.length+1):=by rw[hk];simp
  simp only[nodesL]at hnb;have hw1:=wr1 pre.length (by omega);have hw2:IntKind.i64.wrap (l+1)=l+1:=QW (by omega) (by omega);have hlt: (pre.length:Int) < (t.kids.length:Int):=by omega
  have hx:=ih x (by rw[hk];simp) n d hn (by omega);have hc:=G8 x (l+1) (n,d);rw[Qb F.f7l0.eq_1];by_cases he:Xs x=0
  ·simp[h1,h2,h3,h57,h58,h59,hg,hw1,hw2,hlt,hx,he];simp only[errL,cntL,he,ne_eq,not_true,if_false];rw[IH (pre ++ [x])] <;> (first | (simp at hc;omega) | simp[h1,h2,h3,h57,h58,h59,hk])
  ·simp[h1,h2,h3,h57,h58,h59,hg,hw1,hw2,hlt,hx,he,errL,cntL];rw[List.take_of_length_le (by simp[Th])];exact⟨IO,rfl⟩
theorem F9: ∀(t:Tm) (l:Int) (bs:List (List AV)) (i j:Nat) (n d:Int),i < bs.length→j < bs.length→i≠j→t.mass < big→0≤l→l+t.depth≤big→0≤n→n+t.nodes < 2*big→
  call F.tb 7 [.agg (Qc t),.int .i64 l,.gp i 0,.gp j 0] (two bs i j n d)=some (.int .i64 (Xs t),two bs i j (Wu t l (n,d)).1 (Wu t l (n,d)).2):=by
 refine ZD ?_;intro k nm s ks ih l bs i j n d hi hj hij hm hl hld hn hnb;have hm2:=Qy (.mk k nm s ks);have hnn:=YW (.mk k nm s ks);have hdp:=Ph (.mk k nm s ks);simp only[QY,Zl]at hm2 hnn hdp;have hdl:=depthL_le_nodes ks;have hnm:=nodesL_le_mass ks;have hloop: ∀ρ:Nat→AV,ρ 57= .sl false 4 (encTs ks)→ρ 58= .int .i64 ks.length→ρ 59= .int .i64 0→
   ρ 1= .int .i64 l→ρ 2= .gp i 0→ρ 3= .gp j 0→
  R F.tb (.loop F.f7l0) ρ (two bs i j (n+1) (if l > d then l else d)) (Qh 1 (Qq F.tb F.f7r0 (Qx F.f7 (two bs i j n d))))=
   some (.int .i64 (errL ks),two bs i j (cntL ks l (n+1,if l > d then l else d)).1 (cntL ks l (n+1,if l > d then l else d)).2):=by
  intro ρ h57 h58 h59 h1 h2 h3;refine Ed (.mk k nm s ks) l bs i j hi hj hij hm ⟨hl,hld⟩ n d ?_ ks [] (n+1) (if l > d then l else d) ρ (by omega) (by omega) rfl h57 h58 h59 h1 h2 h3;intro x hx n d hn hnb;have h1:=QF hx;have h2:=Mc hx;simp only[QY]at h1 h2;exact ih x hx (l+1) bs i j n d hi hj hij (by omega) (by omega) (by omega) hn hnb
 unfold big at hm hnb;have hw:IntKind.i64.wrap (n+1)=n+1:=QW (by omega) (by omega);have hji:=Ne.symm hij;have htk: ∀(a b:Int),List.take bs.length (two bs i j a b)=two bs i j a b:=fun a b=>List.take_of_length_le (by simp[Th]);have hnl:nm.length < 4611686018427387904:=by omega
 have hks: ((8:Int) < ks.length)=(8 < ks.length):=by rw[eq_iff_iff];omega
 rw[Qa F.tb_7 _ _ rfl];simp (config:={maxSteps:=1000000}) [F.f7C,hw,Qb8 hi hij,Qb9 hj,QbR hij,QbS,Th,HZ,hnl,htk,hks];simp only[gt_iff_lt]at hloop;clear ih hm hl hld hn hnb hm2 hnn hdp hdl hnm hw htk hnl hks hi hj hij hji;generalize hdd: (if d < l then l else d)=d' at *;simp only[Xd,decide_eq_true_eq,Bool.or_eq_true]
 repeat' split
 all_goals simp only[Xs,Wu,Uv,Vd,Uk,Zl,QY,gt_iff_lt,hdd]
 all_goals first
  | (rw[hloop] <;> simp[*];done)
  | (simp[*];done)
  | skip
def QK (t:Tm):Int:=if Xs t≠0 then Xs t else if 400 < t.nodes∨40 < t.depth then 3 else 0
mutual
theorem G9: ∀(t:Tm) (l:Int) (p:Int×Int),Xs t=0→Wu t l p=(p.1+t.nodes,max p.2 (l+t.depth - 1))
 | .mk k n s ks,l,p,h=>by
  simp only[Xs]at h;split at h
  ·rename_i hne;exact absurd h hne
  ·rename_i hne;simp only[Wu,hne,if_false,Tm.nodes,Tm.depth];rw[cntL_ok ks l _ h];refine Prod.ext ?_ ?_
   ·simp;omega
   ·cases ks with
    | nil=>simp[depthL,nodesL];split <;> omega
    | cons t ts=>simp[depthL];split <;> omega
theorem cntL_ok: ∀(ts:List Tm) (l:Int) (p:Int×Int),errL ts=0→cntL ts l p=(p.1+nodesL ts,if ts=[]then p.2 else max p.2 (l+depthL ts))
 | [],l,p,_=>by simp[cntL,nodesL]
 | t:: ts,l,p,h=>by
  simp only[errL]at h;split at h
  ·rename_i hne;exact absurd h hne
  ·rename_i hne;have he:Xs t=0:=by simpa using hne
   simp only[cntL,hne,if_false,nodesL,depthL];rw[cntL_ok ts l _ h,G9 t (l+1) p he];refine Prod.ext ?_ ?_
   ·simp;omega
   ·cases ts with
    | nil=>simp[depthL];omega
    | cons u us=>simp[depthL];omega
end
theorem XZ (t:Tm) (bs:List (List AV)) (hm:t.mass < big):call F.tb 6 [.agg (Qc t)] bs=some (.int .i64 (QK t),bs):=by
 have h2:bs ++ [[AV.int .i64 0],[AV.int .i64 0]]=two (bs ++ [[AV.int .i64 0],[AV.int .i64 0]]) bs.length (bs.length+1) 0 0:=by
  simp[two]
 have hn:=ZK t;have hd:=RQ t;have hb:big=1099511627776:=rfl;have hc:=F9 t 1 (bs ++ [[AV.int .i64 0],[AV.int .i64 0]]) bs.length (bs.length+1) 0 0 (by simp) (by simp) (by omega) hm (by omega) (by omega) (by omega) (by omega);rw[← h2]at hc;have hi:=Qb8 (bs:=bs ++ [[AV.int .i64 0],[AV.int .i64 0]]) (i:=bs.length) (j:=bs.length+1) (n:=(Wu t 1 (0,0)).1) (d:=(Wu t 1 (0,0)).2) (by simp) (by omega);have hj:=Qb9 (bs:=bs ++ [[AV.int .i64 0],[AV.int .i64 0]]) (i:=bs.length) (j:=bs.length+1) (n:=(Wu t 1 (0,0)).1) (d:=(Wu t 1 (0,0)).2) (by simp);have htk:List.take bs.length (two (bs ++ [[AV.int .i64 0],[AV.int .i64 0]]) bs.length (bs.length+1) (Wu t 1 (0,0)).1 (Wu t 1 (0,0)).2)=bs:=by
  simp[two]
 have hcnt:=G9 t 1 (0,0);rw[Qa F.tb_6 _ _ rfl];simp[F.f6C,hc,hi,hj,htk,QK];by_cases he:Xs t=0
 ·have:=Ph t;have e1: (400 < (t.nodes:Int))=(400 < t.nodes):=by rw[eq_iff_iff];omega
  have e2: (40 < (max 0 (1+ (t.depth:Int) - 1)))=(40 < t.depth):=by rw[eq_iff_iff];omega
  simp[he,hcnt he,e1,e2,Xd]
 ·simp[he]
end Go.Am
namespace Go.Am
set_option maxRecDepth 8000
theorem Pe (a b:Int) (bs:List (List AV)):call F.tb 32 [.int .i64 a,.int .i64 b] bs=some (.int .i64 (sgn a b),bs):=P4 a b bs
theorem Nx (a b:List UInt8) (bs:List (List AV)):call F.tb 33 [.str a,.str b] bs=some (.int .i64 (Y7 a b),bs):=by
 rw[Y6 F.tb_33];rfl
theorem Ti (t u:Tm) (bs:List (List AV)) (hm:t.mass < big) (hu:u.mass < big)
  (ih: ∀x∈t.kids,∀y bs,y.mass < big→call F.tb 30 [.agg (Qc x),.agg (Qc y)] bs=some (.int .i64 (Qm x y),bs)):
  ∀(xs ys pre pre':List Tm) (c:Int) (ρ:Nat→AV),t.kids=pre ++ xs→u.kids=pre' ++ ys→pre.length=pre'.length→(c=0→xs.length=ys.length)→
   ρ 2= .bx (Qc t)→ρ 3= .bx (Qc u)→ρ 5= .int .i64 c→ρ 6= .int .i64 pre.length→
  R F.tb (.loop F.f30l0) ρ bs (Qh 0 (Qq F.tb F.f30r0 (Qx F.f30 bs)))=some (.int .i64 (or0 c (cmpL xs ys)),bs):=by
 have hm2:=Qy t;have hu2:=Qy u;intro xs
 induction xs with
 | nil=>
  intro ys pre pre' c ρ hk hk' hp hc h2 h3 h5 h6;rw[Qb F.f30l0.eq_1];simp at hk;by_cases h0:c=0
  ·simp[h2,h3,h5,h6,h0,F.f30r0,hk,cmpL,Kx]
  ·simp[h2,h3,h5,h6,h0,F.f30r0,cmpL,Kx]
 | cons x xs IH=>
  intro ys pre pre' c ρ hk hk' hp hc h2 h3 h5 h6;rw[Qb F.f30l0.eq_1];by_cases h0:c=0
  ·obtain⟨y,ys',rfl⟩: ∃y ys',ys=y:: ys':=by
    have:=hc h0;cases ys with
    | nil=>simp at this
    | cons y ys'=>exact⟨y,ys',rfl⟩
   have hg:=Qn hk;have hg':=Qn hk';rw[← hp]at hg';have hl:t.kids.length=pre.length+ (xs.length+1):=by rw[hk];simp
   have hlt: (pre.length:Int) < (t.kids.length:Int):=by omega
   have hym:y.mass < big:=by have:=QF (x:=y) (ks:=u.kids) (by rw[hk'];simp);omega
   unfold big at hm hu;have hw1:=wr1 pre.length (by omega);simp[h2,h3,h5,h6,h0,hlt,hg,hg',hw1,ih x (by rw[hk];simp) y bs hym];rw[IH ys' (pre ++ [x]) (pre' ++ [y]) (Qm x y)] <;> first | omega | (simp[hk,hk',hp,h2,h3,cmpL,Vh];done) | (intro _;have:=hc h0;simp at this;omega)
  ·simp[h2,h3,h5,h6,h0,F.f30r0,cmpL,V1]
theorem call_Compare: ∀(t u:Tm) (bs:List (List AV)),t.mass < big→u.mass < big→call F.tb 30 [.agg (Qc t),.agg (Qc u)] bs=some (.int .i64 (Qm t u),bs):=by
 refine ZD ?_;intro k n s ks ih u bs hm hu;have hloop:=Ti (.mk k n s ks) u bs hm hu (fun x hx y bs hy=>ih x hx y bs (by have:=QF hx;have:=Qy (.mk k n s ks);simp at *;omega) hy) ks u.kids [] [] (hdT (.mk k n s ks) u);rw[Qa F.tb_30 _ _ rfl,Ue];have hsz:=UG (.mk k n s ks) bs hm;have hsz':=UG u bs hu;simp[F.f30C,hsz,hsz',Pe,Nx];by_cases c1:sgn (Tm.mk k n s ks).nodes u.nodes=0 <;> by_cases c2:sgn k u.kind=0 <;> by_cases c3:Y7 n u.name=0 <;> by_cases c4:sgn s u.sort=0 <;>
  simp[c1,c2,c3,c4,Xd] <;> rw[hloop] <;> first | (simp[hdT,c1,c2,c3,c4,Vh,V1];done) | (simp[hdT,c1,c2,c3,c4,TI,Vh,V1];omega) | skip
theorem FW (t:Tm) (bs:List (List AV)) (hm:t.mass < big) (ih: ∀x∈t.kids,∀bs,call F.tb 60 [.agg (Qc x)] bs=some (.int .i64 x.nodes,bs)):
  ∀(post pre:List Tm) (ρ:Nat→AV),t.kids=pre ++ post→ρ 1= .bx (Qc t)→ρ 4= .int .i64 pre.length→ρ 3= .int .i64 (1+nodesL pre:Nat)→
  R F.tb (.loop F.f60l0) ρ bs (Qh 0 (Qq F.tb F.f60r0 (Qx F.f60 bs)))=some (.int .i64 t.nodes,bs):=by
 have hm2:=Qy t;have hn:=nodesL_le_mass t.kids;unfold big at hm;intro post
 induction post with
 | nil=>
  intro pre ρ hk h1 h4 h3;rw[Qb F.f60l0.eq_1];simp at hk;simp[h1,h3,h4,← hk,F.f60r0,YW]
 | cons x post IH=>
  intro pre ρ hk h1 h4 h3;have hg:=Qn hk;have hl:=Qu hk;have hnn:nodesL t.kids=nodesL pre+ (x.nodes+nodesL post):=by rw[hk,YD];simp[nodesL]
  have hw1:=wr1 pre.length (by omega);have hw2:IntKind.i64.wrap (1+ (nodesL pre:Int)+ (x.nodes:Int))=1+ (nodesL pre:Int)+ (x.nodes:Int):=QW (by omega) (by omega);have hlt:=Qv hk;rw[Qb F.f60l0.eq_1];simp[h3,h1,h4,hg,hw1,hw2,hlt,ih x (by rw[hk];simp)];rw[IH (pre ++ [x])] <;> simp[h3,h1,h4,hk,YD,nodesL];omega
theorem Pc: ∀(t:Tm) (bs:List (List AV)),t.mass < big→call F.tb 60 [.agg (Qc t)] bs=some (.int .i64 t.nodes,bs):=by
 refine ZD ?_;intro k n s ks ih bs hm;rw[Qa F.tb_60 _ _ rfl];simp[F.f60C];refine FW (.mk k n s ks) bs hm (fun x hx bs=>ih x hx bs ?_) ks [] _ ?_ ?_ ?_ ?_ <;> (try simp[nodesL]);have:=QF hx;have:=Qy (.mk k n s ks);simp at *;omega
theorem Ke (a b:List Tm):depthL (a ++ b)=max (depthL a) (depthL b):=by
 induction a with
 | nil=>simp[depthL]
 | cons t ts ih=>simp[depthL,ih]
theorem HM (t:Tm) (bs:List (List AV)) (hm:t.mass < big) (ih: ∀x∈t.kids,∀bs,call F.tb 61 [.agg (Qc x)] bs=some (.int .i64 x.depth,bs)):
  ∀(post pre:List Tm) (ρ:Nat→AV),t.kids=pre ++ post→ρ 1= .bx (Qc t)→ρ 4= .int .i64 pre.length→ρ 3= .int .i64 (depthL pre:Nat)→
  R F.tb (.loop F.f61l0) ρ bs (Qh 0 (Qq F.tb F.f61r0 (Qx F.f61 bs)))=some (.int .i64 t.depth,bs):=by
 have hm2:=Qy t;have hn:=depthL_le_nodes t.kids;have hn2:=nodesL_le_mass t.kids;unfold big at hm;intro post
 induction post with
 | nil=>
  intro pre ρ hk h1 h4 h3;rw[Qb F.f61l0.eq_1];simp at hk;have hw2:IntKind.i64.wrap ((depthL pre:Int)+1)=(depthL pre:Int)+1:=QW (by omega) (by rw[← hk];omega);simp[h1,h3,h4,hk,hw2,F.f61r0,Ph]
 | cons x post IH=>
  intro pre ρ hk h1 h4 h3;have hg:=Qn hk;have hl:=Qu hk;have hw1:=wr1 pre.length (by omega);have hlt:=Qv hk;rw[Qb F.f61l0.eq_1];simp[h3,h1,h4,hg,hw1,hlt,ih x (by rw[hk];simp)];rw[IH (pre ++ [x])] <;> simp[h3,h1,h4,hk,Ke,depthL];split <;> omega
theorem HV: ∀(t:Tm) (bs:List (List AV)),t.mass < big→call F.tb 61 [.agg (Qc t)] bs=some (.int .i64 t.depth,bs):=by
 refine ZD ?_;intro k n s ks ih bs hm;rw[Qa F.tb_61 _ _ rfl];simp[F.f61C];refine HM (.mk k n s ks) bs hm (fun x hx bs=>ih x hx bs ?_) ks [] _ ?_ ?_ ?_ ?_ <;> (try simp[depthL]);have:=QF hx;have:=Qy (.mk k n s ks);simp at *;omega
theorem Ix (a b:Int) (bs:List (List AV)):call F.tb 91 [.int .i64 a,.int .i64 b] bs=some (.int .i64 (sgn a b),bs):=by
 rw[Qa F.tb_91 _ _ rfl];simp[F.f91,F.f91C,sgn]
theorem L5 (t u:Tm) (bs:List (List AV)) (hm:t.mass < big) (hu:u.mass < big)
  (ih: ∀x∈t.kids,∀y bs,y.mass < big→call F.tb 90 [.agg (Qc x),.agg (Qc y)] bs=some (.int .i64 (Qm x y),bs)):
  ∀(xs ys pre pre':List Tm) (ρ:Nat→AV),t.kids=pre ++ xs→u.kids=pre' ++ ys→pre.length=pre'.length→xs.length=ys.length→
   ρ 2= .bx (Qc t)→ρ 3= .bx (Qc u)→ρ 9= .int .i64 pre.length→
  R F.tb (.loop F.f90l0) ρ bs (Qh 0 (Qq F.tb F.f90r0 (Qx F.f90 bs)))=some (.int .i64 (cmpL xs ys),bs):=by
 have hm2:=Qy t;have hu2:=Qy u;intro xs
 induction xs with
 | nil=>
  intro ys pre pre' ρ hk hk' hp hc h2 h3 h9;rw[Qb F.f90l0.eq_1];simp at hk;simp[h2,h3,h9,F.f90r0,hk,cmpL]
 | cons x xs IH=>
  intro ys pre pre' ρ hk hk' hp hc h2 h3 h9;rw[Qb F.f90l0.eq_1];obtain⟨y,ys',rfl⟩: ∃y ys',ys=y:: ys':=by
   cases ys with
   | nil=>simp at hc
   | cons y ys'=>exact⟨y,ys',rfl⟩
  have hg:=Qn hk;have hg':=Qn hk';rw[← hp]at hg';have hl:t.kids.length=pre.length+ (xs.length+1):=by rw[hk];simp
  have hlt: (pre.length:Int) < (t.kids.length:Int):=by omega
  have hym:y.mass < big:=by have:=QF (x:=y) (ks:=u.kids) (by rw[hk'];simp);omega
  unfold big at hm hu;have hw1:=wr1 pre.length (by omega);by_cases h0:Qm x y=0
  ·simp[h2,h3,h9,h0,hlt,hg,hg',hw1,ih x (by rw[hk];simp) y bs hym];rw[IH ys' (pre ++ [x]) (pre' ++ [y])] <;> first | omega | (simp[hk,hk',hp,h0,h2,h3,cmpL,Vh];done) | (simp at hc;omega)
  ·simp[h2,h3,h9,h0,hlt,hg,hg',hw1,ih x (by rw[hk];simp) y bs hym,cmpL,V1]
theorem WG: ∀(t u:Tm) (bs:List (List AV)),t.mass < big→u.mass < big→call F.tb 90 [.agg (Qc t),.agg (Qc u)] bs=some (.int .i64 (Qm t u),bs):=by
 refine ZD ?_;intro k n s ks ih u bs hm hu;have hloop:=L5 (.mk k n s ks) u bs hm hu (fun x hx y bs hy=>ih x hx y bs (by have:=QF hx;have:=Qy (.mk k n s ks);simp at *;omega) hy) ks u.kids [] [];rw[Qa F.tb_90 _ _ rfl,Ue];have hsz:=Pc (.mk k n s ks) bs hm;have hsz':=Pc u bs hu;simp[F.f90C,hsz,hsz',Ix];have b0:Y7 n u.name=if Op.bytesLess n u.name then -1 else if(Op.bytesLess n u.name || n == u.name)=false then 1 else 0:=by
  unfold Y7;cases Op.bytesLess n u.name <;> cases hh: (n == u.name) <;> simp
 generalize (n == u.name)=q at *;generalize Op.bytesLess n u.name=p at *;by_cases c1:sgn (Tm.mk k n s ks).nodes u.nodes=0 <;> by_cases c2:sgn k u.kind=0 <;> cases p <;> cases q <;> by_cases c4:sgn s u.sort=0 <;>
  by_cases c6:sgn ks.length u.kids.length=0 <;> simp[c1,c2,c4,c6,Xd,hdT,Vh,V1,b0]
 all_goals (rw[hloop] <;> (try simp) <;> (try (have:=TI.1 c6;omega)))
theorem Yi (t u:Tm) (bs:List (List AV)) (hm:t.mass < big) (hu:u.mass < big):call F.tb 89 [.agg (Qc t),.agg (Qc u)] bs=some (.bool (decide (Qm t u=0)),bs):=by
 rw[Qa F.tb_89 _ _ rfl];simp[F.f89,F.f89C,WG t u bs hm hu]
end Go.Am
namespace Go.Am
set_option maxRecDepth 8000
mutual
def VY:Tm→Int→Int
 | .mk _ n _ ks,m=>if m≤0∨40 < n.length then -1 else budL ks (m - 1)
def budL:List Tm→Int→Int
 | [],m=>m
 | t:: ts,m=>if VY t m < 0 then -1 else budL ts (VY t m)
end
mutual
theorem M5: ∀(t:Tm) (m:Int),VY t m= -1∨0≤VY t m∧VY t m+t.nodes≤m∧t.mass+1≤42*t.nodes
 | .mk k n s ks,m=>by
  simp only[VY,Tm.nodes,Tm.mass];split
  ·exact .inl rfl
  ·rename_i h;rcases budL_le ks (m - 1) (by omega)with h1 | h1
   ·exact .inl h1
   ·right;omega
theorem budL_le: ∀(ts:List Tm) (m:Int),0≤m→budL ts m= -1∨0≤budL ts m∧budL ts m+nodesL ts≤m∧massL ts+ts.length≤42*nodesL ts
 | [],m,h=>by simp[budL,nodesL,massL];omega
 | t:: ts,m,h=>by
  simp only[budL,nodesL,massL,List.length_cons];split
  ·exact .inl rfl
  ·rename_i h0;rcases M5 t m with h1 | h1
   ·omega
   ·rcases budL_le ts (VY t m) (by omega)with h2 | h2
    ·exact .inl h2
    ·right;omega
end
theorem Qae (t:Tm) (bs:List (List AV)) (m0:Int) (hm:m0 < 1000000) (ih: ∀x∈t.kids,∀(m:Int) bs,m < 1000000→call F.tb 102 [.agg (Qc x),.int .i64 m] bs=some (.int .i64 (VY x m),bs)):
  ∀(post pre:List Tm) (m:Int) (ρ:Nat→AV),t.kids=pre ++ post→0≤m→m+pre.length≤m0→ρ 2= .bx (Qc t)→ρ 5= .int .i64 pre.length→ρ 1= .int .i64 m→
  R F.tb (.loop F.f102l0) ρ bs (Qh 0 (Qq F.tb F.f102r0 (Qx F.f102 bs)))=some (.int .i64 (budL post m),bs):=by
 intro post
 induction post with
 | nil=>
  intro pre m ρ hk h0 hp h2 h5 h1;rw[Qb F.f102l0.eq_1];simp at hk;simp[h1,h2,h5,hk,F.f102r0,budL]
 | cons x post IH=>
  intro pre m ρ hk h0 hp h2 h5 h1;have hg:=Qn hk;have hl:=Qu hk;have hw1:=wr1 pre.length (by omega);have hlt:=Qv hk;have hn:=YW x;rw[Qb F.f102l0.eq_1];rcases M5 x m with hb | hb
  ·simp[h1,h2,h5,hg,hw1,hlt,ih x (by rw[hk];simp) m bs (by omega),hb,budL]
  ·have hb0: ¬VY x m < 0:=by omega
   simp[h1,h2,h5,hg,hw1,hlt,ih x (by rw[hk];simp) m bs (by omega),hb0,budL];rw[IH (pre ++ [x]) (VY x m)] <;> first | omega | (simp[h1,h2,h5,hk];done) | (simp;omega)
theorem IE: ∀(t:Tm) (m:Int) (bs:List (List AV)),m < 1000000→call F.tb 102 [.agg (Qc t),.int .i64 m] bs=some (.int .i64 (VY t m),bs):=by
 refine ZD ?_;intro k n s ks ih m bs hm;rw[Qa F.tb_102 _ _ rfl];have hn: (40 < (n.length:Int))=(40 < n.length):=by rw[eq_iff_iff];omega
 simp[F.f102C,Xd,hn,VY];split
 ·rfl
 ·rename_i hc;have hw:IntKind.i64.wrap (m - 1)=m - 1:=QW (by omega) (by omega);refine Qae (.mk k n s ks) bs m hm (fun x hx=>ih x hx) ks [] (m - 1) _ ?_ ?_ ?_ ?_ ?_ ?_ <;> first | (simp[hw];done) | (simp;omega)
def few (l:List Tm) (n:Nat) (m:Int):Bool:=decide (l.length≤n) && decide (0≤budL l m)
theorem QaJ (l:List Tm) (o:Bool) (bs:List (List AV)) (hl:l.length < 1000000):
  ∀(post pre:List Tm) (m:Int) (ρ:Nat→AV),l=pre ++ post→0≤m→m < 1000000→ρ 0= .sl o 4 (encTs l)→ρ 7= .int .i64 pre.length→ρ 2= .int .i64 m→
  R F.tb (.loop F.f101l0) ρ bs (Qh 0 (Qq F.tb F.f101r0 (Qx F.f101 bs)))=some (.bool (decide (0≤budL post m)),bs):=by
 intro post
 induction post with
 | nil=>
  intro pre m ρ hk h0 hm hr0 h7 h2;rw[Qb F.f101l0.eq_1];simp at hk;simp[hr0,h7,h2,hk,F.f101r0,budL,h0]
 | cons x post IH=>
  intro pre m ρ hk h0 hm hr0 h7 h2;have hg:=Qn hk;have hl:=Qu hk;have hw1:=wr1 pre.length (by omega);have hlt:=Qv hk;rw[Qb F.f101l0.eq_1];rcases M5 x m with hb | hb
  ·simp[hr0,h7,h2,hg,hw1,hlt,IE x m bs (by omega),hb,budL]
  ·have hb0: ¬VY x m < 0:=by omega
   simp[hr0,h7,h2,hg,hw1,hlt,IE x m bs (by omega),hb0,budL];rw[IH (pre ++ [x]) (VY x m)] <;> first | omega | (simp[hr0,h7,h2,hk];done)
theorem Ny (l:List Tm) (o:Bool) (n:Nat) (m:Int) (bs:List (List AV)) (hn:n < 1000000) (h0:0≤m) (hm:m < 1000000):
  call F.tb 101 [.sl o 4 (encTs l),.int .i64 n,.int .i64 m] bs=some (.bool (few l n m),bs):=by
 rw[Qa F.tb_101 _ _ rfl];have e1: ((n:Int) < (l.length:Int))=(n < l.length):=by rw[eq_iff_iff];omega
 simp[F.f101C,Xd,few];split
 ·have: ¬l.length≤n:=by omega
  simp[this]
 ·have:l.length≤n:=by omega
  rw[QaJ l false bs (by omega) l [] m] <;> simp[this,h0,hm]
end Go.Am
namespace Go.Am
set_option maxRecDepth 8000
def VI (c:UInt8):Bool:=(97≤c.toNat && c.toNat≤122) || (65≤c.toNat && c.toNat≤90)
def Tt (c:UInt8):Bool:=48≤c.toNat && c.toNat≤57
theorem Vz (c:UInt8):V2 c=(VI c || Tt c || c.toNat == 95 || c.toNat == 35):=rfl
theorem Vc (m n:Nat): ((m:Int)≤(n:Int))=(m≤n):=by rw[eq_iff_iff];omega
theorem T9 (c:UInt8) (bs:List (List AV)):call F.tb 58 [.int .u8 c.toNat] bs=some (.bool (VI c),bs):=by
 rw[Qa F.tb_58 _ _ rfl];have e1: ((97:Int)≤(c.toNat:Int))=(97≤c.toNat):=Vc 97 _;have e2: ((c.toNat:Int)≤122)=(c.toNat≤122):=Vc _ 122;have e3: ((65:Int)≤(c.toNat:Int))=(65≤c.toNat):=Vc 65 _;have e4: ((c.toNat:Int)≤90)=(c.toNat≤90):=Vc _ 90;simp[F.f58,F.f58C,VI,e1,e2,e3,e4]
theorem N7 (c:UInt8) (bs:List (List AV)):call F.tb 59 [.int .u8 c.toNat] bs=some (.bool (Tt c),bs):=by
 rw[Qa F.tb_59 _ _ rfl];have e1: ((48:Int)≤(c.toNat:Int))=(48≤c.toNat):=Vc 48 _;have e2: ((c.toNat:Int)≤57)=(c.toNat≤57):=Vc _ 57;simp[F.f59,F.f59C,Tt,e1,e2]
theorem LG (n:Nat): ((n:Int)=95)=(n=95):=by rw[eq_iff_iff];omega
theorem LF (n:Nat): ((n:Int)=35)=(n=35):=by rw[eq_iff_iff];omega
theorem Ie (s:List UInt8) (bs:List (List AV)) (hs:s.length < 4611686018427387904): ∀(post pre:List UInt8) (ρ:Nat→AV),s=pre ++ post→ρ 0= .str s→ρ 3= .int .i64 pre.length→
  R F.tb (.loop F.f57l0) ρ bs (Qh 0 (Qq F.tb F.f57r0 (Qx F.f57 bs)))=some (.bool (post.all V2),bs):=by
 intro post
 induction post with
 | nil=>
  intro pre ρ hk h0 h3;rw[Qb F.f57l0.eq_1];simp at hk;simp[h0,h3,hk,F.f57r0]
 | cons x post IH=>
  intro pre ρ hk h0 h3;have hg:=Qn hk;have hl:=Qu hk;have hw1:=wr1 pre.length (by omega);have hlt:=Qv hk;rw[Qb F.f57l0.eq_1];cases hp:V2 x
  ·rw[Vz]at hp;simp only[Bool.or_eq_false_iff]at hp;obtain⟨⟨⟨p1,p2⟩,p3⟩,p4⟩:=hp;have p3': ¬x.toNat=95:=by simpa using p3
   have p4': ¬x.toNat=35:=by simpa using p4
   simp[h0,h3,hg,hw1,hlt,T9,N7,p1,p2,p3',p4',LG,LF,Vz]
  ·simp[h0,h3,hg,hw1,hlt,T9,N7,LG,LF,Vz,Xd];split
   ·rename_i hc;simp[Vz,hc]at hp
   ·rw[IH (pre ++ [x])]
    ·simp[Vz]at hp;simp[hp]
    ·simp[hk]
    ·simp[h0]
    ·simp
theorem EG {c:UInt8} (h:VI c=true):Tt c=false∧(c.toNat == 95)=false∧(c.toNat == 35)=false:=by
 simp only[VI,Bool.or_eq_true,Bool.and_eq_true,decide_eq_true_eq]at h;refine⟨?_,?_,?_⟩
 ·simp only[Tt,Bool.and_eq_false_iff,decide_eq_false_iff_not];omega
 ·simp;omega
 ·simp;omega
theorem Gd (c:UInt8) (r:List UInt8):Z4 (c:: r)=(decide (r.length < 24) && VI c && (c:: r).all V2):=by
 have hd: (decide (48≤c.toNat) && decide (c.toNat≤57))=Tt c:=rfl;simp only[Z4,List.all_cons,hd,bne];cases hl:VI c
 ·rw[Vz,hl];cases Tt c <;> cases (c.toNat == 95) <;> cases (c.toNat == 35) <;> simp
 ·obtain⟨h1,h2,h3⟩:=EG hl;rw[Vz,hl,h1,h2,h3];simp
theorem P0 (s:List UInt8) (bs:List (List AV)) (hs:s.length < 4611686018427387904):call F.tb 57 [.str s] bs=some (.bool (Z4 s),bs):=by
 rw[Qa F.tb_57 _ _ rfl];cases s with
 | nil=>simp[F.f57C,Z4]
 | cons c r=>
  have e1: (24 < (r.length:Int)+1)=¬(r.length < 24):=by rw[eq_iff_iff];omega
  have e2: ((r.length:Int)+1=0)=False:=eq_false (by omega);rw[Gd];by_cases h1:r.length < 24 <;> cases h2:VI c <;>
  simp[F.f57C,T9,e1,e2,h1,h2,-List.all_cons];rw[Ie (c:: r) bs hs (c:: r) []] <;> (try simp)
theorem F3 (s:List UInt8) (n:Int) (bs:List (List AV)):call F.tb 107 [.str s,.int .i64 n] bs=some (.agg (Qc (.mk 2 s n [])),bs):=by
 rw[Qa F.tb_107 _ _ rfl];simp[F.f107,F.f107C,Em]
end Go.Am
namespace Go.Am
set_option maxRecDepth 8000
theorem Y5: ∀a:List UInt8,Op.bytesLess a a=false
 | []=>rfl
 | c:: r=>by simp[Op.bytesLess,Y5 r]
theorem LH (a:List UInt8):Y7 a a=0:=by simp[Y7,Y5]
theorem Qby (a:Int):sgn a a=0:=TI.2 rfl
theorem QaN (t:Tm):hdT t t=0:=by simp[hdT,Qby,LH,or0]
mutual
theorem WU: ∀t:Tm,Qm t t=0
 | .mk k n s ks=>by rw[Qm,QaN,Vh];exact cmpL_refl ks
theorem cmpL_refl: ∀ts:List Tm,cmpL ts ts=0
 | []=>by simp[cmpL]
 | t:: ts=>by rw[cmpL,WU t,Vh];exact cmpL_refl ts
end
theorem NE {l:List Tm} {n:Nat} {m:Int} (h0:0≤m) (h:few l n m=true):l.length≤n∧massL l+l.length≤42*m.toNat∧nodesL l≤m.toNat:=by
 simp only[few,Bool.and_eq_true,decide_eq_true_eq]at h;rcases budL_le l m h0 with h1 | h1
 ·omega
 ·omega
end Go.Am
namespace Go.Am
set_option maxRecDepth 8000
theorem Ee (t:Tm) (bs:List (List AV)) (hm:t.mass < big) (ih: ∀x∈t.kids,∀bs,call F.tb 48 [.agg (Qc x)] bs=some (.agg (Qc x),bs)):
  ∀(post pre:List Tm) (ρ:Nat→AV),t.kids=pre ++ post→ρ 1= .bx [.int .i64 t.kind,.str t.name,.int .i64 t.sort,.sl true 4 (encTs pre)]→ρ 2= .bx [.int .i64 0,.str [],.int .i64 0,.sl true 4 []]→
   ρ 9= .sl false 4 (encTs t.kids)→ρ 10= .int .i64 t.kids.length→ρ 11= .int .i64 pre.length→
  R F.tb (.loop F.f48l0) ρ bs (Qh 0 (Qq F.tb F.f48r0 (Qx F.f48 bs)))=some (.agg (Qc t),bs):=by
 have hm2:=Qy t;unfold big at hm;intro post
 induction post with
 | nil=>
  intro pre ρ hk h1 h2 h9 h10 h11;rw[Qb F.f48l0.eq_1];simp at hk;rw[← hk]at h1 h11;simp[h1,h2,h9,h10,h11,F.f48r0,WW,Tm.eta]
 | cons x post IH=>
  intro pre ρ hk h1 h2 h9 h10 h11;have hg:=Qn hk;have hl:=Qu hk;have hw1:=wr1 pre.length (by omega);have hlt:=Qv hk;have ha: (pre.length+1)*56≤140737488355328:=by omega
  rw[Qb F.f48l0.eq_1];simp[h1,h2,h9,h10,h11,hg,hw1,hlt,ha,ih x (by rw[hk];simp),Q7,QZ];rw[IH (pre ++ [x])] <;> simp[h2,h9,h10,hk]
theorem Pd: ∀(t:Tm) (bs:List (List AV)),t.mass < big→call F.tb 48 [.agg (Qc t)] bs=some (.agg (Qc t),bs):=by
 refine ZD ?_;intro k n s ks ih bs hm;rw[Qa F.tb_48 _ _ rfl];simp[F.f48C,Qc];refine Ee (.mk k n s ks) bs hm (fun x hx bs=>ih x hx bs ?_) ks [] _ ?_ ?_ ?_ ?_ ?_ ?_ <;> (try simp[encTs]);have:=QF hx;have:=Qy (.mk k n s ks);simp at *;omega
theorem ID (n:List UInt8) (ks:List Tm) (o:Bool) (bs:List (List AV)):call F.tb 49 [.str n,.sl o 4 (encTs ks)] bs=some (.agg (Qc (.mk 3 n 0 ks)),bs):=by
 rw[Qa F.tb_49 _ _ rfl];simp[F.f49,F.f49C,WW]
structure Sy where
 n:List UInt8
 l:Int
 m:Int
 k:Int
def XW (s:Sy):List AV:=[.str s.n,.int .i64 s.l,.int .i64 s.m,.int .i64 s.k]
def YQ:List Sy:=[⟨[112,97,105,114],2,2,1⟩,⟨[101,110,99],2,2,1⟩,⟨[97,101,110,99],2,2,1⟩,⟨[112,107],1,1,1⟩,⟨[115,105,103,110],2,2,1⟩,⟨[104,97,115,104],1,1,1⟩,
 ⟨[120,111,114],2,8,1⟩,⟨[122,101,114,111],0,0,1⟩,⟨[101,120,112],2,2,1⟩,⟨[109,117,108],2,8,1⟩,⟨[105,110,118],1,1,1⟩,⟨[111,110,101],0,0,1⟩,
 ⟨[115,107],1,1,2⟩,⟨[115,104,107],2,2,2⟩,⟨[110,101,119],1,8,2⟩,⟨[102,115,116],1,1,3⟩,⟨[115,110,100],1,1,3⟩,⟨[100,101,99],2,2,3⟩,⟨[97,100,101,99],2,2,3⟩,⟨[111,112,101,110],2,2,3⟩,⟨[114,101,97,100],1,1,3⟩]
def Xz (ys:List Sy):List (List AV):=ys.map XW
@[simp] theorem Kg (ys:List Sy):gpfreeE (Xz ys)=true:=by
 induction ys with
 | nil=>rfl
 | cons y ys ih=>simpa[Xz,XW,gpfreeE,gpfreeL,AV.gpfree]using ih
@[simp] theorem Qjb (ys:List Sy): (Xz ys).length=ys.length:=by simp[Xz]
theorem IC (k l m:Int) (n:List UInt8) (ys:List Sy) (bs:List (List AV)) (hx:ys.length < 1000):
  call F.tb 45 [.int .i64 k,.str n,.int .i64 l,.int .i64 m,.gp bs.length 0] (bs ++ [[.sl true 4 (Xz ys)]])=some (.tup [],bs ++ [[.sl true 4 (Xz (ys ++ [⟨n,l,m,k⟩]))]]):=by
 rw[Qa F.tb_45 _ _ rfl];have ha: (ys.length+1)*40≤140737488355328:=by omega
 have h1:Xz (ys ++ [⟨n,l,m,k⟩])=Xz ys ++ [[.str n,.int .i64 l,.int .i64 m,.int .i64 k]]:=by simp[Xz,XW]
 have h2:gpfreeE (Xz ys ++ [[.str n,.int .i64 l,.int .i64 m,.int .i64 k]])=true:=by rw[← h1];exact Kg _
 simp[F.f45,F.f45C,ha,h1,h2,List.take_of_length_le,gpfreeL]
theorem Bf (k l m:Int) (n:List UInt8) (bs:List (List AV)):
  call F.tb 45 [.int .i64 k,.str n,.int .i64 l,.int .i64 m,.gp bs.length 0] (bs ++ [[.sl true 4 []]])=some (.tup [],bs ++ [[.sl true 4 (Xz [⟨n,l,m,k⟩])]]):=IC k l m n [] bs (by simp)
theorem IB (bs:List (List AV)):call F.tb 44 [] bs=some (.sl false 4 (Xz YQ),bs):=by
 rw[Qa F.tb_44 _ _ rfl];simp only[F.f44,F.f44C];simp[Bf,IC,YQ]
def Zu (n:List UInt8):List Sy→Option Sy
 | []=>none
 | s:: ss=>if s.n=n then some s else Zu n ss
theorem Oh {l:List Sy} {pre post:List Sy} {s:Sy} (h:l=pre ++ s:: post): (Xz l)[pre.length]? =some (XW s):=by
 subst h;simp[Xz]
theorem Gu (n:List UInt8) (l:List Sy) (bs:List (List AV)) (hn:l.length < 1000):
  ∀(post pre:List Sy) (ρ:Nat→AV),l=pre ++ post→ρ 0= .str n→ρ 2= .bx [.str [],.int .i64 0,.int .i64 0,.int .i64 0]→
   ρ 5= .sl false 4 (Xz l)→ρ 6= .int .i64 l.length→ρ 7= .int .i64 pre.length→
  R F.tb (.loop F.f43l0) ρ bs (Qh 0 (Qq F.tb F.f43r0 (Qx F.f43 bs)))=
   some (.agg (match Zu n post with | some s=>XW s | none=>[.str [],.int .i64 0,.int .i64 0,.int .i64 0]),bs):=by
 intro post
 induction post with
 | nil=>
  intro pre ρ hk h0 h2 h5 h6 h7;rw[Qb F.f43l0.eq_1];simp at hk;rw[← hk]at h7;simp[h0,h2,h5,h6,h7,F.f43r0,Zu]
 | cons x post IH=>
  intro pre ρ hk h0 h2 h5 h6 h7;have hg:=Oh hk;have hl:=Qu hk;have hw1:=wr1 pre.length (by omega);have hlt:=Qv hk;rw[Qb F.f43l0.eq_1];by_cases hx:x.n=n
  ·simp[h0,h2,h5,h6,h7,hg,hw1,hlt,XW,hx,Zu]
  ·have hxb: (x.n == n)=false:=by simp[hx]
   simp[h0,h2,h5,h6,h7,hg,hw1,hlt,XW,hx,hxb,Zu];rw[IH (pre ++ [x])] <;> simp[h0,h2,h5,h6,hk,XW]
theorem Xb (n:List UInt8) (bs:List (List AV)):call F.tb 43 [.str n] bs=some (.agg (match Zu n YQ with | some s=>XW s | none=>[.str [],.int .i64 0,.int .i64 0,.int .i64 0]),bs):=by
 rw[Qa F.tb_43 _ _ rfl];simp[F.f43C,IB];refine Gu n YQ bs (by simp[YQ]) YQ [] _ rfl ?_ ?_ ?_ ?_ ?_ <;> simp
end Go.Am
