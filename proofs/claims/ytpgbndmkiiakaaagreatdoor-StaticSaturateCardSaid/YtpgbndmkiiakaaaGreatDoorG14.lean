/-
  Am21, Am22, Am23, Ge1, Ge2, Ge3, Ge4, Ge5, Ge6, Ge10.
-/
import Derived.Test.YtpgbndmkiiakaaaGreatDoorG09
import Derived.Test.YtpgbndmkiiakaaaGreatDoorG13
set_option linter.unusedVariables false
set_option linter.unusedSimpArgs false
namespace Go.Am
abbrev Out:=Option (AV×List (List AV))
abbrev Kn:=Ex→St→Out
section
variable {T:Nat→Option AFn}
noncomputable def R (T:Nat→Option AFn) (c:AC) (ρ:Nat→AV) (bs:List (List AV)) (k:Kn):Out:=match run T c ⟨ρ,bs⟩with
 | some (e,s)=>k e s
 | none=>none
noncomputable def O (T:Nat→Option AFn) (os:List Qu) (ρ:Nat→AV) (bs:List (List AV)) (k:Kn):Out:=match Zv (call T) os ⟨ρ,bs⟩with
 | some s=>k .normal s
 | none=>none
noncomputable def E (T:Nat→Option AFn) (r:Option (AV×St)) (d:Option Nat) (os:List Qu) (k:Kn):Out:=match r with
 | some p=>O T os (ZQ p.2.env d p.1) p.2.bs k
 | none=>none
def Yx (c b:Bool) (x y:Out):Out:=if c=b then x else y
noncomputable def Qv (T:Nat→Option AFn) (b:AC) (k:Kn):Kn:=fun e s=>match e with
 | .normal=>match run T b s with
  | some (e,s)=>k e s
  | none=>none
 | e=>k e s
def Qk (id:Nat) (k:Kn):Kn:=fun e s=>match e with
 | .exit i=>k (if i=id then .normal else .exit i) s
 | e=>k e s
def Qx (fn:Qi) (n:List (List AV)):Kn:=fun e s=>match e with
 | .normal=>Ym fn n s
 | .ret=>Ym fn n s
 | .exit _=>none
theorem Nm (x y:Out):Yx true true x y=x:=rfl
theorem Jx (x y:Out):Yx false false x y=x:=rfl
theorem Jy (x y:Out):Yx true false x y=y:=rfl
theorem Nl (x y:Out):Yx false true x y=y:=rfl
theorem FX (c b:Bool) (x:Out):Yx c b x x=x:=by unfold Yx;split <;> rfl
theorem C2 (c b:Bool) (x y:Out):Yx (!c) b x y=Yx c (!b) x y:=by cases c <;> cases b <;> rfl
theorem Y4 (c b:Bool) (x y:Out):Yx c b x y=if c=b then x else y:=rfl
theorem Qil (ρ:Nat→AV) (bs:List (List AV)) (k:Kn):R T .skip ρ bs k=k .normal ⟨ρ,bs⟩:=by simp only[R,Fk]
theorem Qk5 (ρ:Nat→AV) (bs:List (List AV)) (k:Kn):R T .ret ρ bs k=k .ret ⟨ρ,bs⟩:=by simp only[R,D0]
theorem Qij (id:Nat) (ρ:Nat→AV) (bs:List (List AV)) (k:Kn):R T (.exit id) ρ bs k=k (.exit id) ⟨ρ,bs⟩:=by simp only[R,Fi]
theorem Qk4 (d:Bool) (ops:List Qu) (ρ:Nat→AV) (bs:List (List AV)) (k:Kn):R T (.reg d ops) ρ bs k=O T ops ρ bs k:=by
 simp only[R,O,DZ]
 cases Zv (call T) ops ⟨ρ,bs⟩ <;> rfl
theorem U9 (a b:AC) (ρ:Nat→AV) (bs:List (List AV)) (k:Kn):R T (.seq a b) ρ bs k=R T a ρ bs (Qv T b k):=by
 simp only[R,D1]
 cases run T a ⟨ρ,bs⟩with
 | none=>rfl
 | some x=>
  obtain⟨e,s⟩:=x
  cases e <;> rfl
theorem QeT (id:Nat) (c:AC) (ρ:Nat→AV) (bs:List (List AV)) (k:Kn):R T (.block id c) ρ bs k=R T c ρ bs (Qk id k):=by
 simp only[R,JK]
 cases run T c ⟨ρ,bs⟩with
 | none=>rfl
 | some x=>
  obtain⟨e,s⟩:=x
  cases e <;> rfl
theorem Qik (c:AC) (ρ:Nat→AV) (bs:List (List AV)) (k:Kn):R T (.loop c) ρ bs k=R T c ρ bs (Qv T (.loop c) k):=by
 simp only[R]
 rw[Fj]
 cases run T c ⟨ρ,bs⟩with
 | none=>rfl
 | some x=>
  obtain⟨e,s⟩:=x
  cases e <;> rfl
theorem Eb (b:AC) (k:Kn) (ρ:Nat→AV) (bs:List (List AV)):Qv T b k .normal ⟨ρ,bs⟩=R T b ρ bs k:=rfl
theorem Qd9 (b:AC) (k:Kn) (s:St):Qv T b k .ret s=k .ret s:=rfl
theorem Qcg (b:AC) (k:Kn) (s:St) (id:Nat):Qv T b k (.exit id) s=k (.exit id) s:=rfl
theorem JS (id:Nat) (k:Kn) (s:St):Qk id k .normal s=k .normal s:=rfl
theorem Cz (id:Nat) (k:Kn) (s:St):Qk id k .ret s=k .ret s:=rfl
theorem FD (id:Nat) (k:Kn) (s:St):Qk id k (.exit id) s=k .normal s:=by simp[Qk]
theorem FS (fn:Qi) (k:List (List AV)) (s:St):Qx fn k .normal s=Ym fn k s:=rfl
theorem Qdo (fn:Qi) (k:List (List AV)) (s:St):Qx fn k .ret s=Ym fn k s:=rfl
noncomputable def CO (T:Nat→Option AFn) (v:AV) (n:Nat) (a b:AC) (ρ:Nat→AV) (bs:List (List AV)) (k:Kn):Out:=match v with
 | .bool c=>Yx c true (R T a (upd ρ n (.bool true)) bs k) (R T b (upd ρ n (.bool false)) bs k)
 | _=>none
theorem Ww {ρ:Nat→AV} {n:Nat} {v:AV} (h:ρ n=v):upd ρ n v=ρ:=by
 funext j
 unfold upd
 split
 ·rename_i hj;rw[hj,h]
 ·rfl
theorem Qii (n:Nat) (a b:AC) (ρ:Nat→AV) (bs:List (List AV)) (k:Kn):R T (.cond (.t n) a b) ρ bs k=CO T (ρ n) n a b ρ bs k:=by
 simp only[R,Fh,val,CO]
 cases h:ρ n <;> try rfl
 rename_i c
 cases c
 ·simp only[AV.strip,Nl,Ww h]
 ·simp only[AV.strip,Nm,Ww h]
theorem CP (c:Bool) (n:Nat) (a b:AC) (ρ:Nat→AV) (bs:List (List AV)) (k:Kn):
  CO T (.bool c) n a b ρ bs k=Yx c true (R T a (upd ρ n (.bool true)) bs k) (R T b (upd ρ n (.bool false)) bs k):=rfl
theorem Qk3 (ρ:Nat→AV) (bs:List (List AV)) (k:Kn):O T [] ρ bs k=k .normal ⟨ρ,bs⟩:=rfl
theorem Qig (d:Option Nat) (op:AOp) (os:List Qu) (ρ:Nat→AV) (bs:List (List AV)) (k:Kn):
  O T (⟨d,op,none⟩:: os) ρ bs k=E T (Qg (call T) op ⟨ρ,bs⟩) d os k:=by
 simp only[O,E,Zv,Zw]
 cases Qg (call T) op ⟨ρ,bs⟩ <;> rfl
noncomputable def Lz (T:Nat→Option AFn) (v:AV) (t:Nat) (b:Bool) (d:Option Nat) (op:AOp) (os:List Qu) (ρ:Nat→AV) (bs:List (List AV)) (k:Kn):Out:=match v with
 | .bool c=>Yx c b (E T (Qg (call T) op ⟨upd ρ t (.bool b),bs⟩) d os k) (O T os (ZQ (upd ρ t (.bool (!b))) d (.tup [])) bs k)
 | .tup []=>O T os (ZQ ρ d (.tup [])) bs k
 | _=>none
theorem WB (d:Option Nat) (op:AOp) (t:Nat) (b:Bool) (os:List Qu) (ρ:Nat→AV) (bs:List (List AV)) (k:Kn):
  O T (⟨d,op,some (t,b)⟩:: os) ρ bs k=Lz T (ρ t) t b d op os ρ bs k:=by
 simp only[O,Zv,Zw,Lz]
 cases h:ρ t <;> try rfl
 ·rename_i c
  by_cases hcb:c=b
  ·subst hcb
   simp only[Yx,if_true,Ww h,E]
   cases Qg (call T) op ⟨ρ,bs⟩ <;> rfl
  ·have hcb2:c= !b:=by cases c <;> cases b <;> simp_all
   subst hcb2
   simp only[Yx,hcb,if_false,Ww h]
   rfl
 ·rename_i vs
  cases vs <;> rfl
theorem WS (c:Bool) (t:Nat) (b:Bool) (d:Option Nat) (op:AOp) (os:List Qu) (ρ:Nat→AV) (bs:List (List AV)) (k:Kn):
  Lz T (.bool c) t b d op os ρ bs k=Yx c b (E T (Qg (call T) op ⟨upd ρ t (.bool b),bs⟩) d os k) (O T os (ZQ (upd ρ t (.bool (!b))) d (.tup [])) bs k):=rfl
theorem LA (t:Nat) (b:Bool) (d:Option Nat) (op:AOp) (os:List Qu) (ρ:Nat→AV) (bs:List (List AV)) (k:Kn):
  Lz T (.tup []) t b d op os ρ bs k=O T os (ZQ ρ d (.tup [])) bs k:=rfl
theorem Qic (v:AV) (ρ:Nat→AV) (bs:List (List AV)) (d:Nat) (os:List Qu) (k:Kn):E T (some (v,⟨ρ,bs⟩)) (some d) os k=O T os (upd ρ d v) bs k:=rfl
theorem QeO (v:AV) (ρ:Nat→AV) (bs:List (List AV)) (os:List Qu) (k:Kn):E T (some (v,⟨ρ,bs⟩)) none os k=O T os ρ bs k:=rfl
theorem Qib (d:Option Nat) (os:List Qu) (k:Kn):E T none d os k=none:=rfl
theorem Qci (ρ:Nat→AV) (d:Nat) (v:AV):ZQ ρ (some d) v=upd ρ d v:=rfl
theorem Qch (ρ:Nat→AV) (v:AV):ZQ ρ none v=ρ:=rfl
theorem Qb {f:Nat} {fn:Qi} (h:T f=some (.code fn)) (args:List AV) (bs:List (List AV)) (hl:args.length=fn.nparams):
  call T f args bs=R T fn.body (YC args) bs (Qx fn bs):=by
 rw[KQ,h]
 simp only[hl,if_true,R]
 cases run T fn.body ⟨YC args,bs⟩with
 | none=>rfl
 | some x=>
  obtain⟨e,s⟩:=x
  cases e <;> rfl
theorem XH {f:Nat} {g:List AV→List (List AV)→Option (AV×List (List AV))} (h:T f=some (.orc g)) (args:List AV) (bs:List (List AV)):call T f args bs=g args bs:=by
 rw[KQ,h]
theorem QcM (a:AV) (aq:List AV):YC (a:: aq) 0=a.strip:=rfl
theorem FA (a:AV) (aq:List AV) (i:Nat):YC (a:: aq) (i+1)=YC aq i:=rfl
theorem Ve (ρ:Nat→AV) (i:Nat) (v:AV):upd ρ i v i=v:=by simp[upd]
variable {K:ZJ} (ρ:Nat→AV) (bs:List (List AV))
theorem QlD (n:Nat):val ρ (.t n)=(ρ n).strip:=rfl
theorem QlC (v:AV):val ρ (.c v)=v:=rfl
end
end Go.Am
namespace Go.Am
section
variable {T:Nat→Option AFn}
def Sl (b:Bool):AV→Bool
 | .bool c=>c == !b
 | .tup []=>true
 | _=>false
noncomputable def O2 (T:Nat→Option AFn) (c:Bool) (_t:Nat) (b:Bool) (os:List Qu) (ρ1 ρ2:Nat→AV) (bs1 bs2:List (List AV)) (k:Kn):Out:=
 if c=b then O T os ρ1 bs1 k else O T os ρ2 bs2 k
noncomputable def E2 (T:Nat→Option AFn) (c:Bool) (_t:Nat) (b:Bool) (r:Option (AV×St)) (d:Option Nat) (os:List Qu) (ρ2:Nat→AV) (bs2:List (List AV)) (k:Kn):Out:=
 if c=b then E T r d os k else O T os (ZQ ρ2 d (.tup [])) bs2 k
def ZM (c b:Bool) (x y:AV):AV:=if c=b then x else y
def MZ (c b:Bool) (x y:List (List AV)):List (List AV):=if c=b then x else y
def mrg (c b:Bool) (ρ1 ρ2:Nat→AV):Nat→AV:=fun j=>ZM c b (ρ1 j) (ρ2 j)
theorem Qhw (c b:Bool) (ρ1 ρ2:Nat→AV) (j:Nat):mrg c b ρ1 ρ2 j=ZM c b (ρ1 j) (ρ2 j):=rfl
theorem Ej (c:Bool) (t:Nat) (b:Bool) (os:List Qu) (ρ1 ρ2:Nat→AV) (bs1 bs2:List (List AV)) (k:Kn):
  O2 T c t b os ρ1 ρ2 bs1 bs2 k=O T os (mrg c b ρ1 ρ2) (MZ c b bs1 bs2) k:=by
 unfold O2
 split
 ·rename_i h
  have:mrg c b ρ1 ρ2=ρ1:=by funext j;simp[mrg,ZM,h]
  rw[this,MZ,if_pos h]
 ·rename_i h
  have:mrg c b ρ1 ρ2=ρ2:=by funext j;simp[mrg,ZM,h]
  rw[this,MZ,if_neg h]
theorem Qif (c:Bool) (t:Nat) (b:Bool) (ρ1 ρ2:Nat→AV) (bs1 bs2:List (List AV)) (k:Kn):
  O2 T c t b [] ρ1 ρ2 bs1 bs2 k=O T [] (mrg c b ρ1 ρ2) (MZ c b bs1 bs2) k:=Ej c t b [] ρ1 ρ2 bs1 bs2 k
theorem QeQ (c:Bool) (t:Nat) (b:Bool) (d:Option Nat) (op:AOp) (os:List Qu) (ρ1 ρ2:Nat→AV) (bs1 bs2:List (List AV)) (k:Kn):
  O2 T c t b (⟨d,op,none⟩:: os) ρ1 ρ2 bs1 bs2 k=O T (⟨d,op,none⟩:: os) (mrg c b ρ1 ρ2) (MZ c b bs1 bs2) k:=Ej c t b _ ρ1 ρ2 bs1 bs2 k
theorem QcC (c:Bool) (t:Nat) (b:Bool) (d:Option Nat) (op:AOp) (t':Nat) (b':Bool) (os:List Qu) (ρ1 ρ2:Nat→AV) (bs1 bs2:List (List AV)) (k:Kn) (_h: ((t' == t) && (b' == b))=false):
  O2 T c t b (⟨d,op,some (t',b')⟩:: os) ρ1 ρ2 bs1 bs2 k=Yx c b (O T (⟨d,op,some (t',b')⟩:: os) ρ1 bs1 k) (O T (⟨d,op,some (t',b')⟩:: os) ρ2 bs2 k):=by
 unfold O2 Yx;rfl
theorem QeR (c:Bool) (t:Nat) (b:Bool) (d:Option Nat) (op:AOp) (os:List Qu) (ρ1 ρ2:Nat→AV) (bs1 bs2:List (List AV)) (k:Kn) (h1:ρ1 t= .bool b) (h2:Sl b (ρ2 t)=true):
  O2 T c t b (⟨d,op,some (t,b)⟩:: os) ρ1 ρ2 bs1 bs2 k=E2 T c t b (Qg (call T) op ⟨ρ1,bs1⟩) d os ρ2 bs2 k:=by
 unfold O2 E2
 split
 ·rw[WB,h1,WS,Y4,if_pos rfl,Ww h1]
 ·rw[WB]
  unfold Sl at h2
  split at h2
  ·rename_i c hc
   rw[hc,WS]
   simp only[beq_iff_eq]at h2
   subst h2
   rw[Y4,if_neg (by cases b <;> simp),Ww hc]
  ·rename_i hc
   rw[hc,LA]
  ·cases h2
theorem QeN (c:Bool) (t:Nat) (b:Bool) (v:AV) (ρ1:Nat→AV) (bs1:List (List AV)) (d:Option Nat) (os:List Qu) (ρ2:Nat→AV) (bs2:List (List AV)) (k:Kn):
  E2 T c t b (some (v,⟨ρ1,bs1⟩)) d os ρ2 bs2 k=O2 T c t b os (ZQ ρ1 d v) (ZQ ρ2 d (.tup [])) bs1 bs2 k:=rfl
noncomputable def G (T:Nat→Option AFn) (v:AV) (d:Option Nat) (op:AOp) (t:Nat) (b:Bool) (os:List Qu) (ρ:Nat→AV) (bs:List (List AV)) (k:Kn):Out:=match v with
 | .bool c=>O2 T c t b (⟨d,op,some (t,b)⟩:: os) (upd ρ t (.bool b)) (upd ρ t (.bool (!b))) bs bs k
 | .tup []=>O T os (ZQ (upd ρ t (.tup [])) d (.tup [])) bs k
 | _=>none
theorem Rb (c:Bool) (d:Option Nat) (op:AOp) (t:Nat) (b:Bool) (os:List Qu) (ρ:Nat→AV) (bs:List (List AV)) (k:Kn):
  G T (.bool c) d op t b os ρ bs k=O2 T c t b (⟨d,op,some (t,b)⟩:: os) (upd ρ t (.bool b)) (upd ρ t (.bool (!b))) bs bs k:=rfl
theorem Qer (d:Option Nat) (op:AOp) (t:Nat) (b:Bool) (os:List Qu) (ρ:Nat→AV) (bs:List (List AV)) (k:Kn):
  G T (.tup []) d op t b os ρ bs k=O T os (ZQ (upd ρ t (.tup [])) d (.tup [])) bs k:=rfl
theorem QeS (d:Option Nat) (op:AOp) (t:Nat) (b:Bool) (os:List Qu) (ρ:Nat→AV) (bs:List (List AV)) (k:Kn):
  O T (⟨d,op,some (t,b)⟩:: os) ρ bs k=G T (ρ t) d op t b os ρ bs k:=by
 cases h:ρ t <;> try (rw[WB,h];rfl)
 ·rename_i c
  rw[Rb]
  unfold O2
  by_cases hcb:c=b
  ·subst hcb
   simp[Ww h]
  ·have hcb2:c= !b:=by cases c <;> cases b <;> simp_all
   subst hcb2
   rw[Ww h,if_neg hcb]
 ·rename_i vs
  cases vs with
  | nil=>rw[Qer,WB,h,LA,Ww h]
  | cons v vs=>rw[WB,h];rfl
theorem Qie (d:Option Nat) (op:AOp) (t:Nat) (os:List Qu) (ρ:Nat→AV) (bs:List (List AV)) (k:Kn):
  G T (.bool true) d op t true os ρ bs k=E T (Qg (call T) op ⟨upd ρ t (.bool true),bs⟩) d os k:=by
 rw[Rb];unfold O2;rw[if_pos rfl,WB,Ve,WS,Nm,Ww (Ve _ _ _)]
theorem QeP (d:Option Nat) (op:AOp) (t:Nat) (os:List Qu) (ρ:Nat→AV) (bs:List (List AV)) (k:Kn):
  G T (.bool false) d op t false os ρ bs k=E T (Qg (call T) op ⟨upd ρ t (.bool false),bs⟩) d os k:=by
 rw[Rb];unfold O2;rw[if_pos rfl,WB,Ve,WS,Jx,Ww (Ve _ _ _)]
theorem QlM (d:Option Nat) (op:AOp) (t:Nat) (os:List Qu) (ρ:Nat→AV) (bs:List (List AV)) (k:Kn):
  G T (.bool true) d op t false os ρ bs k=O T os (ZQ (upd ρ t (.bool true)) d (.tup [])) bs k:=by
 rw[Rb];unfold O2;rw[if_neg (by simp),WB,Ve];simp only[WS,Jy,Bool.not_false];rw[Ww (Ve _ _ _)]
theorem QlL (d:Option Nat) (op:AOp) (t:Nat) (os:List Qu) (ρ:Nat→AV) (bs:List (List AV)) (k:Kn):
  G T (.bool false) d op t true os ρ bs k=O T os (ZQ (upd ρ t (.bool false)) d (.tup [])) bs k:=by
 rw[Rb];unfold O2;rw[if_neg (by simp),WB,Ve];simp only[WS,Nl,Bool.not_true];rw[Ww (Ve _ _ _)]
theorem Qcd (c b:Bool) (x:AV):ZM c b x x=x:=by unfold ZM;split <;> rfl
theorem Qca (c b:Bool) (x:List (List AV)):MZ c b x x=x:=by unfold MZ;split <;> rfl
theorem QkD (c b:Bool) (x y z:AV):ZM c b (ZM c b x y) z=ZM c b x z:=by unfold ZM;split <;> simp_all
theorem QkE (c b:Bool) (x y z:AV):ZM c b x (ZM c b y z)=ZM c b x z:=by unfold ZM;split <;> simp_all
theorem QhT (c:Bool) (x y z:AV):ZM c true (ZM c false x y) z=ZM c true y z:=by cases c <;> rfl
theorem QhU (c:Bool) (x y z:AV):ZM c true x (ZM c false y z)=ZM c true x y:=by cases c <;> rfl
theorem QhQ (c:Bool) (x y z:AV):ZM c false (ZM c true x y) z=ZM c false y z:=by cases c <;> rfl
theorem QhR (c:Bool) (x y z:AV):ZM c false x (ZM c true y z)=ZM c false x y:=by cases c <;> rfl
theorem Qcf (c:Bool) (x y:AV):ZM c false x y=ZM c true y x:=by cases c <;> rfl
theorem Qd7 (x y:AV):ZM true true x y=x:=rfl
theorem Qcc (x y:AV):ZM false true x y=y:=rfl
theorem Qcb (c x y:Bool):ZM c true (.bool x) (.bool y)= .bool (bif c then x else y):=by cases c <;> rfl
theorem Qd6 (c:Bool) (k:IntKind) (x y:Int):ZM c true (.int k x) (.int k y)= .int k (bif c then x else y):=by cases c <;> rfl
theorem BD (c b:Bool) (x y:AV): (ZM c b x y).strip=ZM c b x.strip y.strip:=by unfold ZM;split <;> rfl
theorem QhS (c b:Bool) (x y:AV): (ZM c b x y).ok=if c=b then x.ok else y.ok:=by unfold ZM;split <;> rfl
theorem Qd8 (c b:Bool) (x y:AV): (ZM c b x y).one=if c=b then x.one else y.one:=by unfold ZM;split <;> rfl
theorem Qce (c b d:Bool) (x y:AV):Sl d (ZM c b x y)=if c=b then Sl d x else Sl d y:=by unfold ZM;split <;> rfl
theorem F1 (c b:Bool):Sl b (.bool c)=(c == !b):=rfl
theorem C7 (b:Bool):Sl b (.tup [])=true:=rfl
def Bi (v x y:AV) (s:St):Option (AV×St):=match v with
 | .bool c=>let v:=ZM c true x y;if v.ok then some (v,s)else none
 | _=>none
theorem QjS {K:ZJ} (c a b:AO) (ρ:Nat→AV) (bs:List (List AV)):Qg K (.pick c a b) ⟨ρ,bs⟩=Bi (val ρ c) (val ρ a) (val ρ b) ⟨ρ,bs⟩:=by
 simp only[Qg,Bi]
 cases val ρ c <;> try rfl
 rename_i x
 cases x <;> rfl
theorem Bj (c:Bool) (x y:AV) (s:St):Bi (.bool c) x y s=if(ZM c true x y).ok then some (ZM c true x y,s)else none:=rfl
end
end Go.Am
namespace Go.Am
theorem Qh6 (ρ:Nat→AV) (i:Nat) (v:AV) (j:Nat):upd ρ i v j=if j=i then v else ρ j:=rfl
theorem J8:AV.strip (.undef)= .undef:=rfl
theorem Bt:AV.ok (.undef)=false:=rfl
theorem F5:AV.one (.undef)=false:=rfl
theorem F4:AV.gpfree (.undef)=true:=rfl
theorem F8 (k:IntKind) (n:Int):AV.strip (.int k n)= .int k n:=rfl
theorem QdW (k:IntKind) (n:Int):AV.ok (.int k n)=true:=rfl
theorem Qb7 (k:IntKind) (n:Int):AV.one (.int k n)=true:=rfl
theorem QbZ (k:IntKind) (n:Int):AV.gpfree (.int k n)=true:=rfl
theorem Fm (b:Bool):AV.strip (.bool b)= .bool b:=rfl
theorem Qb3 (b:Bool):AV.ok (.bool b)=true:=rfl
theorem Bv (b:Bool):AV.one (.bool b)=true:=rfl
theorem Br (b:Bool):AV.gpfree (.bool b)=true:=rfl
theorem Fl:AV.strip (.anyb)= .anyb:=rfl
theorem Qb2:AV.ok (.anyb)=true:=rfl
theorem Bu:AV.one (.anyb)=true:=rfl
theorem Bq:AV.gpfree (.anyb)=true:=rfl
theorem F9 (s:List UInt8):AV.strip (.str s)= .str s:=rfl
theorem QdX (s:List UInt8):AV.ok (.str s)=true:=rfl
theorem Qb8 (s:List UInt8):AV.one (.str s)=true:=rfl
theorem Qb0 (s:List UInt8):AV.gpfree (.str s)=true:=rfl
theorem F6 (cs:List AV):AV.strip (.agg cs)= .agg cs:=rfl
theorem QdU (cs:List AV):AV.ok (.agg cs)=true:=rfl
theorem Qb5 (cs:List AV):AV.one (.agg cs)=false:=rfl
theorem QbX (cs:List AV):AV.gpfree (.agg cs)=gpfreeL cs:=rfl
theorem BC (o:Bool) (z:Nat) (xs:List (List AV)):AV.strip (.sl o z xs)= .sl false z xs:=rfl
theorem QhN (o:Bool) (z:Nat) (xs:List (List AV)):AV.ok (.sl o z xs)=true:=rfl
theorem Qd3 (o:Bool) (z:Nat) (xs:List (List AV)):AV.one (.sl o z xs)=true:=rfl
theorem QdT (o:Bool) (z:Nat) (xs:List (List AV)):AV.gpfree (.sl o z xs)=gpfreeE xs:=rfl
theorem Bx (cs:List AV):AV.strip (.bx cs)= .bx cs:=rfl
theorem QhJ (cs:List AV):AV.ok (.bx cs)=false:=rfl
theorem QdZ (cs:List AV):AV.one (.bx cs)=false:=rfl
theorem QdQ (cs:List AV):AV.gpfree (.bx cs)=gpfreeL cs:=rfl
theorem BA (i o:Nat):AV.strip (.gp i o)= .gp i o:=rfl
theorem QhL (i o:Nat):AV.ok (.gp i o)=true:=rfl
theorem Qd1 (i o:Nat):AV.one (.gp i o)=true:=rfl
theorem QdS (i o:Nat):AV.gpfree (.gp i o)=false:=rfl
theorem BB (i o z n:Nat):AV.strip (.gs i o z n)= .gs i o z n:=rfl
theorem QhM (i o z n:Nat):AV.ok (.gs i o z n)=true:=rfl
theorem Qd2 (i o z n:Nat):AV.one (.gs i o z n)=true:=rfl
theorem Fn (cs:List AV):AV.strip (.rptr cs)= .rptr cs:=rfl
theorem Qb4 (cs:List AV):AV.ok (.rptr cs)=true:=rfl
theorem Bw (cs:List AV):AV.one (.rptr cs)=true:=rfl
theorem Bs (cs:List AV):AV.gpfree (.rptr cs)=gpfreeL cs:=rfl
theorem Bz (f:Nat) (cs:List AV):AV.strip (.fn f cs)= .fn f cs:=rfl
theorem QhK (f:Nat) (cs:List AV):AV.ok (.fn f cs)=true:=rfl
theorem Qd0 (f:Nat) (cs:List AV):AV.one (.fn f cs)=true:=rfl
theorem QdR (f:Nat) (cs:List AV):AV.gpfree (.fn f cs)=gpfreeL cs:=rfl
theorem Ea (vs:List AV):AV.strip (.tup vs)= .tup vs:=rfl
theorem QdY (vs:List AV):AV.ok (.tup vs)=true:=rfl
theorem Qb9 (vs:List AV):AV.one (.tup vs)=false:=rfl
theorem Qb1 (vs:List AV):AV.gpfree (.tup vs)=gpfreeL vs:=rfl
theorem F7 (b:Bool):AV.strip (.err b)= .err b:=rfl
theorem QdV (b:Bool):AV.ok (.err b)=true:=rfl
theorem Qb6 (b:Bool):AV.one (.err b)=true:=rfl
theorem QbY (b:Bool):AV.gpfree (.err b)=true:=rfl
theorem Qdw {α:Type} (p:Prop) [Decidable p] (a b c:α): (if p then(if p then a else b)else c)=if p then a else c:=by split <;> simp_all
theorem Qdv {α:Type} (p:Prop) [Decidable p] (a b c:α): (if p then a else(if p then b else c))=if p then a else c:=by split <;> simp_all
attribute [simp] J8 Bt F5 F4 F8 QdW Qb7 QbZ Fm Qb3 Bv Br Fl Qb2 Bu Bq F9 QdX Qb8 Qb0 F6 QdU Qb5 QbX BC QhN Qd3 QdT Bx QhJ QdZ QdQ BA QhL Qd1 QdS BB QhM Qd2 Fn Qb4 Bw Bs Bz QhK Qd0 QdR Ea QdY Qb9 Qb1 F7 QdV Qb6 QbY Qdw Qdv
attribute [simp] eqVE_refl Qil Qk5 Qij Qk4 U9 QeT Qii Qk3 Qig QeS Qic QeO Qib Qci Qch CP Eb Qd9 Qcg JS Cz FD FS Qdo Nm Jy Jx Nl C2 FX Qg QlD QlC QcM FA Ms aun Ym Xk WU gpfreeL gpfreeE YS Z1 cellsOf put Qh6 Qif QeQ QcC QeR QeN Qhw Rb Qer F1 C7 Qcd Qca QkD QkE QhT QhU QhQ QhR Qcf Qd7 Qcc Qcb Qd6 BD QhS Qd8 Qce Bj
attribute [simp ↓] QjS
attribute [simp 2000] Qie QeP QlM QlL
theorem FY (c:Bool) (x y:Out):Yx c false x y=Yx c true y x:=by cases c <;> rfl
theorem FW (c x y:Bool) (s:List (List AV)):Yx c true (some (.bool x,s)) (some (.bool y,s))=some (.bool (bif c then x else y),s):=by cases c <;> rfl
theorem GJ (c:Bool) (k:IntKind) (x y:Int) (s:List (List AV)):Yx c true (some (.int k x,s)) (some (.int k y,s))=some (.int k (bif c then x else y),s):=by cases c <;> rfl
theorem Qc {T:Nat→Option AFn} {c c':AC} (h:c=c') (ρ:Nat→AV) (bs:List (List AV)) (k:Kn):R T (.loop c) ρ bs k=R T c' ρ bs (Qv T (.loop c) k):=by
 subst h;exact Qik c ρ bs k
attribute [simp] toI
theorem Yi {α:Type} (x:α) (xs:List α): (x:: xs)[0]? =some x:=rfl
attribute [simp] FY FW GJ Sj XX Zk Bool.cond_decide
theorem Ql {n:Int} (h1: -9223372036854775808≤n) (h2:n < 9223372036854775808):IntKind.i64.wrap n=n:=by
 simp only[IntKind.wrap_i64]
 omega
@[simp] theorem Qmq (n:Nat) (vs:List AV):stV (.t n) vs=vs.map AV.strip:=rfl
@[simp] theorem Qmn (z:Nat) (vs:List AV):stV (.c (.sl true z [])) vs=vs.map fun _=> .sl true z []:=rfl
@[simp] theorem Qmm (k:IntKind) (n:Int) (vs:List AV):stV (.c (.int k n)) vs=vs.map AV.strip:=rfl
@[simp] theorem Qmo (s:List UInt8) (vs:List AV):stV (.c (.str s)) vs=vs.map AV.strip:=rfl
@[simp] theorem Qmc (b:Bool) (vs:List AV):stV (.c (.bool b)) vs=vs.map AV.strip:=rfl
@[simp] theorem Qmk (cs:List AV) (vs:List AV):stV (.c (.agg cs)) vs=vs.map AV.strip:=rfl
@[simp] theorem Qml (b:Bool) (vs:List AV):stV (.c (.err b)) vs=vs.map AV.strip:=rfl
@[simp] theorem Qmh (i o k:Nat):S8 (.gs i o 0 0) (.sl true k [])= .sl true k []:=rfl
@[simp] theorem Ql8 (k:IntKind) (n:Int) (z:AV):S8 (.int k n) z= .int k n:=rfl
@[simp] theorem Ql9 (s:List UInt8) (z:AV):S8 (.str s) z= .str s:=rfl
@[simp] theorem QlI (b:Bool) (z:AV):S8 (.bool b) z= .bool b:=rfl
@[simp] theorem Qmi (o:Bool) (k:Nat) (xs:List (List AV)) (z:AV):S8 (.sl o k xs) z= .sl false k xs:=rfl
attribute [simp] Wa
@[simp] theorem QlB (i:Nat):AV.strip (.mp i)= .mp i:=rfl
@[simp] theorem Qmj (i:Nat):AV.ok (.mp i)=true:=rfl
@[simp] theorem Qmb (i:Nat):AV.one (.mp i)=true:=rfl
@[simp] theorem Qma (i:Nat):AV.gpfree (.mp i)=false:=rfl
@[simp] theorem SG: ∀bs:List (List AV),YM bs bs=true
 | []=>rfl
 | x:: xs=>by simp only[YM,eqVL_refl,SG xs,Bool.true_or,Bool.true_and]
@[simp] theorem QlQ (ys:List (List AV)):YM [] ys=true:=rfl
@[simp] theorem FM (a b c:List (List AV)):YM (a ++ b) (a ++ c)=YM b c:=by
 induction a with
 | nil=>rfl
 | cons x xs ih=>simp only[List.cons_append,YM,eqVL_refl,ih,Bool.true_or,Bool.true_and]
@[simp] theorem QlP (a c:List (List AV)):YM a (a ++ c)=true:=by
 have:=FM a [] c
 simpa using this
@[simp] theorem QlE (x:List AV) (xs ys:List (List AV)):YM (x:: xs) (x:: ys)=YM xs ys:=by simp only[YM,eqVL_refl,Bool.true_or,Bool.true_and]
@[simp] theorem Gq {cs:List AV} (h:gpfreeL cs=true): ∀(bs:List (List AV)) (i:Nat),YM bs (bs.set i cs)=true
 | [],_=>rfl
 | x:: xs,0=>by simp only[List.set_cons_zero,YM,h,SG,Bool.or_true,Bool.and_true]
 | x:: xs,i+1=>by simp only[List.set_cons_succ,YM,eqVL_refl,Gq h xs i,Bool.true_or,Bool.and_true]
theorem Dq: ∀{xs ys:List (List AV)},xs.length≤ys.length→(∀(i:Nat) (x y:List AV),xs[i]? =some x→ys[i]? =some y→x=y∨gpfreeL y=true)→YM xs ys=true
 | [],_,_,_=>rfl
 | _:: _,[],h,_=>by simp at h
 | x:: xs,y:: ys,h,hh=>by
  simp only[YM,Bool.and_eq_true,Bool.or_eq_true]
  refine⟨?_,Dq (by simpa using h) fun i a b ha hb=>hh (i+1) a b (by simpa using ha) (by simpa using hb)⟩
  rcases hh 0 x y rfl rfl with h1 | h1
  ·subst h1;exact .inl (eqVL_refl x)
  ·exact .inr h1
@[simp] theorem Qmf {x y:List AV} (h:gpfreeL y=true) (xs ys:List (List AV)):YM (x:: xs) (y:: ys)=YM xs ys:=by simp only[YM,h,Bool.or_true,Bool.true_and]
@[simp] theorem Qk2:gpfreeL []=true:=rfl
@[simp] theorem GI (x:AV) (xs:List AV):gpfreeL (x:: xs)=(x.gpfree && gpfreeL xs):=rfl
@[simp] theorem FU: ∀n:Nat,gpfreeL (List.replicate n .undef)=true
 | 0=>rfl
 | n+1=>by rw[List.replicate_succ,GI,FU n];rfl
@[simp] theorem Gr (bs:List (List AV)) (i:Nat):YM bs (bs.set i [])=true:=Gq rfl bs i
end Go.Am
namespace Go.Am
set_option maxRecDepth 8000
theorem O6 (a b:Int) (bs:List (List AV)):call F.tb 32 [.int .i64 a,.int .i64 b] bs=some (.int .i64 (if a < b then -1 else if a > b then 1 else 0),bs):=by
 rw[Qb F.tb_32 _ _ rfl]
 simp[F.f32,F.f32C]
def Ul (c:UInt8):Bool:=(97≤c.toNat && c.toNat≤122) || (65≤c.toNat && c.toNat≤90) || (48≤c.toNat && c.toNat≤57) || c.toNat == 95 || c.toNat == 35
theorem Gm (n m:Nat): ((n:Int) == (m:Int))=(n == m):=by rw[Bool.eq_iff_iff,beq_iff_eq,beq_iff_eq];omega
theorem Lp (n:Nat): ((n:Int) == 95)=(n == 95):=Gm n 95
theorem Lo (n:Nat): ((n:Int) == 35)=(n == 35):=Gm n 35
theorem O5 (c:UInt8) (bs:List (List AV)):call F.tb 9 [.int .u8 c.toNat] bs=some (.bool (Ul c),bs):=by
 rw[Qb F.tb_9 _ _ rfl]
 simp (config:={maxSteps:=1000000}) [F.f9,F.f9C,Ul,Lp,Lo]
 have e1: ∀m:Nat,((m:Int)≤(c.toNat:Int))=(m≤c.toNat):=fun m=>by simp
 have e2: ∀m:Nat,((c.toNat:Int)≤(m:Int))=(c.toNat≤m):=fun m=>by simp
 simp only[show(97:Int)=((97:Nat):Int)from rfl,show(122:Int)=((122:Nat):Int)from rfl,show(65:Int)=((65:Nat):Int)from rfl,show(90:Int)=((90:Nat):Int)from rfl,show(48:Int)=((48:Nat):Int)from rfl,show(57:Int)=((57:Nat):Int)from rfl,e1,e2]
 by_cases h1:97≤c.toNat <;> by_cases h2:c.toNat≤122 <;> by_cases h3:65≤c.toNat <;> by_cases h4:c.toNat≤90 <;> by_cases h5:48≤c.toNat <;> by_cases h6:c.toNat≤57 <;> simp[h1,h2,h3,h4,h5,h6]
theorem F0 (s:List UInt8) (bs:List (List AV)) (hs:s.length < 4611686018427387904): ∀(k i:Nat) (ρ:Nat→AV),s.length - i=k→i≤s.length→ρ 0= .str s→ρ 38= .int .i64 s.length→ρ 39= .int .i64 i→
  R F.tb (.loop F.f8l0) ρ bs (Qk 0 (Qv F.tb F.f8r0 (Qx F.f8 bs)))=some (.bool ((s.drop i).all Ul),bs):=by
 intro k
 induction k with
 | zero=>
  intro i ρ hk hi h0 h38 h39
  have:i=s.length:=by omega
  subst this
  rw[Qc F.f8l0.eq_1]
  simp[h0,h38,h39,F.f8r0,F.f8R,F.f8K]
 | succ k ih=>
  intro i ρ hk hi h0 h38 h39
  have hlt:i < s.length:=by omega
  have hw:IntKind.i64.wrap ((i:Int)+1)=((i+1:Nat):Int):=Ql (by omega) (by omega)
  rw[Qc F.f8l0.eq_1,List.drop_eq_getElem_cons hlt,List.all_cons]
  cases hb:Ul s[i]
  ·simp[h0,h38,h39,F.f8R,F.f8K,hlt,O5,hb]
  ·simp[h0,h38,h39,hlt,O5,hb,hw]
   rw[ih (i+1)] <;> first | rfl | omega | simp[h0,h38]
def Xh:List UInt8→Bool
 | []=>false
 | c:: r=>decide (r.length < 24) && Ul c && !(decide (48≤c.toNat) && decide (c.toNat≤57)) && c.toNat != 95 && c.toNat != 35 && r.all Ul
theorem FK (s:List UInt8) (bs:List (List AV)) (hs:s.length < 4611686018427387904):call F.tb 8 [.str s] bs=some (.bool (Xh s),bs):=by
 rw[Qb F.tb_8 _ _ rfl]
 cases s with
 | nil=>simp[F.f8B,F.f8C,F.f8R,F.f8K,Xh]
 | cons c r=>
  have hl:=F0 (c:: r) bs hs ((c:: r).length - 0) 0
  simp (config:={maxSteps:=1000000}) [F.f8B,F.f8C,F.f8R,F.f8K,O5,hl,Lp,Lo]
  have e1: (24 < (r.length:Int)+1)=(¬r.length < 24):=by rw[eq_iff_iff];omega
  have e2: ((48:Int)≤(c.toNat:Int))=(48≤c.toNat):=by rw[eq_iff_iff];omega
  have e3: ((c.toNat:Int)≤57)=(c.toNat≤57):=by rw[eq_iff_iff];omega
  simp only[Xh,e1,e2,e3,bne]
  by_cases h1:r.length < 24 <;> by_cases h2:48≤c.toNat <;> by_cases h3:c.toNat≤57 <;> cases Ul c <;> simp[h1,h2,h3]
end Go.Am
namespace Go.Am
set_option maxRecDepth 8000
attribute [simp] KX KY
attribute [simp] Xi Q3 WT QJ
attribute [simp] XJ Ng Yw Zs QE Jq Qa7 Qa8 Qa9 Qba Dw Dx Dy Dz KS encTs_gp
attribute [simp] Int.toNat_natCast
attribute [simp] KX KY
theorem O0 (t:Tm) (bs:List (List AV)) (hm:t.mass < big) (ih: ∀x∈t.kids,∀bs,call F.tb 31 [.agg (Qa x)] bs=some (.int .i64 x.nodes,bs)):
  ∀(post pre:List Tm) (ρ:Nat→AV),t.kids=pre ++ post→ρ 7= .sl false 4 (encTs t.kids)→ρ 8= .int .i64 t.kids.length→ρ 9= .int .i64 pre.length→ρ 3= .int .i64 (1+nodesL pre:Nat)→
  R F.tb (.loop F.f31l0) ρ bs (Qk 0 (Qv F.tb F.f31r0 (Qx F.f31 bs)))=some (.int .i64 t.nodes,bs):=by
 have hm2:=Qo t
 have hn:=nodesL_le_mass t.kids
 unfold big at hm
 intro post
 induction post with
 | nil=>
  intro pre ρ hk h7 h8 h9 h3
  rw[Qc F.f31l0.eq_1]
  simp at hk
  simp[h3,h8,h9,← hk,F.f31r0,F.f31R,F.f31K,ZO]
 | cons x post IH=>
  intro pre ρ hk h7 h8 h9 h3
  have hg:=Qp hk
  have hl:t.kids.length=pre.length+ (post.length+1):=by rw[hk];simp
  have hnn:nodesL t.kids=nodesL pre+ (x.nodes+nodesL post):=by rw[hk,Yj];simp[nodesL]
  have hw1:IntKind.i64.wrap ((pre.length:Int)+1)=(pre.length:Int)+1:=Ql (by omega) (by omega)
  have hw2:IntKind.i64.wrap (1+ (nodesL pre:Int)+ (x.nodes:Int))=1+ (nodesL pre:Int)+ (x.nodes:Int):=Ql (by omega) (by omega)
  have hlt: (pre.length:Int) < (t.kids.length:Int):=by omega
  rw[Qc F.f31l0.eq_1]
  simp[h3,h7,h8,h9,hg,hw1,hw2,hlt,ih x (by rw[hk];simp)]
  rw[IH (pre ++ [x])] <;> simp[h3,h7,h8,h9,hk,Yj,nodesL]
  omega
theorem UZ: ∀(t:Tm) (bs:List (List AV)),t.mass < big→call F.tb 31 [.agg (Qa t)] bs=some (.int .i64 t.nodes,bs):=by
 refine Zh ?_
 intro k n s ks ih bs hm
 rw[Qb F.tb_31 _ _ rfl]
 simp[F.f31B,F.f31C]
 refine O0 (.mk k n s ks) bs hm (fun x hx bs=>ih x hx bs ?_) ks [] _ ?_ ?_ ?_ ?_ ?_ <;> (try simp[nodesL])
 have:=Qz hx;have:=Qo (.mk k n s ks);simp at *;omega
end Go.Am
namespace Go.Am
set_option maxRecDepth 8000
def two (bs:List (List AV)) (i j:Nat) (n d:Int):List (List AV):=(bs.set i [.int .i64 n]).set j [.int .i64 d]
section
variable {bs:List (List AV)} {i j:Nat} {n d m:Int}
theorem Sc: (two bs i j n d).length=bs.length:=by simp[two]
theorem QeH (hi:i < bs.length) (hij:i≠j): (two bs i j n d)[i]? =some [.int .i64 n]:=by
 rw[two,List.getElem?_set_ne (Ne.symm hij),List.getElem?_set_self hi]
theorem QeI (hj:j < bs.length): (two bs i j n d)[j]? =some [.int .i64 d]:=by simp[two,hj]
theorem Qeo (hij:i≠j): (two bs i j n d).set i [.int .i64 m]=two bs i j m d:=by
 simp only[two];rw[List.set_comm _ _ (Ne.symm hij),List.set_set]
@[simp] theorem Gs {n' d':Int}:YM (two bs i j n d) (two bs i j n' d')=true:=Dq (by simp[Sc]) fun k x y hx hy=>by
 unfold two at hx hy
 rw[List.getElem?_set]at hx hy
 split at hy
 ·split at hy
  ·injection hy with hy;subst hy;exact .inr rfl
  ·cases hy
 ·rename_i hjk
  rw[if_neg hjk]at hx
  rw[List.getElem?_set]at hx hy
  split at hy
  ·split at hy
   ·injection hy with hy;subst hy;exact .inr rfl
   ·cases hy
  ·rename_i hik
   rw[if_neg hik,hy]at hx
   injection hx with hx
   exact .inl hx.symm
theorem Qep: (two bs i j n d).set j [.int .i64 m]=two bs i j n m:=by simp[two]
end
def WJ (t:Tm):Int:=
 if t.kind=1∨t.kind=2 then
  if(t.sort < 0∨5 < t.sort)∨0 < t.kids.length then 1 else if Xh t.name=false then 2 else if 8 < t.kids.length then 3 else 0
 else if t.kind=3 then
  if t.sort≠0 then 1 else if Xh t.name=false then 2 else if 8 < t.kids.length then 3 else 0
 else 1
mutual
def Yd:Tm→Int
 | .mk k n s ks=>if WJ (.mk k n s ks)≠0 then WJ (.mk k n s ks)else errL ks
def errL:List Tm→Int
 | []=>0
 | t:: ts=>if Yd t≠0 then Yd t else errL ts
end
mutual
def WF:Tm→Int→Int×Int→Int×Int
 | .mk k n s ks,l,p=>if WJ (.mk k n s ks)≠0 then(p.1+1,if l > p.2 then l else p.2)else cntL ks l (p.1+1,if l > p.2 then l else p.2)
def cntL:List Tm→Int→Int×Int→Int×Int
 | [],_,p=>p
 | t:: ts,l,p=>if Yd t≠0 then WF t (l+1) p else cntL ts l (WF t (l+1) p)
end
mutual
theorem Dt: ∀(t:Tm) (l:Int) (p:Int×Int),p.1≤(WF t l p).1∧(WF t l p).1≤p.1+t.nodes
 | .mk k n s ks,l,p=>by
  simp only[WF,Tm.nodes]
  have:=cntL_le ks l (p.1+1,if l > p.2 then l else p.2)
  split <;> simp at * <;> omega
theorem cntL_le: ∀(ts:List Tm) (l:Int) (p:Int×Int),p.1≤(cntL ts l p).1∧(cntL ts l p).1≤p.1+nodesL ts
 | [],l,p=>by simp[cntL,nodesL]
 | t:: ts,l,p=>by
  simp only[cntL,nodesL]
  have:=Dt t (l+1) p
  have:=cntL_le ts l (WF t (l+1) p)
  split <;> omega
end
theorem CL (t:Tm) (l:Int) (bs:List (List AV)) (i j:Nat) (hi:i < bs.length) (hj:j < bs.length) (hij:i≠j) (hm:t.mass < big) (hl:0≤l∧l+t.depth≤big) (n0 d0:Int)
  (ih: ∀x∈t.kids,∀n d:Int,0≤n→n+x.nodes < 2*big→call F.tb 7 [.agg (Qa x),.int .i64 (l+1),.gp i 0,.gp j 0] (two bs i j n d)=some (.int .i64 (Yd x),two bs i j (WF x (l+1) (n,d)).1 (WF x (l+1) (n,d)).2)):
  ∀(post pre:List Tm) (n d:Int) (ρ:Nat→AV),0≤n→n+nodesL post < 2*big→t.kids=pre ++ post→ρ 57= .sl false 4 (encTs t.kids)→ρ 58= .int .i64 t.kids.length→ρ 59= .int .i64 pre.length→
   ρ 1= .int .i64 l→ρ 2= .gp i 0→ρ 3= .gp j 0→
  R F.tb (.loop F.f7l0) ρ (two bs i j n d) (Qk 1 (Qv F.tb F.f7r0 (Qx F.f7 (two bs i j n0 d0))))=
   some (.int .i64 (errL post),two bs i j (cntL post l (n,d)).1 (cntL post l (n,d)).2):=by
 have hm2:=Qo t
 have hdp:=Sh t
 unfold big at *
 have hji:=Ne.symm hij
 intro post
 induction post with
 | nil=>
  intro pre n d ρ hn hnb hk h57 h58 h59 h1 h2 h3
  rw[Qc F.f7l0.eq_1]
  simp at hk
  simp[h1,h2,h3,h57,h58,h59,← hk,F.f7r0,F.f7R,F.f7K,errL,cntL,Sc]
  rw[List.take_of_length_le (by simp[Sc])]
  exact⟨Gs,rfl⟩
 | cons x post IH=>
  intro pre n d ρ hn hnb hk h57 h58 h59 h1 h2 h3
  have hg:=Qp hk
  have hlen:t.kids.length=pre.length+ (post.length+1):=by rw[hk];simp
  simp only[nodesL]at hnb
  have hw1:IntKind.i64.wrap ((pre.length:Int)+1)=(pre.length:Int)+1:=Ql (by omega) (by omega)
  have hw2:IntKind.i64.wrap (l+1)=l+1:=Ql (by omega) (by omega)
  have hlt: (pre.length:Int) < (t.kids.length:Int):=by omega
  have hx:=ih x (by rw[hk];simp) n d hn (by omega)
  have hc:=Dt x (l+1) (n,d)
  rw[Qc F.f7l0.eq_1]
  by_cases he:Yd x=0
  ·simp[h1,h2,h3,h57,h58,h59,hg,hw1,hw2,hlt,hx,he]
   simp only[errL,cntL,he,ne_eq,not_true,if_false]
   rw[IH (pre ++ [x])] <;> (first | (simp at hc;omega) | simp[h1,h2,h3,h57,h58,h59,hk])
  ·simp[h1,h2,h3,h57,h58,h59,hg,hw1,hw2,hlt,hx,he,F.f7R,F.f7K,errL,cntL]
   rw[List.take_of_length_le (by simp[Sc])]
   exact⟨Gs,rfl⟩
theorem CI: ∀(t:Tm) (l:Int) (bs:List (List AV)) (i j:Nat) (n d:Int),i < bs.length→j < bs.length→i≠j→t.mass < big→0≤l→l+t.depth≤big→0≤n→n+t.nodes < 2*big→
  call F.tb 7 [.agg (Qa t),.int .i64 l,.gp i 0,.gp j 0] (two bs i j n d)=some (.int .i64 (Yd t),two bs i j (WF t l (n,d)).1 (WF t l (n,d)).2):=by
 refine Zh ?_
 intro k nm s ks ih l bs i j n d hi hj hij hm hl hld hn hnb
 have hm2:=Qo (.mk k nm s ks)
 have hnn:=ZO (.mk k nm s ks)
 have hdp:=Sh (.mk k nm s ks)
 simp only[QJ,Q3]at hm2 hnn hdp
 have hdl:=depthL_le_nodes ks
 have hnm:=nodesL_le_mass ks
 have hloop: ∀ρ:Nat→AV,ρ 57= .sl false 4 (encTs ks)→ρ 58= .int .i64 ks.length→ρ 59= .int .i64 0→
   ρ 1= .int .i64 l→ρ 2= .gp i 0→ρ 3= .gp j 0→
  R F.tb (.loop F.f7l0) ρ (two bs i j (n+1) (if l > d then l else d)) (Qk 1 (Qv F.tb F.f7r0 (Qx F.f7 (two bs i j n d))))=
   some (.int .i64 (errL ks),two bs i j (cntL ks l (n+1,if l > d then l else d)).1 (cntL ks l (n+1,if l > d then l else d)).2):=by
  intro ρ h57 h58 h59 h1 h2 h3
  refine CL (.mk k nm s ks) l bs i j hi hj hij hm ⟨hl,hld⟩ n d ?_ ks [] (n+1) (if l > d then l else d) ρ (by omega) (by omega) rfl h57 h58 h59 h1 h2 h3
  intro x hx n d hn hnb
  have h1:=Qz hx
  have h2:=Og hx
  simp only[QJ]at h1 h2
  exact ih x hx (l+1) bs i j n d hi hj hij (by omega) (by omega) (by omega) hn hnb
 unfold big at hm hnb
 have hw:IntKind.i64.wrap (n+1)=n+1:=Ql (by omega) (by omega)
 have hji:=Ne.symm hij
 have htk: ∀(a b:Int),List.take bs.length (two bs i j a b)=two bs i j a b:=fun a b=>List.take_of_length_le (by simp[Sc])
 have hnl:nm.length < 4611686018427387904:=by omega
 have hks: ((8:Int) < ks.length)=(8 < ks.length):=by rw[eq_iff_iff];omega
 rw[Qb F.tb_7 _ _ rfl]
 simp (config:={maxSteps:=1000000}) [F.f7B,F.f7C,F.f7R,F.f7K,hw,QeH hi hij,QeI hj,Qeo hij,Qep,Sc,FK,hnl,htk,hks]
 simp only[gt_iff_lt]at hloop
 clear ih hm hl hld hn hnb hm2 hnn hdp hdl hnm hw htk hnl hks hi hj hij hji
 generalize hdd: (if d < l then l else d)=d' at *
 simp only[Y4,decide_eq_true_eq,Bool.or_eq_true]
 repeat' split
 all_goals simp only[Yd,WF,WJ,Xi,WT,Q3,QJ,gt_iff_lt,hdd]
 all_goals first
  | (rw[hloop] <;> simp[*];done)
  | (simp[*];done)
  | skip
def QF (t:Tm):Int:=if Yd t≠0 then Yd t else if 400 < t.nodes∨40 < t.depth then 3 else 0
mutual
theorem Du: ∀(t:Tm) (l:Int) (p:Int×Int),Yd t=0→WF t l p=(p.1+t.nodes,max p.2 (l+t.depth - 1))
 | .mk k n s ks,l,p,h=>by
  simp only[Yd]at h
  split at h
  ·rename_i hne;exact absurd h hne
  ·rename_i hne
   simp only[WF,hne,if_false,Tm.nodes,Tm.depth]
   rw[cntL_ok ks l _ h]
   refine Prod.ext ?_ ?_
   ·simp;omega
   ·cases ks with
    | nil=>simp[depthL,nodesL];split <;> omega
    | cons t ts=>simp[depthL];split <;> omega
theorem cntL_ok: ∀(ts:List Tm) (l:Int) (p:Int×Int),errL ts=0→cntL ts l p=(p.1+nodesL ts,if ts=[]then p.2 else max p.2 (l+depthL ts))
 | [],l,p,_=>by simp[cntL,nodesL]
 | t:: ts,l,p,h=>by
  simp only[errL]at h
  split at h
  ·rename_i hne;exact absurd h hne
  ·rename_i hne
   have he:Yd t=0:=by simpa using hne
   simp only[cntL,hne,if_false,nodesL,depthL]
   rw[cntL_ok ts l _ h,Du t (l+1) p he]
   refine Prod.ext ?_ ?_
   ·simp;omega
   ·cases ts with
    | nil=>simp[depthL];omega
    | cons u us=>simp[depthL];omega
end
theorem Xp (t:Tm) (bs:List (List AV)) (hm:t.mass < big):call F.tb 6 [.agg (Qa t)] bs=some (.int .i64 (QF t),bs):=by
 have h2:bs ++ [[AV.int .i64 0],[AV.int .i64 0]]=two (bs ++ [[AV.int .i64 0],[AV.int .i64 0]]) bs.length (bs.length+1) 0 0:=by
  simp[two]
 have hn:=Zj t
 have hd:=PU t
 have hb:big=1099511627776:=rfl
 have hc:=CI t 1 (bs ++ [[AV.int .i64 0],[AV.int .i64 0]]) bs.length (bs.length+1) 0 0 (by simp) (by simp) (by omega) hm (by omega) (by omega) (by omega) (by omega)
 rw[← h2]at hc
 have hi:=QeH (bs:=bs ++ [[AV.int .i64 0],[AV.int .i64 0]]) (i:=bs.length) (j:=bs.length+1) (n:=(WF t 1 (0,0)).1) (d:=(WF t 1 (0,0)).2) (by simp) (by omega)
 have hj:=QeI (bs:=bs ++ [[AV.int .i64 0],[AV.int .i64 0]]) (i:=bs.length) (j:=bs.length+1) (n:=(WF t 1 (0,0)).1) (d:=(WF t 1 (0,0)).2) (by simp)
 have htk:List.take bs.length (two (bs ++ [[AV.int .i64 0],[AV.int .i64 0]]) bs.length (bs.length+1) (WF t 1 (0,0)).1 (WF t 1 (0,0)).2)=bs:=by
  simp[two]
 have hcnt:=Du t 1 (0,0)
 rw[Qb F.tb_6 _ _ rfl]
 simp[F.f6B,F.f6C,F.f6R,F.f6K,hc,hi,hj,htk,QF]
 by_cases he:Yd t=0
 ·have:=Sh t
  have e1: (400 < (t.nodes:Int))=(400 < t.nodes):=by rw[eq_iff_iff];omega
  have e2: (40 < (max 0 (1+ (t.depth:Int) - 1)))=(40 < t.depth):=by rw[eq_iff_iff];omega
  simp[he,hcnt he,e1,e2,Y4]
 ·simp[he]
end Go.Am
namespace Go.Am
set_option maxRecDepth 8000
theorem P9 (a b:Int) (bs:List (List AV)):call F.tb 32 [.int .i64 a,.int .i64 b] bs=some (.int .i64 (sgn a b),bs):=O6 a b bs
theorem Mz (a b:List UInt8) (bs:List (List AV)):call F.tb 33 [.str a,.str b] bs=some (.int .i64 (YV a b),bs):=by
 rw[XH F.tb_33];rfl
theorem Se (t u:Tm) (bs:List (List AV)) (hm:t.mass < big) (hu:u.mass < big)
  (ih: ∀x∈t.kids,∀y bs,y.mass < big→call F.tb 30 [.agg (Qa x),.agg (Qa y)] bs=some (.int .i64 (Qm x y),bs)):
  ∀(xs ys pre pre':List Tm) (c:Int) (ρ:Nat→AV),t.kids=pre ++ xs→u.kids=pre' ++ ys→pre.length=pre'.length→(c=0→xs.length=ys.length)→
   ρ 2= .bx (Qa t)→ρ 3= .bx (Qa u)→ρ 5= .int .i64 c→ρ 6= .int .i64 pre.length→
  R F.tb (.loop F.f30l0) ρ bs (Qk 0 (Qv F.tb F.f30r0 (Qx F.f30 bs)))=some (.int .i64 (or0 c (cmpL xs ys)),bs):=by
 have hm2:=Qo t
 have hu2:=Qo u
 intro xs
 induction xs with
 | nil=>
  intro ys pre pre' c ρ hk hk' hp hc h2 h3 h5 h6
  rw[Qc F.f30l0.eq_1]
  simp at hk
  by_cases h0:c=0
  ·simp[h2,h3,h5,h6,h0,F.f30r0,F.f30R,F.f30K,hk,cmpL,Id]
  ·simp[h2,h3,h5,h6,h0,F.f30r0,F.f30R,F.f30K,cmpL,Id]
 | cons x xs IH=>
  intro ys pre pre' c ρ hk hk' hp hc h2 h3 h5 h6
  rw[Qc F.f30l0.eq_1]
  by_cases h0:c=0
  ·obtain⟨y,ys',rfl⟩: ∃y ys',ys=y:: ys':=by
    have:=hc h0
    cases ys with
    | nil=>simp at this
    | cons y ys'=>exact⟨y,ys',rfl⟩
   have hg:=Qp hk
   have hg':=Qp hk'
   rw[← hp]at hg'
   have hl:t.kids.length=pre.length+ (xs.length+1):=by rw[hk];simp
   have hlt: (pre.length:Int) < (t.kids.length:Int):=by omega
   have hym:y.mass < big:=by have:=Qz (x:=y) (ks:=u.kids) (by rw[hk'];simp);omega
   unfold big at hm hu
   have hw1:IntKind.i64.wrap ((pre.length:Int)+1)=(pre.length:Int)+1:=Ql (by omega) (by omega)
   simp[h2,h3,h5,h6,h0,hlt,hg,hg',hw1,ih x (by rw[hk];simp) y bs hym]
   rw[IH ys' (pre ++ [x]) (pre' ++ [y]) (Qm x y)] <;> first | omega | (simp[hk,hk',hp,h2,h3,cmpL,Vm];done) | (intro _;have:=hc h0;simp at this;omega)
  ·simp[h2,h3,h5,h6,h0,F.f30r0,F.f30R,F.f30K,cmpL,Uk]
theorem call_Compare: ∀(t u:Tm) (bs:List (List AV)),t.mass < big→u.mass < big→call F.tb 30 [.agg (Qa t),.agg (Qa u)] bs=some (.int .i64 (Qm t u),bs):=by
 refine Zh ?_
 intro k n s ks ih u bs hm hu
 have hloop:=Se (.mk k n s ks) u bs hm hu (fun x hx y bs hy=>ih x hx y bs (by have:=Qz hx;have:=Qo (.mk k n s ks);simp at *;omega) hy) ks u.kids [] [] (hdT (.mk k n s ks) u)
 rw[Qb F.tb_30 _ _ rfl,Ux]
 have hsz:=UZ (.mk k n s ks) bs hm
 have hsz':=UZ u bs hu
 simp[F.f30B,F.f30C,hsz,hsz',P9,Mz]
 by_cases c1:sgn (Tm.mk k n s ks).nodes u.nodes=0 <;> by_cases c2:sgn k u.kind=0 <;> by_cases c3:YV n u.name=0 <;> by_cases c4:sgn s u.sort=0 <;>
  simp[c1,c2,c3,c4,Y4] <;> rw[hloop] <;> first | (simp[hdT,c1,c2,c3,c4,Vm,Uk];done) | (simp[hdT,c1,c2,c3,c4,Sv,Vm,Uk];omega) | skip
theorem Ce (t:Tm) (bs:List (List AV)) (hm:t.mass < big) (ih: ∀x∈t.kids,∀bs,call F.tb 60 [.agg (Qa x)] bs=some (.int .i64 x.nodes,bs)):
  ∀(post pre:List Tm) (ρ:Nat→AV),t.kids=pre ++ post→ρ 1= .bx (Qa t)→ρ 4= .int .i64 pre.length→ρ 3= .int .i64 (1+nodesL pre:Nat)→
  R F.tb (.loop F.f60l0) ρ bs (Qk 0 (Qv F.tb F.f60r0 (Qx F.f60 bs)))=some (.int .i64 t.nodes,bs):=by
 have hm2:=Qo t
 have hn:=nodesL_le_mass t.kids
 unfold big at hm
 intro post
 induction post with
 | nil=>
  intro pre ρ hk h1 h4 h3
  rw[Qc F.f60l0.eq_1]
  simp at hk
  simp[h1,h3,h4,← hk,F.f60r0,F.f60R,F.f60K,ZO]
 | cons x post IH=>
  intro pre ρ hk h1 h4 h3
  have hg:=Qp hk
  have hl:t.kids.length=pre.length+ (post.length+1):=by rw[hk];simp
  have hnn:nodesL t.kids=nodesL pre+ (x.nodes+nodesL post):=by rw[hk,Yj];simp[nodesL]
  have hw1:IntKind.i64.wrap ((pre.length:Int)+1)=(pre.length:Int)+1:=Ql (by omega) (by omega)
  have hw2:IntKind.i64.wrap (1+ (nodesL pre:Int)+ (x.nodes:Int))=1+ (nodesL pre:Int)+ (x.nodes:Int):=Ql (by omega) (by omega)
  have hlt: (pre.length:Int) < (t.kids.length:Int):=by omega
  rw[Qc F.f60l0.eq_1]
  simp[h3,h1,h4,hg,hw1,hw2,hlt,ih x (by rw[hk];simp)]
  rw[IH (pre ++ [x])] <;> simp[h3,h1,h4,hk,Yj,nodesL]
  omega
theorem P8: ∀(t:Tm) (bs:List (List AV)),t.mass < big→call F.tb 60 [.agg (Qa t)] bs=some (.int .i64 t.nodes,bs):=by
 refine Zh ?_
 intro k n s ks ih bs hm
 rw[Qb F.tb_60 _ _ rfl]
 simp[F.f60B,F.f60C]
 refine Ce (.mk k n s ks) bs hm (fun x hx bs=>ih x hx bs ?_) ks [] _ ?_ ?_ ?_ ?_ <;> (try simp[nodesL])
 have:=Qz hx;have:=Qo (.mk k n s ks);simp at *;omega
theorem J0 (a b:List Tm):depthL (a ++ b)=max (depthL a) (depthL b):=by
 induction a with
 | nil=>simp[depthL]
 | cons t ts ih=>simp[depthL,ih]
theorem Fv (t:Tm) (bs:List (List AV)) (hm:t.mass < big) (ih: ∀x∈t.kids,∀bs,call F.tb 61 [.agg (Qa x)] bs=some (.int .i64 x.depth,bs)):
  ∀(post pre:List Tm) (ρ:Nat→AV),t.kids=pre ++ post→ρ 1= .bx (Qa t)→ρ 4= .int .i64 pre.length→ρ 3= .int .i64 (depthL pre:Nat)→
  R F.tb (.loop F.f61l0) ρ bs (Qk 0 (Qv F.tb F.f61r0 (Qx F.f61 bs)))=some (.int .i64 t.depth,bs):=by
 have hm2:=Qo t
 have hn:=depthL_le_nodes t.kids
 have hn2:=nodesL_le_mass t.kids
 unfold big at hm
 intro post
 induction post with
 | nil=>
  intro pre ρ hk h1 h4 h3
  rw[Qc F.f61l0.eq_1]
  simp at hk
  have hw2:IntKind.i64.wrap ((depthL pre:Int)+1)=(depthL pre:Int)+1:=Ql (by omega) (by rw[← hk];omega)
  simp[h1,h3,h4,hk,hw2,F.f61r0,F.f61R,F.f61K,Sh]
 | cons x post IH=>
  intro pre ρ hk h1 h4 h3
  have hg:=Qp hk
  have hl:t.kids.length=pre.length+ (post.length+1):=by rw[hk];simp
  have hw1:IntKind.i64.wrap ((pre.length:Int)+1)=(pre.length:Int)+1:=Ql (by omega) (by omega)
  have hlt: (pre.length:Int) < (t.kids.length:Int):=by omega
  rw[Qc F.f61l0.eq_1]
  simp[h3,h1,h4,hg,hw1,hlt,ih x (by rw[hk];simp)]
  rw[IH (pre ++ [x])] <;> simp[h3,h1,h4,hk,J0,depthL]
  split <;> omega
theorem FF: ∀(t:Tm) (bs:List (List AV)),t.mass < big→call F.tb 61 [.agg (Qa t)] bs=some (.int .i64 t.depth,bs):=by
 refine Zh ?_
 intro k n s ks ih bs hm
 rw[Qb F.tb_61 _ _ rfl]
 simp[F.f61B,F.f61C]
 refine Fv (.mk k n s ks) bs hm (fun x hx bs=>ih x hx bs ?_) ks [] _ ?_ ?_ ?_ ?_ <;> (try simp[depthL])
 have:=Qz hx;have:=Qo (.mk k n s ks);simp at *;omega
theorem Gc (a b:Int) (bs:List (List AV)):call F.tb 91 [.int .i64 a,.int .i64 b] bs=some (.int .i64 (sgn a b),bs):=by
 rw[Qb F.tb_91 _ _ rfl]
 simp[F.f91,F.f91C,sgn]
theorem JP (t u:Tm) (bs:List (List AV)) (hm:t.mass < big) (hu:u.mass < big)
  (ih: ∀x∈t.kids,∀y bs,y.mass < big→call F.tb 90 [.agg (Qa x),.agg (Qa y)] bs=some (.int .i64 (Qm x y),bs)):
  ∀(xs ys pre pre':List Tm) (ρ:Nat→AV),t.kids=pre ++ xs→u.kids=pre' ++ ys→pre.length=pre'.length→xs.length=ys.length→
   ρ 2= .bx (Qa t)→ρ 3= .bx (Qa u)→ρ 9= .int .i64 pre.length→
  R F.tb (.loop F.f90l0) ρ bs (Qk 0 (Qv F.tb F.f90r0 (Qx F.f90 bs)))=some (.int .i64 (cmpL xs ys),bs):=by
 have hm2:=Qo t
 have hu2:=Qo u
 intro xs
 induction xs with
 | nil=>
  intro ys pre pre' ρ hk hk' hp hc h2 h3 h9
  rw[Qc F.f90l0.eq_1]
  simp at hk
  simp[h2,h3,h9,F.f90r0,F.f90R,F.f90K,hk,cmpL]
 | cons x xs IH=>
  intro ys pre pre' ρ hk hk' hp hc h2 h3 h9
  rw[Qc F.f90l0.eq_1]
  obtain⟨y,ys',rfl⟩: ∃y ys',ys=y:: ys':=by
   cases ys with
   | nil=>simp at hc
   | cons y ys'=>exact⟨y,ys',rfl⟩
  have hg:=Qp hk
  have hg':=Qp hk'
  rw[← hp]at hg'
  have hl:t.kids.length=pre.length+ (xs.length+1):=by rw[hk];simp
  have hlt: (pre.length:Int) < (t.kids.length:Int):=by omega
  have hym:y.mass < big:=by have:=Qz (x:=y) (ks:=u.kids) (by rw[hk'];simp);omega
  unfold big at hm hu
  have hw1:IntKind.i64.wrap ((pre.length:Int)+1)=(pre.length:Int)+1:=Ql (by omega) (by omega)
  by_cases h0:Qm x y=0
  ·simp[h2,h3,h9,h0,hlt,hg,hg',hw1,ih x (by rw[hk];simp) y bs hym]
   rw[IH ys' (pre ++ [x]) (pre' ++ [y])] <;> first | omega | (simp[hk,hk',hp,h0,h2,h3,cmpL,Vm];done) | (simp at hc;omega)
  ·simp[h2,h3,h9,h0,hlt,hg,hg',hw1,ih x (by rw[hk];simp) y bs hym,F.f90R,F.f90K,cmpL,Uk]
theorem XW: ∀(t u:Tm) (bs:List (List AV)),t.mass < big→u.mass < big→call F.tb 90 [.agg (Qa t),.agg (Qa u)] bs=some (.int .i64 (Qm t u),bs):=by
 refine Zh ?_
 intro k n s ks ih u bs hm hu
 have hloop:=JP (.mk k n s ks) u bs hm hu (fun x hx y bs hy=>ih x hx y bs (by have:=Qz hx;have:=Qo (.mk k n s ks);simp at *;omega) hy) ks u.kids [] []
 rw[Qb F.tb_90 _ _ rfl,Ux]
 have hsz:=P8 (.mk k n s ks) bs hm
 have hsz':=P8 u bs hu
 simp[F.f90B,F.f90C,F.f90R,F.f90K,hsz,hsz',Gc]
 have b0:YV n u.name=if Op.bytesLess n u.name then -1 else if(Op.bytesLess n u.name || n == u.name)=false then 1 else 0:=by
  unfold YV;cases Op.bytesLess n u.name <;> cases hh: (n == u.name) <;> simp
 generalize (n == u.name)=q at *
 generalize Op.bytesLess n u.name=p at *
 by_cases c1:sgn (Tm.mk k n s ks).nodes u.nodes=0 <;> by_cases c2:sgn k u.kind=0 <;> cases p <;> cases q <;> by_cases c4:sgn s u.sort=0 <;>
  by_cases c6:sgn ks.length u.kids.length=0 <;> simp[c1,c2,c4,c6,Y4,hdT,Vm,Uk,b0]
 all_goals (rw[hloop] <;> (try simp) <;> (try (have:=Sv.1 c6;omega)))
theorem Z8 (t u:Tm) (bs:List (List AV)) (hm:t.mass < big) (hu:u.mass < big):call F.tb 89 [.agg (Qa t),.agg (Qa u)] bs=some (.bool (decide (Qm t u=0)),bs):=by
 rw[Qb F.tb_89 _ _ rfl]
 simp[F.f89,F.f89C,XW t u bs hm hu]
end Go.Am
namespace Go.Am
set_option maxRecDepth 8000
mutual
def V7:Tm→Int→Int
 | .mk _ n _ ks,m=>if m≤0∨40 < n.length then -1 else budL ks (m - 1)
def budL:List Tm→Int→Int
 | [],m=>m
 | t:: ts,m=>if V7 t m < 0 then -1 else budL ts (V7 t m)
end
mutual
theorem KD: ∀(t:Tm) (m:Int),V7 t m= -1∨0≤V7 t m∧V7 t m+t.nodes≤m∧t.mass+1≤42*t.nodes
 | .mk k n s ks,m=>by
  simp only[V7,Tm.nodes,Tm.mass]
  split
  ·exact .inl rfl
  ·rename_i h
   rcases budL_le ks (m - 1) (by omega)with h1 | h1
   ·exact .inl h1
   ·right;omega
theorem budL_le: ∀(ts:List Tm) (m:Int),0≤m→budL ts m= -1∨0≤budL ts m∧budL ts m+nodesL ts≤m∧massL ts+ts.length≤42*nodesL ts
 | [],m,h=>by simp[budL,nodesL,massL];omega
 | t:: ts,m,h=>by
  simp only[budL,nodesL,massL,List.length_cons]
  split
  ·exact .inl rfl
  ·rename_i h0
   rcases KD t m with h1 | h1
   ·omega
   ·rcases budL_le ts (V7 t m) (by omega)with h2 | h2
    ·exact .inl h2
    ·right
     omega
end
theorem QcP (t:Tm) (bs:List (List AV)) (m0:Int) (hm:m0 < 1000000) (ih: ∀x∈t.kids,∀(m:Int) bs,m < 1000000→call F.tb 102 [.agg (Qa x),.int .i64 m] bs=some (.int .i64 (V7 x m),bs)):
  ∀(post pre:List Tm) (m:Int) (ρ:Nat→AV),t.kids=pre ++ post→0≤m→m+pre.length≤m0→ρ 2= .bx (Qa t)→ρ 5= .int .i64 pre.length→ρ 1= .int .i64 m→
  R F.tb (.loop F.f102l0) ρ bs (Qk 0 (Qv F.tb F.f102r0 (Qx F.f102 bs)))=some (.int .i64 (budL post m),bs):=by
 intro post
 induction post with
 | nil=>
  intro pre m ρ hk h0 hp h2 h5 h1
  rw[Qc F.f102l0.eq_1]
  simp at hk
  simp[h1,h2,h5,hk,F.f102r0,F.f102R,F.f102K,budL]
 | cons x post IH=>
  intro pre m ρ hk h0 hp h2 h5 h1
  have hg:=Qp hk
  have hl:t.kids.length=pre.length+ (post.length+1):=by rw[hk];simp
  have hw1:IntKind.i64.wrap ((pre.length:Int)+1)=(pre.length:Int)+1:=Ql (by omega) (by omega)
  have hlt: (pre.length:Int) < (t.kids.length:Int):=by omega
  have hn:=ZO x
  rw[Qc F.f102l0.eq_1]
  rcases KD x m with hb | hb
  ·simp[h1,h2,h5,hg,hw1,hlt,ih x (by rw[hk];simp) m bs (by omega),hb,F.f102R,F.f102K,budL]
  ·have hb0: ¬V7 x m < 0:=by omega
   simp[h1,h2,h5,hg,hw1,hlt,ih x (by rw[hk];simp) m bs (by omega),hb0,budL]
   rw[IH (pre ++ [x]) (V7 x m)] <;> first | omega | (simp[h1,h2,h5,hk];done) | (simp;omega)
theorem Gj: ∀(t:Tm) (m:Int) (bs:List (List AV)),m < 1000000→call F.tb 102 [.agg (Qa t),.int .i64 m] bs=some (.int .i64 (V7 t m),bs):=by
 refine Zh ?_
 intro k n s ks ih m bs hm
 rw[Qb F.tb_102 _ _ rfl]
 have hn: (40 < (n.length:Int))=(40 < n.length):=by rw[eq_iff_iff];omega
 simp[F.f102B,F.f102C,F.f102R,F.f102K,Y4,hn,V7]
 split
 ·rfl
 ·rename_i hc
  have hw:IntKind.i64.wrap (m - 1)=m - 1:=Ql (by omega) (by omega)
  refine QcP (.mk k n s ks) bs m hm (fun x hx=>ih x hx) ks [] (m - 1) _ ?_ ?_ ?_ ?_ ?_ ?_ <;> first | (simp[hw];done) | (simp;omega)
def few (l:List Tm) (n:Nat) (m:Int):Bool:=decide (l.length≤n) && decide (0≤budL l m)
theorem Qdl (l:List Tm) (o:Bool) (bs:List (List AV)) (hl:l.length < 1000000):
  ∀(post pre:List Tm) (m:Int) (ρ:Nat→AV),l=pre ++ post→0≤m→m < 1000000→ρ 0= .sl o 4 (encTs l)→ρ 7= .int .i64 pre.length→ρ 2= .int .i64 m→
  R F.tb (.loop F.f101l0) ρ bs (Qk 0 (Qv F.tb F.f101r0 (Qx F.f101 bs)))=some (.bool (decide (0≤budL post m)),bs):=by
 intro post
 induction post with
 | nil=>
  intro pre m ρ hk h0 hm hr0 h7 h2
  rw[Qc F.f101l0.eq_1]
  simp at hk
  simp[hr0,h7,h2,hk,F.f101r0,F.f101R,F.f101K,budL,h0]
 | cons x post IH=>
  intro pre m ρ hk h0 hm hr0 h7 h2
  have hg:=Qp hk
  have hl:l.length=pre.length+ (post.length+1):=by rw[hk];simp
  have hw1:IntKind.i64.wrap ((pre.length:Int)+1)=(pre.length:Int)+1:=Ql (by omega) (by omega)
  have hlt: (pre.length:Int) < (l.length:Int):=by omega
  rw[Qc F.f101l0.eq_1]
  rcases KD x m with hb | hb
  ·simp[hr0,h7,h2,hg,hw1,hlt,Gj x m bs (by omega),hb,F.f101R,F.f101K,budL]
  ·have hb0: ¬V7 x m < 0:=by omega
   simp[hr0,h7,h2,hg,hw1,hlt,Gj x m bs (by omega),hb0,budL]
   rw[IH (pre ++ [x]) (V7 x m)] <;> first | omega | (simp[hr0,h7,h2,hk];done)
theorem MA (l:List Tm) (o:Bool) (n:Nat) (m:Int) (bs:List (List AV)) (hn:n < 1000000) (h0:0≤m) (hm:m < 1000000):
  call F.tb 101 [.sl o 4 (encTs l),.int .i64 n,.int .i64 m] bs=some (.bool (few l n m),bs):=by
 rw[Qb F.tb_101 _ _ rfl]
 have e1: ((n:Int) < (l.length:Int))=(n < l.length):=by rw[eq_iff_iff];omega
 simp[F.f101B,F.f101C,F.f101R,F.f101K,Y4,few]
 split
 ·have: ¬l.length≤n:=by omega
  simp[this]
 ·have:l.length≤n:=by omega
  rw[Qdl l false bs (by omega) l [] m] <;> simp[this,h0,hm]
end Go.Am
namespace Go.Am
set_option maxRecDepth 8000
def VV (c:UInt8):Bool:=(97≤c.toNat && c.toNat≤122) || (65≤c.toNat && c.toNat≤90)
def Si (c:UInt8):Bool:=48≤c.toNat && c.toNat≤57
theorem VQ (c:UInt8):Ul c=(VV c || Si c || c.toNat == 95 || c.toNat == 35):=rfl
theorem Vj (m n:Nat): ((m:Int)≤(n:Int))=(m≤n):=by rw[eq_iff_iff];omega
theorem S2 (c:UInt8) (bs:List (List AV)):call F.tb 58 [.int .u8 c.toNat] bs=some (.bool (VV c),bs):=by
 rw[Qb F.tb_58 _ _ rfl]
 have e1: ((97:Int)≤(c.toNat:Int))=(97≤c.toNat):=Vj 97 _
 have e2: ((c.toNat:Int)≤122)=(c.toNat≤122):=Vj _ 122
 have e3: ((65:Int)≤(c.toNat:Int))=(65≤c.toNat):=Vj 65 _
 have e4: ((c.toNat:Int)≤90)=(c.toNat≤90):=Vj _ 90
 simp[F.f58,F.f58C,VV,e1,e2,e3,e4]
theorem Lm (c:UInt8) (bs:List (List AV)):call F.tb 59 [.int .u8 c.toNat] bs=some (.bool (Si c),bs):=by
 rw[Qb F.tb_59 _ _ rfl]
 have e1: ((48:Int)≤(c.toNat:Int))=(48≤c.toNat):=Vj 48 _
 have e2: ((c.toNat:Int)≤57)=(c.toNat≤57):=Vj _ 57
 simp[F.f59,F.f59C,Si,e1,e2]
theorem Ji (n:Nat): ((n:Int)=95)=(n=95):=by rw[eq_iff_iff];omega
theorem Jh (n:Nat): ((n:Int)=35)=(n=35):=by rw[eq_iff_iff];omega
theorem Ih (s:List UInt8) (bs:List (List AV)) (hs:s.length < 4611686018427387904): ∀(post pre:List UInt8) (ρ:Nat→AV),s=pre ++ post→ρ 0= .str s→ρ 3= .int .i64 pre.length→
  R F.tb (.loop F.f57l0) ρ bs (Qk 0 (Qv F.tb F.f57r0 (Qx F.f57 bs)))=some (.bool (post.all Ul),bs):=by
 intro post
 induction post with
 | nil=>
  intro pre ρ hk h0 h3
  rw[Qc F.f57l0.eq_1]
  simp at hk
  simp[h0,h3,hk,F.f57r0,F.f57R,F.f57K]
 | cons x post IH=>
  intro pre ρ hk h0 h3
  have hg:=Qp hk
  have hl:s.length=pre.length+ (post.length+1):=by rw[hk];simp
  have hw1:IntKind.i64.wrap ((pre.length:Int)+1)=(pre.length:Int)+1:=Ql (by omega) (by omega)
  have hlt: (pre.length:Int) < (s.length:Int):=by omega
  rw[Qc F.f57l0.eq_1]
  cases hp:Ul x
  ·rw[VQ]at hp
   simp only[Bool.or_eq_false_iff]at hp
   obtain⟨⟨⟨p1,p2⟩,p3⟩,p4⟩:=hp
   have p3': ¬x.toNat=95:=by simpa using p3
   have p4': ¬x.toNat=35:=by simpa using p4
   simp[h0,h3,hg,hw1,hlt,S2,Lm,p1,p2,p3',p4',Ji,Jh,F.f57R,F.f57K,VQ]
  ·simp[h0,h3,hg,hw1,hlt,S2,Lm,Ji,Jh,F.f57R,F.f57K,VQ,Y4]
   split
   ·rename_i hc
    simp[VQ,hc]at hp
   ·rw[IH (pre ++ [x])]
    ·simp[VQ]at hp
     simp[hp]
    ·simp[hk]
    ·simp[h0]
    ·simp
theorem C8 {c:UInt8} (h:VV c=true):Si c=false∧(c.toNat == 95)=false∧(c.toNat == 35)=false:=by
 simp only[VV,Bool.or_eq_true,Bool.and_eq_true,decide_eq_true_eq]at h
 refine⟨?_,?_,?_⟩
 ·simp only[Si,Bool.and_eq_false_iff,decide_eq_false_iff_not];omega
 ·simp;omega
 ·simp;omega
theorem FZ (c:UInt8) (r:List UInt8):Xh (c:: r)=(decide (r.length < 24) && VV c && (c:: r).all Ul):=by
 have hd: (decide (48≤c.toNat) && decide (c.toNat≤57))=Si c:=rfl
 simp only[Xh,List.all_cons,hd,bne]
 cases hl:VV c
 ·rw[VQ,hl]
  cases Si c <;> cases (c.toNat == 95) <;> cases (c.toNat == 35) <;> simp
 ·obtain⟨h1,h2,h3⟩:=C8 hl
  rw[VQ,hl,h1,h2,h3]
  simp
theorem Ga (s:List UInt8) (bs:List (List AV)) (hs:s.length < 4611686018427387904):call F.tb 57 [.str s] bs=some (.bool (Xh s),bs):=by
 rw[Qb F.tb_57 _ _ rfl]
 cases s with
 | nil=>simp[F.f57B,F.f57C,F.f57R,F.f57K,Xh]
 | cons c r=>
  have e1: (24 < (r.length:Int)+1)=¬(r.length < 24):=by rw[eq_iff_iff];omega
  have e2: ((r.length:Int)+1=0)=False:=eq_false (by omega)
  rw[FZ]
  by_cases h1:r.length < 24 <;> cases h2:VV c <;>
  simp[F.f57B,F.f57C,F.f57R,F.f57K,S2,e1,e2,h1,h2,-List.all_cons]
  rw[Ih (c:: r) bs hs (c:: r) []] <;> (try simp)
theorem Qc9 {n:Nat} (h:n < 10): (([48,49,50,51,52,53,54,55,56,57]:List UInt8).take (n+1)).drop n=[(48+n).toUInt8]:=by
 have: ∀n < 10,(([48,49,50,51,52,53,54,55,56,57]:List UInt8).take (n+1)).drop n=[(48+n).toUInt8]:=by decide
 exact this n h
theorem Jc (n:Nat) (bs:List (List AV)) (h:n < 1000000000):call F.tb 18 [.int .i64 n] bs=some (.str (Xr n),bs):=by
 rw[XH F.tb_18]
 have h2: -9223372036854775808≤(n:Int)∧(n:Int)≤9223372036854775807:=by omega
 show Option.map _ (N3 [.int .i64 n])=_
 unfold N3
 simp only[if_pos h2,QgO]
 rfl
end Go.Am
namespace Go.Am
set_option maxRecDepth 8000
theorem YU: ∀a:List UInt8,Op.bytesLess a a=false
 | []=>rfl
 | c:: r=>by simp[Op.bytesLess,YU r]
theorem Jk (a:List UInt8):YV a a=0:=by simp[YV,YU]
theorem Qeb (a:Int):sgn a a=0:=Sv.2 rfl
theorem Qdr (t:Tm):hdT t t=0:=by simp[hdT,Qeb,Jk,or0]
mutual
theorem Y8: ∀t:Tm,Qm t t=0
 | .mk k n s ks=>by rw[Qm,Qdr,Vm];exact cmpL_refl ks
theorem cmpL_refl: ∀ts:List Tm,cmpL ts ts=0
 | []=>by simp[cmpL]
 | t:: ts=>by rw[cmpL,Y8 t,Vm];exact cmpL_refl ts
end
theorem MF {l:List Tm} {n:Nat} {m:Int} (h0:0≤m) (h:few l n m=true):l.length≤n∧massL l+l.length≤42*m.toNat∧nodesL l≤m.toNat:=by
 simp only[few,Bool.and_eq_true,decide_eq_true_eq]at h
 rcases budL_le l m h0 with h1 | h1
 ·omega
 ·omega
end Go.Am
