/-
  Am21, Am22, Am23, Ge1, Ge2, Ge3, Ge4, Ge5, Ge6, Ge10.
-/
import Derived.Test.YtpgbndmkiiakaaaGreatDoorG09
import Derived.Test.YtpgbndmkiiakaaaGreatDoorG13
set_option linter.unusedVariables false
set_option linter.unusedSimpArgs false
namespace Go.Am
abbrev Out:=Option (AV×List (List AV))
abbrev Kn:=Ex→St→Out
section
variable {T:Nat→Option AFn}
noncomputable def R (T:Nat→Option AFn) (c:AC) (ρ:Nat→AV) (bs:List (List AV)) (k:Kn):Out:=match run T c ⟨ρ,bs⟩with
 | some (e,s)=>k e s
 | none=>none
noncomputable def O (T:Nat→Option AFn) (os:List Qs) (ρ:Nat→AV) (bs:List (List AV)) (k:Kn):Out:=match Zk (call T) os ⟨ρ,bs⟩with
 | some s=>k .normal s
 | none=>none
noncomputable def E (T:Nat→Option AFn) (r:Option (AV×St)) (d:Option Nat) (os:List Qs) (k:Kn):Out:=match r with
 | some p=>O T os (ZE p.2.env d p.1) p.2.bs k
 | none=>none
def Z4 (c b:Bool) (x y:Out):Out:=if c=b then x else y
noncomputable def Qw (T:Nat→Option AFn) (b:AC) (k:Kn):Kn:=fun e s=>match e with
 | .normal=>match run T b s with
  | some (e,s)=>k e s
  | none=>none
 | e=>k e s
def Qk (id:Nat) (k:Kn):Kn:=fun e s=>match e with
 | .exit i=>k (if i=id then .normal else .exit i) s
 | e=>k e s
def QB (fn:Qi) (n:List (List AV)):Kn:=fun e s=>match e with
 | .normal=>Z3 fn n s
 | .ret=>Z3 fn n s
 | .exit _=>none
theorem Ob (x y:Out):Z4 true true x y=x:=rfl
theorem Kw (x y:Out):Z4 false false x y=x:=rfl
theorem Kx (x y:Out):Z4 true false x y=y:=rfl
theorem Oa (x y:Out):Z4 false true x y=y:=rfl
theorem GQ (c b:Bool) (x:Out):Z4 c b x x=x:=by unfold Z4;split <;> rfl
theorem Dz (c b:Bool) (x y:Out):Z4 (!c) b x y=Z4 c (!b) x y:=by cases c <;> cases b <;> rfl
theorem YN (c b:Bool) (x y:Out):Z4 c b x y=if c=b then x else y:=rfl
theorem Qgn (ρ:Nat→AV) (bs:List (List AV)) (k:Kn):R T .skip ρ bs k=k .normal ⟨ρ,bs⟩:=by simp only[R,Gg]
theorem QiK (ρ:Nat→AV) (bs:List (List AV)) (k:Kn):R T .ret ρ bs k=k .ret ⟨ρ,bs⟩:=by simp only[R,Ez]
theorem Qgl (id:Nat) (ρ:Nat→AV) (bs:List (List AV)) (k:Kn):R T (.exit id) ρ bs k=k (.exit id) ⟨ρ,bs⟩:=by simp only[R,Gd]
theorem QiJ (d:Bool) (ops:List Qs) (ρ:Nat→AV) (bs:List (List AV)) (k:Kn):R T (.reg d ops) ρ bs k=O T ops ρ bs k:=by
 simp only[R,O,Ey]
 cases Zk (call T) ops ⟨ρ,bs⟩ <;> rfl
theorem QiL (a b:AC) (ρ:Nat→AV) (bs:List (List AV)) (k:Kn):R T (.seq a b) ρ bs k=R T a ρ bs (Qw T b k):=by
 simp only[R,EA]
 cases run T a ⟨ρ,bs⟩with
 | none=>rfl
 | some x=>
  obtain⟨e,s⟩:=x
  cases e <;> rfl
theorem Qdg (id:Nat) (c:AC) (ρ:Nat→AV) (bs:List (List AV)) (k:Kn):R T (.block id c) ρ bs k=R T c ρ bs (Qk id k):=by
 simp only[R,KO]
 cases run T c ⟨ρ,bs⟩with
 | none=>rfl
 | some x=>
  obtain⟨e,s⟩:=x
  cases e <;> rfl
theorem Qgm (c:AC) (ρ:Nat→AV) (bs:List (List AV)) (k:Kn):R T (.loop c) ρ bs k=R T c ρ bs (Qw T (.loop c) k):=by
 simp only[R]
 rw[Gf]
 cases run T c ⟨ρ,bs⟩with
 | none=>rfl
 | some x=>
  obtain⟨e,s⟩:=x
  cases e <;> rfl
theorem G4 (b:AC) (k:Kn) (ρ:Nat→AV) (bs:List (List AV)):Qw T b k .normal ⟨ρ,bs⟩=R T b ρ bs k:=rfl
theorem Qcu (b:AC) (k:Kn) (s:St):Qw T b k .ret s=k .ret s:=rfl
theorem QaE (b:AC) (k:Kn) (s:St) (id:Nat):Qw T b k (.exit id) s=k (.exit id) s:=rfl
theorem KW (id:Nat) (k:Kn) (s:St):Qk id k .normal s=k .normal s:=rfl
theorem E7 (id:Nat) (k:Kn) (s:St):Qk id k .ret s=k .ret s:=rfl
theorem Gy (id:Nat) (k:Kn) (s:St):Qk id k (.exit id) s=k .normal s:=by simp[Qk]
theorem GL (fn:Qi) (k:List (List AV)) (s:St):QB fn k .normal s=Z3 fn k s:=rfl
theorem QbL (fn:Qi) (k:List (List AV)) (s:St):QB fn k .ret s=Z3 fn k s:=rfl
noncomputable def Dl (T:Nat→Option AFn) (v:AV) (n:Nat) (a b:AC) (ρ:Nat→AV) (bs:List (List AV)) (k:Kn):Out:=match v with
 | .bool c=>Z4 c true (R T a (upd ρ n (.bool true)) bs k) (R T b (upd ρ n (.bool false)) bs k)
 | _=>none
theorem X0 {ρ:Nat→AV} {n:Nat} {v:AV} (h:ρ n=v):upd ρ n v=ρ:=by
 funext j
 unfold upd
 split
 ·rename_i hj;rw[hj,h]
 ·rfl
theorem Qgk (n:Nat) (a b:AC) (ρ:Nat→AV) (bs:List (List AV)) (k:Kn):R T (.cond (.t n) a b) ρ bs k=Dl T (ρ n) n a b ρ bs k:=by
 simp only[R,Gc,val,Dl]
 cases h:ρ n <;> try rfl
 rename_i c
 cases c
 ·simp only[AV.strip,Oa,X0 h]
 ·simp only[AV.strip,Ob,X0 h]
theorem Dm (c:Bool) (n:Nat) (a b:AC) (ρ:Nat→AV) (bs:List (List AV)) (k:Kn):
  Dl T (.bool c) n a b ρ bs k=Z4 c true (R T a (upd ρ n (.bool true)) bs k) (R T b (upd ρ n (.bool false)) bs k):=rfl
theorem QiI (ρ:Nat→AV) (bs:List (List AV)) (k:Kn):O T [] ρ bs k=k .normal ⟨ρ,bs⟩:=rfl
theorem Qgi (d:Option Nat) (op:AOp) (os:List Qs) (ρ:Nat→AV) (bs:List (List AV)) (k:Kn):
  O T (⟨d,op,none⟩:: os) ρ bs k=E T (Qg (call T) op ⟨ρ,bs⟩) d os k:=by
 simp only[O,E,Zk,Zl]
 cases Qg (call T) op ⟨ρ,bs⟩ <;> rfl
noncomputable def Mr (T:Nat→Option AFn) (v:AV) (t:Nat) (b:Bool) (d:Option Nat) (op:AOp) (os:List Qs) (ρ:Nat→AV) (bs:List (List AV)) (k:Kn):Out:=match v with
 | .bool c=>Z4 c b (E T (Qg (call T) op ⟨upd ρ t (.bool b),bs⟩) d os k) (O T os (ZE (upd ρ t (.bool (!b))) d (.tup [])) bs k)
 | .tup []=>O T os (ZE ρ d (.tup [])) bs k
 | _=>none
theorem X4 (d:Option Nat) (op:AOp) (t:Nat) (b:Bool) (os:List Qs) (ρ:Nat→AV) (bs:List (List AV)) (k:Kn):
  O T (⟨d,op,some (t,b)⟩:: os) ρ bs k=Mr T (ρ t) t b d op os ρ bs k:=by
 simp only[O,Zk,Zl,Mr]
 cases h:ρ t <;> try rfl
 ·rename_i c
  by_cases hcb:c=b
  ·subst hcb
   simp only[Z4,if_true,X0 h,E]
   cases Qg (call T) op ⟨ρ,bs⟩ <;> rfl
  ·have hcb2:c= !b:=by cases c <;> cases b <;> simp_all
   subst hcb2
   simp only[Z4,hcb,if_false,X0 h]
   rfl
 ·rename_i vs
  cases vs <;> rfl
theorem Wl (c:Bool) (t:Nat) (b:Bool) (d:Option Nat) (op:AOp) (os:List Qs) (ρ:Nat→AV) (bs:List (List AV)) (k:Kn):
  Mr T (.bool c) t b d op os ρ bs k=Z4 c b (E T (Qg (call T) op ⟨upd ρ t (.bool b),bs⟩) d os k) (O T os (ZE (upd ρ t (.bool (!b))) d (.tup [])) bs k):=rfl
theorem Ms (t:Nat) (b:Bool) (d:Option Nat) (op:AOp) (os:List Qs) (ρ:Nat→AV) (bs:List (List AV)) (k:Kn):
  Mr T (.tup []) t b d op os ρ bs k=O T os (ZE ρ d (.tup [])) bs k:=rfl
theorem Qgd (v:AV) (ρ:Nat→AV) (bs:List (List AV)) (d:Nat) (os:List Qs) (k:Kn):E T (some (v,⟨ρ,bs⟩)) (some d) os k=O T os (upd ρ d v) bs k:=rfl
theorem Qdb (v:AV) (ρ:Nat→AV) (bs:List (List AV)) (os:List Qs) (k:Kn):E T (some (v,⟨ρ,bs⟩)) none os k=O T os ρ bs k:=rfl
theorem Qgc (d:Option Nat) (os:List Qs) (k:Kn):E T none d os k=none:=rfl
theorem QaG (ρ:Nat→AV) (d:Nat) (v:AV):ZE ρ (some d) v=upd ρ d v:=rfl
theorem QaF (ρ:Nat→AV) (v:AV):ZE ρ none v=ρ:=rfl
theorem Qa {f:Nat} {fn:Qi} (h:T f=some (.code fn)) (args:List AV) (bs:List (List AV)) (hl:args.length=fn.nparams):
  call T f args bs=R T fn.body (Yg args) bs (QB fn bs):=by
 rw[LR,h]
 simp only[hl,if_true,R]
 cases run T fn.body ⟨Yg args,bs⟩with
 | none=>rfl
 | some x=>
  obtain⟨e,s⟩:=x
  cases e <;> rfl
theorem XK {f:Nat} {g:List AV→List (List AV)→Option (AV×List (List AV))} (h:T f=some (.orc g)) (args:List AV) (bs:List (List AV)):call T f args bs=g args bs:=by
 rw[LR,h]
theorem Qbb (a:AV) (aq:List AV):Yg (a:: aq) 0=a.strip:=rfl
theorem Gw (a:AV) (aq:List AV) (i:Nat):Yg (a:: aq) (i+1)=Yg aq i:=rfl
theorem WE (ρ:Nat→AV) (i:Nat) (v:AV):upd ρ i v i=v:=by simp[upd]
variable {K:Zx} (ρ:Nat→AV) (bs:List (List AV))
theorem Qjj (n:Nat):val ρ (.t n)=(ρ n).strip:=rfl
theorem Qji (v:AV):val ρ (.c v)=v:=rfl
end
end Go.Am
namespace Go.Am
section
variable {T:Nat→Option AFn}
def Tt (b:Bool):AV→Bool
 | .bool c=>c == !b
 | .tup []=>true
 | _=>false
noncomputable def O2 (T:Nat→Option AFn) (c:Bool) (_t:Nat) (b:Bool) (os:List Qs) (ρ1 ρ2:Nat→AV) (bs1 bs2:List (List AV)) (k:Kn):Out:=
 if c=b then O T os ρ1 bs1 k else O T os ρ2 bs2 k
noncomputable def E2 (T:Nat→Option AFn) (c:Bool) (_t:Nat) (b:Bool) (r:Option (AV×St)) (d:Option Nat) (os:List Qs) (ρ2:Nat→AV) (bs2:List (List AV)) (k:Kn):Out:=
 if c=b then E T r d os k else O T os (ZE ρ2 d (.tup [])) bs2 k
def ZA (c b:Bool) (x y:AV):AV:=if c=b then x else y
def NN (c b:Bool) (x y:List (List AV)):List (List AV):=if c=b then x else y
def mrg (c b:Bool) (ρ1 ρ2:Nat→AV):Nat→AV:=fun j=>ZA c b (ρ1 j) (ρ2 j)
theorem QfC (c b:Bool) (ρ1 ρ2:Nat→AV) (j:Nat):mrg c b ρ1 ρ2 j=ZA c b (ρ1 j) (ρ2 j):=rfl
theorem Fa (c:Bool) (t:Nat) (b:Bool) (os:List Qs) (ρ1 ρ2:Nat→AV) (bs1 bs2:List (List AV)) (k:Kn):
  O2 T c t b os ρ1 ρ2 bs1 bs2 k=O T os (mrg c b ρ1 ρ2) (NN c b bs1 bs2) k:=by
 unfold O2
 split
 ·rename_i h
  have:mrg c b ρ1 ρ2=ρ1:=by funext j;simp[mrg,ZA,h]
  rw[this,NN,if_pos h]
 ·rename_i h
  have:mrg c b ρ1 ρ2=ρ2:=by funext j;simp[mrg,ZA,h]
  rw[this,NN,if_neg h]
theorem Qgh (c:Bool) (t:Nat) (b:Bool) (ρ1 ρ2:Nat→AV) (bs1 bs2:List (List AV)) (k:Kn):
  O2 T c t b [] ρ1 ρ2 bs1 bs2 k=O T [] (mrg c b ρ1 ρ2) (NN c b bs1 bs2) k:=Fa c t b [] ρ1 ρ2 bs1 bs2 k
theorem Qdd (c:Bool) (t:Nat) (b:Bool) (d:Option Nat) (op:AOp) (os:List Qs) (ρ1 ρ2:Nat→AV) (bs1 bs2:List (List AV)) (k:Kn):
  O2 T c t b (⟨d,op,none⟩:: os) ρ1 ρ2 bs1 bs2 k=O T (⟨d,op,none⟩:: os) (mrg c b ρ1 ρ2) (NN c b bs1 bs2) k:=Fa c t b _ ρ1 ρ2 bs1 bs2 k
theorem Qa1 (c:Bool) (t:Nat) (b:Bool) (d:Option Nat) (op:AOp) (t':Nat) (b':Bool) (os:List Qs) (ρ1 ρ2:Nat→AV) (bs1 bs2:List (List AV)) (k:Kn) (_h: ((t' == t) && (b' == b))=false):
  O2 T c t b (⟨d,op,some (t',b')⟩:: os) ρ1 ρ2 bs1 bs2 k=Z4 c b (O T (⟨d,op,some (t',b')⟩:: os) ρ1 bs1 k) (O T (⟨d,op,some (t',b')⟩:: os) ρ2 bs2 k):=by
 unfold O2 Z4;rfl
theorem Qde (c:Bool) (t:Nat) (b:Bool) (d:Option Nat) (op:AOp) (os:List Qs) (ρ1 ρ2:Nat→AV) (bs1 bs2:List (List AV)) (k:Kn) (h1:ρ1 t= .bool b) (h2:Tt b (ρ2 t)=true):
  O2 T c t b (⟨d,op,some (t,b)⟩:: os) ρ1 ρ2 bs1 bs2 k=E2 T c t b (Qg (call T) op ⟨ρ1,bs1⟩) d os ρ2 bs2 k:=by
 unfold O2 E2
 split
 ·rw[X4,h1,Wl,YN,if_pos rfl,X0 h1]
 ·rw[X4]
  unfold Tt at h2
  split at h2
  ·rename_i c hc
   rw[hc,Wl]
   simp only[beq_iff_eq]at h2
   subst h2
   rw[YN,if_neg (by cases b <;> simp),X0 hc]
  ·rename_i hc
   rw[hc,Ms]
  ·cases h2
theorem Qda (c:Bool) (t:Nat) (b:Bool) (v:AV) (ρ1:Nat→AV) (bs1:List (List AV)) (d:Option Nat) (os:List Qs) (ρ2:Nat→AV) (bs2:List (List AV)) (k:Kn):
  E2 T c t b (some (v,⟨ρ1,bs1⟩)) d os ρ2 bs2 k=O2 T c t b os (ZE ρ1 d v) (ZE ρ2 d (.tup [])) bs1 bs2 k:=rfl
noncomputable def G (T:Nat→Option AFn) (v:AV) (d:Option Nat) (op:AOp) (t:Nat) (b:Bool) (os:List Qs) (ρ:Nat→AV) (bs:List (List AV)) (k:Kn):Out:=match v with
 | .bool c=>O2 T c t b (⟨d,op,some (t,b)⟩:: os) (upd ρ t (.bool b)) (upd ρ t (.bool (!b))) bs bs k
 | .tup []=>O T os (ZE (upd ρ t (.tup [])) d (.tup [])) bs k
 | _=>none
theorem Se (c:Bool) (d:Option Nat) (op:AOp) (t:Nat) (b:Bool) (os:List Qs) (ρ:Nat→AV) (bs:List (List AV)) (k:Kn):
  G T (.bool c) d op t b os ρ bs k=O2 T c t b (⟨d,op,some (t,b)⟩:: os) (upd ρ t (.bool b)) (upd ρ t (.bool (!b))) bs bs k:=rfl
theorem QcO (d:Option Nat) (op:AOp) (t:Nat) (b:Bool) (os:List Qs) (ρ:Nat→AV) (bs:List (List AV)) (k:Kn):
  G T (.tup []) d op t b os ρ bs k=O T os (ZE (upd ρ t (.tup [])) d (.tup [])) bs k:=rfl
theorem Qdf (d:Option Nat) (op:AOp) (t:Nat) (b:Bool) (os:List Qs) (ρ:Nat→AV) (bs:List (List AV)) (k:Kn):
  O T (⟨d,op,some (t,b)⟩:: os) ρ bs k=G T (ρ t) d op t b os ρ bs k:=by
 cases h:ρ t <;> try (rw[X4,h];rfl)
 ·rename_i c
  rw[Se]
  unfold O2
  by_cases hcb:c=b
  ·subst hcb
   simp[X0 h]
  ·have hcb2:c= !b:=by cases c <;> cases b <;> simp_all
   subst hcb2
   rw[X0 h,if_neg hcb]
 ·rename_i vs
  cases vs with
  | nil=>rw[QcO,X4,h,Ms,X0 h]
  | cons v vs=>rw[X4,h];rfl
theorem Qgf (d:Option Nat) (op:AOp) (t:Nat) (os:List Qs) (ρ:Nat→AV) (bs:List (List AV)) (k:Kn):
  G T (.bool true) d op t true os ρ bs k=E T (Qg (call T) op ⟨upd ρ t (.bool true),bs⟩) d os k:=by
 rw[Se];unfold O2;rw[if_pos rfl,X4,WE,Wl,Ob,X0 (WE _ _ _)]
theorem Qdc (d:Option Nat) (op:AOp) (t:Nat) (os:List Qs) (ρ:Nat→AV) (bs:List (List AV)) (k:Kn):
  G T (.bool false) d op t false os ρ bs k=E T (Qg (call T) op ⟨upd ρ t (.bool false),bs⟩) d os k:=by
 rw[Se];unfold O2;rw[if_pos rfl,X4,WE,Wl,Kw,X0 (WE _ _ _)]
theorem Qjr (d:Option Nat) (op:AOp) (t:Nat) (os:List Qs) (ρ:Nat→AV) (bs:List (List AV)) (k:Kn):
  G T (.bool true) d op t false os ρ bs k=O T os (ZE (upd ρ t (.bool true)) d (.tup [])) bs k:=by
 rw[Se];unfold O2;rw[if_neg (by simp),X4,WE];simp only[Wl,Kx,Bool.not_false];rw[X0 (WE _ _ _)]
theorem Qjq (d:Option Nat) (op:AOp) (t:Nat) (os:List Qs) (ρ:Nat→AV) (bs:List (List AV)) (k:Kn):
  G T (.bool false) d op t true os ρ bs k=O T os (ZE (upd ρ t (.bool false)) d (.tup [])) bs k:=by
 rw[Se];unfold O2;rw[if_neg (by simp),X4,WE];simp only[Wl,Oa,Bool.not_true];rw[X0 (WE _ _ _)]
theorem QaB (c b:Bool) (x:AV):ZA c b x x=x:=by unfold ZA;split <;> rfl
theorem Qay (c b:Bool) (x:List (List AV)):NN c b x x=x:=by unfold NN;split <;> rfl
theorem QiA (c b:Bool) (x y z:AV):ZA c b (ZA c b x y) z=ZA c b x z:=by unfold ZA;split <;> simp_all
theorem QiB (c b:Bool) (x y z:AV):ZA c b x (ZA c b y z)=ZA c b x z:=by unfold ZA;split <;> simp_all
theorem QfX (c:Bool) (x y z:AV):ZA c true (ZA c false x y) z=ZA c true y z:=by cases c <;> rfl
theorem QfY (c:Bool) (x y z:AV):ZA c true x (ZA c false y z)=ZA c true x y:=by cases c <;> rfl
theorem QfU (c:Bool) (x y z:AV):ZA c false (ZA c true x y) z=ZA c false y z:=by cases c <;> rfl
theorem QfV (c:Bool) (x y z:AV):ZA c false x (ZA c true y z)=ZA c false x y:=by cases c <;> rfl
theorem QaD (c:Bool) (x y:AV):ZA c false x y=ZA c true y x:=by cases c <;> rfl
theorem Qcs (x y:AV):ZA true true x y=x:=rfl
theorem QaA (x y:AV):ZA false true x y=y:=rfl
theorem Qaz (c x y:Bool):ZA c true (.bool x) (.bool y)= .bool (bif c then x else y):=by cases c <;> rfl
theorem Qcr (c:Bool) (k:IntKind) (x y:Int):ZA c true (.int k x) (.int k y)= .int k (bif c then x else y):=by cases c <;> rfl
theorem Cc (c b:Bool) (x y:AV): (ZA c b x y).strip=ZA c b x.strip y.strip:=by unfold ZA;split <;> rfl
theorem QfW (c b:Bool) (x y:AV): (ZA c b x y).ok=if c=b then x.ok else y.ok:=by unfold ZA;split <;> rfl
theorem Qct (c b:Bool) (x y:AV): (ZA c b x y).one=if c=b then x.one else y.one:=by unfold ZA;split <;> rfl
theorem QaC (c b d:Bool) (x y:AV):Tt d (ZA c b x y)=if c=b then Tt d x else Tt d y:=by unfold ZA;split <;> rfl
theorem GU (c b:Bool):Tt b (.bool c)=(c == !b):=rfl
theorem DG (b:Bool):Tt b (.tup [])=true:=rfl
def DR (v x y:AV) (s:St):Option (AV×St):=match v with
 | .bool c=>let v:=ZA c true x y;if v.ok then some (v,s)else none
 | _=>none
theorem QhW {K:Zx} (c a b:AO) (ρ:Nat→AV) (bs:List (List AV)):Qg K (.pick c a b) ⟨ρ,bs⟩=DR (val ρ c) (val ρ a) (val ρ b) ⟨ρ,bs⟩:=by
 simp only[Qg,DR]
 cases val ρ c <;> try rfl
 rename_i x
 cases x <;> rfl
theorem DS (c:Bool) (x y:AV) (s:St):DR (.bool c) x y s=if(ZA c true x y).ok then some (ZA c true x y,s)else none:=rfl
end
end Go.Am
namespace Go.Am
theorem Qf8 (ρ:Nat→AV) (i:Nat) (v:AV) (j:Nat):upd ρ i v j=if j=i then v else ρ j:=rfl
theorem Jc:AV.strip (.undef)= .undef:=rfl
theorem D3:AV.ok (.undef)=false:=rfl
theorem GY:AV.one (.undef)=false:=rfl
theorem GX:AV.gpfree (.undef)=true:=rfl
theorem G1 (k:IntKind) (n:Int):AV.strip (.int k n)= .int k n:=rfl
theorem Qci (k:IntKind) (n:Int):AV.ok (.int k n)=true:=rfl
theorem Qav (k:IntKind) (n:Int):AV.one (.int k n)=true:=rfl
theorem Qan (k:IntKind) (n:Int):AV.gpfree (.int k n)=true:=rfl
theorem Gi (b:Bool):AV.strip (.bool b)= .bool b:=rfl
theorem Qar (b:Bool):AV.ok (.bool b)=true:=rfl
theorem D5 (b:Bool):AV.one (.bool b)=true:=rfl
theorem D1 (b:Bool):AV.gpfree (.bool b)=true:=rfl
theorem Gh:AV.strip (.anyb)= .anyb:=rfl
theorem Qaq:AV.ok (.anyb)=true:=rfl
theorem D4:AV.one (.anyb)=true:=rfl
theorem D0:AV.gpfree (.anyb)=true:=rfl
theorem G2 (s:List UInt8):AV.strip (.str s)= .str s:=rfl
theorem Qcj (s:List UInt8):AV.ok (.str s)=true:=rfl
theorem Qaw (s:List UInt8):AV.one (.str s)=true:=rfl
theorem Qao (s:List UInt8):AV.gpfree (.str s)=true:=rfl
theorem GZ (cs:List AV):AV.strip (.agg cs)= .agg cs:=rfl
theorem Qcg (cs:List AV):AV.ok (.agg cs)=true:=rfl
theorem Qat (cs:List AV):AV.one (.agg cs)=false:=rfl
theorem Qal (cs:List AV):AV.gpfree (.agg cs)=gpfreeL cs:=rfl
theorem Cb (o:Bool) (z:Nat) (xs:List (List AV)):AV.strip (.sl o z xs)= .sl false z xs:=rfl
theorem QfT (o:Bool) (z:Nat) (xs:List (List AV)):AV.ok (.sl o z xs)=true:=rfl
theorem Qcp (o:Bool) (z:Nat) (xs:List (List AV)):AV.one (.sl o z xs)=true:=rfl
theorem Qcf (o:Bool) (z:Nat) (xs:List (List AV)):AV.gpfree (.sl o z xs)=gpfreeE xs:=rfl
theorem D7 (cs:List AV):AV.strip (.bx cs)= .bx cs:=rfl
theorem QfP (cs:List AV):AV.ok (.bx cs)=false:=rfl
theorem Qcl (cs:List AV):AV.one (.bx cs)=false:=rfl
theorem Qcc (cs:List AV):AV.gpfree (.bx cs)=gpfreeL cs:=rfl
theorem D9 (i o:Nat):AV.strip (.gp i o)= .gp i o:=rfl
theorem QfR (i o:Nat):AV.ok (.gp i o)=true:=rfl
theorem Qcn (i o:Nat):AV.one (.gp i o)=true:=rfl
theorem Qce (i o:Nat):AV.gpfree (.gp i o)=false:=rfl
theorem Ca (i o z n:Nat):AV.strip (.gs i o z n)= .gs i o z n:=rfl
theorem QfS (i o z n:Nat):AV.ok (.gs i o z n)=true:=rfl
theorem Qco (i o z n:Nat):AV.one (.gs i o z n)=true:=rfl
theorem Gj (cs:List AV):AV.strip (.rptr cs)= .rptr cs:=rfl
theorem Qas (cs:List AV):AV.ok (.rptr cs)=true:=rfl
theorem D6 (cs:List AV):AV.one (.rptr cs)=true:=rfl
theorem D2 (cs:List AV):AV.gpfree (.rptr cs)=gpfreeL cs:=rfl
theorem D8 (f:Nat) (cs:List AV):AV.strip (.fn f cs)= .fn f cs:=rfl
theorem QfQ (f:Nat) (cs:List AV):AV.ok (.fn f cs)=true:=rfl
theorem Qcm (f:Nat) (cs:List AV):AV.one (.fn f cs)=true:=rfl
theorem Qcd (f:Nat) (cs:List AV):AV.gpfree (.fn f cs)=gpfreeL cs:=rfl
theorem G3 (vs:List AV):AV.strip (.tup vs)= .tup vs:=rfl
theorem Qck (vs:List AV):AV.ok (.tup vs)=true:=rfl
theorem Qax (vs:List AV):AV.one (.tup vs)=false:=rfl
theorem Qap (vs:List AV):AV.gpfree (.tup vs)=gpfreeL vs:=rfl
theorem G0 (b:Bool):AV.strip (.err b)= .err b:=rfl
theorem Qch (b:Bool):AV.ok (.err b)=true:=rfl
theorem Qau (b:Bool):AV.one (.err b)=true:=rfl
theorem Qam (b:Bool):AV.gpfree (.err b)=true:=rfl
theorem QbS {α:Type} (p:Prop) [Decidable p] (a b c:α): (if p then(if p then a else b)else c)=if p then a else c:=by split <;> simp_all
theorem QbR {α:Type} (p:Prop) [Decidable p] (a b c:α): (if p then a else(if p then b else c))=if p then a else c:=by split <;> simp_all
attribute [simp] Jc D3 GY GX G1 Qci Qav Qan Gi Qar D5 D1 Gh Qaq D4 D0 G2 Qcj Qaw Qao GZ Qcg Qat Qal Cb QfT Qcp Qcf D7 QfP Qcl Qcc D9 QfR Qcn Qce Ca QfS Qco Gj Qas D6 D2 D8 QfQ Qcm Qcd G3 Qck Qax Qap G0 Qch Qau Qam QbS QbR
attribute [simp] eqVE_refl Qgn QiK Qgl QiJ QiL Qdg Qgk QiI Qgi Qdf Qgd Qdb Qgc QaG QaF Dm G4 Qcu QaE KW E7 Gy GL QbL Ob Kx Kw Oa Dz GQ Qg Qjj Qji Qbb Gw Nk aun Z3 YX Wm gpfreeL gpfreeE YB ZN cellsOf put Qf8 Qgh Qdd Qa1 Qde Qda QfC Se QcO GU DG QaB Qay QiA QiB QfX QfY QfU QfV QaD Qcs QaA Qaz Qcr Cc QfW Qct QaC DS
attribute [simp ↓] QhW
attribute [simp 2000] Qgf Qdc Qjr Qjq
theorem GR (c:Bool) (x y:Out):Z4 c false x y=Z4 c true y x:=by cases c <;> rfl
theorem GP (c x y:Bool) (s:List (List AV)):Z4 c true (some (.bool x,s)) (some (.bool y,s))=some (.bool (bif c then x else y),s):=by cases c <;> rfl
theorem HF (c:Bool) (k:IntKind) (x y:Int) (s:List (List AV)):Z4 c true (some (.int k x,s)) (some (.int k y,s))=some (.int k (bif c then x else y),s):=by cases c <;> rfl
theorem Qc {T:Nat→Option AFn} {c c':AC} (h:c=c') (ρ:Nat→AV) (bs:List (List AV)) (k:Kn):R T (.loop c) ρ bs k=R T c' ρ bs (Qw T (.loop c) k):=by
 subst h;exact Qgm c ρ bs k
attribute [simp] toI
theorem NR {α:Type} (x:α) (xs:List α): (x:: xs)[0]? =some x:=rfl
attribute [simp] GR GP HF Tr Xw Q6 Bool.cond_decide
theorem Qj {n:Int} (h1: -9223372036854775808≤n) (h2:n < 9223372036854775808):IntKind.i64.wrap n=n:=by
 simp only[IntKind.wrap_i64]
 omega
@[simp] theorem Qj6 (n:Nat) (vs:List AV):stV (.t n) vs=vs.map AV.strip:=rfl
@[simp] theorem Qj3 (z:Nat) (vs:List AV):stV (.c (.sl true z [])) vs=vs.map fun _=> .sl true z []:=rfl
@[simp] theorem Qj2 (k:IntKind) (n:Int) (vs:List AV):stV (.c (.int k n)) vs=vs.map AV.strip:=rfl
@[simp] theorem Qj4 (s:List UInt8) (vs:List AV):stV (.c (.str s)) vs=vs.map AV.strip:=rfl
@[simp] theorem QjS (b:Bool) (vs:List AV):stV (.c (.bool b)) vs=vs.map AV.strip:=rfl
@[simp] theorem Qj0 (cs:List AV) (vs:List AV):stV (.c (.agg cs)) vs=vs.map AV.strip:=rfl
@[simp] theorem Qj1 (b:Bool) (vs:List AV):stV (.c (.err b)) vs=vs.map AV.strip:=rfl
@[simp] theorem QjX (i o k:Nat):Sb (.gs i o 0 0) (.sl true k [])= .sl true k []:=rfl
@[simp] theorem QjO (k:IntKind) (n:Int) (z:AV):Sb (.int k n) z= .int k n:=rfl
@[simp] theorem QjP (s:List UInt8) (z:AV):Sb (.str s) z= .str s:=rfl
@[simp] theorem Qjp (b:Bool) (z:AV):Sb (.bool b) z= .bool b:=rfl
@[simp] theorem QjY (o:Bool) (k:Nat) (xs:List (List AV)) (z:AV):Sb (.sl o k xs) z= .sl false k xs:=rfl
attribute [simp] XF
@[simp] theorem Qjh (i:Nat):AV.strip (.mp i)= .mp i:=rfl
@[simp] theorem QjZ (i:Nat):AV.ok (.mp i)=true:=rfl
@[simp] theorem QjR (i:Nat):AV.one (.mp i)=true:=rfl
@[simp] theorem QjQ (i:Nat):AV.gpfree (.mp i)=false:=rfl
@[simp] theorem TK: ∀bs:List (List AV),Yv bs bs=true
 | []=>rfl
 | x:: xs=>by simp only[Yv,eqVL_refl,TK xs,Bool.true_or,Bool.true_and]
@[simp] theorem Qjw (ys:List (List AV)):Yv [] ys=true:=rfl
@[simp] theorem GG (a b c:List (List AV)):Yv (a ++ b) (a ++ c)=Yv b c:=by
 induction a with
 | nil=>rfl
 | cons x xs ih=>simp only[List.cons_append,Yv,eqVL_refl,ih,Bool.true_or,Bool.true_and]
@[simp] theorem Qjv (a c:List (List AV)):Yv a (a ++ c)=true:=by
 have:=GG a [] c
 simpa using this
@[simp] theorem Qjl (x:List AV) (xs ys:List (List AV)):Yv (x:: xs) (x:: ys)=Yv xs ys:=by simp only[Yv,eqVL_refl,Bool.true_or,Bool.true_and]
@[simp] theorem Hm {cs:List AV} (h:gpfreeL cs=true): ∀(bs:List (List AV)) (i:Nat),Yv bs (bs.set i cs)=true
 | [],_=>rfl
 | x:: xs,0=>by simp only[List.set_cons_zero,Yv,h,TK,Bool.or_true,Bool.and_true]
 | x:: xs,i+1=>by simp only[List.set_cons_succ,Yv,eqVL_refl,Hm h xs i,Bool.true_or,Bool.and_true]
theorem F3: ∀{xs ys:List (List AV)},xs.length≤ys.length→(∀(i:Nat) (x y:List AV),xs[i]? =some x→ys[i]? =some y→x=y∨gpfreeL y=true)→Yv xs ys=true
 | [],_,_,_=>rfl
 | _:: _,[],h,_=>by simp at h
 | x:: xs,y:: ys,h,hh=>by
  simp only[Yv,Bool.and_eq_true,Bool.or_eq_true]
  refine⟨?_,F3 (by simpa using h) fun i a b ha hb=>hh (i+1) a b (by simpa using ha) (by simpa using hb)⟩
  rcases hh 0 x y rfl rfl with h1 | h1
  ·subst h1;exact .inl (eqVL_refl x)
  ·exact .inr h1
@[simp] theorem QjV {x y:List AV} (h:gpfreeL y=true) (xs ys:List (List AV)):Yv (x:: xs) (y:: ys)=Yv xs ys:=by simp only[Yv,h,Bool.or_true,Bool.true_and]
@[simp] theorem QiH:gpfreeL []=true:=rfl
@[simp] theorem HE (x:AV) (xs:List AV):gpfreeL (x:: xs)=(x.gpfree && gpfreeL xs):=rfl
@[simp] theorem GN: ∀n:Nat,gpfreeL (List.replicate n .undef)=true
 | 0=>rfl
 | n+1=>by rw[List.replicate_succ,HE,GN n];rfl
@[simp] theorem Hn (bs:List (List AV)) (i:Nat):Yv bs (bs.set i [])=true:=Hm rfl bs i
end Go.Am
namespace Go.Am
set_option maxRecDepth 8000
theorem PX (a b:Int) (bs:List (List AV)):call F.tb 32 [.int .i64 a,.int .i64 b] bs=some (.int .i64 (if a < b then -1 else if a > b then 1 else 0),bs):=by
 rw[Qa F.tb_32 _ _ rfl]
 simp[F.f32,F.f32C]
def VL (c:UInt8):Bool:=(97≤c.toNat && c.toNat≤122) || (65≤c.toNat && c.toNat≤90) || (48≤c.toNat && c.toNat≤57) || c.toNat == 95 || c.toNat == 35
theorem Hj (n m:Nat): ((n:Int) == (m:Int))=(n == m):=by rw[Bool.eq_iff_iff,beq_iff_eq,beq_iff_eq];omega
theorem Md (n:Nat): ((n:Int) == 95)=(n == 95):=Hj n 95
theorem Mc (n:Nat): ((n:Int) == 35)=(n == 35):=Hj n 35
theorem PW (c:UInt8) (bs:List (List AV)):call F.tb 9 [.int .u8 c.toNat] bs=some (.bool (VL c),bs):=by
 rw[Qa F.tb_9 _ _ rfl]
 simp (config:={maxSteps:=1000000}) [F.f9,F.f9C,VL,Md,Mc]
 have e1: ∀m:Nat,((m:Int)≤(c.toNat:Int))=(m≤c.toNat):=fun m=>by simp
 have e2: ∀m:Nat,((c.toNat:Int)≤(m:Int))=(c.toNat≤m):=fun m=>by simp
 simp only[show(97:Int)=((97:Nat):Int)from rfl,show(122:Int)=((122:Nat):Int)from rfl,show(65:Int)=((65:Nat):Int)from rfl,show(90:Int)=((90:Nat):Int)from rfl,show(48:Int)=((48:Nat):Int)from rfl,show(57:Int)=((57:Nat):Int)from rfl,e1,e2]
 by_cases h1:97≤c.toNat <;> by_cases h2:c.toNat≤122 <;> by_cases h3:65≤c.toNat <;> by_cases h4:c.toNat≤90 <;> by_cases h5:48≤c.toNat <;> by_cases h6:c.toNat≤57 <;> simp[h1,h2,h3,h4,h5,h6]
theorem GT (s:List UInt8) (bs:List (List AV)) (hs:s.length < 4611686018427387904): ∀(k i:Nat) (ρ:Nat→AV),s.length - i=k→i≤s.length→ρ 0= .str s→ρ 38= .int .i64 s.length→ρ 39= .int .i64 i→
  R F.tb (.loop F.f8l0) ρ bs (Qk 0 (Qw F.tb F.f8r0 (QB F.f8 bs)))=some (.bool ((s.drop i).all VL),bs):=by
 intro k
 induction k with
 | zero=>
  intro i ρ hk hi h0 h38 h39
  have:i=s.length:=by omega
  subst this
  rw[Qc F.f8l0.eq_1]
  simp[h0,h38,h39,F.f8r0,F.f8R,F.f8K]
 | succ k ih=>
  intro i ρ hk hi h0 h38 h39
  have hlt:i < s.length:=by omega
  have hw:IntKind.i64.wrap ((i:Int)+1)=((i+1:Nat):Int):=Qj (by omega) (by omega)
  rw[Qc F.f8l0.eq_1,List.drop_eq_getElem_cons hlt,List.all_cons]
  cases hb:VL s[i]
  ·simp[h0,h38,h39,F.f8R,F.f8K,hlt,PW,hb]
  ·simp[h0,h38,h39,hlt,PW,hb,hw]
   rw[ih (i+1)] <;> first | rfl | omega | simp[h0,h38]
def YV:List UInt8→Bool
 | []=>false
 | c:: r=>decide (r.length < 24) && VL c && !(decide (48≤c.toNat) && decide (c.toNat≤57)) && c.toNat != 95 && c.toNat != 35 && r.all VL
theorem GE (s:List UInt8) (bs:List (List AV)) (hs:s.length < 4611686018427387904):call F.tb 8 [.str s] bs=some (.bool (YV s),bs):=by
 rw[Qa F.tb_8 _ _ rfl]
 cases s with
 | nil=>simp[F.f8B,F.f8C,F.f8R,F.f8K,YV]
 | cons c r=>
  have hl:=GT (c:: r) bs hs ((c:: r).length - 0) 0
  simp (config:={maxSteps:=1000000}) [F.f8B,F.f8C,F.f8R,F.f8K,PW,hl,Md,Mc]
  have e1: (24 < (r.length:Int)+1)=(¬r.length < 24):=by rw[eq_iff_iff];omega
  have e2: ((48:Int)≤(c.toNat:Int))=(48≤c.toNat):=by rw[eq_iff_iff];omega
  have e3: ((c.toNat:Int)≤57)=(c.toNat≤57):=by rw[eq_iff_iff];omega
  simp only[YV,e1,e2,e3,bne]
  by_cases h1:r.length < 24 <;> by_cases h2:48≤c.toNat <;> by_cases h3:c.toNat≤57 <;> cases VL c <;> simp[h1,h2,h3]
end Go.Am
namespace Go.Am
set_option maxRecDepth 8000
attribute [simp] LY LZ
attribute [simp] XX Za WK QO
attribute [simp] Xj P6 Yb Zz QD Ko Ay Az AA AB F8 F9 Ea Eb LT encTs_gp
attribute [simp] Int.toNat_natCast
attribute [simp] LY LZ
theorem PT (t:Tm) (bs:List (List AV)) (hm:t.mass < big) (ih: ∀x∈t.kids,∀bs,call F.tb 31 [.agg (Qb x)] bs=some (.int .i64 x.nodes,bs)):
  ∀(post pre:List Tm) (ρ:Nat→AV),t.kids=pre ++ post→ρ 7= .sl false 4 (encTs t.kids)→ρ 8= .int .i64 t.kids.length→ρ 9= .int .i64 pre.length→ρ 3= .int .i64 (1+nodesL pre:Nat)→
  R F.tb (.loop F.f31l0) ρ bs (Qk 0 (Qw F.tb F.f31r0 (QB F.f31 bs)))=some (.int .i64 t.nodes,bs):=by
 have hm2:=Qq t
 have hn:=nodesL_le_mass t.kids
 unfold big at hm
 intro post
 induction post with
 | nil=>
  intro pre ρ hk h7 h8 h9 h3
  rw[Qc F.f31l0.eq_1]
  simp at hk
  simp[h3,h8,h9,← hk,F.f31r0,F.f31R,F.f31K,Yo]
 | cons x post IH=>
  intro pre ρ hk h7 h8 h9 h3
  have hg:=Qp hk
  have hl:t.kids.length=pre.length+ (post.length+1):=by rw[hk];simp
  have hnn:nodesL t.kids=nodesL pre+ (x.nodes+nodesL post):=by rw[hk,ZW];simp[nodesL]
  have hw1:IntKind.i64.wrap ((pre.length:Int)+1)=(pre.length:Int)+1:=Qj (by omega) (by omega)
  have hw2:IntKind.i64.wrap (1+ (nodesL pre:Int)+ (x.nodes:Int))=1+ (nodesL pre:Int)+ (x.nodes:Int):=Qj (by omega) (by omega)
  have hlt: (pre.length:Int) < (t.kids.length:Int):=by omega
  rw[Qc F.f31l0.eq_1]
  simp[h3,h7,h8,h9,hg,hw1,hw2,hlt,ih x (by rw[hk];simp)]
  rw[IH (pre ++ [x])] <;> simp[h3,h7,h8,h9,hk,ZW,nodesL]
  omega
theorem Uj: ∀(t:Tm) (bs:List (List AV)),t.mass < big→call F.tb 31 [.agg (Qb t)] bs=some (.int .i64 t.nodes,bs):=by
 refine Zd ?_
 intro k n s ks ih bs hm
 rw[Qa F.tb_31 _ _ rfl]
 simp[F.f31B,F.f31C]
 refine PT (.mk k n s ks) bs hm (fun x hx bs=>ih x hx bs ?_) ks [] _ ?_ ?_ ?_ ?_ ?_ <;> (try simp[nodesL])
 have:=QA hx;have:=Qq (.mk k n s ks);simp at *;omega
end Go.Am
namespace Go.Am
set_option maxRecDepth 8000
def two (bs:List (List AV)) (i j:Nat) (n d:Int):List (List AV):=(bs.set i [.int .i64 n]).set j [.int .i64 d]
section
variable {bs:List (List AV)} {i j:Nat} {n d m:Int}
theorem Ti: (two bs i j n d).length=bs.length:=by simp[two]
theorem Qc4 (hi:i < bs.length) (hij:i≠j): (two bs i j n d)[i]? =some [.int .i64 n]:=by
 rw[two,List.getElem?_set_ne (Ne.symm hij),List.getElem?_set_self hi]
theorem Qc5 (hj:j < bs.length): (two bs i j n d)[j]? =some [.int .i64 d]:=by simp[two,hj]
theorem QcL (hij:i≠j): (two bs i j n d).set i [.int .i64 m]=two bs i j m d:=by
 simp only[two];rw[List.set_comm _ _ (Ne.symm hij),List.set_set]
@[simp] theorem Ho {n' d':Int}:Yv (two bs i j n d) (two bs i j n' d')=true:=F3 (by simp[Ti]) fun k x y hx hy=>by
 unfold two at hx hy
 rw[List.getElem?_set]at hx hy
 split at hy
 ·split at hy
  ·injection hy with hy;subst hy;exact .inr rfl
  ·cases hy
 ·rename_i hjk
  rw[if_neg hjk]at hx
  rw[List.getElem?_set]at hx hy
  split at hy
  ·split at hy
   ·injection hy with hy;subst hy;exact .inr rfl
   ·cases hy
  ·rename_i hik
   rw[if_neg hik,hy]at hx
   injection hx with hx
   exact .inl hx.symm
theorem QcM: (two bs i j n d).set j [.int .i64 m]=two bs i j n m:=by simp[two]
end
def Wa (t:Tm):Int:=
 if t.kind=1∨t.kind=2 then
  if(t.sort < 0∨5 < t.sort)∨0 < t.kids.length then 1 else if YV t.name=false then 2 else if 8 < t.kids.length then 3 else 0
 else if t.kind=3 then
  if t.sort≠0 then 1 else if YV t.name=false then 2 else if 8 < t.kids.length then 3 else 0
 else 1
mutual
def Ye:Tm→Int
 | .mk k n s ks=>if Wa (.mk k n s ks)≠0 then Wa (.mk k n s ks)else errL ks
def errL:List Tm→Int
 | []=>0
 | t:: ts=>if Ye t≠0 then Ye t else errL ts
end
mutual
def X8:Tm→Int→Int×Int→Int×Int
 | .mk k n s ks,l,p=>if Wa (.mk k n s ks)≠0 then(p.1+1,if l > p.2 then l else p.2)else cntL ks l (p.1+1,if l > p.2 then l else p.2)
def cntL:List Tm→Int→Int×Int→Int×Int
 | [],_,p=>p
 | t:: ts,l,p=>if Ye t≠0 then X8 t (l+1) p else cntL ts l (X8 t (l+1) p)
end
mutual
theorem F5: ∀(t:Tm) (l:Int) (p:Int×Int),p.1≤(X8 t l p).1∧(X8 t l p).1≤p.1+t.nodes
 | .mk k n s ks,l,p=>by
  simp only[X8,Tm.nodes]
  have:=cntL_le ks l (p.1+1,if l > p.2 then l else p.2)
  split <;> simp at * <;> omega
theorem cntL_le: ∀(ts:List Tm) (l:Int) (p:Int×Int),p.1≤(cntL ts l p).1∧(cntL ts l p).1≤p.1+nodesL ts
 | [],l,p=>by simp[cntL,nodesL]
 | t:: ts,l,p=>by
  simp only[cntL,nodesL]
  have:=F5 t (l+1) p
  have:=cntL_le ts l (X8 t (l+1) p)
  split <;> omega
end
theorem Di (t:Tm) (l:Int) (bs:List (List AV)) (i j:Nat) (hi:i < bs.length) (hj:j < bs.length) (hij:i≠j) (hm:t.mass < big) (hl:0≤l∧l+t.depth≤big) (n0 d0:Int)
  (ih: ∀x∈t.kids,∀n d:Int,0≤n→n+x.nodes < 2*big→call F.tb 7 [.agg (Qb x),.int .i64 (l+1),.gp i 0,.gp j 0] (two bs i j n d)=some (.int .i64 (Ye x),two bs i j (X8 x (l+1) (n,d)).1 (X8 x (l+1) (n,d)).2)):
  ∀(post pre:List Tm) (n d:Int) (ρ:Nat→AV),0≤n→n+nodesL post < 2*big→t.kids=pre ++ post→ρ 57= .sl false 4 (encTs t.kids)→ρ 58= .int .i64 t.kids.length→ρ 59= .int .i64 pre.length→
   ρ 1= .int .i64 l→ρ 2= .gp i 0→ρ 3= .gp j 0→
  R F.tb (.loop F.f7l0) ρ (two bs i j n d) (Qk 1 (Qw F.tb F.f7r0 (QB F.f7 (two bs i j n0 d0))))=
   some (.int .i64 (errL post),two bs i j (cntL post l (n,d)).1 (cntL post l (n,d)).2):=by
 have hm2:=Qq t
 have hdp:=Pd t
 unfold big at *
 have hji:=Ne.symm hij
 intro post
 induction post with
 | nil=>
  intro pre n d ρ hn hnb hk h57 h58 h59 h1 h2 h3
  rw[Qc F.f7l0.eq_1]
  simp at hk
  simp[h1,h2,h3,h57,h58,h59,← hk,F.f7r0,F.f7R,F.f7K,errL,cntL,Ti]
  rw[List.take_of_length_le (by simp[Ti])]
  exact⟨Ho,rfl⟩
 | cons x post IH=>
  intro pre n d ρ hn hnb hk h57 h58 h59 h1 h2 h3
  have hg:=Qp hk
  have hlen:t.kids.length=pre.length+ (post.length+1):=by rw[hk];simp
  simp only[nodesL]at hnb
  have hw1:IntKind.i64.wrap ((pre.length:Int)+1)=(pre.length:Int)+1:=Qj (by omega) (by omega)
  have hw2:IntKind.i64.wrap (l+1)=l+1:=Qj (by omega) (by omega)
  have hlt: (pre.length:Int) < (t.kids.length:Int):=by omega
  have hx:=ih x (by rw[hk];simp) n d hn (by omega)
  have hc:=F5 x (l+1) (n,d)
  rw[Qc F.f7l0.eq_1]
  by_cases he:Ye x=0
  ·simp[h1,h2,h3,h57,h58,h59,hg,hw1,hw2,hlt,hx,he]
   simp only[errL,cntL,he,ne_eq,not_true,if_false]
   rw[IH (pre ++ [x])] <;> (first | (simp at hc;omega) | simp[h1,h2,h3,h57,h58,h59,hk])
  ·simp[h1,h2,h3,h57,h58,h59,hg,hw1,hw2,hlt,hx,he,F.f7R,F.f7K,errL,cntL]
   rw[List.take_of_length_le (by simp[Ti])]
   exact⟨Ho,rfl⟩
theorem Df: ∀(t:Tm) (l:Int) (bs:List (List AV)) (i j:Nat) (n d:Int),i < bs.length→j < bs.length→i≠j→t.mass < big→0≤l→l+t.depth≤big→0≤n→n+t.nodes < 2*big→
  call F.tb 7 [.agg (Qb t),.int .i64 l,.gp i 0,.gp j 0] (two bs i j n d)=some (.int .i64 (Ye t),two bs i j (X8 t l (n,d)).1 (X8 t l (n,d)).2):=by
 refine Zd ?_
 intro k nm s ks ih l bs i j n d hi hj hij hm hl hld hn hnb
 have hm2:=Qq (.mk k nm s ks)
 have hnn:=Yo (.mk k nm s ks)
 have hdp:=Pd (.mk k nm s ks)
 simp only[QO,Za]at hm2 hnn hdp
 have hdl:=depthL_le_nodes ks
 have hnm:=nodesL_le_mass ks
 have hloop: ∀ρ:Nat→AV,ρ 57= .sl false 4 (encTs ks)→ρ 58= .int .i64 ks.length→ρ 59= .int .i64 0→
   ρ 1= .int .i64 l→ρ 2= .gp i 0→ρ 3= .gp j 0→
  R F.tb (.loop F.f7l0) ρ (two bs i j (n+1) (if l > d then l else d)) (Qk 1 (Qw F.tb F.f7r0 (QB F.f7 (two bs i j n d))))=
   some (.int .i64 (errL ks),two bs i j (cntL ks l (n+1,if l > d then l else d)).1 (cntL ks l (n+1,if l > d then l else d)).2):=by
  intro ρ h57 h58 h59 h1 h2 h3
  refine Di (.mk k nm s ks) l bs i j hi hj hij hm ⟨hl,hld⟩ n d ?_ ks [] (n+1) (if l > d then l else d) ρ (by omega) (by omega) rfl h57 h58 h59 h1 h2 h3
  intro x hx n d hn hnb
  have h1:=QA hx
  have h2:=Me hx
  simp only[QO]at h1 h2
  exact ih x hx (l+1) bs i j n d hi hj hij (by omega) (by omega) (by omega) hn hnb
 unfold big at hm hnb
 have hw:IntKind.i64.wrap (n+1)=n+1:=Qj (by omega) (by omega)
 have hji:=Ne.symm hij
 have htk: ∀(a b:Int),List.take bs.length (two bs i j a b)=two bs i j a b:=fun a b=>List.take_of_length_le (by simp[Ti])
 have hnl:nm.length < 4611686018427387904:=by omega
 have hks: ((8:Int) < ks.length)=(8 < ks.length):=by rw[eq_iff_iff];omega
 rw[Qa F.tb_7 _ _ rfl]
 simp (config:={maxSteps:=1000000}) [F.f7B,F.f7C,F.f7R,F.f7K,hw,Qc4 hi hij,Qc5 hj,QcL hij,QcM,Ti,GE,hnl,htk,hks]
 simp only[gt_iff_lt]at hloop
 clear ih hm hl hld hn hnb hm2 hnn hdp hdl hnm hw htk hnl hks hi hj hij hji
 generalize hdd: (if d < l then l else d)=d' at *
 simp only[YN,decide_eq_true_eq,Bool.or_eq_true]
 repeat' split
 all_goals simp only[Ye,X8,Wa,XX,WK,Za,QO,gt_iff_lt,hdd]
 all_goals first
  | (rw[hloop] <;> simp[*];done)
  | (simp[*];done)
  | skip
def QK (t:Tm):Int:=if Ye t≠0 then Ye t else if 400 < t.nodes∨40 < t.depth then 3 else 0
mutual
theorem F6: ∀(t:Tm) (l:Int) (p:Int×Int),Ye t=0→X8 t l p=(p.1+t.nodes,max p.2 (l+t.depth - 1))
 | .mk k n s ks,l,p,h=>by
  simp only[Ye]at h
  split at h
  ·rename_i hne;exact absurd h hne
  ·rename_i hne
   simp only[X8,hne,if_false,Tm.nodes,Tm.depth]
   rw[cntL_ok ks l _ h]
   refine Prod.ext ?_ ?_
   ·simp;omega
   ·cases ks with
    | nil=>simp[depthL,nodesL];split <;> omega
    | cons t ts=>simp[depthL];split <;> omega
theorem cntL_ok: ∀(ts:List Tm) (l:Int) (p:Int×Int),errL ts=0→cntL ts l p=(p.1+nodesL ts,if ts=[]then p.2 else max p.2 (l+depthL ts))
 | [],l,p,_=>by simp[cntL,nodesL]
 | t:: ts,l,p,h=>by
  simp only[errL]at h
  split at h
  ·rename_i hne;exact absurd h hne
  ·rename_i hne
   have he:Ye t=0:=by simpa using hne
   simp only[cntL,hne,if_false,nodesL,depthL]
   rw[cntL_ok ts l _ h,F6 t (l+1) p he]
   refine Prod.ext ?_ ?_
   ·simp;omega
   ·cases ts with
    | nil=>simp[depthL];omega
    | cons u us=>simp[depthL];omega
end
theorem Xz (t:Tm) (bs:List (List AV)) (hm:t.mass < big):call F.tb 6 [.agg (Qb t)] bs=some (.int .i64 (QK t),bs):=by
 have h2:bs ++ [[AV.int .i64 0],[AV.int .i64 0]]=two (bs ++ [[AV.int .i64 0],[AV.int .i64 0]]) bs.length (bs.length+1) 0 0:=by
  simp[two]
 have hn:=Ze t
 have hd:=RR t
 have hb:big=1099511627776:=rfl
 have hc:=Df t 1 (bs ++ [[AV.int .i64 0],[AV.int .i64 0]]) bs.length (bs.length+1) 0 0 (by simp) (by simp) (by omega) hm (by omega) (by omega) (by omega) (by omega)
 rw[← h2]at hc
 have hi:=Qc4 (bs:=bs ++ [[AV.int .i64 0],[AV.int .i64 0]]) (i:=bs.length) (j:=bs.length+1) (n:=(X8 t 1 (0,0)).1) (d:=(X8 t 1 (0,0)).2) (by simp) (by omega)
 have hj:=Qc5 (bs:=bs ++ [[AV.int .i64 0],[AV.int .i64 0]]) (i:=bs.length) (j:=bs.length+1) (n:=(X8 t 1 (0,0)).1) (d:=(X8 t 1 (0,0)).2) (by simp)
 have htk:List.take bs.length (two (bs ++ [[AV.int .i64 0],[AV.int .i64 0]]) bs.length (bs.length+1) (X8 t 1 (0,0)).1 (X8 t 1 (0,0)).2)=bs:=by
  simp[two]
 have hcnt:=F6 t 1 (0,0)
 rw[Qa F.tb_6 _ _ rfl]
 simp[F.f6B,F.f6C,F.f6R,F.f6K,hc,hi,hj,htk,QK]
 by_cases he:Ye t=0
 ·have:=Pd t
  have e1: (400 < (t.nodes:Int))=(400 < t.nodes):=by rw[eq_iff_iff];omega
  have e2: (40 < (max 0 (1+ (t.depth:Int) - 1)))=(40 < t.depth):=by rw[eq_iff_iff];omega
  simp[he,hcnt he,e1,e2,YN]
 ·simp[he]
end Go.Am
namespace Go.Am
set_option maxRecDepth 8000
theorem R7 (a b:Int) (bs:List (List AV)):call F.tb 32 [.int .i64 a,.int .i64 b] bs=some (.int .i64 (sgn a b),bs):=PX a b bs
theorem Nu (a b:List UInt8) (bs:List (List AV)):call F.tb 33 [.str a,.str b] bs=some (.int .i64 (YE a b),bs):=by
 rw[XK F.tb_33];rfl
theorem Tj (t u:Tm) (bs:List (List AV)) (hm:t.mass < big) (hu:u.mass < big)
  (ih: ∀x∈t.kids,∀y bs,y.mass < big→call F.tb 30 [.agg (Qb x),.agg (Qb y)] bs=some (.int .i64 (Qm x y),bs)):
  ∀(xs ys pre pre':List Tm) (c:Int) (ρ:Nat→AV),t.kids=pre ++ xs→u.kids=pre' ++ ys→pre.length=pre'.length→(c=0→xs.length=ys.length)→
   ρ 2= .bx (Qb t)→ρ 3= .bx (Qb u)→ρ 5= .int .i64 c→ρ 6= .int .i64 pre.length→
  R F.tb (.loop F.f30l0) ρ bs (Qk 0 (Qw F.tb F.f30r0 (QB F.f30 bs)))=some (.int .i64 (or0 c (cmpL xs ys)),bs):=by
 have hm2:=Qq t
 have hu2:=Qq u
 intro xs
 induction xs with
 | nil=>
  intro ys pre pre' c ρ hk hk' hp hc h2 h3 h5 h6
  rw[Qc F.f30l0.eq_1]
  simp at hk
  by_cases h0:c=0
  ·simp[h2,h3,h5,h6,h0,F.f30r0,F.f30R,F.f30K,hk,cmpL,Jg]
  ·simp[h2,h3,h5,h6,h0,F.f30r0,F.f30R,F.f30K,cmpL,Jg]
 | cons x xs IH=>
  intro ys pre pre' c ρ hk hk' hp hc h2 h3 h5 h6
  rw[Qc F.f30l0.eq_1]
  by_cases h0:c=0
  ·obtain⟨y,ys',rfl⟩: ∃y ys',ys=y:: ys':=by
    have:=hc h0
    cases ys with
    | nil=>simp at this
    | cons y ys'=>exact⟨y,ys',rfl⟩
   have hg:=Qp hk
   have hg':=Qp hk'
   rw[← hp]at hg'
   have hl:t.kids.length=pre.length+ (xs.length+1):=by rw[hk];simp
   have hlt: (pre.length:Int) < (t.kids.length:Int):=by omega
   have hym:y.mass < big:=by have:=QA (x:=y) (ks:=u.kids) (by rw[hk'];simp);omega
   unfold big at hm hu
   have hw1:IntKind.i64.wrap ((pre.length:Int)+1)=(pre.length:Int)+1:=Qj (by omega) (by omega)
   simp[h2,h3,h5,h6,h0,hlt,hg,hg',hw1,ih x (by rw[hk];simp) y bs hym]
   rw[IH ys' (pre ++ [x]) (pre' ++ [y]) (Qm x y)] <;> first | omega | (simp[hk,hk',hp,h2,h3,cmpL,WO];done) | (intro _;have:=hc h0;simp at this;omega)
  ·simp[h2,h3,h5,h6,h0,F.f30r0,F.f30R,F.f30K,cmpL,VK]
theorem call_Compare: ∀(t u:Tm) (bs:List (List AV)),t.mass < big→u.mass < big→call F.tb 30 [.agg (Qb t),.agg (Qb u)] bs=some (.int .i64 (Qm t u),bs):=by
 refine Zd ?_
 intro k n s ks ih u bs hm hu
 have hloop:=Tj (.mk k n s ks) u bs hm hu (fun x hx y bs hy=>ih x hx y bs (by have:=QA hx;have:=Qq (.mk k n s ks);simp at *;omega) hy) ks u.kids [] [] (hdT (.mk k n s ks) u)
 rw[Qa F.tb_30 _ _ rfl,VW]
 have hsz:=Uj (.mk k n s ks) bs hm
 have hsz':=Uj u bs hu
 simp[F.f30B,F.f30C,hsz,hsz',R7,Nu]
 by_cases c1:sgn (Tm.mk k n s ks).nodes u.nodes=0 <;> by_cases c2:sgn k u.kind=0 <;> by_cases c3:YE n u.name=0 <;> by_cases c4:sgn s u.sort=0 <;>
  simp[c1,c2,c3,c4,YN] <;> rw[hloop] <;> first | (simp[hdT,c1,c2,c3,c4,WO,VK];done) | (simp[hdT,c1,c2,c3,c4,TB,WO,VK];omega) | skip
theorem EL (t:Tm) (bs:List (List AV)) (hm:t.mass < big) (ih: ∀x∈t.kids,∀bs,call F.tb 60 [.agg (Qb x)] bs=some (.int .i64 x.nodes,bs)):
  ∀(post pre:List Tm) (ρ:Nat→AV),t.kids=pre ++ post→ρ 1= .bx (Qb t)→ρ 4= .int .i64 pre.length→ρ 3= .int .i64 (1+nodesL pre:Nat)→
  R F.tb (.loop F.f60l0) ρ bs (Qk 0 (Qw F.tb F.f60r0 (QB F.f60 bs)))=some (.int .i64 t.nodes,bs):=by
 have hm2:=Qq t
 have hn:=nodesL_le_mass t.kids
 unfold big at hm
 intro post
 induction post with
 | nil=>
  intro pre ρ hk h1 h4 h3
  rw[Qc F.f60l0.eq_1]
  simp at hk
  simp[h1,h3,h4,← hk,F.f60r0,F.f60R,F.f60K,Yo]
 | cons x post IH=>
  intro pre ρ hk h1 h4 h3
  have hg:=Qp hk
  have hl:t.kids.length=pre.length+ (post.length+1):=by rw[hk];simp
  have hnn:nodesL t.kids=nodesL pre+ (x.nodes+nodesL post):=by rw[hk,ZW];simp[nodesL]
  have hw1:IntKind.i64.wrap ((pre.length:Int)+1)=(pre.length:Int)+1:=Qj (by omega) (by omega)
  have hw2:IntKind.i64.wrap (1+ (nodesL pre:Int)+ (x.nodes:Int))=1+ (nodesL pre:Int)+ (x.nodes:Int):=Qj (by omega) (by omega)
  have hlt: (pre.length:Int) < (t.kids.length:Int):=by omega
  rw[Qc F.f60l0.eq_1]
  simp[h3,h1,h4,hg,hw1,hw2,hlt,ih x (by rw[hk];simp)]
  rw[IH (pre ++ [x])] <;> simp[h3,h1,h4,hk,ZW,nodesL]
  omega
theorem R6: ∀(t:Tm) (bs:List (List AV)),t.mass < big→call F.tb 60 [.agg (Qb t)] bs=some (.int .i64 t.nodes,bs):=by
 refine Zd ?_
 intro k n s ks ih bs hm
 rw[Qa F.tb_60 _ _ rfl]
 simp[F.f60B,F.f60C]
 refine EL (.mk k n s ks) bs hm (fun x hx bs=>ih x hx bs ?_) ks [] _ ?_ ?_ ?_ ?_ <;> (try simp[nodesL])
 have:=QA hx;have:=Qq (.mk k n s ks);simp at *;omega
theorem K4 (a b:List Tm):depthL (a ++ b)=max (depthL a) (depthL b):=by
 induction a with
 | nil=>simp[depthL]
 | cons t ts ih=>simp[depthL,ih]
theorem Gr (t:Tm) (bs:List (List AV)) (hm:t.mass < big) (ih: ∀x∈t.kids,∀bs,call F.tb 61 [.agg (Qb x)] bs=some (.int .i64 x.depth,bs)):
  ∀(post pre:List Tm) (ρ:Nat→AV),t.kids=pre ++ post→ρ 1= .bx (Qb t)→ρ 4= .int .i64 pre.length→ρ 3= .int .i64 (depthL pre:Nat)→
  R F.tb (.loop F.f61l0) ρ bs (Qk 0 (Qw F.tb F.f61r0 (QB F.f61 bs)))=some (.int .i64 t.depth,bs):=by
 have hm2:=Qq t
 have hn:=depthL_le_nodes t.kids
 have hn2:=nodesL_le_mass t.kids
 unfold big at hm
 intro post
 induction post with
 | nil=>
  intro pre ρ hk h1 h4 h3
  rw[Qc F.f61l0.eq_1]
  simp at hk
  have hw2:IntKind.i64.wrap ((depthL pre:Int)+1)=(depthL pre:Int)+1:=Qj (by omega) (by rw[← hk];omega)
  simp[h1,h3,h4,hk,hw2,F.f61r0,F.f61R,F.f61K,Pd]
 | cons x post IH=>
  intro pre ρ hk h1 h4 h3
  have hg:=Qp hk
  have hl:t.kids.length=pre.length+ (post.length+1):=by rw[hk];simp
  have hw1:IntKind.i64.wrap ((pre.length:Int)+1)=(pre.length:Int)+1:=Qj (by omega) (by omega)
  have hlt: (pre.length:Int) < (t.kids.length:Int):=by omega
  rw[Qc F.f61l0.eq_1]
  simp[h3,h1,h4,hg,hw1,hlt,ih x (by rw[hk];simp)]
  rw[IH (pre ++ [x])] <;> simp[h3,h1,h4,hk,K4,depthL]
  split <;> omega
theorem GA: ∀(t:Tm) (bs:List (List AV)),t.mass < big→call F.tb 61 [.agg (Qb t)] bs=some (.int .i64 t.depth,bs):=by
 refine Zd ?_
 intro k n s ks ih bs hm
 rw[Qa F.tb_61 _ _ rfl]
 simp[F.f61B,F.f61C]
 refine Gr (.mk k n s ks) bs hm (fun x hx bs=>ih x hx bs ?_) ks [] _ ?_ ?_ ?_ ?_ <;> (try simp[depthL])
 have:=QA hx;have:=Qq (.mk k n s ks);simp at *;omega
theorem Ha (a b:Int) (bs:List (List AV)):call F.tb 91 [.int .i64 a,.int .i64 b] bs=some (.int .i64 (sgn a b),bs):=by
 rw[Qa F.tb_91 _ _ rfl]
 simp[F.f91,F.f91C,sgn]
theorem KT (t u:Tm) (bs:List (List AV)) (hm:t.mass < big) (hu:u.mass < big)
  (ih: ∀x∈t.kids,∀y bs,y.mass < big→call F.tb 90 [.agg (Qb x),.agg (Qb y)] bs=some (.int .i64 (Qm x y),bs)):
  ∀(xs ys pre pre':List Tm) (ρ:Nat→AV),t.kids=pre ++ xs→u.kids=pre' ++ ys→pre.length=pre'.length→xs.length=ys.length→
   ρ 2= .bx (Qb t)→ρ 3= .bx (Qb u)→ρ 9= .int .i64 pre.length→
  R F.tb (.loop F.f90l0) ρ bs (Qk 0 (Qw F.tb F.f90r0 (QB F.f90 bs)))=some (.int .i64 (cmpL xs ys),bs):=by
 have hm2:=Qq t
 have hu2:=Qq u
 intro xs
 induction xs with
 | nil=>
  intro ys pre pre' ρ hk hk' hp hc h2 h3 h9
  rw[Qc F.f90l0.eq_1]
  simp at hk
  simp[h2,h3,h9,F.f90r0,F.f90R,F.f90K,hk,cmpL]
 | cons x xs IH=>
  intro ys pre pre' ρ hk hk' hp hc h2 h3 h9
  rw[Qc F.f90l0.eq_1]
  obtain⟨y,ys',rfl⟩: ∃y ys',ys=y:: ys':=by
   cases ys with
   | nil=>simp at hc
   | cons y ys'=>exact⟨y,ys',rfl⟩
  have hg:=Qp hk
  have hg':=Qp hk'
  rw[← hp]at hg'
  have hl:t.kids.length=pre.length+ (xs.length+1):=by rw[hk];simp
  have hlt: (pre.length:Int) < (t.kids.length:Int):=by omega
  have hym:y.mass < big:=by have:=QA (x:=y) (ks:=u.kids) (by rw[hk'];simp);omega
  unfold big at hm hu
  have hw1:IntKind.i64.wrap ((pre.length:Int)+1)=(pre.length:Int)+1:=Qj (by omega) (by omega)
  by_cases h0:Qm x y=0
  ·simp[h2,h3,h9,h0,hlt,hg,hg',hw1,ih x (by rw[hk];simp) y bs hym]
   rw[IH ys' (pre ++ [x]) (pre' ++ [y])] <;> first | omega | (simp[hk,hk',hp,h0,h2,h3,cmpL,WO];done) | (simp at hc;omega)
  ·simp[h2,h3,h9,h0,hlt,hg,hg',hw1,ih x (by rw[hk];simp) y bs hym,F.f90R,F.f90K,cmpL,VK]
theorem Xv: ∀(t u:Tm) (bs:List (List AV)),t.mass < big→u.mass < big→call F.tb 90 [.agg (Qb t),.agg (Qb u)] bs=some (.int .i64 (Qm t u),bs):=by
 refine Zd ?_
 intro k n s ks ih u bs hm hu
 have hloop:=KT (.mk k n s ks) u bs hm hu (fun x hx y bs hy=>ih x hx y bs (by have:=QA hx;have:=Qq (.mk k n s ks);simp at *;omega) hy) ks u.kids [] []
 rw[Qa F.tb_90 _ _ rfl,VW]
 have hsz:=R6 (.mk k n s ks) bs hm
 have hsz':=R6 u bs hu
 simp[F.f90B,F.f90C,F.f90R,F.f90K,hsz,hsz',Ha]
 have b0:YE n u.name=if Op.bytesLess n u.name then -1 else if(Op.bytesLess n u.name || n == u.name)=false then 1 else 0:=by
  unfold YE;cases Op.bytesLess n u.name <;> cases hh: (n == u.name) <;> simp
 generalize (n == u.name)=q at *
 generalize Op.bytesLess n u.name=p at *
 by_cases c1:sgn (Tm.mk k n s ks).nodes u.nodes=0 <;> by_cases c2:sgn k u.kind=0 <;> cases p <;> cases q <;> by_cases c4:sgn s u.sort=0 <;>
  by_cases c6:sgn ks.length u.kids.length=0 <;> simp[c1,c2,c4,c6,YN,hdT,WO,VK,b0]
 all_goals (rw[hloop] <;> (try simp) <;> (try (have:=TB.1 c6;omega)))
theorem Y2 (t u:Tm) (bs:List (List AV)) (hm:t.mass < big) (hu:u.mass < big):call F.tb 89 [.agg (Qb t),.agg (Qb u)] bs=some (.bool (decide (Qm t u=0)),bs):=by
 rw[Qa F.tb_89 _ _ rfl]
 simp[F.f89,F.f89C,Xv t u bs hm hu]
end Go.Am
namespace Go.Am
set_option maxRecDepth 8000
mutual
def Vz:Tm→Int→Int
 | .mk _ n _ ks,m=>if m≤0∨40 < n.length then -1 else budL ks (m - 1)
def budL:List Tm→Int→Int
 | [],m=>m
 | t:: ts,m=>if Vz t m < 0 then -1 else budL ts (Vz t m)
end
mutual
theorem LC: ∀(t:Tm) (m:Int),Vz t m= -1∨0≤Vz t m∧Vz t m+t.nodes≤m∧t.mass+1≤42*t.nodes
 | .mk k n s ks,m=>by
  simp only[Vz,Tm.nodes,Tm.mass]
  split
  ·exact .inl rfl
  ·rename_i h
   rcases budL_le ks (m - 1) (by omega)with h1 | h1
   ·exact .inl h1
   ·right;omega
theorem budL_le: ∀(ts:List Tm) (m:Int),0≤m→budL ts m= -1∨0≤budL ts m∧budL ts m+nodesL ts≤m∧massL ts+ts.length≤42*nodesL ts
 | [],m,h=>by simp[budL,nodesL,massL];omega
 | t:: ts,m,h=>by
  simp only[budL,nodesL,massL,List.length_cons]
  split
  ·exact .inl rfl
  ·rename_i h0
   rcases LC t m with h1 | h1
   ·omega
   ·rcases budL_le ts (Vz t m) (by omega)with h2 | h2
    ·exact .inl h2
    ·right
     omega
end
theorem Qbe (t:Tm) (bs:List (List AV)) (m0:Int) (hm:m0 < 1000000) (ih: ∀x∈t.kids,∀(m:Int) bs,m < 1000000→call F.tb 102 [.agg (Qb x),.int .i64 m] bs=some (.int .i64 (Vz x m),bs)):
  ∀(post pre:List Tm) (m:Int) (ρ:Nat→AV),t.kids=pre ++ post→0≤m→m+pre.length≤m0→ρ 2= .bx (Qb t)→ρ 5= .int .i64 pre.length→ρ 1= .int .i64 m→
  R F.tb (.loop F.f102l0) ρ bs (Qk 0 (Qw F.tb F.f102r0 (QB F.f102 bs)))=some (.int .i64 (budL post m),bs):=by
 intro post
 induction post with
 | nil=>
  intro pre m ρ hk h0 hp h2 h5 h1
  rw[Qc F.f102l0.eq_1]
  simp at hk
  simp[h1,h2,h5,hk,F.f102r0,F.f102R,F.f102K,budL]
 | cons x post IH=>
  intro pre m ρ hk h0 hp h2 h5 h1
  have hg:=Qp hk
  have hl:t.kids.length=pre.length+ (post.length+1):=by rw[hk];simp
  have hw1:IntKind.i64.wrap ((pre.length:Int)+1)=(pre.length:Int)+1:=Qj (by omega) (by omega)
  have hlt: (pre.length:Int) < (t.kids.length:Int):=by omega
  have hn:=Yo x
  rw[Qc F.f102l0.eq_1]
  rcases LC x m with hb | hb
  ·simp[h1,h2,h5,hg,hw1,hlt,ih x (by rw[hk];simp) m bs (by omega),hb,F.f102R,F.f102K,budL]
  ·have hb0: ¬Vz x m < 0:=by omega
   simp[h1,h2,h5,hg,hw1,hlt,ih x (by rw[hk];simp) m bs (by omega),hb0,budL]
   rw[IH (pre ++ [x]) (Vz x m)] <;> first | omega | (simp[h1,h2,h5,hk];done) | (simp;omega)
theorem Hg: ∀(t:Tm) (m:Int) (bs:List (List AV)),m < 1000000→call F.tb 102 [.agg (Qb t),.int .i64 m] bs=some (.int .i64 (Vz t m),bs):=by
 refine Zd ?_
 intro k n s ks ih m bs hm
 rw[Qa F.tb_102 _ _ rfl]
 have hn: (40 < (n.length:Int))=(40 < n.length):=by rw[eq_iff_iff];omega
 simp[F.f102B,F.f102C,F.f102R,F.f102K,YN,hn,Vz]
 split
 ·rfl
 ·rename_i hc
  have hw:IntKind.i64.wrap (m - 1)=m - 1:=Qj (by omega) (by omega)
  refine Qbe (.mk k n s ks) bs m hm (fun x hx=>ih x hx) ks [] (m - 1) _ ?_ ?_ ?_ ?_ ?_ ?_ <;> first | (simp[hw];done) | (simp;omega)
def few (l:List Tm) (n:Nat) (m:Int):Bool:=decide (l.length≤n) && decide (0≤budL l m)
theorem QbI (l:List Tm) (o:Bool) (bs:List (List AV)) (hl:l.length < 1000000):
  ∀(post pre:List Tm) (m:Int) (ρ:Nat→AV),l=pre ++ post→0≤m→m < 1000000→ρ 0= .sl o 4 (encTs l)→ρ 7= .int .i64 pre.length→ρ 2= .int .i64 m→
  R F.tb (.loop F.f101l0) ρ bs (Qk 0 (Qw F.tb F.f101r0 (QB F.f101 bs)))=some (.bool (decide (0≤budL post m)),bs):=by
 intro post
 induction post with
 | nil=>
  intro pre m ρ hk h0 hm hr0 h7 h2
  rw[Qc F.f101l0.eq_1]
  simp at hk
  simp[hr0,h7,h2,hk,F.f101r0,F.f101R,F.f101K,budL,h0]
 | cons x post IH=>
  intro pre m ρ hk h0 hm hr0 h7 h2
  have hg:=Qp hk
  have hl:l.length=pre.length+ (post.length+1):=by rw[hk];simp
  have hw1:IntKind.i64.wrap ((pre.length:Int)+1)=(pre.length:Int)+1:=Qj (by omega) (by omega)
  have hlt: (pre.length:Int) < (l.length:Int):=by omega
  rw[Qc F.f101l0.eq_1]
  rcases LC x m with hb | hb
  ·simp[hr0,h7,h2,hg,hw1,hlt,Hg x m bs (by omega),hb,F.f101R,F.f101K,budL]
  ·have hb0: ¬Vz x m < 0:=by omega
   simp[hr0,h7,h2,hg,hw1,hlt,Hg x m bs (by omega),hb0,budL]
   rw[IH (pre ++ [x]) (Vz x m)] <;> first | omega | (simp[hr0,h7,h2,hk];done)
theorem Tl (l:List Tm) (o:Bool) (n:Nat) (m:Int) (bs:List (List AV)) (hn:n < 1000000) (h0:0≤m) (hm:m < 1000000):
  call F.tb 101 [.sl o 4 (encTs l),.int .i64 n,.int .i64 m] bs=some (.bool (few l n m),bs):=by
 rw[Qa F.tb_101 _ _ rfl]
 have e1: ((n:Int) < (l.length:Int))=(n < l.length):=by rw[eq_iff_iff];omega
 simp[F.f101B,F.f101C,F.f101R,F.f101K,YN,few]
 split
 ·have: ¬l.length≤n:=by omega
  simp[this]
 ·have:l.length≤n:=by omega
  rw[QbI l false bs (by omega) l [] m] <;> simp[this,h0,hm]
end Go.Am
namespace Go.Am
set_option maxRecDepth 8000
def Vn (c:UInt8):Bool:=(97≤c.toNat && c.toNat≤122) || (65≤c.toNat && c.toNat≤90)
def Tp (c:UInt8):Bool:=48≤c.toNat && c.toNat≤57
theorem Vh (c:UInt8):VL c=(Vn c || Tp c || c.toNat == 95 || c.toNat == 35):=rfl
theorem WJ (m n:Nat): ((m:Int)≤(n:Int))=(m≤n):=by rw[eq_iff_iff];omega
theorem T6 (c:UInt8) (bs:List (List AV)):call F.tb 58 [.int .u8 c.toNat] bs=some (.bool (Vn c),bs):=by
 rw[Qa F.tb_58 _ _ rfl]
 have e1: ((97:Int)≤(c.toNat:Int))=(97≤c.toNat):=WJ 97 _
 have e2: ((c.toNat:Int)≤122)=(c.toNat≤122):=WJ _ 122
 have e3: ((65:Int)≤(c.toNat:Int))=(65≤c.toNat):=WJ 65 _
 have e4: ((c.toNat:Int)≤90)=(c.toNat≤90):=WJ _ 90
 simp[F.f58,F.f58C,Vn,e1,e2,e3,e4]
theorem Ma (c:UInt8) (bs:List (List AV)):call F.tb 59 [.int .u8 c.toNat] bs=some (.bool (Tp c),bs):=by
 rw[Qa F.tb_59 _ _ rfl]
 have e1: ((48:Int)≤(c.toNat:Int))=(48≤c.toNat):=WJ 48 _
 have e2: ((c.toNat:Int)≤57)=(c.toNat≤57):=WJ _ 57
 simp[F.f59,F.f59C,Tp,e1,e2]
theorem Ke (n:Nat): ((n:Int)=95)=(n=95):=by rw[eq_iff_iff];omega
theorem Kd (n:Nat): ((n:Int)=35)=(n=35):=by rw[eq_iff_iff];omega
theorem Jk (s:List UInt8) (bs:List (List AV)) (hs:s.length < 4611686018427387904): ∀(post pre:List UInt8) (ρ:Nat→AV),s=pre ++ post→ρ 0= .str s→ρ 3= .int .i64 pre.length→
  R F.tb (.loop F.f57l0) ρ bs (Qk 0 (Qw F.tb F.f57r0 (QB F.f57 bs)))=some (.bool (post.all VL),bs):=by
 intro post
 induction post with
 | nil=>
  intro pre ρ hk h0 h3
  rw[Qc F.f57l0.eq_1]
  simp at hk
  simp[h0,h3,hk,F.f57r0,F.f57R,F.f57K]
 | cons x post IH=>
  intro pre ρ hk h0 h3
  have hg:=Qp hk
  have hl:s.length=pre.length+ (post.length+1):=by rw[hk];simp
  have hw1:IntKind.i64.wrap ((pre.length:Int)+1)=(pre.length:Int)+1:=Qj (by omega) (by omega)
  have hlt: (pre.length:Int) < (s.length:Int):=by omega
  rw[Qc F.f57l0.eq_1]
  cases hp:VL x
  ·rw[Vh]at hp
   simp only[Bool.or_eq_false_iff]at hp
   obtain⟨⟨⟨p1,p2⟩,p3⟩,p4⟩:=hp
   have p3': ¬x.toNat=95:=by simpa using p3
   have p4': ¬x.toNat=35:=by simpa using p4
   simp[h0,h3,hg,hw1,hlt,T6,Ma,p1,p2,p3',p4',Ke,Kd,F.f57R,F.f57K,Vh]
  ·simp[h0,h3,hg,hw1,hlt,T6,Ma,Ke,Kd,F.f57R,F.f57K,Vh,YN]
   split
   ·rename_i hc
    simp[Vh,hc]at hp
   ·rw[IH (pre ++ [x])]
    ·simp[Vh]at hp
     simp[hp]
    ·simp[hk]
    ·simp[h0]
    ·simp
theorem DH {c:UInt8} (h:Vn c=true):Tp c=false∧(c.toNat == 95)=false∧(c.toNat == 35)=false:=by
 simp only[Vn,Bool.or_eq_true,Bool.and_eq_true,decide_eq_true_eq]at h
 refine⟨?_,?_,?_⟩
 ·simp only[Tp,Bool.and_eq_false_iff,decide_eq_false_iff_not];omega
 ·simp;omega
 ·simp;omega
theorem GS (c:UInt8) (r:List UInt8):YV (c:: r)=(decide (r.length < 24) && Vn c && (c:: r).all VL):=by
 have hd: (decide (48≤c.toNat) && decide (c.toNat≤57))=Tp c:=rfl
 simp only[YV,List.all_cons,hd,bne]
 cases hl:Vn c
 ·rw[Vh,hl]
  cases Tp c <;> cases (c.toNat == 95) <;> cases (c.toNat == 35) <;> simp
 ·obtain⟨h1,h2,h3⟩:=DH hl
  rw[Vh,hl,h1,h2,h3]
  simp
theorem I9 (s:List UInt8) (bs:List (List AV)) (hs:s.length < 4611686018427387904):call F.tb 57 [.str s] bs=some (.bool (YV s),bs):=by
 rw[Qa F.tb_57 _ _ rfl]
 cases s with
 | nil=>simp[F.f57B,F.f57C,F.f57R,F.f57K,YV]
 | cons c r=>
  have e1: (24 < (r.length:Int)+1)=¬(r.length < 24):=by rw[eq_iff_iff];omega
  have e2: ((r.length:Int)+1=0)=False:=eq_false (by omega)
  rw[GS]
  by_cases h1:r.length < 24 <;> cases h2:Vn c <;>
  simp[F.f57B,F.f57C,F.f57R,F.f57K,T6,e1,e2,h1,h2,-List.all_cons]
  rw[Jk (c:: r) bs hs (c:: r) []] <;> (try simp)
theorem Qbx {n:Nat} (h:n < 10): (([48,49,50,51,52,53,54,55,56,57]:List UInt8).take (n+1)).drop n=[(48+n).toUInt8]:=by
 have: ∀n < 10,(([48,49,50,51,52,53,54,55,56,57]:List UInt8).take (n+1)).drop n=[(48+n).toUInt8]:=by decide
 exact this n h
theorem Aq (n:Nat) (bs:List (List AV)) (h:n < 1000000000):call F.tb 18 [.int .i64 n] bs=some (.str (XV n),bs):=by
 rw[XK F.tb_18]
 have h2: -9223372036854775808≤(n:Int)∧(n:Int)≤9223372036854775807:=by omega
 show Option.map _ (OT [.int .i64 n])=_
 unfold OT
 simp only[if_pos h2,QeZ]
 rfl
theorem N8 (s:List UInt8) (n:Int) (bs:List (List AV)):call F.tb 107 [.str s,.int .i64 n] bs=some (.agg (Qb (.mk 2 s n [])),bs):=by
 rw[Qa F.tb_107 _ _ rfl]
 simp[F.f107,F.f107C,Mh]
end Go.Am
namespace Go.Am
set_option maxRecDepth 8000
theorem YD: ∀a:List UInt8,Op.bytesLess a a=false
 | []=>rfl
 | c:: r=>by simp[Op.bytesLess,YD r]
theorem Kg (a:List UInt8):YE a a=0:=by simp[YE,YD]
theorem Qcw (a:Int):sgn a a=0:=TB.2 rfl
theorem QbN (t:Tm):hdT t t=0:=by simp[hdT,Qcw,Kg,or0]
mutual
theorem XA: ∀t:Tm,Qm t t=0
 | .mk k n s ks=>by rw[Qm,QbN,WO];exact cmpL_refl ks
theorem cmpL_refl: ∀ts:List Tm,cmpL ts ts=0
 | []=>by simp[cmpL]
 | t:: ts=>by rw[cmpL,XA t,WO];exact cmpL_refl ts
end
theorem Tq {l:List Tm} {n:Nat} {m:Int} (h0:0≤m) (h:few l n m=true):l.length≤n∧massL l+l.length≤42*m.toNat∧nodesL l≤m.toNat:=by
 simp only[few,Bool.and_eq_true,decide_eq_true_eq]at h
 rcases budL_le l m h0 with h1 | h1
 ·omega
 ·omega
end Go.Am
