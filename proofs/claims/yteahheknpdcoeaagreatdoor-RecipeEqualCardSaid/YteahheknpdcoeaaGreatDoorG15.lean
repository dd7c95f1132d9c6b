/-
  Am21, Am22, Am23, Ge1, Ge2, Ge3, Ge4.
-/
import Derived.Test.YteahheknpdcoeaaGreatDoorG10
import Derived.Test.YteahheknpdcoeaaGreatDoorG14
set_option linter.unusedVariables false
set_option linter.unusedSimpArgs false
namespace Go.Am
abbrev Out := Option (AV × List (List AV))
abbrev Kn := Ex → St → Out
section
variable {T : Nat → Option AFn}
noncomputable def R (T : Nat → Option AFn) (c : AC) (ρ : Nat → AV) (bs : List (List AV)) (k : Kn) : Out := match run T c ⟨ρ,bs⟩ with
 | some (e,s) => k e s
 | none => none
noncomputable def O (T : Nat → Option AFn) (os : List AOper) (ρ : Nat → AV) (bs : List (List AV)) (k : Kn) : Out := match runOps (call T) os ⟨ρ,bs⟩ with
 | some s => k .normal s
 | none => none
noncomputable def E (T : Nat → Option AFn) (r : Option (AV × St)) (d : Option Nat) (os : List AOper) (k : Kn) : Out := match r with
 | some p => O T os (setD p.2.env d p.1) p.2.bs k
 | none => none
def guardB (c b : Bool) (x y : Out) : Out := if c = b then x else y
noncomputable def seqK (T : Nat → Option AFn) (b : AC) (k : Kn) : Kn := fun e s => match e with
 | .normal => match run T b s with
  | some (e,s) => k e s
  | none => none
 | e => k e s
def blockK (id : Nat) (k : Kn) : Kn := fun e s => match e with
 | .exit i => k (if i = id then .normal else .exit i) s
 | e => k e s
def finK (fn : AFun) (n : List (List AV)) : Kn := fun e s => match e with
 | .normal => finish fn n s
 | .ret => finish fn n s
 | .exit _ => none
theorem guardB_tt (x y : Out) : guardB true true x y = x := rfl
theorem guardB_ff (x y : Out) : guardB false false x y = x := rfl
theorem guardB_tf (x y : Out) : guardB true false x y = y := rfl
theorem guardB_ft (x y : Out) : guardB false true x y = y := rfl
theorem guardB_same (c b : Bool) (x : Out) : guardB c b x x = x := by unfold guardB; split <;> rfl
theorem guardB_not (c b : Bool) (x y : Out) : guardB (!c) b x y = guardB c (!b) x y := by cases c <;> cases b <;> rfl
theorem guardB_ite (c b : Bool) (x y : Out) : guardB c b x y = if c = b then x else y := rfl
theorem R_skip (ρ : Nat → AV) (bs : List (List AV)) (k : Kn) : R T .skip ρ bs k = k .normal ⟨ρ,bs⟩ := by simp only [R,run_skip]
theorem R_ret (ρ : Nat → AV) (bs : List (List AV)) (k : Kn) : R T .ret ρ bs k = k .ret ⟨ρ,bs⟩ := by simp only [R,run_ret]
theorem R_exit (id : Nat) (ρ : Nat → AV) (bs : List (List AV)) (k : Kn) : R T (.exit id) ρ bs k = k (.exit id) ⟨ρ,bs⟩ := by simp only [R,run_exit]
theorem R_reg (d : Bool) (ops : List AOper) (ρ : Nat → AV) (bs : List (List AV)) (k : Kn) : R T (.reg d ops) ρ bs k = O T ops ρ bs k := by
 simp only [R,O,run_reg]
 cases runOps (call T) ops ⟨ρ,bs⟩ <;> rfl
theorem R_seq (a b : AC) (ρ : Nat → AV) (bs : List (List AV)) (k : Kn) : R T (.seq a b) ρ bs k = R T a ρ bs (seqK T b k) := by
 simp only [R,run_seq]
 cases run T a ⟨ρ,bs⟩ with
 | none => rfl
 | some x =>
  obtain ⟨e,s⟩ := x
  cases e <;> rfl
theorem R_block (id : Nat) (c : AC) (ρ : Nat → AV) (bs : List (List AV)) (k : Kn) : R T (.block id c) ρ bs k = R T c ρ bs (blockK id k) := by
 simp only [R,run_block]
 cases run T c ⟨ρ,bs⟩ with
 | none => rfl
 | some x =>
  obtain ⟨e,s⟩ := x
  cases e <;> rfl
theorem R_loop (c : AC) (ρ : Nat → AV) (bs : List (List AV)) (k : Kn) : R T (.loop c) ρ bs k = R T c ρ bs (seqK T (.loop c) k) := by
 simp only [R]
 rw [run_loop]
 cases run T c ⟨ρ,bs⟩ with
 | none => rfl
 | some x =>
  obtain ⟨e,s⟩ := x
  cases e <;> rfl
theorem seqK_normal (b : AC) (k : Kn) (ρ : Nat → AV) (bs : List (List AV)) : seqK T b k .normal ⟨ρ,bs⟩ = R T b ρ bs k := rfl
theorem seqK_ret (b : AC) (k : Kn) (s : St) : seqK T b k .ret s = k .ret s := rfl
theorem seqK_exit (b : AC) (k : Kn) (s : St) (id : Nat) : seqK T b k (.exit id) s = k (.exit id) s := rfl
theorem blockK_normal (id : Nat) (k : Kn) (s : St) : blockK id k .normal s = k .normal s := rfl
theorem blockK_ret (id : Nat) (k : Kn) (s : St) : blockK id k .ret s = k .ret s := rfl
theorem blockK_exit (id : Nat) (k : Kn) (s : St) : blockK id k (.exit id) s = k .normal s := by simp [blockK]
theorem finK_normal (fn : AFun) (k : List (List AV)) (s : St) : finK fn k .normal s = finish fn k s := rfl
theorem finK_ret (fn : AFun) (k : List (List AV)) (s : St) : finK fn k .ret s = finish fn k s := rfl
noncomputable def condV (T : Nat → Option AFn) (v : AV) (n : Nat) (a b : AC) (ρ : Nat → AV) (bs : List (List AV)) (k : Kn) : Out := match v with
 | .bool c => guardB c true (R T a (upd ρ n (.bool true)) bs k) (R T b (upd ρ n (.bool false)) bs k)
 | _ => none
theorem upd_eq {ρ : Nat → AV} {n : Nat} {v : AV} (h : ρ n = v) : upd ρ n v = ρ := by
 funext j
 unfold upd
 split
 ·rename_i hj; rw [hj,h]
 ·rfl
theorem R_cond (n : Nat) (a b : AC) (ρ : Nat → AV) (bs : List (List AV)) (k : Kn) : R T (.cond (.t n) a b) ρ bs k = condV T (ρ n) n a b ρ bs k := by
 simp only [R,run_cond,val,condV]
 cases h : ρ n <;> try rfl
 rename_i c
 cases c
 ·simp only [AV.strip,guardB_ft,upd_eq h]
 ·simp only [AV.strip,guardB_tt,upd_eq h]
theorem condV_bool (c : Bool) (n : Nat) (a b : AC) (ρ : Nat → AV) (bs : List (List AV)) (k : Kn) :
  condV T (.bool c) n a b ρ bs k = guardB c true (R T a (upd ρ n (.bool true)) bs k) (R T b (upd ρ n (.bool false)) bs k) := rfl
theorem O_nil (ρ : Nat → AV) (bs : List (List AV)) (k : Kn) : O T [] ρ bs k = k .normal ⟨ρ,bs⟩ := rfl
theorem O_cons (d : Option Nat) (op : AOp) (os : List AOper) (ρ : Nat → AV) (bs : List (List AV)) (k : Kn) :
  O T (⟨d,op,none⟩ :: os) ρ bs k = E T (exec (call T) op ⟨ρ,bs⟩) d os k := by
 simp only [O,E,runOps,runOp]
 cases exec (call T) op ⟨ρ,bs⟩ <;> rfl
noncomputable def guardV (T : Nat → Option AFn) (v : AV) (t : Nat) (b : Bool) (d : Option Nat) (op : AOp) (os : List AOper) (ρ : Nat → AV) (bs : List (List AV)) (k : Kn) : Out := match v with
 | .bool c => guardB c b (E T (exec (call T) op ⟨upd ρ t (.bool b),bs⟩) d os k) (O T os (setD (upd ρ t (.bool (!b))) d (.tup [])) bs k)
 | .tup [] => O T os (setD ρ d (.tup [])) bs k
 | _ => none
theorem O_cons_g (d : Option Nat) (op : AOp) (t : Nat) (b : Bool) (os : List AOper) (ρ : Nat → AV) (bs : List (List AV)) (k : Kn) :
  O T (⟨d,op,some (t,b)⟩ :: os) ρ bs k = guardV T (ρ t) t b d op os ρ bs k := by
 simp only [O,runOps,runOp,guardV]
 cases h : ρ t <;> try rfl
 ·rename_i c
  by_cases hcb : c = b
  ·subst hcb
   simp only [guardB,if_true,upd_eq h,E]
   cases exec (call T) op ⟨ρ,bs⟩ <;> rfl
  ·have hcb2 : c = !b := by cases c <;> cases b <;> simp_all
   subst hcb2
   simp only [guardB,hcb,if_false,upd_eq h]
   rfl
 ·rename_i vs
  cases vs <;> rfl
theorem guardV_bool (c : Bool) (t : Nat) (b : Bool) (d : Option Nat) (op : AOp) (os : List AOper) (ρ : Nat → AV) (bs : List (List AV)) (k : Kn) :
  guardV T (.bool c) t b d op os ρ bs k = guardB c b (E T (exec (call T) op ⟨upd ρ t (.bool b),bs⟩) d os k) (O T os (setD (upd ρ t (.bool (!b))) d (.tup [])) bs k) := rfl
theorem guardV_tup (t : Nat) (b : Bool) (d : Option Nat) (op : AOp) (os : List AOper) (ρ : Nat → AV) (bs : List (List AV)) (k : Kn) :
  guardV T (.tup []) t b d op os ρ bs k = O T os (setD ρ d (.tup [])) bs k := rfl
theorem E_some (v : AV) (ρ : Nat → AV) (bs : List (List AV)) (d : Nat) (os : List AOper) (k : Kn) : E T (some (v,⟨ρ,bs⟩)) (some d) os k = O T os (upd ρ d v) bs k := rfl
theorem E_some0 (v : AV) (ρ : Nat → AV) (bs : List (List AV)) (os : List AOper) (k : Kn) : E T (some (v,⟨ρ,bs⟩)) none os k = O T os ρ bs k := rfl
theorem E_none (d : Option Nat) (os : List AOper) (k : Kn) : E T none d os k = none := rfl
theorem setD_some (ρ : Nat → AV) (d : Nat) (v : AV) : setD ρ (some d) v = upd ρ d v := rfl
theorem setD_none (ρ : Nat → AV) (v : AV) : setD ρ none v = ρ := rfl
theorem call_code {f : Nat} {fn : AFun} (h : T f = some (.code fn)) (args : List AV) (bs : List (List AV)) (hl : args.length = fn.nparams) :
  call T f args bs = R T fn.body (argEnv args) bs (finK fn bs) := by
 rw [call_eq,h]
 simp only [hl,if_true,R]
 cases run T fn.body ⟨argEnv args,bs⟩ with
 | none => rfl
 | some x =>
  obtain ⟨e,s⟩ := x
  cases e <;> rfl
theorem call_orc {f : Nat} {g : List AV → List (List AV) → Option (AV × List (List AV))} (h : T f = some (.orc g)) (args : List AV) (bs : List (List AV)) : call T f args bs = g args bs := by
 rw [call_eq,h]
theorem argEnv_0 (a : AV) (aq : List AV) : argEnv (a :: aq) 0 = a.strip := rfl
theorem argEnv_succ (a : AV) (aq : List AV) (i : Nat) : argEnv (a :: aq) (i + 1) = argEnv aq i := rfl
theorem upd_same (ρ : Nat → AV) (i : Nat) (v : AV) : upd ρ i v i = v := by simp [upd]
variable {K : CallF} (ρ : Nat → AV) (bs : List (List AV))
theorem val_t (n : Nat) : val ρ (.t n) = (ρ n).strip := rfl
theorem val_c (v : AV) : val ρ (.c v) = v := rfl
end
end Go.Am
namespace Go.Am
section
variable {T : Nat → Option AFn}
def isSkip (b : Bool) : AV → Bool
 | .bool c => c == !b
 | .tup [] => true
 | _ => false
noncomputable def O2 (T : Nat → Option AFn) (c : Bool) (_t : Nat) (b : Bool) (os : List AOper) (ρ1 ρ2 : Nat → AV) (bs1 bs2 : List (List AV)) (k : Kn) : Out :=
 if c = b then O T os ρ1 bs1 k else O T os ρ2 bs2 k
noncomputable def E2 (T : Nat → Option AFn) (c : Bool) (_t : Nat) (b : Bool) (r : Option (AV × St)) (d : Option Nat) (os : List AOper) (ρ2 : Nat → AV) (bs2 : List (List AV)) (k : Kn) : Out :=
 if c = b then E T r d os k else O T os (setD ρ2 d (.tup [])) bs2 k
def selV (c b : Bool) (x y : AV) : AV := if c = b then x else y
def selS (c b : Bool) (x y : List (List AV)) : List (List AV) := if c = b then x else y
def mrg (c b : Bool) (ρ1 ρ2 : Nat → AV) : Nat → AV := fun j => selV c b (ρ1 j) (ρ2 j)
theorem mrg_get (c b : Bool) (ρ1 ρ2 : Nat → AV) (j : Nat) : mrg c b ρ1 ρ2 j = selV c b (ρ1 j) (ρ2 j) := rfl
theorem O2_join (c : Bool) (t : Nat) (b : Bool) (os : List AOper) (ρ1 ρ2 : Nat → AV) (bs1 bs2 : List (List AV)) (k : Kn) :
  O2 T c t b os ρ1 ρ2 bs1 bs2 k = O T os (mrg c b ρ1 ρ2) (selS c b bs1 bs2) k := by
 unfold O2
 split
 ·rename_i h
  have : mrg c b ρ1 ρ2 = ρ1 := by funext j; simp [mrg,selV,h]
  rw [this,selS,if_pos h]
 ·rename_i h
  have : mrg c b ρ1 ρ2 = ρ2 := by funext j; simp [mrg,selV,h]
  rw [this,selS,if_neg h]
theorem O2_nil (c : Bool) (t : Nat) (b : Bool) (ρ1 ρ2 : Nat → AV) (bs1 bs2 : List (List AV)) (k : Kn) :
  O2 T c t b [] ρ1 ρ2 bs1 bs2 k = O T [] (mrg c b ρ1 ρ2) (selS c b bs1 bs2) k := O2_join c t b [] ρ1 ρ2 bs1 bs2 k
theorem O2_free (c : Bool) (t : Nat) (b : Bool) (d : Option Nat) (op : AOp) (os : List AOper) (ρ1 ρ2 : Nat → AV) (bs1 bs2 : List (List AV)) (k : Kn) :
  O2 T c t b (⟨d,op,none⟩ :: os) ρ1 ρ2 bs1 bs2 k = O T (⟨d,op,none⟩ :: os) (mrg c b ρ1 ρ2) (selS c b bs1 bs2) k := O2_join c t b _ ρ1 ρ2 bs1 bs2 k
theorem O2_other (c : Bool) (t : Nat) (b : Bool) (d : Option Nat) (op : AOp) (t' : Nat) (b' : Bool) (os : List AOper) (ρ1 ρ2 : Nat → AV) (bs1 bs2 : List (List AV)) (k : Kn) (_h : ((t' == t) && (b' == b)) = false) :
  O2 T c t b (⟨d,op,some (t',b')⟩ :: os) ρ1 ρ2 bs1 bs2 k = guardB c b (O T (⟨d,op,some (t',b')⟩ :: os) ρ1 bs1 k) (O T (⟨d,op,some (t',b')⟩ :: os) ρ2 bs2 k) := by
 unfold O2 guardB; rfl
theorem O2_same (c : Bool) (t : Nat) (b : Bool) (d : Option Nat) (op : AOp) (os : List AOper) (ρ1 ρ2 : Nat → AV) (bs1 bs2 : List (List AV)) (k : Kn) (h1 : ρ1 t = .bool b) (h2 : isSkip b (ρ2 t) = true) :
  O2 T c t b (⟨d,op,some (t,b)⟩ :: os) ρ1 ρ2 bs1 bs2 k = E2 T c t b (exec (call T) op ⟨ρ1,bs1⟩) d os ρ2 bs2 k := by
 unfold O2 E2
 split
 ·rw [O_cons_g,h1,guardV_bool,guardB_ite,if_pos rfl,upd_eq h1]
 ·rw [O_cons_g]
  unfold isSkip at h2
  split at h2
  ·rename_i c hc
   rw [hc,guardV_bool]
   simp only [beq_iff_eq] at h2
   subst h2
   rw [guardB_ite,if_neg (by cases b <;> simp),upd_eq hc]
  ·rename_i hc
   rw [hc,guardV_tup]
  ·cases h2
theorem E2_some (c : Bool) (t : Nat) (b : Bool) (v : AV) (ρ1 : Nat → AV) (bs1 : List (List AV)) (d : Option Nat) (os : List AOper) (ρ2 : Nat → AV) (bs2 : List (List AV)) (k : Kn) :
  E2 T c t b (some (v,⟨ρ1,bs1⟩)) d os ρ2 bs2 k = O2 T c t b os (setD ρ1 d v) (setD ρ2 d (.tup [])) bs1 bs2 k := rfl
noncomputable def G (T : Nat → Option AFn) (v : AV) (d : Option Nat) (op : AOp) (t : Nat) (b : Bool) (os : List AOper) (ρ : Nat → AV) (bs : List (List AV)) (k : Kn) : Out := match v with
 | .bool c => O2 T c t b (⟨d,op,some (t,b)⟩ :: os) (upd ρ t (.bool b)) (upd ρ t (.bool (!b))) bs bs k
 | .tup [] => O T os (setD (upd ρ t (.tup [])) d (.tup [])) bs k
 | _ => none
theorem G_bool (c : Bool) (d : Option Nat) (op : AOp) (t : Nat) (b : Bool) (os : List AOper) (ρ : Nat → AV) (bs : List (List AV)) (k : Kn) :
  G T (.bool c) d op t b os ρ bs k = O2 T c t b (⟨d,op,some (t,b)⟩ :: os) (upd ρ t (.bool b)) (upd ρ t (.bool (!b))) bs bs k := rfl
theorem G_tup (d : Option Nat) (op : AOp) (t : Nat) (b : Bool) (os : List AOper) (ρ : Nat → AV) (bs : List (List AV)) (k : Kn) :
  G T (.tup []) d op t b os ρ bs k = O T os (setD (upd ρ t (.tup [])) d (.tup [])) bs k := rfl
theorem O_guard (d : Option Nat) (op : AOp) (t : Nat) (b : Bool) (os : List AOper) (ρ : Nat → AV) (bs : List (List AV)) (k : Kn) :
  O T (⟨d,op,some (t,b)⟩ :: os) ρ bs k = G T (ρ t) d op t b os ρ bs k := by
 cases h : ρ t <;> try (rw [O_cons_g,h]; rfl)
 ·rename_i c
  rw [G_bool]
  unfold O2
  by_cases hcb : c = b
  ·subst hcb
   simp [upd_eq h]
  ·have hcb2 : c = !b := by cases c <;> cases b <;> simp_all
   subst hcb2
   rw [upd_eq h,if_neg hcb]
 ·rename_i vs
  cases vs with
  | nil => rw [G_tup,O_cons_g,h,guardV_tup,upd_eq h]
  | cons v vs => rw [O_cons_g,h]; rfl
theorem G_true (d : Option Nat) (op : AOp) (t : Nat) (os : List AOper) (ρ : Nat → AV) (bs : List (List AV)) (k : Kn) :
  G T (.bool true) d op t true os ρ bs k = E T (exec (call T) op ⟨upd ρ t (.bool true),bs⟩) d os k := by
 rw [G_bool]; unfold O2; rw [if_pos rfl,O_cons_g,upd_same,guardV_bool,guardB_tt,upd_eq (upd_same _ _ _)]
theorem G_false (d : Option Nat) (op : AOp) (t : Nat) (os : List AOper) (ρ : Nat → AV) (bs : List (List AV)) (k : Kn) :
  G T (.bool false) d op t false os ρ bs k = E T (exec (call T) op ⟨upd ρ t (.bool false),bs⟩) d os k := by
 rw [G_bool]; unfold O2; rw [if_pos rfl,O_cons_g,upd_same,guardV_bool,guardB_ff,upd_eq (upd_same _ _ _)]
theorem G_tf (d : Option Nat) (op : AOp) (t : Nat) (os : List AOper) (ρ : Nat → AV) (bs : List (List AV)) (k : Kn) :
  G T (.bool true) d op t false os ρ bs k = O T os (setD (upd ρ t (.bool true)) d (.tup [])) bs k := by
 rw [G_bool]; unfold O2; rw [if_neg (by simp),O_cons_g,upd_same]; simp only [guardV_bool,guardB_tf,Bool.not_false]; rw [upd_eq (upd_same _ _ _)]
theorem G_ft (d : Option Nat) (op : AOp) (t : Nat) (os : List AOper) (ρ : Nat → AV) (bs : List (List AV)) (k : Kn) :
  G T (.bool false) d op t true os ρ bs k = O T os (setD (upd ρ t (.bool false)) d (.tup [])) bs k := by
 rw [G_bool]; unfold O2; rw [if_neg (by simp),O_cons_g,upd_same]; simp only [guardV_bool,guardB_ft,Bool.not_true]; rw [upd_eq (upd_same _ _ _)]
theorem selV_same (c b : Bool) (x : AV) : selV c b x x = x := by unfold selV; split <;> rfl
theorem selS_same (c b : Bool) (x : List (List AV)) : selS c b x x = x := by unfold selS; split <;> rfl
theorem selV_l (c b : Bool) (x y z : AV) : selV c b (selV c b x y) z = selV c b x z := by unfold selV; split <;> simp_all
theorem selV_r (c b : Bool) (x y z : AV) : selV c b x (selV c b y z) = selV c b x z := by unfold selV; split <;> simp_all
theorem selV_tl (c : Bool) (x y z : AV) : selV c true (selV c false x y) z = selV c true y z := by cases c <;> rfl
theorem selV_tr (c : Bool) (x y z : AV) : selV c true x (selV c false y z) = selV c true x y := by cases c <;> rfl
theorem selV_fl (c : Bool) (x y z : AV) : selV c false (selV c true x y) z = selV c false y z := by cases c <;> rfl
theorem selV_fr (c : Bool) (x y z : AV) : selV c false x (selV c true y z) = selV c false x y := by cases c <;> rfl
theorem selV_swap (c : Bool) (x y : AV) : selV c false x y = selV c true y x := by cases c <;> rfl
theorem selV_lit (x y : AV) : selV true true x y = x := rfl
theorem selV_lit' (x y : AV) : selV false true x y = y := rfl
theorem selV_bool (c x y : Bool) : selV c true (.bool x) (.bool y) = .bool (bif c then x else y) := by cases c <;> rfl
theorem selV_int (c : Bool) (k : IntKind) (x y : Int) : selV c true (.int k x) (.int k y) = .int k (bif c then x else y) := by cases c <;> rfl
theorem selV_strip (c b : Bool) (x y : AV) : (selV c b x y).strip = selV c b x.strip y.strip := by unfold selV; split <;> rfl
theorem selV_ok (c b : Bool) (x y : AV) : (selV c b x y).ok = if c = b then x.ok else y.ok := by unfold selV; split <;> rfl
theorem selV_one (c b : Bool) (x y : AV) : (selV c b x y).one = if c = b then x.one else y.one := by unfold selV; split <;> rfl
theorem selV_skip (c b d : Bool) (x y : AV) : isSkip d (selV c b x y) = if c = b then isSkip d x else isSkip d y := by unfold selV; split <;> rfl
theorem isSkip_bool (c b : Bool) : isSkip b (.bool c) = (c == !b) := rfl
theorem isSkip_tup (b : Bool) : isSkip b (.tup []) = true := rfl
def pickV (v x y : AV) (s : St) : Option (AV × St) := match v with
 | .bool c => let v := selV c true x y; if v.ok then some (v,s) else none
 | _ => none
theorem e_pick {K : CallF} (c a b : AO) (ρ : Nat → AV) (bs : List (List AV)) : exec K (.pick c a b) ⟨ρ,bs⟩ = pickV (val ρ c) (val ρ a) (val ρ b) ⟨ρ,bs⟩ := by
 simp only [exec,pickV]
 cases val ρ c <;> try rfl
 rename_i x
 cases x <;> rfl
theorem pickV_bool (c : Bool) (x y : AV) (s : St) : pickV (.bool c) x y s = if (selV c true x y).ok then some (selV c true x y,s) else none := rfl
end
end Go.Am
namespace Go.Am
theorem upd_get (ρ : Nat → AV) (i : Nat) (v : AV) (j : Nat) : upd ρ i v j = if j = i then v else ρ j := rfl
theorem s_strip_undef  : AV.strip (.undef) = .undef := rfl
theorem s_ok_undef  : AV.ok (.undef) = false := rfl
theorem s_one_undef  : AV.one (.undef) = false := rfl
theorem s_gpf_undef  : AV.gpfree (.undef) = true := rfl
theorem s_strip_int (k : IntKind) (n : Int) : AV.strip (.int k n) = .int k n := rfl
theorem s_ok_int (k : IntKind) (n : Int) : AV.ok (.int k n) = true := rfl
theorem s_one_int (k : IntKind) (n : Int) : AV.one (.int k n) = true := rfl
theorem s_gpf_int (k : IntKind) (n : Int) : AV.gpfree (.int k n) = true := rfl
theorem s_strip_bool (b : Bool) : AV.strip (.bool b) = .bool b := rfl
theorem s_ok_bool (b : Bool) : AV.ok (.bool b) = true := rfl
theorem s_one_bool (b : Bool) : AV.one (.bool b) = true := rfl
theorem s_gpf_bool (b : Bool) : AV.gpfree (.bool b) = true := rfl
theorem s_strip_anyb  : AV.strip (.anyb) = .anyb := rfl
theorem s_ok_anyb  : AV.ok (.anyb) = true := rfl
theorem s_one_anyb  : AV.one (.anyb) = true := rfl
theorem s_gpf_anyb  : AV.gpfree (.anyb) = true := rfl
theorem s_strip_str (s : List UInt8) : AV.strip (.str s) = .str s := rfl
theorem s_ok_str (s : List UInt8) : AV.ok (.str s) = true := rfl
theorem s_one_str (s : List UInt8) : AV.one (.str s) = true := rfl
theorem s_gpf_str (s : List UInt8) : AV.gpfree (.str s) = true := rfl
theorem s_strip_agg (cs : List AV) : AV.strip (.agg cs) = .agg cs := rfl
theorem s_ok_agg (cs : List AV) : AV.ok (.agg cs) = true := rfl
theorem s_one_agg (cs : List AV) : AV.one (.agg cs) = false := rfl
theorem s_gpf_agg (cs : List AV) : AV.gpfree (.agg cs) = gpfreeL cs := rfl
theorem s_strip_sl (o : Bool) (z : Nat) (xs : List (List AV)) : AV.strip (.sl o z xs) = .sl false z xs := rfl
theorem s_ok_sl (o : Bool) (z : Nat) (xs : List (List AV)) : AV.ok (.sl o z xs) = true := rfl
theorem s_one_sl (o : Bool) (z : Nat) (xs : List (List AV)) : AV.one (.sl o z xs) = true := rfl
theorem s_gpf_sl (o : Bool) (z : Nat) (xs : List (List AV)) : AV.gpfree (.sl o z xs) = gpfreeE xs := rfl
theorem s_strip_bx (cs : List AV) : AV.strip (.bx cs) = .bx cs := rfl
theorem s_ok_bx (cs : List AV) : AV.ok (.bx cs) = false := rfl
theorem s_one_bx (cs : List AV) : AV.one (.bx cs) = false := rfl
theorem s_gpf_bx (cs : List AV) : AV.gpfree (.bx cs) = gpfreeL cs := rfl
theorem s_strip_gp (i o : Nat) : AV.strip (.gp i o) = .gp i o := rfl
theorem s_ok_gp (i o : Nat) : AV.ok (.gp i o) = true := rfl
theorem s_one_gp (i o : Nat) : AV.one (.gp i o) = true := rfl
theorem s_gpf_gp (i o : Nat) : AV.gpfree (.gp i o) = false := rfl
theorem s_strip_gs (i o z n : Nat) : AV.strip (.gs i o z n) = .gs i o z n := rfl
theorem s_ok_gs (i o z n : Nat) : AV.ok (.gs i o z n) = true := rfl
theorem s_one_gs (i o z n : Nat) : AV.one (.gs i o z n) = true := rfl
theorem s_strip_rptr (cs : List AV) : AV.strip (.rptr cs) = .rptr cs := rfl
theorem s_ok_rptr (cs : List AV) : AV.ok (.rptr cs) = true := rfl
theorem s_one_rptr (cs : List AV) : AV.one (.rptr cs) = true := rfl
theorem s_gpf_rptr (cs : List AV) : AV.gpfree (.rptr cs) = gpfreeL cs := rfl
theorem s_strip_fn (f : Nat) (cs : List AV) : AV.strip (.fn f cs) = .fn f cs := rfl
theorem s_ok_fn (f : Nat) (cs : List AV) : AV.ok (.fn f cs) = true := rfl
theorem s_one_fn (f : Nat) (cs : List AV) : AV.one (.fn f cs) = true := rfl
theorem s_gpf_fn (f : Nat) (cs : List AV) : AV.gpfree (.fn f cs) = gpfreeL cs := rfl
theorem s_strip_tup (vs : List AV) : AV.strip (.tup vs) = .tup vs := rfl
theorem s_ok_tup (vs : List AV) : AV.ok (.tup vs) = true := rfl
theorem s_one_tup (vs : List AV) : AV.one (.tup vs) = false := rfl
theorem s_gpf_tup (vs : List AV) : AV.gpfree (.tup vs) = gpfreeL vs := rfl
theorem s_strip_err (b : Bool) : AV.strip (.err b) = .err b := rfl
theorem s_ok_err (b : Bool) : AV.ok (.err b) = true := rfl
theorem s_one_err (b : Bool) : AV.one (.err b) = true := rfl
theorem s_gpf_err (b : Bool) : AV.gpfree (.err b) = true := rfl
theorem ite_then {α : Type} (p : Prop) [Decidable p] (a b c : α) : (if p then (if p then a else b) else c) = if p then a else c := by split <;> simp_all
theorem ite_else {α : Type} (p : Prop) [Decidable p] (a b c : α) : (if p then a else (if p then b else c)) = if p then a else c := by split <;> simp_all
attribute [simp] s_strip_undef s_ok_undef s_one_undef s_gpf_undef s_strip_int s_ok_int s_one_int s_gpf_int s_strip_bool s_ok_bool s_one_bool s_gpf_bool s_strip_anyb s_ok_anyb s_one_anyb s_gpf_anyb s_strip_str s_ok_str s_one_str s_gpf_str s_strip_agg s_ok_agg s_one_agg s_gpf_agg s_strip_sl s_ok_sl s_one_sl s_gpf_sl s_strip_bx s_ok_bx s_one_bx s_gpf_bx s_strip_gp s_ok_gp s_one_gp s_gpf_gp s_strip_gs s_ok_gs s_one_gs s_strip_rptr s_ok_rptr s_one_rptr s_gpf_rptr s_strip_fn s_ok_fn s_one_fn s_gpf_fn s_strip_tup s_ok_tup s_one_tup s_gpf_tup s_strip_err s_ok_err s_one_err s_gpf_err ite_then ite_else
attribute [simp] R_skip R_ret R_exit R_reg R_seq R_block R_cond O_nil O_cons O_guard E_some E_some0 E_none setD_some setD_none condV_bool seqK_normal seqK_ret seqK_exit blockK_normal blockK_ret blockK_exit finK_normal finK_ret guardB_tt guardB_tf guardB_ff guardB_ft guardB_not guardB_same exec val_t val_c argEnv_0 argEnv_succ abin aun finish readAll readRes gpfreeL gpfreeE okVals rdCells cellsOf put upd_get O2_nil O2_free O2_other O2_same E2_some mrg_get G_bool G_tup isSkip_bool isSkip_tup selV_same selS_same selV_l selV_r selV_tl selV_tr selV_fl selV_fr selV_swap selV_lit selV_lit' selV_bool selV_int selV_strip selV_ok selV_one selV_skip pickV_bool
attribute [simp ↓] e_pick
attribute [simp 2000] G_true G_false G_tf G_ft
theorem guardB_swap (c : Bool) (x y : Out) : guardB c false x y = guardB c true y x := by cases c <;> rfl
theorem guardB_join (c x y : Bool) (s : List (List AV)) : guardB c true (some (.bool x,s)) (some (.bool y,s)) = some (.bool (bif c then x else y),s) := by cases c <;> rfl
theorem guardB_joinI (c : Bool) (k : IntKind) (x y : Int) (s : List (List AV)) : guardB c true (some (.int k x,s)) (some (.int k y,s)) = some (.int k (bif c then x else y),s) := by cases c <;> rfl
theorem R_loop' {T : Nat → Option AFn} {c c' : AC} (h : c = c') (ρ : Nat → AV) (bs : List (List AV)) (k : Kn) : R T (.loop c) ρ bs k = R T c' ρ bs (seqK T (.loop c) k) := by
 subst h; exact R_loop c ρ bs k
attribute [simp] toI
theorem some_get {α : Type} (x : α) (xs : List α) : (x :: xs)[0]? = some x := rfl
attribute [simp] guardB_swap guardB_join guardB_joinI fillSt elemsOf bound Bool.cond_decide
theorem wrap64 {n : Int} (h1 : -9223372036854775808 ≤ n) (h2 : n < 9223372036854775808) : IntKind.i64.wrap n = n := by
 simp only [IntKind.wrap_i64]
 omega
@[simp] theorem stV_t (n : Nat) (vs : List AV) : stV (.t n) vs = vs.map AV.strip := rfl
@[simp] theorem stV_nil (z : Nat) (vs : List AV) : stV (.c (.sl true z [])) vs = vs.map fun _ => .sl true z [] := rfl
@[simp] theorem stV_int (k : IntKind) (n : Int) (vs : List AV) : stV (.c (.int k n)) vs = vs.map AV.strip := rfl
@[simp] theorem stV_str (s : List UInt8) (vs : List AV) : stV (.c (.str s)) vs = vs.map AV.strip := rfl
@[simp] theorem stV_bool (b : Bool) (vs : List AV) : stV (.c (.bool b)) vs = vs.map AV.strip := rfl
@[simp] theorem stV_agg (cs : List AV) (vs : List AV) : stV (.c (.agg cs)) vs = vs.map AV.strip := rfl
@[simp] theorem stV_err (b : Bool) (vs : List AV) : stV (.c (.err b)) vs = vs.map AV.strip := rfl
@[simp] theorem nilC_gs (i o k : Nat) : nilC (.gs i o 0 0) (.sl true k []) = .sl true k [] := rfl
@[simp] theorem nilC_int (k : IntKind) (n : Int) (z : AV) : nilC (.int k n) z = .int k n := rfl
@[simp] theorem nilC_str (s : List UInt8) (z : AV) : nilC (.str s) z = .str s := rfl
@[simp] theorem nilC_bool (b : Bool) (z : AV) : nilC (.bool b) z = .bool b := rfl
@[simp] theorem nilC_sl (o : Bool) (k : Nat) (xs : List (List AV)) (z : AV) : nilC (.sl o k xs) z = .sl false k xs := rfl
attribute [simp] nilCs
@[simp] theorem s_strip_mp (i : Nat) : AV.strip (.mp i) = .mp i := rfl
@[simp] theorem s_ok_mp (i : Nat) : AV.ok (.mp i) = true := rfl
@[simp] theorem s_one_mp (i : Nat) : AV.one (.mp i) = true := rfl
@[simp] theorem s_gpf_mp (i : Nat) : AV.gpfree (.mp i) = false := rfl
mutual
theorem eqV_refl : ∀ a : AV,eqV a a = true
 | .undef => rfl
 | .int k n => by simp [eqV]
 | .bool b => by simp [eqV]
 | .anyb => rfl
 | .str s => by simp [eqV]
 | .agg a => by simp only [eqV]; exact eqVL_refl a
 | .sl o z a => by simp only [eqV,beq_self_eq_true,decide_true,Bool.true_and]; exact eqVE_refl a
 | .bx a => by simp only [eqV]; exact eqVL_refl a
 | .gp i o => by simp [eqV]
 | .gs i o z n => by simp [eqV]
 | .rptr a => by simp only [eqV]; exact eqVL_refl a
 | .fn f a => by simp only [eqV,decide_true,Bool.true_and]; exact eqVL_refl a
 | .tup a => by simp only [eqV]; exact eqVL_refl a
 | .err b => by simp [eqV]
 | .mp i => by simp [eqV]
theorem eqVL_refl : ∀ a : List AV,eqVL a a = true
 | [] => rfl
 | x :: xs => by simp only [eqVL,eqV_refl x,eqVL_refl xs,Bool.true_and]
theorem eqVE_refl : ∀ a : List (List AV),eqVE a a = true
 | [] => rfl
 | x :: xs => by simp only [eqVE,eqVL_refl x,eqVE_refl xs,Bool.true_and]
end
@[simp] theorem chkB_self : ∀ bs : List (List AV),chkB bs bs = true
 | [] => rfl
 | x :: xs => by simp only [chkB,eqVL_refl,chkB_self xs,Bool.true_or,Bool.true_and]
@[simp] theorem chkB_nil (ys : List (List AV)) : chkB [] ys = true := rfl
@[simp] theorem chkB_append (a b c : List (List AV)) : chkB (a ++ b) (a ++ c) = chkB b c := by
 induction a with
 | nil => rfl
 | cons x xs ih => simp only [List.cons_append,chkB,eqVL_refl,ih,Bool.true_or,Bool.true_and]
@[simp] theorem chkB_app (a c : List (List AV)) : chkB a (a ++ c) = true := by
 have := chkB_append a [] c
 simpa using this
@[simp] theorem chkB_cons (x : List AV) (xs ys : List (List AV)) : chkB (x :: xs) (x :: ys) = chkB xs ys := by simp only [chkB,eqVL_refl,Bool.true_or,Bool.true_and]
@[simp] theorem chkB_set {cs : List AV} (h : gpfreeL cs = true) : ∀ (bs : List (List AV)) (i : Nat),chkB bs (bs.set i cs) = true
 | [],_ => rfl
 | x :: xs,0 => by simp only [List.set_cons_zero,chkB,h,chkB_self,Bool.or_true,Bool.and_true]
 | x :: xs,i + 1 => by simp only [List.set_cons_succ,chkB,eqVL_refl,chkB_set h xs i,Bool.true_or,Bool.and_true]
theorem chkB_of : ∀ {xs ys : List (List AV)},xs.length ≤ ys.length → (∀ (i : Nat) (x y : List AV),xs[i]? = some x → ys[i]? = some y → x = y ∨ gpfreeL y = true) → chkB xs ys = true
 | [],_,_,_ => rfl
 | _ :: _,[],h,_ => by simp at h
 | x :: xs,y :: ys,h,hh => by
  simp only [chkB,Bool.and_eq_true,Bool.or_eq_true]
  refine ⟨?_,chkB_of (by simpa using h) fun i a b ha hb => hh (i + 1) a b (by simpa using ha) (by simpa using hb)⟩
  rcases hh 0 x y rfl rfl with h1 | h1
  ·subst h1; exact .inl (eqVL_refl x)
  ·exact .inr h1
@[simp] theorem chkB_gp {x y : List AV} (h : gpfreeL y = true) (xs ys : List (List AV)) : chkB (x :: xs) (y :: ys) = chkB xs ys := by simp only [chkB,h,Bool.or_true,Bool.true_and]
@[simp] theorem gpfreeL_nil : gpfreeL [] = true := rfl
@[simp] theorem gpfreeL_cons (x : AV) (xs : List AV) : gpfreeL (x :: xs) = (x.gpfree && gpfreeL xs) := rfl
@[simp] theorem gpfreeL_rep : ∀ n : Nat,gpfreeL (List.replicate n .undef) = true
 | 0 => rfl
 | n + 1 => by rw [List.replicate_succ,gpfreeL_cons,gpfreeL_rep n]; rfl
@[simp] theorem chkB_set_nil (bs : List (List AV)) (i : Nat) : chkB bs (bs.set i []) = true := chkB_set rfl bs i
end Go.Am
namespace Go.Am
set_option maxRecDepth 8000
theorem call_sign (a b : Int) (bs : List (List AV)) : call F.tb 32 [.int .i64 a,.int .i64 b] bs = some (.int .i64 (if a < b then -1 else if a > b then 1 else 0),bs) := by
 rw [call_code F.tb_32 _ _ rfl]
 simp [F.f32,F.f32C]
def partB (c : UInt8) : Bool := (97 ≤ c.toNat && c.toNat ≤ 122) || (65 ≤ c.toNat && c.toNat ≤ 90) || (48 ≤ c.toNat && c.toNat ≤ 57) || c.toNat == 95 || c.toNat == 35
theorem cast_beq (n m : Nat) : ((n : Int) == (m : Int)) = (n == m) := by rw [Bool.eq_iff_iff,beq_iff_eq,beq_iff_eq]; omega
theorem cast_beq95 (n : Nat) : ((n : Int) == 95) = (n == 95) := cast_beq n 95
theorem cast_beq35 (n : Nat) : ((n : Int) == 35) = (n == 35) := cast_beq n 35
theorem call_part (c : UInt8) (bs : List (List AV)) : call F.tb 9 [.int .u8 c.toNat] bs = some (.bool (partB c),bs) := by
 rw [call_code F.tb_9 _ _ rfl]
 simp (config := { maxSteps := 1000000 }) [F.f9,F.f9C,partB,cast_beq95,cast_beq35]
 have e1 : ∀ m : Nat,((m : Int) ≤ (c.toNat : Int)) = (m ≤ c.toNat) := fun m => by simp
 have e2 : ∀ m : Nat,((c.toNat : Int) ≤ (m : Int)) = (c.toNat ≤ m) := fun m => by simp
 simp only [show (97 : Int) = ((97 : Nat) : Int) from rfl,show (122 : Int) = ((122 : Nat) : Int) from rfl,show (65 : Int) = ((65 : Nat) : Int) from rfl,show (90 : Int) = ((90 : Nat) : Int) from rfl,show (48 : Int) = ((48 : Nat) : Int) from rfl,show (57 : Int) = ((57 : Nat) : Int) from rfl,e1,e2]
 by_cases h1 : 97 ≤ c.toNat <;> by_cases h2 : c.toNat ≤ 122 <;> by_cases h3 : 65 ≤ c.toNat <;> by_cases h4 : c.toNat ≤ 90 <;> by_cases h5 : 48 ≤ c.toNat <;> by_cases h6 : c.toNat ≤ 57 <;> simp [h1,h2,h3,h4,h5,h6]
theorem isName_loop (s : List UInt8) (bs : List (List AV)) (hs : s.length < 4611686018427387904) : ∀ (k i : Nat) (ρ : Nat → AV),s.length - i = k → i ≤ s.length → ρ 0 = .str s → ρ 38 = .int .i64 s.length → ρ 39 = .int .i64 i →
  R F.tb (.loop F.f8l0) ρ bs (blockK 0 (seqK F.tb F.f8r0 (finK F.f8 bs))) = some (.bool ((s.drop i).all partB),bs) := by
 intro k
 induction k with
 | zero =>
  intro i ρ hk hi h0 h38 h39
  have : i = s.length := by omega
  subst this
  rw [R_loop' F.f8l0.eq_1]
  simp [h0,h38,h39,F.f8r0,F.f8R,F.f8K]
 | succ k ih =>
  intro i ρ hk hi h0 h38 h39
  have hlt : i < s.length := by omega
  have hw : IntKind.i64.wrap ((i : Int) + 1) = ((i + 1 : Nat) : Int) := wrap64 (by omega) (by omega)
  rw [R_loop' F.f8l0.eq_1,List.drop_eq_getElem_cons hlt,List.all_cons]
  cases hb : partB s[i]
  ·simp [h0,h38,h39,F.f8R,F.f8K,hlt,call_part,hb]
  ·simp [h0,h38,h39,hlt,call_part,hb,hw]
   rw [ih (i + 1)] <;> first | rfl | omega | simp [h0,h38]
def isNameB : List UInt8 → Bool
 | [] => false
 | c :: r => decide (r.length < 24) && partB c && !(decide (48 ≤ c.toNat) && decide (c.toNat ≤ 57)) && c.toNat != 95 && c.toNat != 35 && r.all partB
theorem call_isName (s : List UInt8) (bs : List (List AV)) (hs : s.length < 4611686018427387904) : call F.tb 8 [.str s] bs = some (.bool (isNameB s),bs) := by
 rw [call_code F.tb_8 _ _ rfl]
 cases s with
 | nil => simp [F.f8B,F.f8C,F.f8R,F.f8K,isNameB]
 | cons c r =>
  have hl := isName_loop (c :: r) bs hs ((c :: r).length - 0) 0
  simp (config := { maxSteps := 1000000 }) [F.f8B,F.f8C,F.f8R,F.f8K,call_part,hl,cast_beq95,cast_beq35]
  have e1 : (24 < (r.length : Int) + 1) = (¬ r.length < 24) := by rw [eq_iff_iff]; omega
  have e2 : ((48 : Int) ≤ (c.toNat : Int)) = (48 ≤ c.toNat) := by rw [eq_iff_iff]; omega
  have e3 : ((c.toNat : Int) ≤ 57) = (c.toNat ≤ 57) := by rw [eq_iff_iff]; omega
  simp only [isNameB,e1,e2,e3,bne]
  by_cases h1 : r.length < 24 <;> by_cases h2 : 48 ≤ c.toNat <;> by_cases h3 : c.toNat ≤ 57 <;> cases partB c <;> simp [h1,h2,h3]
end Go.Am
namespace Go.Am
set_option maxRecDepth 8000
attribute [simp] int_beq int_bne
attribute [simp] mk_kind mk_name mk_sort mk_kids
attribute [simp] encTs_length encTs_get encT_length encT_strip encT_take encT_drop encT_0 encT_1 encT_2 encT_3 encT_g0 encT_g1 encT_g2 encT_g3 encT_gp encTs_gp
attribute [simp] Int.toNat_natCast
attribute [simp] int_beq int_bne
theorem Size_loop (t : Tm) (bs : List (List AV)) (hm : t.mass < big) (ih : ∀ x ∈ t.kids,∀ bs,call F.tb 31 [.agg (encT x)] bs = some (.int .i64 x.nodes,bs)) :
  ∀ (post pre : List Tm) (ρ : Nat → AV),t.kids = pre ++ post → ρ 7 = .sl false 4 (encTs t.kids) → ρ 8 = .int .i64 t.kids.length → ρ 9 = .int .i64 pre.length → ρ 3 = .int .i64 (1 + nodesL pre : Nat) →
  R F.tb (.loop F.f31l0) ρ bs (blockK 0 (seqK F.tb F.f31r0 (finK F.f31 bs))) = some (.int .i64 t.nodes,bs) := by
 have hm2 := mass_eq t
 have hn := nodesL_le_mass t.kids
 unfold big at hm
 intro post
 induction post with
 | nil =>
  intro pre ρ hk h7 h8 h9 h3
  rw [R_loop' F.f31l0.eq_1]
  simp at hk
  simp [h3,h8,h9,← hk,F.f31r0,F.f31R,F.f31K,nodes_eq]
 | cons x post IH =>
  intro pre ρ hk h7 h8 h9 h3
  have hg := get_pre hk
  have hl : t.kids.length = pre.length + (post.length + 1) := by rw [hk]; simp
  have hnn : nodesL t.kids = nodesL pre + (x.nodes + nodesL post) := by rw [hk,nodesL_append]; simp [nodesL]
  have hw1 : IntKind.i64.wrap ((pre.length : Int) + 1) = (pre.length : Int) + 1 := wrap64 (by omega) (by omega)
  have hw2 : IntKind.i64.wrap (1 + (nodesL pre : Int) + (x.nodes : Int)) = 1 + (nodesL pre : Int) + (x.nodes : Int) := wrap64 (by omega) (by omega)
  have hlt : (pre.length : Int) < (t.kids.length : Int) := by omega
  rw [R_loop' F.f31l0.eq_1]
  simp [h3,h7,h8,h9,hg,hw1,hw2,hlt,ih x (by rw [hk]; simp)]
  rw [IH (pre ++ [x])] <;> simp [h3,h7,h8,h9,hk,nodesL_append,nodesL]
  omega
theorem call_Size : ∀ (t : Tm) (bs : List (List AV)),t.mass < big → call F.tb 31 [.agg (encT t)] bs = some (.int .i64 t.nodes,bs) := by
 refine tm_ind ?_
 intro k n s ks ih bs hm
 rw [call_code F.tb_31 _ _ rfl]
 simp [F.f31B,F.f31C]
 refine Size_loop (.mk k n s ks) bs hm (fun x hx bs => ih x hx bs ?_) ks [] _ ?_ ?_ ?_ ?_ ?_ <;> (try simp [nodesL])
 have := massL_mem hx; have := mass_eq (.mk k n s ks); simp at *; omega
end Go.Am
namespace Go.Am
set_option maxRecDepth 8000
def two (bs : List (List AV)) (i j : Nat) (n d : Int) : List (List AV) := (bs.set i [.int .i64 n]).set j [.int .i64 d]
section
variable {bs : List (List AV)} {i j : Nat} {n d m : Int}
theorem two_len : (two bs i j n d).length = bs.length := by simp [two]
theorem two_i (hi : i < bs.length) (hij : i ≠ j) : (two bs i j n d)[i]? = some [.int .i64 n] := by
 rw [two,List.getElem?_set_ne (Ne.symm hij),List.getElem?_set_self hi]
theorem two_j (hj : j < bs.length) : (two bs i j n d)[j]? = some [.int .i64 d] := by simp [two,hj]
theorem two_seti (hij : i ≠ j) : (two bs i j n d).set i [.int .i64 m] = two bs i j m d := by
 simp only [two]; rw [List.set_comm _ _ (Ne.symm hij),List.set_set]
@[simp] theorem chkB_two {n' d' : Int} : chkB (two bs i j n d) (two bs i j n' d') = true := chkB_of (by simp [two_len]) fun k x y hx hy => by
 unfold two at hx hy
 rw [List.getElem?_set] at hx hy
 split at hy
 ·split at hy
  ·injection hy with hy; subst hy; exact .inr rfl
  ·cases hy
 ·rename_i hjk
  rw [if_neg hjk] at hx
  rw [List.getElem?_set] at hx hy
  split at hy
  ·split at hy
   ·injection hy with hy; subst hy; exact .inr rfl
   ·cases hy
  ·rename_i hik
   rw [if_neg hik,hy] at hx
   injection hx with hx
   exact .inl hx.symm
theorem two_setj : (two bs i j n d).set j [.int .i64 m] = two bs i j n m := by simp [two]
end
def nodeE (t : Tm) : Int :=
 if t.kind = 1 ∨ t.kind = 2 then
  if (t.sort < 0 ∨ 5 < t.sort) ∨ 0 < t.kids.length then 1 else if isNameB t.name = false then 2 else if 8 < t.kids.length then 3 else 0
 else if t.kind = 3 then
  if t.sort ≠ 0 then 1 else if isNameB t.name = false then 2 else if 8 < t.kids.length then 3 else 0
 else 1
mutual
def errT : Tm → Int
 | .mk k n s ks => if nodeE (.mk k n s ks) ≠ 0 then nodeE (.mk k n s ks) else errL ks
def errL : List Tm → Int
 | [] => 0
 | t :: ts => if errT t ≠ 0 then errT t else errL ts
end
mutual
def cntT : Tm → Int → Int × Int → Int × Int
 | .mk k n s ks,l,p => if nodeE (.mk k n s ks) ≠ 0 then (p.1 + 1,if l > p.2 then l else p.2) else cntL ks l (p.1 + 1,if l > p.2 then l else p.2)
def cntL : List Tm → Int → Int × Int → Int × Int
 | [],_,p => p
 | t :: ts,l,p => if errT t ≠ 0 then cntT t (l + 1) p else cntL ts l (cntT t (l + 1) p)
end
mutual
theorem cntT_le : ∀ (t : Tm) (l : Int) (p : Int × Int),p.1 ≤ (cntT t l p).1 ∧ (cntT t l p).1 ≤ p.1 + t.nodes
 | .mk k n s ks,l,p => by
  simp only [cntT,Tm.nodes]
  have := cntL_le ks l (p.1 + 1,if l > p.2 then l else p.2)
  split <;> simp at * <;> omega
theorem cntL_le : ∀ (ts : List Tm) (l : Int) (p : Int × Int),p.1 ≤ (cntL ts l p).1 ∧ (cntL ts l p).1 ≤ p.1 + nodesL ts
 | [],l,p => by simp [cntL,nodesL]
 | t :: ts,l,p => by
  simp only [cntL,nodesL]
  have := cntT_le t (l + 1) p
  have := cntL_le ts l (cntT t (l + 1) p)
  split <;> omega
end
theorem check_loop (t : Tm) (l : Int) (bs : List (List AV)) (i j : Nat) (hi : i < bs.length) (hj : j < bs.length) (hij : i ≠ j) (hm : t.mass < big) (hl : 0 ≤ l ∧ l + t.depth ≤ big) (n0 d0 : Int)
  (ih : ∀ x ∈ t.kids,∀ n d : Int,0 ≤ n → n + x.nodes < 2 * big → call F.tb 7 [.agg (encT x),.int .i64 (l + 1),.gp i 0,.gp j 0] (two bs i j n d) = some (.int .i64 (errT x),two bs i j (cntT x (l + 1) (n,d)).1 (cntT x (l + 1) (n,d)).2)) :
  ∀ (post pre : List Tm) (n d : Int) (ρ : Nat → AV),0 ≤ n → n + nodesL post < 2 * big → t.kids = pre ++ post → ρ 57 = .sl false 4 (encTs t.kids) → ρ 58 = .int .i64 t.kids.length → ρ 59 = .int .i64 pre.length →
   ρ 1 = .int .i64 l → ρ 2 = .gp i 0 → ρ 3 = .gp j 0 →
  R F.tb (.loop F.f7l0) ρ (two bs i j n d) (blockK 1 (seqK F.tb F.f7r0 (finK F.f7 (two bs i j n0 d0)))) =
   some (.int .i64 (errL post),two bs i j (cntL post l (n,d)).1 (cntL post l (n,d)).2) := by
 have hm2 := mass_eq t
 have hdp := depth_eq t
 unfold big at *
 have hji := Ne.symm hij
 intro post
 induction post with
 | nil =>
  intro pre n d ρ hn hnb hk h57 h58 h59 h1 h2 h3
  rw [R_loop' F.f7l0.eq_1]
  simp at hk
  simp [h1,h2,h3,h57,h58,h59,← hk,F.f7r0,F.f7R,F.f7K,errL,cntL,two_len]
  rw [List.take_of_length_le (by simp [two_len])]
  exact ⟨chkB_two,rfl⟩
 | cons x post IH =>
  intro pre n d ρ hn hnb hk h57 h58 h59 h1 h2 h3
  have hg := get_pre hk
  have hlen : t.kids.length = pre.length + (post.length + 1) := by rw [hk]; simp
  simp only [nodesL] at hnb
  have hw1 : IntKind.i64.wrap ((pre.length : Int) + 1) = (pre.length : Int) + 1 := wrap64 (by omega) (by omega)
  have hw2 : IntKind.i64.wrap (l + 1) = l + 1 := wrap64 (by omega) (by omega)
  have hlt : (pre.length : Int) < (t.kids.length : Int) := by omega
  have hx := ih x (by rw [hk]; simp) n d hn (by omega)
  have hc := cntT_le x (l + 1) (n,d)
  rw [R_loop' F.f7l0.eq_1]
  by_cases he : errT x = 0
  ·simp [h1,h2,h3,h57,h58,h59,hg,hw1,hw2,hlt,hx,he]
   simp only [errL,cntL,he,ne_eq,not_true,if_false]
   rw [IH (pre ++ [x])] <;> (first | (simp at hc; omega) | simp [h1,h2,h3,h57,h58,h59,hk])
  ·simp [h1,h2,h3,h57,h58,h59,hg,hw1,hw2,hlt,hx,he,F.f7R,F.f7K,errL,cntL]
   rw [List.take_of_length_le (by simp [two_len])]
   exact ⟨chkB_two,rfl⟩
theorem call_check : ∀ (t : Tm) (l : Int) (bs : List (List AV)) (i j : Nat) (n d : Int),i < bs.length → j < bs.length → i ≠ j → t.mass < big → 0 ≤ l → l + t.depth ≤ big → 0 ≤ n → n + t.nodes < 2 * big →
  call F.tb 7 [.agg (encT t),.int .i64 l,.gp i 0,.gp j 0] (two bs i j n d) = some (.int .i64 (errT t),two bs i j (cntT t l (n,d)).1 (cntT t l (n,d)).2) := by
 refine tm_ind ?_
 intro k nm s ks ih l bs i j n d hi hj hij hm hl hld hn hnb
 have hm2 := mass_eq (.mk k nm s ks)
 have hnn := nodes_eq (.mk k nm s ks)
 have hdp := depth_eq (.mk k nm s ks)
 simp only [mk_kids,mk_name] at hm2 hnn hdp
 have hdl := depthL_le_nodes ks
 have hnm := nodesL_le_mass ks
 have hloop : ∀ ρ : Nat → AV,ρ 57 = .sl false 4 (encTs ks) → ρ 58 = .int .i64 ks.length → ρ 59 = .int .i64 0 →
   ρ 1 = .int .i64 l → ρ 2 = .gp i 0 → ρ 3 = .gp j 0 →
  R F.tb (.loop F.f7l0) ρ (two bs i j (n + 1) (if l > d then l else d)) (blockK 1 (seqK F.tb F.f7r0 (finK F.f7 (two bs i j n d)))) =
   some (.int .i64 (errL ks),two bs i j (cntL ks l (n + 1,if l > d then l else d)).1 (cntL ks l (n + 1,if l > d then l else d)).2) := by
  intro ρ h57 h58 h59 h1 h2 h3
  refine check_loop (.mk k nm s ks) l bs i j hi hj hij hm ⟨hl,hld⟩ n d ?_ ks [] (n + 1) (if l > d then l else d) ρ (by omega) (by omega) rfl h57 h58 h59 h1 h2 h3
  intro x hx n d hn hnb
  have h1 := massL_mem hx
  have h2 := depthL_mem hx
  simp only [mk_kids] at h1 h2
  exact ih x hx (l + 1) bs i j n d hi hj hij (by omega) (by omega) (by omega) hn hnb
 unfold big at hm hnb
 have hw : IntKind.i64.wrap (n + 1) = n + 1 := wrap64 (by omega) (by omega)
 have hji := Ne.symm hij
 have htk : ∀ (a b : Int),List.take bs.length (two bs i j a b) = two bs i j a b := fun a b => List.take_of_length_le (by simp [two_len])
 have hnl : nm.length < 4611686018427387904 := by omega
 have hks : ((8 : Int) < ks.length) = (8 < ks.length) := by rw [eq_iff_iff]; omega
 rw [call_code F.tb_7 _ _ rfl]
 simp (config := { maxSteps := 1000000 }) [F.f7B,F.f7C,F.f7R,F.f7K,hw,two_i hi hij,two_j hj,two_seti hij,two_setj,two_len,call_isName,hnl,htk,hks]
 simp only [gt_iff_lt] at hloop
 clear ih hm hl hld hn hnb hm2 hnn hdp hdl hnm hw htk hnl hks hi hj hij hji
 generalize hdd : (if d < l then l else d) = d' at *
 simp only [guardB_ite,decide_eq_true_eq,Bool.or_eq_true]
 repeat' split
 all_goals simp only [errT,cntT,nodeE,mk_kind,mk_sort,mk_name,mk_kids,gt_iff_lt,hdd]
 all_goals first
  | (rw [hloop] <;> simp [*]; done)
  | (simp [*]; done)
  | skip
def validT (t : Tm) : Int := if errT t ≠ 0 then errT t else if 400 < t.nodes ∨ 40 < t.depth then 3 else 0
mutual
theorem cntT_ok : ∀ (t : Tm) (l : Int) (p : Int × Int),errT t = 0 → cntT t l p = (p.1 + t.nodes,max p.2 (l + t.depth - 1))
 | .mk k n s ks,l,p,h => by
  simp only [errT] at h
  split at h
  ·rename_i hne; exact absurd h hne
  ·rename_i hne
   simp only [cntT,hne,if_false,Tm.nodes,Tm.depth]
   rw [cntL_ok ks l _ h]
   refine Prod.ext ?_ ?_
   ·simp; omega
   ·cases ks with
    | nil => simp [depthL,nodesL]; split <;> omega
    | cons t ts => simp [depthL]; split <;> omega
theorem cntL_ok : ∀ (ts : List Tm) (l : Int) (p : Int × Int),errL ts = 0 → cntL ts l p = (p.1 + nodesL ts,if ts = [] then p.2 else max p.2 (l + depthL ts))
 | [],l,p,_ => by simp [cntL,nodesL]
 | t :: ts,l,p,h => by
  simp only [errL] at h
  split at h
  ·rename_i hne; exact absurd h hne
  ·rename_i hne
   have he : errT t = 0 := by simpa using hne
   simp only [cntL,hne,if_false,nodesL,depthL]
   rw [cntL_ok ts l _ h,cntT_ok t (l + 1) p he]
   refine Prod.ext ?_ ?_
   ·simp; omega
   ·cases ts with
    | nil => simp [depthL]; omega
    | cons u us => simp [depthL]; omega
end
theorem call_Valid (t : Tm) (bs : List (List AV)) (hm : t.mass < big) : call F.tb 6 [.agg (encT t)] bs = some (.int .i64 (validT t),bs) := by
 have h2 : bs ++ [[AV.int .i64 0],[AV.int .i64 0]] = two (bs ++ [[AV.int .i64 0],[AV.int .i64 0]]) bs.length (bs.length + 1) 0 0 := by
  simp [two]
 have hn := nodes_le_mass t
 have hd := depth_le_nodes t
 have hb : big = 1099511627776 := rfl
 have hc := call_check t 1 (bs ++ [[AV.int .i64 0],[AV.int .i64 0]]) bs.length (bs.length + 1) 0 0 (by simp) (by simp) (by omega) hm (by omega) (by omega) (by omega) (by omega)
 rw [← h2] at hc
 have hi := two_i (bs := bs ++ [[AV.int .i64 0],[AV.int .i64 0]]) (i := bs.length) (j := bs.length + 1) (n := (cntT t 1 (0,0)).1) (d := (cntT t 1 (0,0)).2) (by simp) (by omega)
 have hj := two_j (bs := bs ++ [[AV.int .i64 0],[AV.int .i64 0]]) (i := bs.length) (j := bs.length + 1) (n := (cntT t 1 (0,0)).1) (d := (cntT t 1 (0,0)).2) (by simp)
 have htk : List.take bs.length (two (bs ++ [[AV.int .i64 0],[AV.int .i64 0]]) bs.length (bs.length + 1) (cntT t 1 (0,0)).1 (cntT t 1 (0,0)).2) = bs := by
  simp [two]
 have hcnt := cntT_ok t 1 (0,0)
 rw [call_code F.tb_6 _ _ rfl]
 simp [F.f6B,F.f6C,F.f6R,F.f6K,hc,hi,hj,htk,validT]
 by_cases he : errT t = 0
 ·have := depth_eq t
  have e1 : (400 < (t.nodes : Int)) = (400 < t.nodes) := by rw [eq_iff_iff]; omega
  have e2 : (40 < (max 0 (1 + (t.depth : Int) - 1))) = (40 < t.depth) := by rw [eq_iff_iff]; omega
  simp [he,hcnt he,e1,e2,guardB_ite]
 ·simp [he]
end Go.Am
namespace Go.Am
set_option maxRecDepth 8000
theorem call_sign' (a b : Int) (bs : List (List AV)) : call F.tb 32 [.int .i64 a,.int .i64 b] bs = some (.int .i64 (sgn a b),bs) := call_sign a b bs
theorem call_cmp (a b : List UInt8) (bs : List (List AV)) : call F.tb 33 [.str a,.str b] bs = some (.int .i64 (cmpS a b),bs) := by
 rw [call_orc F.tb_33]; rfl
theorem Compare_loop (t u : Tm) (bs : List (List AV)) (hm : t.mass < big) (hu : u.mass < big)
  (ih : ∀ x ∈ t.kids,∀ y bs,y.mass < big → call F.tb 30 [.agg (encT x),.agg (encT y)] bs = some (.int .i64 (cmpT x y),bs)) :
  ∀ (xs ys pre pre' : List Tm) (c : Int) (ρ : Nat → AV),t.kids = pre ++ xs → u.kids = pre' ++ ys → pre.length = pre'.length → (c = 0 → xs.length = ys.length) →
   ρ 2 = .bx (encT t) → ρ 3 = .bx (encT u) → ρ 5 = .int .i64 c → ρ 6 = .int .i64 pre.length →
  R F.tb (.loop F.f30l0) ρ bs (blockK 0 (seqK F.tb F.f30r0 (finK F.f30 bs))) = some (.int .i64 (or0 c (cmpL xs ys)),bs) := by
 have hm2 := mass_eq t
 have hu2 := mass_eq u
 intro xs
 induction xs with
 | nil =>
  intro ys pre pre' c ρ hk hk' hp hc h2 h3 h5 h6
  rw [R_loop' F.f30l0.eq_1]
  simp at hk
  by_cases h0 : c = 0
  ·simp [h2,h3,h5,h6,h0,F.f30r0,F.f30R,F.f30K,hk,cmpL,or0_r]
  ·simp [h2,h3,h5,h6,h0,F.f30r0,F.f30R,F.f30K,cmpL,or0_r]
 | cons x xs IH =>
  intro ys pre pre' c ρ hk hk' hp hc h2 h3 h5 h6
  rw [R_loop' F.f30l0.eq_1]
  by_cases h0 : c = 0
  ·obtain ⟨y,ys',rfl⟩ : ∃ y ys',ys = y :: ys' := by
    have := hc h0
    cases ys with
    | nil => simp at this
    | cons y ys' => exact ⟨y,ys',rfl⟩
   have hg := get_pre hk
   have hg' := get_pre hk'
   rw [← hp] at hg'
   have hl : t.kids.length = pre.length + (xs.length + 1) := by rw [hk]; simp
   have hlt : (pre.length : Int) < (t.kids.length : Int) := by omega
   have hym : y.mass < big := by have := massL_mem (x := y) (ks := u.kids) (by rw [hk']; simp); omega
   unfold big at hm hu
   have hw1 : IntKind.i64.wrap ((pre.length : Int) + 1) = (pre.length : Int) + 1 := wrap64 (by omega) (by omega)
   simp [h2,h3,h5,h6,h0,hlt,hg,hg',hw1,ih x (by rw [hk]; simp) y bs hym]
   rw [IH ys' (pre ++ [x]) (pre' ++ [y]) (cmpT x y)] <;> first | omega | (simp [hk,hk',hp,h2,h3,cmpL,or0_0]; done) | (intro _; have := hc h0; simp at this; omega)
  ·simp [h2,h3,h5,h6,h0,F.f30r0,F.f30R,F.f30K,cmpL,or0_ne]
theorem call_Compare : ∀ (t u : Tm) (bs : List (List AV)),t.mass < big → u.mass < big → call F.tb 30 [.agg (encT t),.agg (encT u)] bs = some (.int .i64 (cmpT t u),bs) := by
 refine tm_ind ?_
 intro k n s ks ih u bs hm hu
 have hloop := Compare_loop (.mk k n s ks) u bs hm hu (fun x hx y bs hy => ih x hx y bs (by have := massL_mem hx; have := mass_eq (.mk k n s ks); simp at *; omega) hy) ks u.kids [] [] (hdT (.mk k n s ks) u)
 rw [call_code F.tb_30 _ _ rfl,cmpT_eq]
 have hsz := call_Size (.mk k n s ks) bs hm
 have hsz' := call_Size u bs hu
 simp [F.f30B,F.f30C,hsz,hsz',call_sign',call_cmp]
 by_cases c1 : sgn (Tm.mk k n s ks).nodes u.nodes = 0 <;> by_cases c2 : sgn k u.kind = 0 <;> by_cases c3 : cmpS n u.name = 0 <;> by_cases c4 : sgn s u.sort = 0 <;>
  simp [c1,c2,c3,c4,guardB_ite] <;> rw [hloop] <;> first | (simp [hdT,c1,c2,c3,c4,or0_0,or0_ne]; done) | (simp [hdT,c1,c2,c3,c4,sgn0,or0_0,or0_ne]; omega) | skip
theorem RSize_loop (t : Tm) (bs : List (List AV)) (hm : t.mass < big) (ih : ∀ x ∈ t.kids,∀ bs,call F.tb 60 [.agg (encT x)] bs = some (.int .i64 x.nodes,bs)) :
  ∀ (post pre : List Tm) (ρ : Nat → AV),t.kids = pre ++ post → ρ 1 = .bx (encT t) → ρ 4 = .int .i64 pre.length → ρ 3 = .int .i64 (1 + nodesL pre : Nat) →
  R F.tb (.loop F.f60l0) ρ bs (blockK 0 (seqK F.tb F.f60r0 (finK F.f60 bs))) = some (.int .i64 t.nodes,bs) := by
 have hm2 := mass_eq t
 have hn := nodesL_le_mass t.kids
 unfold big at hm
 intro post
 induction post with
 | nil =>
  intro pre ρ hk h1 h4 h3
  rw [R_loop' F.f60l0.eq_1]
  simp at hk
  simp [h1,h3,h4,← hk,F.f60r0,F.f60R,F.f60K,nodes_eq]
 | cons x post IH =>
  intro pre ρ hk h1 h4 h3
  have hg := get_pre hk
  have hl : t.kids.length = pre.length + (post.length + 1) := by rw [hk]; simp
  have hnn : nodesL t.kids = nodesL pre + (x.nodes + nodesL post) := by rw [hk,nodesL_append]; simp [nodesL]
  have hw1 : IntKind.i64.wrap ((pre.length : Int) + 1) = (pre.length : Int) + 1 := wrap64 (by omega) (by omega)
  have hw2 : IntKind.i64.wrap (1 + (nodesL pre : Int) + (x.nodes : Int)) = 1 + (nodesL pre : Int) + (x.nodes : Int) := wrap64 (by omega) (by omega)
  have hlt : (pre.length : Int) < (t.kids.length : Int) := by omega
  rw [R_loop' F.f60l0.eq_1]
  simp [h3,h1,h4,hg,hw1,hw2,hlt,ih x (by rw [hk]; simp)]
  rw [IH (pre ++ [x])] <;> simp [h3,h1,h4,hk,nodesL_append,nodesL]
  omega
theorem call_RSize : ∀ (t : Tm) (bs : List (List AV)),t.mass < big → call F.tb 60 [.agg (encT t)] bs = some (.int .i64 t.nodes,bs) := by
 refine tm_ind ?_
 intro k n s ks ih bs hm
 rw [call_code F.tb_60 _ _ rfl]
 simp [F.f60B,F.f60C]
 refine RSize_loop (.mk k n s ks) bs hm (fun x hx bs => ih x hx bs ?_) ks [] _ ?_ ?_ ?_ ?_ <;> (try simp [nodesL])
 have := massL_mem hx; have := mass_eq (.mk k n s ks); simp at *; omega
theorem depthL_append (a b : List Tm) : depthL (a ++ b) = max (depthL a) (depthL b) := by
 induction a with
 | nil => simp [depthL]
 | cons t ts ih => simp [depthL,ih]
theorem RDepth_loop (t : Tm) (bs : List (List AV)) (hm : t.mass < big) (ih : ∀ x ∈ t.kids,∀ bs,call F.tb 61 [.agg (encT x)] bs = some (.int .i64 x.depth,bs)) :
  ∀ (post pre : List Tm) (ρ : Nat → AV),t.kids = pre ++ post → ρ 1 = .bx (encT t) → ρ 4 = .int .i64 pre.length → ρ 3 = .int .i64 (depthL pre : Nat) →
  R F.tb (.loop F.f61l0) ρ bs (blockK 0 (seqK F.tb F.f61r0 (finK F.f61 bs))) = some (.int .i64 t.depth,bs) := by
 have hm2 := mass_eq t
 have hn := depthL_le_nodes t.kids
 have hn2 := nodesL_le_mass t.kids
 unfold big at hm
 intro post
 induction post with
 | nil =>
  intro pre ρ hk h1 h4 h3
  rw [R_loop' F.f61l0.eq_1]
  simp at hk
  have hw2 : IntKind.i64.wrap ((depthL pre : Int) + 1) = (depthL pre : Int) + 1 := wrap64 (by omega) (by rw [← hk]; omega)
  simp [h1,h3,h4,hk,hw2,F.f61r0,F.f61R,F.f61K,depth_eq]
 | cons x post IH =>
  intro pre ρ hk h1 h4 h3
  have hg := get_pre hk
  have hl : t.kids.length = pre.length + (post.length + 1) := by rw [hk]; simp
  have hw1 : IntKind.i64.wrap ((pre.length : Int) + 1) = (pre.length : Int) + 1 := wrap64 (by omega) (by omega)
  have hlt : (pre.length : Int) < (t.kids.length : Int) := by omega
  rw [R_loop' F.f61l0.eq_1]
  simp [h3,h1,h4,hg,hw1,hlt,ih x (by rw [hk]; simp)]
  rw [IH (pre ++ [x])] <;> simp [h3,h1,h4,hk,depthL_append,depthL]
  split <;> omega
theorem call_RDepth : ∀ (t : Tm) (bs : List (List AV)),t.mass < big → call F.tb 61 [.agg (encT t)] bs = some (.int .i64 t.depth,bs) := by
 refine tm_ind ?_
 intro k n s ks ih bs hm
 rw [call_code F.tb_61 _ _ rfl]
 simp [F.f61B,F.f61C]
 refine RDepth_loop (.mk k n s ks) bs hm (fun x hx bs => ih x hx bs ?_) ks [] _ ?_ ?_ ?_ ?_ <;> (try simp [depthL])
 have := massL_mem hx; have := mass_eq (.mk k n s ks); simp at *; omega
theorem call_Rnumber (a b : Int) (bs : List (List AV)) : call F.tb 91 [.int .i64 a,.int .i64 b] bs = some (.int .i64 (sgn a b),bs) := by
 rw [call_code F.tb_91 _ _ rfl]
 simp [F.f91,F.f91C,sgn]
theorem RCompare_loop (t u : Tm) (bs : List (List AV)) (hm : t.mass < big) (hu : u.mass < big)
  (ih : ∀ x ∈ t.kids,∀ y bs,y.mass < big → call F.tb 90 [.agg (encT x),.agg (encT y)] bs = some (.int .i64 (cmpT x y),bs)) :
  ∀ (xs ys pre pre' : List Tm) (ρ : Nat → AV),t.kids = pre ++ xs → u.kids = pre' ++ ys → pre.length = pre'.length → xs.length = ys.length →
   ρ 2 = .bx (encT t) → ρ 3 = .bx (encT u) → ρ 9 = .int .i64 pre.length →
  R F.tb (.loop F.f90l0) ρ bs (blockK 0 (seqK F.tb F.f90r0 (finK F.f90 bs))) = some (.int .i64 (cmpL xs ys),bs) := by
 have hm2 := mass_eq t
 have hu2 := mass_eq u
 intro xs
 induction xs with
 | nil =>
  intro ys pre pre' ρ hk hk' hp hc h2 h3 h9
  rw [R_loop' F.f90l0.eq_1]
  simp at hk
  simp [h2,h3,h9,F.f90r0,F.f90R,F.f90K,hk,cmpL]
 | cons x xs IH =>
  intro ys pre pre' ρ hk hk' hp hc h2 h3 h9
  rw [R_loop' F.f90l0.eq_1]
  obtain ⟨y,ys',rfl⟩ : ∃ y ys',ys = y :: ys' := by
   cases ys with
   | nil => simp at hc
   | cons y ys' => exact ⟨y,ys',rfl⟩
  have hg := get_pre hk
  have hg' := get_pre hk'
  rw [← hp] at hg'
  have hl : t.kids.length = pre.length + (xs.length + 1) := by rw [hk]; simp
  have hlt : (pre.length : Int) < (t.kids.length : Int) := by omega
  have hym : y.mass < big := by have := massL_mem (x := y) (ks := u.kids) (by rw [hk']; simp); omega
  unfold big at hm hu
  have hw1 : IntKind.i64.wrap ((pre.length : Int) + 1) = (pre.length : Int) + 1 := wrap64 (by omega) (by omega)
  by_cases h0 : cmpT x y = 0
  ·simp [h2,h3,h9,h0,hlt,hg,hg',hw1,ih x (by rw [hk]; simp) y bs hym]
   rw [IH ys' (pre ++ [x]) (pre' ++ [y])] <;> first | omega | (simp [hk,hk',hp,h0,h2,h3,cmpL,or0_0]; done) | (simp at hc; omega)
  ·simp [h2,h3,h9,h0,hlt,hg,hg',hw1,ih x (by rw [hk]; simp) y bs hym,F.f90R,F.f90K,cmpL,or0_ne]
theorem call_RCompare : ∀ (t u : Tm) (bs : List (List AV)),t.mass < big → u.mass < big → call F.tb 90 [.agg (encT t),.agg (encT u)] bs = some (.int .i64 (cmpT t u),bs) := by
 refine tm_ind ?_
 intro k n s ks ih u bs hm hu
 have hloop := RCompare_loop (.mk k n s ks) u bs hm hu (fun x hx y bs hy => ih x hx y bs (by have := massL_mem hx; have := mass_eq (.mk k n s ks); simp at *; omega) hy) ks u.kids [] []
 rw [call_code F.tb_90 _ _ rfl,cmpT_eq]
 have hsz := call_RSize (.mk k n s ks) bs hm
 have hsz' := call_RSize u bs hu
 simp [F.f90B,F.f90C,F.f90R,F.f90K,hsz,hsz',call_Rnumber]
 have b0 : cmpS n u.name = if Op.bytesLess n u.name then -1 else if (Op.bytesLess n u.name || n == u.name) = false then 1 else 0 := by
  unfold cmpS; cases Op.bytesLess n u.name <;> cases hh : (n == u.name) <;> simp
 generalize (n == u.name) = q at *
 generalize Op.bytesLess n u.name = p at *
 by_cases c1 : sgn (Tm.mk k n s ks).nodes u.nodes = 0 <;> by_cases c2 : sgn k u.kind = 0 <;> cases p <;> cases q <;> by_cases c4 : sgn s u.sort = 0 <;>
  by_cases c6 : sgn ks.length u.kids.length = 0 <;> simp [c1,c2,c4,c6,guardB_ite,hdT,or0_0,or0_ne,b0]
 all_goals (rw [hloop] <;> (try simp) <;> (try (have := sgn0.1 c6; omega)))
theorem call_RSame (t u : Tm) (bs : List (List AV)) (hm : t.mass < big) (hu : u.mass < big) : call F.tb 89 [.agg (encT t),.agg (encT u)] bs = some (.bool (decide (cmpT t u = 0)),bs) := by
 rw [call_code F.tb_89 _ _ rfl]
 simp [F.f89,F.f89C,call_RCompare t u bs hm hu]
end Go.Am
