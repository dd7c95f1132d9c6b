/-
  AM, part 23: the stepping equations as simp rules.
-/
import Derived.Test.YtdabongfphoilaaGreatDoorCodeB
import Derived.Test.YtdabongfphoilaaGreatDoorMachE
set_option linter.unusedVariables false
set_option linter.unusedSimpArgs false

namespace Go.Am

theorem upd_get (ρ : Nat → AV) (i : Nat) (v : AV) (j : Nat) : upd ρ i v j = if j = i then v else ρ j := rfl



theorem s_strip_undef  : AV.strip (.undef) = .undef := rfl
theorem s_ok_undef  : AV.ok (.undef) = false := rfl
theorem s_one_undef  : AV.one (.undef) = false := rfl
theorem s_gpf_undef  : AV.gpfree (.undef) = true := rfl
theorem s_strip_int (k : IntKind) (n : Int) : AV.strip (.int k n) = .int k n := rfl
theorem s_ok_int (k : IntKind) (n : Int) : AV.ok (.int k n) = true := rfl
theorem s_one_int (k : IntKind) (n : Int) : AV.one (.int k n) = true := rfl
theorem s_gpf_int (k : IntKind) (n : Int) : AV.gpfree (.int k n) = true := rfl
theorem s_strip_bool (b : Bool) : AV.strip (.bool b) = .bool b := rfl
theorem s_ok_bool (b : Bool) : AV.ok (.bool b) = true := rfl
theorem s_one_bool (b : Bool) : AV.one (.bool b) = true := rfl
theorem s_gpf_bool (b : Bool) : AV.gpfree (.bool b) = true := rfl
theorem s_strip_anyb  : AV.strip (.anyb) = .anyb := rfl
theorem s_ok_anyb  : AV.ok (.anyb) = true := rfl
theorem s_one_anyb  : AV.one (.anyb) = true := rfl
theorem s_gpf_anyb  : AV.gpfree (.anyb) = true := rfl
theorem s_strip_str (s : List UInt8) : AV.strip (.str s) = .str s := rfl
theorem s_ok_str (s : List UInt8) : AV.ok (.str s) = true := rfl
theorem s_one_str (s : List UInt8) : AV.one (.str s) = true := rfl
theorem s_gpf_str (s : List UInt8) : AV.gpfree (.str s) = true := rfl
theorem s_strip_agg (cs : List AV) : AV.strip (.agg cs) = .agg cs := rfl
theorem s_ok_agg (cs : List AV) : AV.ok (.agg cs) = true := rfl
theorem s_one_agg (cs : List AV) : AV.one (.agg cs) = false := rfl
theorem s_gpf_agg (cs : List AV) : AV.gpfree (.agg cs) = gpfreeL cs := rfl
theorem s_strip_sl (o : Bool) (z : Nat) (xs : List (List AV)) : AV.strip (.sl o z xs) = .sl false z xs := rfl
theorem s_ok_sl (o : Bool) (z : Nat) (xs : List (List AV)) : AV.ok (.sl o z xs) = true := rfl
theorem s_one_sl (o : Bool) (z : Nat) (xs : List (List AV)) : AV.one (.sl o z xs) = true := rfl
theorem s_gpf_sl (o : Bool) (z : Nat) (xs : List (List AV)) : AV.gpfree (.sl o z xs) = gpfreeE xs := rfl
theorem s_strip_bx (cs : List AV) : AV.strip (.bx cs) = .bx cs := rfl
theorem s_ok_bx (cs : List AV) : AV.ok (.bx cs) = false := rfl
theorem s_one_bx (cs : List AV) : AV.one (.bx cs) = false := rfl
theorem s_gpf_bx (cs : List AV) : AV.gpfree (.bx cs) = gpfreeL cs := rfl
theorem s_strip_gp (i o : Nat) : AV.strip (.gp i o) = .gp i o := rfl
theorem s_ok_gp (i o : Nat) : AV.ok (.gp i o) = true := rfl
theorem s_one_gp (i o : Nat) : AV.one (.gp i o) = true := rfl
theorem s_gpf_gp (i o : Nat) : AV.gpfree (.gp i o) = false := rfl
theorem s_strip_gs (i o z n : Nat) : AV.strip (.gs i o z n) = .gs i o z n := rfl
theorem s_ok_gs (i o z n : Nat) : AV.ok (.gs i o z n) = true := rfl
theorem s_one_gs (i o z n : Nat) : AV.one (.gs i o z n) = true := rfl
theorem s_strip_rptr (cs : List AV) : AV.strip (.rptr cs) = .rptr cs := rfl
theorem s_ok_rptr (cs : List AV) : AV.ok (.rptr cs) = true := rfl
theorem s_one_rptr (cs : List AV) : AV.one (.rptr cs) = true := rfl
theorem s_gpf_rptr (cs : List AV) : AV.gpfree (.rptr cs) = gpfreeL cs := rfl
theorem s_strip_fn (f : Nat) (cs : List AV) : AV.strip (.fn f cs) = .fn f cs := rfl
theorem s_ok_fn (f : Nat) (cs : List AV) : AV.ok (.fn f cs) = true := rfl
theorem s_one_fn (f : Nat) (cs : List AV) : AV.one (.fn f cs) = true := rfl
theorem s_gpf_fn (f : Nat) (cs : List AV) : AV.gpfree (.fn f cs) = gpfreeL cs := rfl
theorem s_strip_tup (vs : List AV) : AV.strip (.tup vs) = .tup vs := rfl
theorem s_ok_tup (vs : List AV) : AV.ok (.tup vs) = true := rfl
theorem s_one_tup (vs : List AV) : AV.one (.tup vs) = false := rfl
theorem s_gpf_tup (vs : List AV) : AV.gpfree (.tup vs) = gpfreeL vs := rfl
theorem s_strip_err (b : Bool) : AV.strip (.err b) = .err b := rfl
theorem s_ok_err (b : Bool) : AV.ok (.err b) = true := rfl
theorem s_one_err (b : Bool) : AV.one (.err b) = true := rfl
theorem s_gpf_err (b : Bool) : AV.gpfree (.err b) = true := rfl
theorem ite_then {α : Type} (p : Prop) [Decidable p] (a b c : α) : (if p then (if p then a else b) else c) = if p then a else c := by split <;> simp_all
theorem ite_else {α : Type} (p : Prop) [Decidable p] (a b c : α) : (if p then a else (if p then b else c)) = if p then a else c := by split <;> simp_all

attribute [simp] s_strip_undef s_ok_undef s_one_undef s_gpf_undef s_strip_int s_ok_int s_one_int s_gpf_int s_strip_bool s_ok_bool s_one_bool s_gpf_bool s_strip_anyb s_ok_anyb s_one_anyb s_gpf_anyb s_strip_str s_ok_str s_one_str s_gpf_str s_strip_agg s_ok_agg s_one_agg s_gpf_agg s_strip_sl s_ok_sl s_one_sl s_gpf_sl s_strip_bx s_ok_bx s_one_bx s_gpf_bx s_strip_gp s_ok_gp s_one_gp s_gpf_gp s_strip_gs s_ok_gs s_one_gs s_strip_rptr s_ok_rptr s_one_rptr s_gpf_rptr s_strip_fn s_ok_fn s_one_fn s_gpf_fn s_strip_tup s_ok_tup s_one_tup s_gpf_tup s_strip_err s_ok_err s_one_err s_gpf_err ite_then ite_else
attribute [simp] R_skip R_ret R_exit R_reg R_seq R_block R_cond O_nil O_cons O_guard E_some E_some0 E_none setD_some setD_none condV_bool
  seqK_normal seqK_ret seqK_exit blockK_normal blockK_ret blockK_exit finK_normal finK_ret guardB_tt guardB_tf guardB_ff guardB_ft guardB_not guardB_same
  exec val_t val_c argEnv_0 argEnv_succ abin aun finish readAll readRes gpfreeL gpfreeE okVals rdCells cellsOf put
  upd_get O2_nil O2_free O2_other O2_same E2_some mrg_get G_bool G_tup isSkip_bool isSkip_tup selV_same selS_same selV_l selV_r selV_tl selV_tr selV_fl selV_fr selV_swap selV_lit selV_lit' selV_bool selV_int selV_strip selV_ok selV_one selV_skip pickV_bool
attribute [simp ↓] e_pick
attribute [simp 2000] G_true G_false G_tf G_ft

theorem guardB_swap (c : Bool) (x y : Out) : guardB c false x y = guardB c true y x := by cases c <;> rfl
theorem guardB_join (c x y : Bool) (s : List (List AV)) : guardB c true (some (.bool x, s)) (some (.bool y, s)) = some (.bool (bif c then x else y), s) := by cases c <;> rfl
theorem guardB_joinI (c : Bool) (k : IntKind) (x y : Int) (s : List (List AV)) : guardB c true (some (.int k x, s)) (some (.int k y, s)) = some (.int k (bif c then x else y), s) := by cases c <;> rfl
theorem R_loop' {T : Nat → Option AFn} {c c' : AC} (h : c = c') (ρ : Nat → AV) (bs : List (List AV)) (k : Kn) : R T (.loop c) ρ bs k = R T c' ρ bs (seqK T (.loop c) k) := by
  subst h; exact R_loop c ρ bs k
attribute [simp] toI
theorem some_get {α : Type} (x : α) (xs : List α) : (x :: xs)[0]? = some x := rfl
attribute [simp] guardB_swap guardB_join guardB_joinI fillSt elemsOf bound Bool.cond_decide

theorem wrap64 {n : Int} (h1 : -9223372036854775808 ≤ n) (h2 : n < 9223372036854775808) : IntKind.i64.wrap n = n := by
  simp only [IntKind.wrap_i64]
  omega
@[simp] theorem stV_t (n : Nat) (vs : List AV) : stV (.t n) vs = vs.map AV.strip := rfl
@[simp] theorem stV_nil (z : Nat) (vs : List AV) : stV (.c (.sl true z [])) vs = vs.map fun _ => .sl true z [] := rfl
@[simp] theorem stV_int (k : IntKind) (n : Int) (vs : List AV) : stV (.c (.int k n)) vs = vs.map AV.strip := rfl
@[simp] theorem stV_str (s : List UInt8) (vs : List AV) : stV (.c (.str s)) vs = vs.map AV.strip := rfl
@[simp] theorem stV_bool (b : Bool) (vs : List AV) : stV (.c (.bool b)) vs = vs.map AV.strip := rfl
@[simp] theorem stV_agg (cs : List AV) (vs : List AV) : stV (.c (.agg cs)) vs = vs.map AV.strip := rfl
@[simp] theorem stV_err (b : Bool) (vs : List AV) : stV (.c (.err b)) vs = vs.map AV.strip := rfl
@[simp] theorem s_strip_mp (i : Nat) : AV.strip (.mp i) = .mp i := rfl
@[simp] theorem s_ok_mp (i : Nat) : AV.ok (.mp i) = true := rfl
@[simp] theorem s_one_mp (i : Nat) : AV.one (.mp i) = true := rfl
@[simp] theorem s_gpf_mp (i : Nat) : AV.gpfree (.mp i) = false := rfl
end Go.Am
