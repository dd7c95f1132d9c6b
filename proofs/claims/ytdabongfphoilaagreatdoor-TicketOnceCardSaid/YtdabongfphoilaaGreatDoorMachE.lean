/-
  AM, part 19: the oracles' functions: what some of the library's functions compute.
-/
import Derived.Test.YtdabongfphoilaaGreatDoorMachD
import Derived.Lib.AtoiAll
set_option linter.unusedVariables false
set_option linter.unusedSimpArgs false

namespace Go.Am

def cmpO : List AV → Option AV
  | [.str a, .str b] => some (.int .i64 (if Op.bytesLess a b then -1 else if a == b then 0 else 1))
  | _ => none

/-- The decimal digits of a number. -/
def digs : Nat → Nat → List UInt8 → List UInt8
  | 0, _, acc => acc
  | k + 1, n, acc => if n < 10 then (48 + n).toUInt8 :: acc else digs k (n / 10) ((48 + n % 10).toUInt8 :: acc)
def decN (n : Nat) : List UInt8 := digs (n + 1) n []
def dec (n : Int) : List UInt8 := if n < 0 then 45 :: decN n.natAbs else decN n.natAbs

def itoaO : List AV → Option AV
  | [.int .i64 n] => if -9223372036854775808 ≤ n ∧ n ≤ 9223372036854775807 then some (.str (dec n)) else none
  | _ => none

/-- strings.ContainsAny on ASCII letters. -/
def anyO : List AV → Option AV
  | [.str s, .str cs] => if (cs.all (· < 128) && s.all (· < 128) && decide (s.length < 1000000) && decide (cs.length < 1000000)) = true then some (.bool (s.any fun b => cs.contains b)) else none
  | _ => none

/-- strconv.Atoi. -/
def atoiO : List AV → Option AV
  | [.str s] => if s.length < 1000000 then
      (match Lib.atoiAll s with
        | .ok v => some (.tup [.int .i64 v, .err true])
        | .range => some (.tup [.int .i64 (Lib.atoiSat s), .err false])
        | _ => some (.tup [.int .i64 0, .err false]))
      else none
  | _ => none

-- numbers
def decR : Nat → Nat → List UInt8
  | 0, _ => []
  | k + 1, n => if n < 10 then [(48 + n).toUInt8] else decR k (n / 10) ++ [(48 + n % 10).toUInt8]
theorem digs_decR : ∀ (k n : Nat) (acc : List UInt8), digs k n acc = decR k n ++ acc
  | 0, _, _ => rfl
  | k + 1, n, acc => by
    simp only [digs, decR]
    split
    · rfl
    · rw [digs_decR]; simp
theorem decR_more : ∀ (k n m : Nat), n < k → k ≤ m → decR m n = decR k n
  | 0, _, _, h, _ => by omega
  | k + 1, n, 0, _, h => by omega
  | k + 1, n, m + 1, h, h2 => by
    simp only [decR]
    split
    · rfl
    · rw [decR_more k (n / 10) m (by omega) (by omega)]
theorem decN_eq (n : Nat) : decN n = decR (n + 1) n := by rw [decN, digs_decR]; simp
theorem decN_small {n : Nat} (h : n < 10) : decN n = [(48 + n).toUInt8] := by rw [decN_eq, decR, if_pos h]
theorem decN_large {n : Nat} (h : ¬ n < 10) : decN n = decN (n / 10) ++ [(48 + n % 10).toUInt8] := by
  rw [decN_eq, decR, if_neg h, decN_eq, decR_more (n / 10 + 1) (n / 10) n (by omega) (by omega)]
theorem decN_len : ∀ n : Nat, (decN n).length ≤ n + 1 := by
  intro n
  induction n using Nat.strongRecOn with
  | ind n ih =>
    by_cases h : n < 10
    · rw [decN_small h]; simp
    · rw [decN_large h]
      have := ih (n / 10) (by omega)
      simp
      omega
theorem dec_nat (n : Nat) : dec n = decN n := by
  have : ¬ (n : Int) < 0 := by omega
  simp [dec, this]

end Go.Am

namespace Go.Am

def KLe (K K' : CallF) : Prop := ∀ f args bs r, K f args bs = some r → K' f args bs = some r

theorem exec_mono {K K' : CallF} (h : KLe K K') {op : AOp} {σ : St} {p : AV × St} (he : exec K op σ = some p) : exec K' op σ = some p := by
  cases op <;> try exact he
  case call f args =>
    simp only [exec] at he ⊢
    split at he
    · rename_i hok
      rw [if_pos hok]
      cases hk : K f (args.map (val σ.env)) σ.bs with
      | none => rw [hk] at he; cases he
      | some r => rw [hk] at he; rw [h _ _ _ _ hk]; exact he
    · cases he
  case callv g args =>
    simp only [exec] at he ⊢
    split at he
    · rename_i f caps hf
      split at he
      · rename_i hok
        rw [if_pos hok]
        cases hk : K f (args.map (val σ.env) ++ caps) σ.bs with
        | none => rw [hk] at he; cases he
        | some r => rw [hk] at he; rw [h _ _ _ _ hk]; exact he
      · cases he
    · cases he

theorem runOp_mono {K K' : CallF} (h : KLe K K') {o : AOper} {σ s : St} (he : runOp K o σ = some s) : runOp K' o σ = some s := by
  have key : ((exec K o.op σ).map fun p => ({ p.2 with env := setD p.2.env o.dst p.1 } : St)) = some s → ((exec K' o.op σ).map fun p => ({ p.2 with env := setD p.2.env o.dst p.1 } : St)) = some s := fun he => by
    cases hx : exec K o.op σ with
    | none => rw [hx] at he; cases he
    | some p => rw [hx] at he; rw [exec_mono h hx]; exact he
  unfold runOp at he ⊢
  split at he
  · exact key he
  · split at he
    · split at he
      · rename_i hc; rw [if_pos hc]; exact key he
      · rename_i hc; rw [if_neg hc]; exact he
    · exact he
    · cases he

theorem runOps_mono {K K' : CallF} (h : KLe K K') : ∀ {os : List AOper} {σ s : St}, runOps K os σ = some s → runOps K' os σ = some s
  | [], _, _, he => he
  | o :: os, σ, s, he => by
    simp only [runOps] at he ⊢
    cases ho : runOp K o σ with
    | none => rw [ho] at he; cases he
    | some s1 =>
      rw [ho] at he
      rw [runOp_mono h ho]
      exact runOps_mono h he

theorem iter_mono {f g : St → Option (Ex × St)} (h : ∀ s x, f s = some x → g s = some x) : ∀ {n m : Nat} {σ : St} {x : Ex × St}, n ≤ m → iter f n σ = some x → iter g m σ = some x
  | 0, _, _, _, _, he => by simp [iter] at he
  | n + 1, 0, _, _, hnm, _ => by omega
  | n + 1, m + 1, σ, x, hnm, he => by
    simp only [iter] at he ⊢
    split at he
    · rename_i s hf
      rw [h _ _ hf]
      exact iter_mono h (by omega) he
    · rename_i hne
      have := h _ _ he
      rw [this]
      obtain ⟨e, s⟩ := x
      cases e
      · exact absurd he (hne s)
      · rfl
      · rfl

theorem runC_mono {K K' : CallF} (h : KLe K K') {n m : Nat} (hnm : n ≤ m) : ∀ {c : AC} {σ : St} {x : Ex × St}, runC K n c σ = some x → runC K' m c σ = some x := by
  intro c
  induction c with
  | bad => intro σ x he; simp [runC] at he
  | skip => intro σ x he; exact he
  | reg d ops =>
    intro σ x he
    simp only [runC] at he ⊢
    cases ho : runOps K ops σ with
    | none => rw [ho] at he; cases he
    | some s => rw [ho] at he; rw [runOps_mono h ho]; exact he
  | seq a b iha ihb =>
    intro σ x he
    simp only [runC] at he ⊢
    split at he
    · rename_i s ha
      rw [iha ha]
      exact ihb he
    · rename_i hne
      rw [iha he]
      obtain ⟨e, s⟩ := x
      cases e
      · exact absurd he (hne s)
      · rfl
      · rfl
  | cond c a b iha ihb =>
    intro σ x he
    simp only [runC] at he ⊢
    split at he
    · exact iha he
    · exact ihb he
    · cases he
  | block id c ih =>
    intro σ x he
    simp only [runC] at he ⊢
    split at he
    · rename_i i s hc
      rw [ih hc]
      exact he
    · rename_i hne
      rw [ih he]
      obtain ⟨e, s⟩ := x
      cases e
      · rfl
      · exact absurd he (hne _ s)
      · rfl
  | loop c ih =>
    intro σ x he
    simp only [runC] at he ⊢
    exact iter_mono (fun s x hx => ih hx) hnm he
  | exit id => intro σ x he; exact he
  | ret => intro σ x he; exact he

theorem callN_mono {T : Nat → Option AFn} : ∀ {n m : Nat}, n ≤ m → KLe (callN T n) (callN T m)
  | 0, _, _ => fun _ _ _ _ h => by simp [callN] at h
  | n + 1, 0, h => by omega
  | n + 1, m + 1, h => fun f args bs r he => by
    simp only [callN] at he ⊢
    split at he
    · cases he
    · rename_i g hg
      exact he
    · rename_i fn hf
      split at he
      · rename_i hl
        rw [if_pos hl]
        have hr : ∀ x, runC (callN T n) n fn.body { env := argEnv args, bs } = some x → runC (callN T m) m fn.body { env := argEnv args, bs } = some x := fun x hx => runC_mono (callN_mono (by omega)) (by omega) hx
        split at he
        · rename_i s hs; rw [hr _ hs]; exact he
        · rename_i s hs; rw [hr _ hs]; exact he
        · cases he
      · cases he

open Classical in
/-- A call, with fuel enough. -/
noncomputable def call (T : Nat → Option AFn) : CallF := fun f args bs => if h : ∃ r n, callN T n f args bs = some r then some h.choose else none

open Classical in
/-- A run, with fuel enough. -/
noncomputable def run (T : Nat → Option AFn) (c : AC) (σ : St) : Option (Ex × St) := if h : ∃ x n, runC (callN T n) n c σ = some x then some h.choose else none

section
variable {T : Nat → Option AFn}

theorem call_iff {f : Nat} {args : List AV} {bs : List (List AV)} {r : AV × List (List AV)} : call T f args bs = some r ↔ ∃ n, callN T n f args bs = some r := by
  have huniq : ∀ {r1 r2 : AV × List (List AV)} {n m : Nat}, callN T n f args bs = some r1 → callN T m f args bs = some r2 → r1 = r2 := fun {r1 r2 n m} h1 h2 => by
    have g1 := callN_mono (T := T) (Nat.le_max_left n m) _ _ _ _ h1
    have g2 := callN_mono (T := T) (Nat.le_max_right n m) _ _ _ _ h2
    rw [g1] at g2
    injection g2
  unfold call
  constructor
  · intro h
    split at h
    · rename_i hx
      injection h with h
      obtain ⟨n, hn⟩ := hx.choose_spec
      exact ⟨n, h ▸ hn⟩
    · cases h
  · rintro ⟨n, hn⟩
    have hx : ∃ r n, callN T n f args bs = some r := ⟨r, n, hn⟩
    rw [dif_pos hx]
    obtain ⟨m, hm⟩ := hx.choose_spec
    rw [huniq hm hn]

theorem run_iff {c : AC} {σ : St} {x : Ex × St} : run T c σ = some x ↔ ∃ n, runC (callN T n) n c σ = some x := by
  have huniq : ∀ {r1 r2 : Ex × St} {n m : Nat}, runC (callN T n) n c σ = some r1 → runC (callN T m) m c σ = some r2 → r1 = r2 := fun {r1 r2 n m} h1 h2 => by
    have g1 := runC_mono (callN_mono (T := T) (Nat.le_max_left n m)) (Nat.le_max_left n m) h1
    have g2 := runC_mono (callN_mono (T := T) (Nat.le_max_right n m)) (Nat.le_max_right n m) h2
    rw [g1] at g2
    injection g2
  unfold run
  constructor
  · intro h
    split at h
    · rename_i hx
      injection h with h
      obtain ⟨n, hn⟩ := hx.choose_spec
      exact ⟨n, h ▸ hn⟩
    · cases h
  · rintro ⟨n, hn⟩
    have hx : ∃ x n, runC (callN T n) n c σ = some x := ⟨x, n, hn⟩
    rw [dif_pos hx]
    obtain ⟨m, hm⟩ := hx.choose_spec
    rw [huniq hm hn]

theorem callN_le_call (n : Nat) : KLe (callN T n) (call T) := fun _ _ _ _ h => call_iff.2 ⟨n, h⟩

theorem exec_lim {op : AOp} {σ : St} {p : AV × St} (h : exec (call T) op σ = some p) : ∃ n, exec (callN T n) op σ = some p := by
  cases op <;> try exact ⟨0, h⟩
  case call f args =>
    simp only [exec] at h ⊢
    split at h
    · rename_i hok
      simp only [hok, if_true]
      cases hk : call T f (args.map (val σ.env)) σ.bs with
      | none => rw [hk] at h; cases h
      | some r =>
        obtain ⟨n, hn⟩ := call_iff.1 hk
        rw [hk] at h
        exact ⟨n, by rw [hn]; exact h⟩
    · cases h
  case callv g args =>
    simp only [exec] at h ⊢
    split at h
    · rename_i f caps hf
      split at h
      · rename_i hok
        simp only [hok, if_true]
        cases hk : call T f (args.map (val σ.env) ++ caps) σ.bs with
        | none => rw [hk] at h; cases h
        | some r =>
          obtain ⟨n, hn⟩ := call_iff.1 hk
          rw [hk] at h
          exact ⟨n, by rw [hn]; exact h⟩
      · cases h
    · cases h

theorem runOp_lim {o : AOper} {σ s : St} (h : runOp (call T) o σ = some s) : ∃ n, runOp (callN T n) o σ = some s := by
  have key : ((exec (call T) o.op σ).map fun p => ({ p.2 with env := setD p.2.env o.dst p.1 } : St)) = some s → ∃ n, ((exec (callN T n) o.op σ).map fun p => ({ p.2 with env := setD p.2.env o.dst p.1 } : St)) = some s := fun he => by
    cases hx : exec (call T) o.op σ with
    | none => rw [hx] at he; cases he
    | some p =>
      obtain ⟨n, hn⟩ := exec_lim hx
      rw [hx] at he
      exact ⟨n, by rw [hn]; exact he⟩
  unfold runOp at h ⊢
  split at h
  · exact key h
  · split at h
    · split at h
      · rename_i hc
        obtain ⟨n, hn⟩ := key h
        exact ⟨n, by rw [if_pos hc]; exact hn⟩
      · rename_i hc; exact ⟨0, by rw [if_neg hc]; exact h⟩
    · exact ⟨0, h⟩
    · cases h

theorem runOps_lim : ∀ {os : List AOper} {σ s : St}, runOps (call T) os σ = some s → ∃ n, runOps (callN T n) os σ = some s
  | [], _, _, h => ⟨0, h⟩
  | o :: os, σ, s, h => by
    simp only [runOps] at h
    cases ho : runOp (call T) o σ with
    | none => rw [ho] at h; cases h
    | some s1 =>
      rw [ho] at h
      obtain ⟨n, hn⟩ := runOp_lim ho
      obtain ⟨m, hm⟩ := runOps_lim (os := os) h
      refine ⟨max n m, ?_⟩
      simp only [runOps]
      rw [runOp_mono (callN_mono (Nat.le_max_left n m)) hn]
      exact runOps_mono (callN_mono (Nat.le_max_right n m)) hm

theorem runN_mono {n m : Nat} (h : n ≤ m) {c : AC} {σ : St} {x : Ex × St} (hr : runC (callN T n) n c σ = some x) : runC (callN T m) m c σ = some x := runC_mono (callN_mono h) h hr

theorem opt_ext {α : Type} {a b : Option α} (h : ∀ x, a = some x ↔ b = some x) : a = b := by
  cases a with
  | none => cases b with
    | none => rfl
    | some y => exact absurd ((h y).2 rfl) (by simp)
  | some x => exact ((h x).1 rfl).symm

theorem run_skip (σ : St) : run T .skip σ = some (.normal, σ) := run_iff.2 ⟨0, rfl⟩
theorem run_ret (σ : St) : run T .ret σ = some (.ret, σ) := run_iff.2 ⟨0, rfl⟩
theorem run_exit (id : Nat) (σ : St) : run T (.exit id) σ = some (.exit id, σ) := run_iff.2 ⟨0, rfl⟩

theorem run_reg (d : Bool) (ops : List AOper) (σ : St) : run T (.reg d ops) σ = (runOps (call T) ops σ).map fun s => (.normal, s) := by
  apply opt_ext
  intro x
  rw [run_iff]
  simp only [runC]
  constructor
  · rintro ⟨n, h⟩
    cases ho : runOps (callN T n) ops σ with
    | none => rw [ho] at h; cases h
    | some s => rw [ho] at h; rw [runOps_mono (callN_le_call n) ho]; exact h
  · intro h
    cases ho : runOps (call T) ops σ with
    | none => rw [ho] at h; cases h
    | some s =>
      obtain ⟨n, hn⟩ := runOps_lim ho
      rw [ho] at h
      exact ⟨n, by rw [hn]; exact h⟩

theorem run_seq (a b : AC) (σ : St) : run T (.seq a b) σ = match run T a σ with
    | some (.normal, s) => run T b s
    | r => r := by
  apply opt_ext
  intro x
  rw [run_iff]
  constructor
  · rintro ⟨n, h⟩
    simp only [runC] at h
    split at h
    · rename_i s hs
      rw [run_iff.2 ⟨n, hs⟩]
      exact run_iff.2 ⟨n, h⟩
    · rename_i hne
      rw [run_iff.2 ⟨n, h⟩]
      obtain ⟨e, s⟩ := x
      cases e
      · exact absurd h (hne s)
      · rfl
      · rfl
  · intro h
    split at h
    · rename_i s hs
      obtain ⟨n, hn⟩ := run_iff.1 hs
      obtain ⟨m, hm⟩ := run_iff.1 h
      refine ⟨max n m, ?_⟩
      simp only [runC]
      rw [runN_mono (Nat.le_max_left n m) hn]
      exact runN_mono (Nat.le_max_right n m) hm
    · rename_i hne
      obtain ⟨n, hn⟩ := run_iff.1 h
      refine ⟨n, ?_⟩
      simp only [runC]
      rw [hn]
      obtain ⟨e, s⟩ := x
      cases e
      · exact absurd h (hne s)
      · rfl
      · rfl

theorem run_cond (c : AO) (a b : AC) (σ : St) : run T (.cond c a b) σ = match val σ.env c with
    | .bool true => run T a σ
    | .bool false => run T b σ
    | _ => none := by
  apply opt_ext
  intro x
  rw [run_iff]
  simp only [runC]
  cases hv : val σ.env c <;> try simp
  rename_i b
  cases b
  · exact run_iff.symm
  · exact run_iff.symm

theorem run_block (id : Nat) (c : AC) (σ : St) : run T (.block id c) σ = match run T c σ with
    | some (.exit i, s) => some (if i = id then .normal else .exit i, s)
    | r => r := by
  apply opt_ext
  intro x
  rw [run_iff]
  simp only [runC]
  constructor
  · rintro ⟨n, h⟩
    split at h
    · rename_i i s hs
      rw [run_iff.2 ⟨n, hs⟩]
      exact h
    · rename_i hne
      rw [run_iff.2 ⟨n, h⟩]
      obtain ⟨e, s⟩ := x
      cases e
      · rfl
      · exact absurd h (hne _ s)
      · rfl
  · intro h
    split at h
    · rename_i i s hs
      obtain ⟨n, hn⟩ := run_iff.1 hs
      exact ⟨n, by rw [hn]; exact h⟩
    · rename_i hne
      obtain ⟨n, hn⟩ := run_iff.1 h
      refine ⟨n, ?_⟩
      rw [hn]
      obtain ⟨e, s⟩ := x
      cases e
      · rfl
      · exact absurd h (hne _ s)
      · rfl

theorem run_loop (c : AC) (σ : St) : run T (.loop c) σ = match run T c σ with
    | some (.normal, s) => run T (.loop c) s
    | r => r := by
  apply opt_ext
  intro x
  rw [run_iff]
  constructor
  · rintro ⟨n, h⟩
    simp only [runC] at h
    cases n with
    | zero => simp [iter] at h
    | succ n =>
      simp only [iter] at h
      split at h
      · rename_i s hs
        rw [run_iff.2 ⟨n + 1, hs⟩]
        refine run_iff.2 ⟨n + 1, ?_⟩
        simp only [runC]
        exact iter_mono (fun _ _ h => h) (by omega) h
      · rename_i hne
        rw [run_iff.2 ⟨n + 1, h⟩]
        obtain ⟨e, s⟩ := x
        cases e
        · exact absurd h (hne s)
        · rfl
        · rfl
  · intro h
    split at h
    · rename_i s hs
      obtain ⟨n, hn⟩ := run_iff.1 hs
      obtain ⟨m, hm⟩ := run_iff.1 h
      refine ⟨max n m + 1, ?_⟩
      simp only [runC] at hm ⊢
      simp only [iter]
      rw [runN_mono (m := max n m + 1) (by omega) hn]
      exact iter_mono (fun s x hx => runN_mono (by omega) hx) (by omega) hm
    · rename_i hne
      obtain ⟨n, hn⟩ := run_iff.1 h
      refine ⟨n + 1, ?_⟩
      simp only [runC, iter]
      rw [runN_mono (m := n + 1) (by omega) hn]
      obtain ⟨e, s⟩ := x
      cases e
      · exact absurd h (hne s)
      · rfl
      · rfl

theorem call_eq (f : Nat) (args : List AV) (bs : List (List AV)) : call T f args bs = match T f with
    | none => none
    | some (.orc g) => g args bs
    | some (.code fn) =>
      if args.length = fn.nparams then
        match run T fn.body { env := argEnv args, bs } with
        | some (.normal, σ) => finish fn bs.length σ
        | some (.ret, σ) => finish fn bs.length σ
        | _ => none
      else none := by
  apply opt_ext
  intro x
  rw [call_iff]
  constructor
  · rintro ⟨n, h⟩
    cases n with
    | zero => simp [callN] at h
    | succ n =>
      simp only [callN] at h
      split at h
      · cases h
      · rename_i g hg
        simp only [hg]
        exact h
      · rename_i fn hf
        simp only [hf]
        split at h
        · rename_i hl
          rw [if_pos hl]
          split at h
          · rename_i s hs; rw [run_iff.2 ⟨n, hs⟩]; exact h
          · rename_i s hs; rw [run_iff.2 ⟨n, hs⟩]; exact h
          · cases h
        · cases h
  · intro h
    split at h
    · cases h
    · rename_i g hg
      exact ⟨1, by simp only [callN, hg]; exact h⟩
    · rename_i fn hf
      split at h
      · rename_i hl
        split at h
        · rename_i s hs
          obtain ⟨n, hn⟩ := run_iff.1 hs
          exact ⟨n + 1, by simp only [callN, hf, hl, if_true, hn]; exact h⟩
        · rename_i s hs
          obtain ⟨n, hn⟩ := run_iff.1 hs
          exact ⟨n + 1, by simp only [callN, hf, hl, if_true, hn]; exact h⟩
        · cases h
      · cases h
end
end Go.Am

namespace Go.Am

abbrev Out := Option (AV × List (List AV))
abbrev Kn := Ex → St → Out

section
variable {T : Nat → Option AFn}

/-- A run and what comes behind it. -/
noncomputable def R (T : Nat → Option AFn) (c : AC) (ρ : Nat → AV) (bs : List (List AV)) (k : Kn) : Out := match run T c ⟨ρ, bs⟩ with
  | some (e, s) => k e s
  | none => none

/-- Operations and what comes behind them. -/
noncomputable def O (T : Nat → Option AFn) (os : List AOper) (ρ : Nat → AV) (bs : List (List AV)) (k : Kn) : Out := match runOps (call T) os ⟨ρ, bs⟩ with
  | some s => k .normal s
  | none => none

/-- An operation's outcome and what comes behind it. -/
noncomputable def E (T : Nat → Option AFn) (r : Option (AV × St)) (d : Option Nat) (os : List AOper) (k : Kn) : Out := match r with
  | some p => O T os (setD p.2.env d p.1) p.2.bs k
  | none => none

def guardB (c b : Bool) (x y : Out) : Out := if c = b then x else y

noncomputable def seqK (T : Nat → Option AFn) (b : AC) (k : Kn) : Kn := fun e s => match e with
  | .normal => match run T b s with
    | some (e, s) => k e s
    | none => none
  | e => k e s
def blockK (id : Nat) (k : Kn) : Kn := fun e s => match e with
  | .exit i => k (if i = id then .normal else .exit i) s
  | e => k e s
/-- The end of a function. -/
def finK (fn : AFun) (n : Nat) : Kn := fun e s => match e with
  | .normal => finish fn n s
  | .ret => finish fn n s
  | .exit _ => none

theorem guardB_tt (x y : Out) : guardB true true x y = x := rfl
theorem guardB_ff (x y : Out) : guardB false false x y = x := rfl
theorem guardB_tf (x y : Out) : guardB true false x y = y := rfl
theorem guardB_ft (x y : Out) : guardB false true x y = y := rfl
theorem guardB_same (c b : Bool) (x : Out) : guardB c b x x = x := by unfold guardB; split <;> rfl
theorem guardB_not (c b : Bool) (x y : Out) : guardB (!c) b x y = guardB c (!b) x y := by cases c <;> cases b <;> rfl
theorem guardB_ite (c b : Bool) (x y : Out) : guardB c b x y = if c = b then x else y := rfl

theorem R_skip (ρ : Nat → AV) (bs : List (List AV)) (k : Kn) : R T .skip ρ bs k = k .normal ⟨ρ, bs⟩ := by simp only [R, run_skip]
theorem R_ret (ρ : Nat → AV) (bs : List (List AV)) (k : Kn) : R T .ret ρ bs k = k .ret ⟨ρ, bs⟩ := by simp only [R, run_ret]
theorem R_exit (id : Nat) (ρ : Nat → AV) (bs : List (List AV)) (k : Kn) : R T (.exit id) ρ bs k = k (.exit id) ⟨ρ, bs⟩ := by simp only [R, run_exit]
theorem R_reg (d : Bool) (ops : List AOper) (ρ : Nat → AV) (bs : List (List AV)) (k : Kn) : R T (.reg d ops) ρ bs k = O T ops ρ bs k := by
  simp only [R, O, run_reg]
  cases runOps (call T) ops ⟨ρ, bs⟩ <;> rfl
theorem R_seq (a b : AC) (ρ : Nat → AV) (bs : List (List AV)) (k : Kn) : R T (.seq a b) ρ bs k = R T a ρ bs (seqK T b k) := by
  simp only [R, run_seq]
  cases run T a ⟨ρ, bs⟩ with
  | none => rfl
  | some x =>
    obtain ⟨e, s⟩ := x
    cases e <;> rfl
theorem R_block (id : Nat) (c : AC) (ρ : Nat → AV) (bs : List (List AV)) (k : Kn) : R T (.block id c) ρ bs k = R T c ρ bs (blockK id k) := by
  simp only [R, run_block]
  cases run T c ⟨ρ, bs⟩ with
  | none => rfl
  | some x =>
    obtain ⟨e, s⟩ := x
    cases e <;> rfl
theorem R_loop (c : AC) (ρ : Nat → AV) (bs : List (List AV)) (k : Kn) : R T (.loop c) ρ bs k = R T c ρ bs (seqK T (.loop c) k) := by
  simp only [R]
  rw [run_loop]
  cases run T c ⟨ρ, bs⟩ with
  | none => rfl
  | some x =>
    obtain ⟨e, s⟩ := x
    cases e <;> rfl

theorem seqK_normal (b : AC) (k : Kn) (ρ : Nat → AV) (bs : List (List AV)) : seqK T b k .normal ⟨ρ, bs⟩ = R T b ρ bs k := rfl
theorem seqK_ret (b : AC) (k : Kn) (s : St) : seqK T b k .ret s = k .ret s := rfl
theorem seqK_exit (b : AC) (k : Kn) (s : St) (id : Nat) : seqK T b k (.exit id) s = k (.exit id) s := rfl
theorem blockK_normal (id : Nat) (k : Kn) (s : St) : blockK id k .normal s = k .normal s := rfl
theorem blockK_ret (id : Nat) (k : Kn) (s : St) : blockK id k .ret s = k .ret s := rfl
theorem blockK_exit (id : Nat) (k : Kn) (s : St) : blockK id k (.exit id) s = k .normal s := by simp [blockK]
theorem blockK_exit_ne (id i : Nat) (h : (i == id) = false) (k : Kn) (s : St) : blockK id k (.exit i) s = k (.exit i) s := by
  have : i ≠ id := by simpa using h
  simp [blockK, this]
theorem finK_normal (fn : AFun) (k : Nat) (s : St) : finK fn k .normal s = finish fn k s := rfl
theorem finK_ret (fn : AFun) (k : Nat) (s : St) : finK fn k .ret s = finish fn k s := rfl

/-- A condition: on each side the slot holds what is known there. -/
noncomputable def condV (T : Nat → Option AFn) (v : AV) (n : Nat) (a b : AC) (ρ : Nat → AV) (bs : List (List AV)) (k : Kn) : Out := match v with
  | .bool c => guardB c true (R T a (upd ρ n (.bool true)) bs k) (R T b (upd ρ n (.bool false)) bs k)
  | _ => none

theorem upd_eq {ρ : Nat → AV} {n : Nat} {v : AV} (h : ρ n = v) : upd ρ n v = ρ := by
  funext j
  unfold upd
  split
  · rename_i hj; rw [hj, h]
  · rfl

theorem strip_bool {v : AV} {c : Bool} (h : v.strip = .bool c) : v = .bool c := by cases v <;> simp_all [AV.strip]

theorem R_cond (n : Nat) (a b : AC) (ρ : Nat → AV) (bs : List (List AV)) (k : Kn) : R T (.cond (.t n) a b) ρ bs k = condV T (ρ n) n a b ρ bs k := by
  simp only [R, run_cond, val, condV]
  cases h : ρ n <;> try rfl
  rename_i c
  cases c
  · simp only [AV.strip, guardB_ft, upd_eq h]
  · simp only [AV.strip, guardB_tt, upd_eq h]
theorem condV_bool (c : Bool) (n : Nat) (a b : AC) (ρ : Nat → AV) (bs : List (List AV)) (k : Kn) :
    condV T (.bool c) n a b ρ bs k = guardB c true (R T a (upd ρ n (.bool true)) bs k) (R T b (upd ρ n (.bool false)) bs k) := rfl

theorem O_nil (ρ : Nat → AV) (bs : List (List AV)) (k : Kn) : O T [] ρ bs k = k .normal ⟨ρ, bs⟩ := rfl
theorem O_cons (d : Option Nat) (op : AOp) (os : List AOper) (ρ : Nat → AV) (bs : List (List AV)) (k : Kn) :
    O T (⟨d, op, none⟩ :: os) ρ bs k = E T (exec (call T) op ⟨ρ, bs⟩) d os k := by
  simp only [O, E, runOps, runOp]
  cases exec (call T) op ⟨ρ, bs⟩ <;> rfl

/-- A guarded operation: on each side the guard's slot holds what is known there. -/
noncomputable def guardV (T : Nat → Option AFn) (v : AV) (t : Nat) (b : Bool) (d : Option Nat) (op : AOp) (os : List AOper) (ρ : Nat → AV) (bs : List (List AV)) (k : Kn) : Out := match v with
  | .bool c => guardB c b (E T (exec (call T) op ⟨upd ρ t (.bool b), bs⟩) d os k) (O T os (setD (upd ρ t (.bool (!b))) d (.tup [])) bs k)
  | .tup [] => O T os (setD ρ d (.tup [])) bs k
  | _ => none

theorem O_cons_g (d : Option Nat) (op : AOp) (t : Nat) (b : Bool) (os : List AOper) (ρ : Nat → AV) (bs : List (List AV)) (k : Kn) :
    O T (⟨d, op, some (t, b)⟩ :: os) ρ bs k = guardV T (ρ t) t b d op os ρ bs k := by
  simp only [O, runOps, runOp, guardV]
  cases h : ρ t <;> try rfl
  · rename_i c
    by_cases hcb : c = b
    · subst hcb
      simp only [guardB, if_true, upd_eq h, E]
      cases exec (call T) op ⟨ρ, bs⟩ <;> rfl
    · have hcb2 : c = !b := by cases c <;> cases b <;> simp_all
      subst hcb2
      simp only [guardB, hcb, if_false, upd_eq h]
      rfl
  · rename_i vs
    cases vs <;> rfl
theorem guardV_bool (c : Bool) (t : Nat) (b : Bool) (d : Option Nat) (op : AOp) (os : List AOper) (ρ : Nat → AV) (bs : List (List AV)) (k : Kn) :
    guardV T (.bool c) t b d op os ρ bs k = guardB c b (E T (exec (call T) op ⟨upd ρ t (.bool b), bs⟩) d os k) (O T os (setD (upd ρ t (.bool (!b))) d (.tup [])) bs k) := rfl
theorem guardV_tup (t : Nat) (b : Bool) (d : Option Nat) (op : AOp) (os : List AOper) (ρ : Nat → AV) (bs : List (List AV)) (k : Kn) :
    guardV T (.tup []) t b d op os ρ bs k = O T os (setD ρ d (.tup [])) bs k := rfl

theorem E_some (v : AV) (ρ : Nat → AV) (bs : List (List AV)) (d : Nat) (os : List AOper) (k : Kn) : E T (some (v, ⟨ρ, bs⟩)) (some d) os k = O T os (upd ρ d v) bs k := rfl
theorem E_some0 (v : AV) (ρ : Nat → AV) (bs : List (List AV)) (os : List AOper) (k : Kn) : E T (some (v, ⟨ρ, bs⟩)) none os k = O T os ρ bs k := rfl
theorem E_none (d : Option Nat) (os : List AOper) (k : Kn) : E T none d os k = none := rfl
theorem setD_some (ρ : Nat → AV) (d : Nat) (v : AV) : setD ρ (some d) v = upd ρ d v := rfl
theorem setD_none (ρ : Nat → AV) (v : AV) : setD ρ none v = ρ := rfl

/-- A call of a function that has code. -/
theorem call_code {f : Nat} {fn : AFun} (h : T f = some (.code fn)) (args : List AV) (bs : List (List AV)) (hl : args.length = fn.nparams) :
    call T f args bs = R T fn.body (argEnv args) bs (finK fn bs.length) := by
  rw [call_eq, h]
  simp only [hl, if_true, R]
  cases run T fn.body ⟨argEnv args, bs⟩ with
  | none => rfl
  | some x =>
    obtain ⟨e, s⟩ := x
    cases e <;> rfl

theorem call_orc {f : Nat} {g : List AV → List (List AV) → Option (AV × List (List AV))} (h : T f = some (.orc g)) (args : List AV) (bs : List (List AV)) : call T f args bs = g args bs := by
  rw [call_eq, h]

theorem argEnv_0 (a : AV) (as : List AV) : argEnv (a :: as) 0 = a.strip := rfl
theorem argEnv_succ (a : AV) (as : List AV) (i : Nat) : argEnv (a :: as) (i + 1) = argEnv as i := rfl
theorem upd_same (ρ : Nat → AV) (i : Nat) (v : AV) : upd ρ i v i = v := by simp [upd]
theorem upd_ne (ρ : Nat → AV) (i : Nat) (v : AV) (j : Nat) (h : (j == i) = false) : upd ρ i v j = ρ j := by
  have : j ≠ i := by simpa using h
  simp [upd, this]

-- the operations
variable {K : CallF} (ρ : Nat → AV) (bs : List (List AV))
theorem e_mov (x : AO) : exec K (.mov x) ⟨ρ, bs⟩ = if (val ρ x).ok then some (val ρ x, ⟨ρ, bs⟩) else none := rfl
theorem e_mvs (n : Nat) : exec K (.mvs n) ⟨ρ, bs⟩ = if (ρ n).ok then some (ρ n, ⟨upd ρ n .undef, bs⟩) else none := rfl
theorem e_bin (op : BinOp) (x y : AO) : exec K (.bin op x y) ⟨ρ, bs⟩ = (abin op (val ρ x) (val ρ y)).map fun v => (v, ⟨ρ, bs⟩) := rfl
theorem val_t (n : Nat) : val ρ (.t n) = (ρ n).strip := rfl
theorem val_c (v : AV) : val ρ (.c v) = v := rfl
end
end Go.Am

namespace Go.Am

section
variable {T : Nat → Option AFn}

/-- Does a guard's slot say that an operation is passed over? -/
def isSkip (b : Bool) : AV → Bool
  | .bool c => c == !b
  | .tup [] => true
  | _ => false

/-- Side by side: if c is b, the operations run from ρ1, otherwise from ρ2. -/
noncomputable def O2 (T : Nat → Option AFn) (c : Bool) (_t : Nat) (b : Bool) (os : List AOper) (ρ1 ρ2 : Nat → AV) (bs1 bs2 : List (List AV)) (k : Kn) : Out :=
  if c = b then O T os ρ1 bs1 k else O T os ρ2 bs2 k

noncomputable def E2 (T : Nat → Option AFn) (c : Bool) (_t : Nat) (b : Bool) (r : Option (AV × St)) (d : Option Nat) (os : List AOper) (ρ2 : Nat → AV) (bs2 : List (List AV)) (k : Kn) : Out :=
  if c = b then E T r d os k else O T os (setD ρ2 d (.tup [])) bs2 k

/-- One of two values. -/
def selV (c b : Bool) (x y : AV) : AV := if c = b then x else y
def selS (c b : Bool) (x y : List (List AV)) : List (List AV) := if c = b then x else y
/-- Two states joined. -/
def mrg (c b : Bool) (ρ1 ρ2 : Nat → AV) : Nat → AV := fun j => selV c b (ρ1 j) (ρ2 j)

theorem mrg_get (c b : Bool) (ρ1 ρ2 : Nat → AV) (j : Nat) : mrg c b ρ1 ρ2 j = selV c b (ρ1 j) (ρ2 j) := rfl

theorem O2_join (c : Bool) (t : Nat) (b : Bool) (os : List AOper) (ρ1 ρ2 : Nat → AV) (bs1 bs2 : List (List AV)) (k : Kn) :
    O2 T c t b os ρ1 ρ2 bs1 bs2 k = O T os (mrg c b ρ1 ρ2) (selS c b bs1 bs2) k := by
  unfold O2
  split
  · rename_i h
    have : mrg c b ρ1 ρ2 = ρ1 := by funext j; simp [mrg, selV, h]
    rw [this, selS, if_pos h]
  · rename_i h
    have : mrg c b ρ1 ρ2 = ρ2 := by funext j; simp [mrg, selV, h]
    rw [this, selS, if_neg h]

theorem O2_nil (c : Bool) (t : Nat) (b : Bool) (ρ1 ρ2 : Nat → AV) (bs1 bs2 : List (List AV)) (k : Kn) :
    O2 T c t b [] ρ1 ρ2 bs1 bs2 k = O T [] (mrg c b ρ1 ρ2) (selS c b bs1 bs2) k := O2_join c t b [] ρ1 ρ2 bs1 bs2 k
theorem O2_free (c : Bool) (t : Nat) (b : Bool) (d : Option Nat) (op : AOp) (os : List AOper) (ρ1 ρ2 : Nat → AV) (bs1 bs2 : List (List AV)) (k : Kn) :
    O2 T c t b (⟨d, op, none⟩ :: os) ρ1 ρ2 bs1 bs2 k = O T (⟨d, op, none⟩ :: os) (mrg c b ρ1 ρ2) (selS c b bs1 bs2) k := O2_join c t b _ ρ1 ρ2 bs1 bs2 k
/-- A guard within a guard: the ways part. -/
theorem O2_other (c : Bool) (t : Nat) (b : Bool) (d : Option Nat) (op : AOp) (t' : Nat) (b' : Bool) (os : List AOper) (ρ1 ρ2 : Nat → AV) (bs1 bs2 : List (List AV)) (k : Kn) (_h : ((t' == t) && (b' == b)) = false) :
    O2 T c t b (⟨d, op, some (t', b')⟩ :: os) ρ1 ρ2 bs1 bs2 k = guardB c b (O T (⟨d, op, some (t', b')⟩ :: os) ρ1 bs1 k) (O T (⟨d, op, some (t', b')⟩ :: os) ρ2 bs2 k) := by
  unfold O2 guardB; rfl

theorem O2_same (c : Bool) (t : Nat) (b : Bool) (d : Option Nat) (op : AOp) (os : List AOper) (ρ1 ρ2 : Nat → AV) (bs1 bs2 : List (List AV)) (k : Kn) (h1 : ρ1 t = .bool b) (h2 : isSkip b (ρ2 t) = true) :
    O2 T c t b (⟨d, op, some (t, b)⟩ :: os) ρ1 ρ2 bs1 bs2 k = E2 T c t b (exec (call T) op ⟨ρ1, bs1⟩) d os ρ2 bs2 k := by
  unfold O2 E2
  split
  · rw [O_cons_g, h1, guardV_bool, guardB_ite, if_pos rfl, upd_eq h1]
  · rw [O_cons_g]
    unfold isSkip at h2
    split at h2
    · rename_i c hc
      rw [hc, guardV_bool]
      simp only [beq_iff_eq] at h2
      subst h2
      rw [guardB_ite, if_neg (by cases b <;> simp), upd_eq hc]
    · rename_i hc
      rw [hc, guardV_tup]
    · cases h2

theorem E2_some (c : Bool) (t : Nat) (b : Bool) (v : AV) (ρ1 : Nat → AV) (bs1 : List (List AV)) (d : Option Nat) (os : List AOper) (ρ2 : Nat → AV) (bs2 : List (List AV)) (k : Kn) :
    E2 T c t b (some (v, ⟨ρ1, bs1⟩)) d os ρ2 bs2 k = O2 T c t b os (setD ρ1 d v) (setD ρ2 d (.tup [])) bs1 bs2 k := rfl

/-- The start of guarded operations. -/
noncomputable def G (T : Nat → Option AFn) (v : AV) (d : Option Nat) (op : AOp) (t : Nat) (b : Bool) (os : List AOper) (ρ : Nat → AV) (bs : List (List AV)) (k : Kn) : Out := match v with
  | .bool c => O2 T c t b (⟨d, op, some (t, b)⟩ :: os) (upd ρ t (.bool b)) (upd ρ t (.bool (!b))) bs bs k
  | .tup [] => O T os (setD (upd ρ t (.tup [])) d (.tup [])) bs k
  | _ => none

theorem G_bool (c : Bool) (d : Option Nat) (op : AOp) (t : Nat) (b : Bool) (os : List AOper) (ρ : Nat → AV) (bs : List (List AV)) (k : Kn) :
    G T (.bool c) d op t b os ρ bs k = O2 T c t b (⟨d, op, some (t, b)⟩ :: os) (upd ρ t (.bool b)) (upd ρ t (.bool (!b))) bs bs k := rfl
theorem G_tup (d : Option Nat) (op : AOp) (t : Nat) (b : Bool) (os : List AOper) (ρ : Nat → AV) (bs : List (List AV)) (k : Kn) :
    G T (.tup []) d op t b os ρ bs k = O T os (setD (upd ρ t (.tup [])) d (.tup [])) bs k := rfl

theorem O_guard (d : Option Nat) (op : AOp) (t : Nat) (b : Bool) (os : List AOper) (ρ : Nat → AV) (bs : List (List AV)) (k : Kn) :
    O T (⟨d, op, some (t, b)⟩ :: os) ρ bs k = G T (ρ t) d op t b os ρ bs k := by
  cases h : ρ t <;> try (rw [O_cons_g, h]; rfl)
  · rename_i c
    rw [G_bool]
    unfold O2
    by_cases hcb : c = b
    · subst hcb
      simp [upd_eq h]
    · have hcb2 : c = !b := by cases c <;> cases b <;> simp_all
      subst hcb2
      rw [upd_eq h, if_neg hcb]
  · rename_i vs
    cases vs with
    | nil => rw [G_tup, O_cons_g, h, guardV_tup, upd_eq h]
    | cons v vs => rw [O_cons_g, h]; rfl

theorem G_true (d : Option Nat) (op : AOp) (t : Nat) (os : List AOper) (ρ : Nat → AV) (bs : List (List AV)) (k : Kn) :
    G T (.bool true) d op t true os ρ bs k = E T (exec (call T) op ⟨upd ρ t (.bool true), bs⟩) d os k := by
  rw [G_bool]; unfold O2; rw [if_pos rfl, O_cons_g, upd_same, guardV_bool, guardB_tt, upd_eq (upd_same _ _ _)]
theorem G_false (d : Option Nat) (op : AOp) (t : Nat) (os : List AOper) (ρ : Nat → AV) (bs : List (List AV)) (k : Kn) :
    G T (.bool false) d op t false os ρ bs k = E T (exec (call T) op ⟨upd ρ t (.bool false), bs⟩) d os k := by
  rw [G_bool]; unfold O2; rw [if_pos rfl, O_cons_g, upd_same, guardV_bool, guardB_ff, upd_eq (upd_same _ _ _)]
theorem G_tf (d : Option Nat) (op : AOp) (t : Nat) (os : List AOper) (ρ : Nat → AV) (bs : List (List AV)) (k : Kn) :
    G T (.bool true) d op t false os ρ bs k = O T os (setD (upd ρ t (.bool true)) d (.tup [])) bs k := by
  rw [G_bool]; unfold O2; rw [if_neg (by simp), O_cons_g, upd_same]; simp only [guardV_bool, guardB_tf, Bool.not_false]; rw [upd_eq (upd_same _ _ _)]
theorem G_ft (d : Option Nat) (op : AOp) (t : Nat) (os : List AOper) (ρ : Nat → AV) (bs : List (List AV)) (k : Kn) :
    G T (.bool false) d op t true os ρ bs k = O T os (setD (upd ρ t (.bool false)) d (.tup [])) bs k := by
  rw [G_bool]; unfold O2; rw [if_neg (by simp), O_cons_g, upd_same]; simp only [guardV_bool, guardB_ft, Bool.not_true]; rw [upd_eq (upd_same _ _ _)]

-- values joined
theorem selV_same (c b : Bool) (x : AV) : selV c b x x = x := by unfold selV; split <;> rfl
theorem selS_same (c b : Bool) (x : List (List AV)) : selS c b x x = x := by unfold selS; split <;> rfl
theorem selV_l (c b : Bool) (x y z : AV) : selV c b (selV c b x y) z = selV c b x z := by unfold selV; split <;> simp_all
theorem selV_r (c b : Bool) (x y z : AV) : selV c b x (selV c b y z) = selV c b x z := by unfold selV; split <;> simp_all
theorem selV_tl (c : Bool) (x y z : AV) : selV c true (selV c false x y) z = selV c true y z := by cases c <;> rfl
theorem selV_tr (c : Bool) (x y z : AV) : selV c true x (selV c false y z) = selV c true x y := by cases c <;> rfl
theorem selV_fl (c : Bool) (x y z : AV) : selV c false (selV c true x y) z = selV c false y z := by cases c <;> rfl
theorem selV_fr (c : Bool) (x y z : AV) : selV c false x (selV c true y z) = selV c false x y := by cases c <;> rfl
theorem selV_swap (c : Bool) (x y : AV) : selV c false x y = selV c true y x := by cases c <;> rfl
theorem selV_lit (x y : AV) : selV true true x y = x := rfl
theorem selV_lit' (x y : AV) : selV false true x y = y := rfl
theorem selV_bool (c x y : Bool) : selV c true (.bool x) (.bool y) = .bool (bif c then x else y) := by cases c <;> rfl
theorem selV_int (c : Bool) (k : IntKind) (x y : Int) : selV c true (.int k x) (.int k y) = .int k (bif c then x else y) := by cases c <;> rfl
theorem selV_strip (c b : Bool) (x y : AV) : (selV c b x y).strip = selV c b x.strip y.strip := by unfold selV; split <;> rfl
theorem selV_ok (c b : Bool) (x y : AV) : (selV c b x y).ok = if c = b then x.ok else y.ok := by unfold selV; split <;> rfl
theorem selV_one (c b : Bool) (x y : AV) : (selV c b x y).one = if c = b then x.one else y.one := by unfold selV; split <;> rfl
theorem selV_skip (c b d : Bool) (x y : AV) : isSkip d (selV c b x y) = if c = b then isSkip d x else isSkip d y := by unfold selV; split <;> rfl
theorem isSkip_bool (c b : Bool) : isSkip b (.bool c) = (c == !b) := rfl
theorem isSkip_tup (b : Bool) : isSkip b (.tup []) = true := rfl

/-- The pick between two values. -/
def pickV (v x y : AV) (s : St) : Option (AV × St) := match v with
  | .bool c => let v := selV c true x y; if v.ok then some (v, s) else none
  | _ => none
theorem e_pick {K : CallF} (c a b : AO) (ρ : Nat → AV) (bs : List (List AV)) : exec K (.pick c a b) ⟨ρ, bs⟩ = pickV (val ρ c) (val ρ a) (val ρ b) ⟨ρ, bs⟩ := by
  simp only [exec, pickV]
  cases val ρ c <;> try rfl
  rename_i x
  cases x <;> rfl
theorem pickV_bool (c : Bool) (x y : AV) (s : St) : pickV (.bool c) x y s = if (selV c true x y).ok then some (selV c true x y, s) else none := rfl
end
end Go.Am
