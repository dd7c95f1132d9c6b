/-
  The pure land, part 7: valid servers.
-/
import Derived.Test.YtdabongfphoilaaGreatDoorPureB
set_option linter.unusedVariables false
set_option linter.unusedSimpArgs false

namespace Go.Am
set_option maxRecDepth 8000

def keyP (s : Srv) (i : Nat) (last : Bool) (pv : Option Ep) (k : Ep) : Bool :=
  decide (k.n = s.epoch - s.keys.length + 1 + i) && !decide (k.n < 0) && decide (cmpT k.key (epochT s.name k.n) = 0) && (last == decide (k.e = 0)) && !decide (k.e < 0) &&
    (match pv with | none => true | some p => last || !decide (k.e < p.e))
def keysLP (s : Srv) : Nat → Option Ep → List Ep → Bool
  | _, _, [] => true
  | i, pv, k :: ks => keyP s i ks.isEmpty pv k && keysLP s (i + 1) (some k) ks
def keyR (s : Srv) (i : Nat) (last : Bool) (pv : Option Ep) (k : Ep) : Bool :=
  decide (k.n = s.epoch - s.keys.length + 1 + i) && decide (cmpT k.key (epochT s.name k.n) = 0) && (last || (!decide (k.e < 1) && (match pv with | none => true | some p => !decide (k.e < p.e))))
def keysLR (s : Srv) : Nat → Option Ep → List Ep → Bool
  | _, _, [] => true
  | i, pv, k :: ks => keyR s i ks.isEmpty pv k && keysLR s (i + 1) (some k) ks

def isLast {α : Type} (pre : List α) (pv : Option α) : Prop := (pre = [] ∧ pv = none) ∨ ∃ pre' p, pre = pre' ++ [p] ∧ pv = some p

theorem mass_epochT (s : List UInt8) (n : Nat) (hs : s.length < 1000000) (hn : n < 1000000000) : (epochT s n).mass < big := by
  have := decN_len n
  simp [epochT, Tm.mass, massL, big, dec_nat]; omega

theorem keys_loop (s : Srv) (bs : List (List AV)) (hn : s.name.length < 1000000) (hep : 0 ≤ s.epoch ∧ s.epoch ≤ 10000) (hkl : s.keys.length ≤ 8) (hm : ∀ k ∈ s.keys, k.key.mass < big) :
    ∀ (post pre : List Ep) (pv : Option Ep) (ρ : Nat → AV), s.keys = pre ++ post → isLast pre pv → ρ 1 = .bx (encS s) → ρ 12 = .sl false 6 (s.keys.map encE) → ρ 13 = .int .i64 s.keys.length → ρ 14 = .int .i64 pre.length →
    R F.tb (.loop F.ticket_keys_l0) ρ bs (blockK 0 (seqK F.tb F.ticket_keys_r0 (finK F.ticket_keys bs.length))) = some (.bool (keysLP s pre.length pv post), bs) := by
  intro post
  induction post with
  | nil =>
    intro pre pv ρ hk hpv h1 h12 h13 h14
    rw [R_loop' F.ticket_keys_l0.eq_1]
    simp at hk
    simp [h1, h12, h13, h14, hk, F.ticket_keys_r0, F.ticket_keys_res, F.ticket_keys_keep, keysLP]
  | cons x post IH =>
    intro pre pv ρ hk hpv h1 h12 h13 h14
    have hg := get_pre hk
    have hl : s.keys.length = pre.length + (post.length + 1) := by rw [hk]; simp
    have hw1 : IntKind.i64.wrap ((pre.length : Int) + 1) = (pre.length : Int) + 1 := wrap64 (by omega) (by omega)
    have hw2 : IntKind.i64.wrap ((s.keys.length : Int) - 1) = (s.keys.length : Int) - 1 := wrap64 (by omega) (by omega)
    have hw3 : IntKind.i64.wrap (s.epoch - (s.keys.length : Int)) = s.epoch - (s.keys.length : Int) := wrap64 (by omega) (by omega)
    have hw4 : IntKind.i64.wrap (s.epoch - (s.keys.length : Int) + 1) = s.epoch - (s.keys.length : Int) + 1 := wrap64 (by omega) (by omega)
    have hw5 : IntKind.i64.wrap (s.epoch - (s.keys.length : Int) + 1 + (pre.length : Int)) = s.epoch - (s.keys.length : Int) + 1 + (pre.length : Int) := wrap64 (by omega) (by omega)
    have hw6 : IntKind.i64.wrap ((pre.length : Int) - 1) = (pre.length : Int) - 1 := wrap64 (by omega) (by omega)
    have hlt : (pre.length : Int) < (s.keys.length : Int) := by omega
    have hlast : ((pre.length : Int) = (s.keys.length : Int) - 1) = (post = []) := by
      rw [hl, eq_iff_iff]
      constructor
      · intro h; apply List.eq_nil_of_length_eq_zero; omega
      · intro h; subst h; simp
    have hxm := hm x (by rw [hk]; simp)
    rw [R_loop' F.ticket_keys_l0.eq_1]
    by_cases c1 : ¬ x.n = s.epoch - (s.keys.length : Int) + 1 + (pre.length : Int)
    · simp [h1, h12, h13, h14, encS, encE, hg, hw1, hw2, hw3, hw4, hw5, hlt, c1, F.ticket_keys_res, F.ticket_keys_keep, keysLP, keyP]
    replace c1 := Decidable.not_not.1 c1
    have c1' : (x.n = s.epoch - (s.keys.length : Int) + 1 + (pre.length : Int)) = True := eq_true c1
    by_cases c2 : x.n < 0
    · simp [h1, h12, h13, h14, encS, encE, hg, hw1, hw2, hw3, hw4, hw5, hlt, c1', c2, F.ticket_keys_res, F.ticket_keys_keep, keysLP, keyP]
    obtain ⟨m, hm2⟩ : ∃ m : Nat, x.n = m := ⟨x.n.toNat, by omega⟩
    have hke := call_epochKey s.name m bs hn (by omega)
    have hsa := call_same29 x.key (epochT s.name m) bs hxm (mass_epochT _ _ hn (by omega))
    rw [← hm2] at hke hsa
    by_cases c3 : ¬ cmpT x.key (epochT s.name x.n) = 0
    · simp [h1, h12, h13, h14, encS, encE, hg, hw1, hw2, hw3, hw4, hw5, hlt, c1', c2, c3, hke, hsa, F.ticket_keys_res, F.ticket_keys_keep, keysLP, keyP]
    replace c3 := Decidable.not_not.1 c3
    have hem : post.isEmpty = decide (post = []) := by cases post <;> simp
    by_cases c4 : (decide (post = []) != decide (x.e = 0)) = true
    · have c4' : (decide (post = []) == decide (x.e = 0)) = false := by simpa [bne] using c4
      simp [h1, h12, h13, h14, encS, encE, hg, hw1, hw2, hw3, hw4, hw5, hlt, c1', c2, c3, c4', c4, hlast, hke, hsa, hem, F.ticket_keys_res, F.ticket_keys_keep, keysLP, keyP]
    have hnext : isLast (pre ++ [x]) (some x) := .inr ⟨pre, x, rfl, rfl⟩
    by_cases hp : post = []
    · have c5 : x.e = 0 := by simp [hp] at c4; exact c4
      simp [h1, h12, h13, h14, encS, encE, hg, hw1, hw2, hw3, hw4, hw5, hlt, c1', c2, c3, c5, hlast, hp, hke, hsa, keysLP, keyP]
      have hih := fun ρ => IH (pre ++ [x]) (some x) ρ (by simp [hk]) hnext
      subst hp
      simp only [keysLP] at hih
      rw [hih] <;> first | (simp [h1, h12, h13]; done) | (cases pv <;> simp)
    have c5 : ¬ x.e = 0 := by simp [hp] at c4; exact c4
    by_cases c6 : x.e < 0
    · simp [h1, h12, h13, h14, encS, encE, hg, hw1, hw2, hw3, hw4, hw5, hlt, c1', c2, c3, c5, c6, hlast, hp, hke, hsa, hem, F.ticket_keys_res, F.ticket_keys_keep, keysLP, keyP]
    have hih := fun ρ => IH (pre ++ [x]) (some x) ρ (by simp [hk]) hnext
    rcases hpv with ⟨hpe, rfl⟩ | ⟨pre', p, hpe, rfl⟩
    · have q1 : (0 < (pre.length : Int)) = False := eq_false (by rw [hpe]; simp)
      have q2 : (pre = []) = True := eq_true hpe
      have q6 : (0 < pre.length) = False := eq_false (by rw [hpe]; simp)
      simp [h1, h12, h13, h14, encS, encE, hg, hw1, hw2, hw3, hw4, hw5, hlt, c1', c2, c3, c5, c6, hlast, hp, hke, hsa, hem, keysLP, keyP, q1, q2, q6]
      rw [hih] <;> simp [h1, h12, h13]
    · have hpl : pre.length = pre'.length + 1 := by rw [hpe]; simp
      have q1 : (0 < (pre.length : Int)) = True := eq_true (by omega)
      have q2 : (pre = []) = False := eq_false (by intro h; rw [h] at hpl; simp at hpl)
      have q3 : s.keys[pre.length - 1]? = some p := by
        rw [hpl, hk, hpe]; simp
      have q4 : ((pre.length : Int) - 1).toNat = pre.length - 1 := by omega
      have q6 : (0 < pre.length) = True := eq_true (by omega)
      have q7 : ((1 : Int) ≤ (pre.length : Int)) = True := eq_true (by omega)
      have q5 : (0 ≤ (pre.length : Int) - 1) = True := eq_true (by omega)
      by_cases c7 : x.e < p.e <;>
        simp [h1, h12, h13, h14, encS, encE, hg, hw1, hw2, hw3, hw4, hw5, hw6, hlt, c1', c2, c3, c5, c6, c7, hlast, hp, hke, hsa, hem, keysLP, keyP, q1, q2, q3, q4, q5, q6, q7, F.ticket_keys_res, F.ticket_keys_keep]
      rw [hih] <;> simp [h1, h12, h13]

def keysP (s : Srv) : Bool := decide (1 ≤ s.keys.length) && decide (s.keys.length ≤ 8) && keysLP s 0 none s.keys
theorem call_keys (s : Srv) (bs : List (List AV)) (hn : s.name.length < 1000000) (hep : 0 ≤ s.epoch ∧ s.epoch ≤ 10000) (hm : ∀ k ∈ s.keys, k.key.mass < big) :
    call F.tb 28 [.agg (encS s)] bs = some (.bool (keysP s), bs) := by
  rw [call_code F.tb_28 _ _ rfl]
  have e1 : ((1 : Int) ≤ (s.keys.length : Int)) = (1 ≤ s.keys.length) := int_le_nat 1 _
  have e2 : ((s.keys.length : Int) ≤ 8) = (s.keys.length ≤ 8) := int_le_nat _ 8
  by_cases c1 : 1 ≤ s.keys.length <;> by_cases c2 : s.keys.length ≤ 8 <;>
    simp [F.ticket_keys_body, F.ticket_keys_b, F.ticket_keys_res, F.ticket_keys_keep, encS, call_in, e1, e2, c1, c2, keysP]
  rw [keys_loop s bs hn hep c2 hm s.keys [] none] <;> simp [encS, isLast]
end Go.Am

namespace Go.Am
set_option maxRecDepth 8000

def usP (next : Int) (pv : Option Us) (u : Us) : Bool := !decide (u.n < 0) && !decide (next ≤ u.n) && !decide (u.e < 0) && (match pv with | none => true | some p => !decide (u.n ≤ p.n))
def usLP (next : Int) : Option Us → List Us → Bool
  | _, [] => true
  | pv, u :: us => usP next pv u && usLP next (some u) us

theorem used_loop (s : Srv) (bs : List (List AV)) (hul : s.used.length < 4611686018427387904) :
    ∀ (post pre : List Us) (pv : Option Us) (ρ : Nat → AV), s.used = pre ++ post → isLast pre pv → ρ 1 = .bx (encS s) → ρ 6 = .sl false 2 (s.used.map encU) → ρ 7 = .int .i64 s.used.length → ρ 8 = .int .i64 pre.length →
    R F.tb (.loop F.ticket_used_l0) ρ bs (blockK 0 (seqK F.tb F.ticket_used_r0 (finK F.ticket_used bs.length))) = some (.bool (usLP s.next pv post && decide (s.used.length ≤ 200)), bs) := by
  have e1 : ((s.used.length : Int) ≤ 200) = (s.used.length ≤ 200) := int_le_nat _ 200
  intro post
  induction post with
  | nil =>
    intro pre pv ρ hk hpv h1 h6 h7 h8
    rw [R_loop' F.ticket_used_l0.eq_1]
    simp at hk
    rw [← hk] at h8
    simp [h1, h6, h7, h8, encS, e1, F.ticket_used_r0, F.ticket_used_res, F.ticket_used_keep, usLP]
  | cons x post IH =>
    intro pre pv ρ hk hpv h1 h6 h7 h8
    have hg := get_pre hk
    have hl : s.used.length = pre.length + (post.length + 1) := by rw [hk]; simp
    have hw1 : IntKind.i64.wrap ((pre.length : Int) + 1) = (pre.length : Int) + 1 := wrap64 (by omega) (by omega)
    have hw6 : IntKind.i64.wrap ((pre.length : Int) - 1) = (pre.length : Int) - 1 := wrap64 (by omega) (by omega)
    have hlt : (pre.length : Int) < (s.used.length : Int) := by omega
    have hnext : isLast (pre ++ [x]) (some x) := .inr ⟨pre, x, rfl, rfl⟩
    have hih := fun ρ => IH (pre ++ [x]) (some x) ρ (by simp [hk]) hnext
    rw [R_loop' F.ticket_used_l0.eq_1]
    rcases hpv with ⟨hpe, rfl⟩ | ⟨pre', p, hpe, rfl⟩
    · have q1 : (0 < (pre.length : Int)) = False := eq_false (by rw [hpe]; simp)
      have q2 : (pre = []) = True := eq_true hpe
      have q6 : (0 < pre.length) = False := eq_false (by rw [hpe]; simp)
      by_cases c1 : x.n < 0 <;> by_cases c2 : s.next ≤ x.n <;> by_cases c3 : x.e < 0 <;>
      simp [h1, h6, h7, h8, encS, encU, hg, hw1, hlt, c1, c2, c3, usLP, usP, q1, q2, q6, F.ticket_used_res, F.ticket_used_keep]
      rw [hih] <;> simp [h1, h6, h7, encS]
    · have hpl : pre.length = pre'.length + 1 := by rw [hpe]; simp
      have q1 : (0 < (pre.length : Int)) = True := eq_true (by omega)
      have q2 : (pre = []) = False := eq_false (by intro h; rw [h] at hpl; simp at hpl)
      have q3 : s.used[pre.length - 1]? = some p := by
        rw [hpl, hk, hpe]; simp
      have q4 : ((pre.length : Int) - 1).toNat = pre.length - 1 := by omega
      have q6 : (0 < pre.length) = True := eq_true (by omega)
      have q7 : ((1 : Int) ≤ (pre.length : Int)) = True := eq_true (by omega)
      have q5 : (0 ≤ (pre.length : Int) - 1) = True := eq_true (by omega)
      by_cases c1 : x.n < 0 <;> by_cases c2 : s.next ≤ x.n <;> by_cases c3 : x.e < 0 <;> by_cases c4 : x.n ≤ p.n <;>
      simp [h1, h6, h7, h8, encS, encU, hg, hw1, hw6, hlt, c1, c2, c3, c4, usLP, usP, q1, q2, q3, q4, q5, q6, q7, F.ticket_used_res, F.ticket_used_keep]
      rw [hih] <;> simp [h1, h6, h7, encS]

theorem call_used (s : Srv) (bs : List (List AV)) (hul : s.used.length < 4611686018427387904) :
    call F.tb 36 [.agg (encS s)] bs = some (.bool (usLP s.next none s.used && decide (s.used.length ≤ 200)), bs) := by
  rw [call_code F.tb_36 _ _ rfl]
  simp [F.ticket_used_body, F.ticket_used_b, encS]
  rw [used_loop s bs hul s.used [] none] <;> simp [encS, isLast]

/-- ticket.Valid -/
def validS (s : Srv) : Bool := nameB s.name && (decide (1 ≤ s.window) && decide (s.window ≤ 1000)) && (decide (0 ≤ s.epoch) && decide (s.epoch ≤ 10000)) && (decide (0 ≤ s.next) && decide (s.next ≤ 10000)) &&
  (decide (0 ≤ s.now) && decide (s.now ≤ 100000)) && keysP s && (usLP s.next none s.used && decide (s.used.length ≤ 200))

theorem call_SValid (s : Srv) (bs : List (List AV)) (hn : s.name.length < 1000000) (hul : s.used.length < 4611686018427387904) (hm : ∀ k ∈ s.keys, k.key.mass < big) :
    call F.tb 27 [.agg (encS s)] bs = some (.int .i64 (if validS s then 0 else 1), bs) := by
  rw [call_code F.tb_27 _ _ rfl]
  have g0 := call_serverName s.name bs hn
  have g1 := call_used s bs hul
  have g2 := call_keys s bs hn
  have g3 := call_in s.window 1 1000 bs
  have g4 := call_in s.epoch 0 10000 bs
  have g5 := call_in s.next 0 10000 bs
  have g6 := call_in s.now 0 100000 bs
  unfold validS
  cases c1 : nameB s.name
  · simp [F.ticket_Valid_body, F.ticket_Valid_b, F.ticket_Valid_res, F.ticket_Valid_keep, encS, g0, c1]
  cases c2 : (decide (1 ≤ s.window) && decide (s.window ≤ 1000))
  · rw [c2] at g3; simp [F.ticket_Valid_body, F.ticket_Valid_b, F.ticket_Valid_res, F.ticket_Valid_keep, encS, g0, c1, g3]
  cases c3 : (decide (0 ≤ s.epoch) && decide (s.epoch ≤ 10000))
  · rw [c2] at g3; rw [c3] at g4; simp [F.ticket_Valid_body, F.ticket_Valid_b, F.ticket_Valid_res, F.ticket_Valid_keep, encS, g0, c1, g3, g4]
  cases c4 : (decide (0 ≤ s.next) && decide (s.next ≤ 10000))
  · rw [c2] at g3; rw [c3] at g4; rw [c4] at g5; simp [F.ticket_Valid_body, F.ticket_Valid_b, F.ticket_Valid_res, F.ticket_Valid_keep, encS, g0, c1, g3, g4, g5]
  cases c5 : (decide (0 ≤ s.now) && decide (s.now ≤ 100000))
  · rw [c2] at g3; rw [c3] at g4; rw [c4] at g5; rw [c5] at g6; simp [F.ticket_Valid_body, F.ticket_Valid_b, F.ticket_Valid_res, F.ticket_Valid_keep, encS, g0, c1, g3, g4, g5, g6]
  rw [c2] at g3; rw [c3] at g4; rw [c4] at g5; rw [c5] at g6
  have g2' := g2 (by simp at c3; exact c3) hm
  unfold encS at g1 g2'
  generalize keysP s = q1 at *
  generalize (usLP s.next none s.used && decide (s.used.length ≤ 200)) = q2 at *
  cases q1 <;> cases q2 <;> simp [F.ticket_Valid_body, F.ticket_Valid_b, F.ticket_Valid_res, F.ticket_Valid_keep, encS, g0, c1, g3, g4, g5, g6, g1, g2']

-- the reference's
theorem rkeys_loop (s : Srv) (bs : List (List AV)) (hn : s.name.length < 1000000) (hep : 0 ≤ s.epoch ∧ s.epoch ≤ 10000) (hkl : s.keys.length ≤ 8) (hel : 0 ≤ s.epoch - s.keys.length + 1) (hm : ∀ k ∈ s.keys, k.key.mass < big) :
    ∀ (post pre : List Ep) (pv : Option Ep) (ρ : Nat → AV), s.keys = pre ++ post → isLast pre pv → ρ 1 = .bx (encS s) → ρ 3 = .int .i64 s.keys.length → ρ 4 = .int .i64 pre.length →
    R F.tb (.loop F.sealringref54_rightKeys_l0) ρ bs (blockK 0 (seqK F.tb F.sealringref54_rightKeys_r0 (finK F.sealringref54_rightKeys bs.length))) = some (.bool (keysLR s pre.length pv post), bs) := by
  intro post
  induction post with
  | nil =>
    intro pre pv ρ hk hpv h1 h3 h4
    rw [R_loop' F.sealringref54_rightKeys_l0.eq_1]
    simp at hk
    simp [h1, h3, h4, hk, F.sealringref54_rightKeys_r0, F.sealringref54_rightKeys_res, F.sealringref54_rightKeys_keep, keysLR]
  | cons x post IH =>
    intro pre pv ρ hk hpv h1 h3 h4
    have hg := get_pre hk
    have hl : s.keys.length = pre.length + (post.length + 1) := by rw [hk]; simp
    have hw1 : IntKind.i64.wrap ((pre.length : Int) + 1) = (pre.length : Int) + 1 := wrap64 (by omega) (by omega)
    have hw2 : IntKind.i64.wrap ((s.keys.length : Int) - 1) = (s.keys.length : Int) - 1 := wrap64 (by omega) (by omega)
    have hw3 : IntKind.i64.wrap (s.epoch - (s.keys.length : Int)) = s.epoch - (s.keys.length : Int) := wrap64 (by omega) (by omega)
    have hw4 : IntKind.i64.wrap (s.epoch - (s.keys.length : Int) + 1) = s.epoch - (s.keys.length : Int) + 1 := wrap64 (by omega) (by omega)
    have hw5 : IntKind.i64.wrap (s.epoch - (s.keys.length : Int) + 1 + (pre.length : Int)) = s.epoch - (s.keys.length : Int) + 1 + (pre.length : Int) := wrap64 (by omega) (by omega)
    have hw6 : IntKind.i64.wrap ((pre.length : Int) - 1) = (pre.length : Int) - 1 := wrap64 (by omega) (by omega)
    have hlt : (pre.length : Int) < (s.keys.length : Int) := by omega
    have hlast : ((pre.length : Int) < (s.keys.length : Int) - 1) = ¬ (post = []) := by
      rw [hl, eq_iff_iff]
      constructor
      · intro h he; subst he; simp at h
      · intro h; have := List.length_pos_iff.2 h; omega
    have hxm := hm x (by rw [hk]; simp)
    have hem : post.isEmpty = decide (post = []) := by cases post <;> simp
    have hnext : isLast (pre ++ [x]) (some x) := .inr ⟨pre, x, rfl, rfl⟩
    have hih := fun ρ => IH (pre ++ [x]) (some x) ρ (by simp [hk]) hnext
    rw [R_loop' F.sealringref54_rightKeys_l0.eq_1]
    by_cases c1 : ¬ x.n = s.epoch - (s.keys.length : Int) + 1 + (pre.length : Int)
    · simp [h1, h3, h4, encS, encE, hg, hw1, hw2, hw3, hw4, hw5, hlt, c1, F.sealringref54_rightKeys_res, F.sealringref54_rightKeys_keep, keysLR, keyR]
    replace c1 := Decidable.not_not.1 c1
    have c1' : (x.n = s.epoch - (s.keys.length : Int) + 1 + (pre.length : Int)) = True := eq_true c1
    obtain ⟨m, hm2⟩ : ∃ m : Nat, x.n = m := ⟨x.n.toNat, by omega⟩
    have hke := call_REpochKey s.name m bs hn (by omega)
    have hsa := call_RSame x.key (epochT s.name m) bs hxm (mass_epochT _ _ hn (by omega))
    rw [← hm2] at hke hsa
    by_cases c3 : ¬ cmpT x.key (epochT s.name x.n) = 0
    · simp [h1, h3, h4, encS, encE, hg, hw1, hw2, hw3, hw4, hw5, hlt, c1', c3, hke, hsa, F.sealringref54_rightKeys_res, F.sealringref54_rightKeys_keep, keysLR, keyR]
    replace c3 := Decidable.not_not.1 c3
    by_cases hp : post = []
    · simp [h1, h3, h4, encS, encE, hg, hw1, hw2, hw3, hw4, hw5, hlt, c1', c3, hlast, hp, hke, hsa, keysLR, keyR]
      subst hp
      simp only [keysLR] at hih
      rw [hih] <;> simp [h1, h3, encS]
    rcases hpv with ⟨hpe, rfl⟩ | ⟨pre', p, hpe, rfl⟩
    · have q1 : (0 < (pre.length : Int)) = False := eq_false (by rw [hpe]; simp)
      have q2 : (pre = []) = True := eq_true hpe
      have q6 : (0 < pre.length) = False := eq_false (by rw [hpe]; simp)
      by_cases c6 : x.e < 1 <;>
      simp [h1, h3, h4, encS, encE, hg, hw1, hw2, hw3, hw4, hw5, hlt, c1', c3, c6, hlast, hp, hke, hsa, hem, keysLR, keyR, q1, q2, q6, F.sealringref54_rightKeys_res, F.sealringref54_rightKeys_keep]
      rw [hih] <;> simp [h1, h3, encS]
    · have hpl : pre.length = pre'.length + 1 := by rw [hpe]; simp
      have q1 : (0 < (pre.length : Int)) = True := eq_true (by omega)
      have q2 : (pre = []) = False := eq_false (by intro h; rw [h] at hpl; simp at hpl)
      have q3 : s.keys[pre.length - 1]? = some p := by
        rw [hpl, hk, hpe]; simp
      have q4 : ((pre.length : Int) - 1).toNat = pre.length - 1 := by omega
      have q6 : (0 < pre.length) = True := eq_true (by omega)
      have q7 : ((1 : Int) ≤ (pre.length : Int)) = True := eq_true (by omega)
      have q5 : (0 ≤ (pre.length : Int) - 1) = True := eq_true (by omega)
      by_cases c6 : x.e < 1 <;> by_cases c7 : x.e < p.e <;>
        simp [h1, h3, h4, encS, encE, hg, hw1, hw2, hw3, hw4, hw5, hw6, hlt, c1', c3, c6, c7, hlast, hp, hke, hsa, hem, keysLR, keyR, q1, q2, q3, q4, q5, q6, q7, F.sealringref54_rightKeys_res, F.sealringref54_rightKeys_keep]
      rw [hih] <;> simp [h1, h3, encS]
end Go.Am

namespace Go.Am
set_option maxRecDepth 8000

def rkeysB (s : Srv) : Bool := decide (1 ≤ s.keys.length) && decide (s.keys.length ≤ 8) && decide ((s.keys.getLast?.map Ep.n) = some s.epoch) && decide (0 ≤ s.epoch - s.keys.length + 1) && decide ((s.keys.getLast?.map Ep.e) = some 0) && keysLR s 0 none s.keys

theorem call_rightKeys (s : Srv) (bs : List (List AV)) (hn : s.name.length < 1000000) (hep : 0 ≤ s.epoch ∧ s.epoch ≤ 10000) (hm : ∀ k ∈ s.keys, k.key.mass < big) (hkl : s.keys.length < 4611686018427387904) :
    call F.tb 110 [.agg (encS s)] bs = some (.bool (rkeysB s), bs) := by
  rw [call_code F.tb_110 _ _ rfl]
  have e1 : ((s.keys.length : Int) < 1) = ¬ (1 ≤ s.keys.length) := by rw [eq_iff_iff]; omega
  have e2 : ((8 : Int) < s.keys.length) = ¬ (s.keys.length ≤ 8) := by rw [eq_iff_iff]; omega
  have hw1 : IntKind.i64.wrap ((s.keys.length : Int) - 1) = (s.keys.length : Int) - 1 := wrap64 (by omega) (by omega)
  have hw3 : IntKind.i64.wrap (s.epoch - (s.keys.length : Int)) = s.epoch - (s.keys.length : Int) := wrap64 (by omega) (by omega)
  have hw4 : IntKind.i64.wrap (s.epoch - (s.keys.length : Int) + 1) = s.epoch - (s.keys.length : Int) + 1 := wrap64 (by omega) (by omega)
  by_cases c1 : ¬ 1 ≤ s.keys.length
  · have c1' : (1 ≤ s.keys.length) = False := eq_false c1
    have c2' : (s.keys.length ≤ 8) = True := eq_true (by omega)
    simp only [rkeysB, c1', decide_false, Bool.false_and]
    simp [F.sealringref54_rightKeys_body, F.sealringref54_rightKeys_b, F.sealringref54_rightKeys_res, F.sealringref54_rightKeys_keep, encS, e1, e2, c1', c2']
  replace c1 := Decidable.not_not.1 c1
  have c1' : (1 ≤ s.keys.length) = True := eq_true c1
  by_cases c2 : ¬ s.keys.length ≤ 8
  · have c2' : (s.keys.length ≤ 8) = False := eq_false c2
    simp only [rkeysB, c1', c2', decide_false, Bool.false_and, Bool.and_false]
    simp [F.sealringref54_rightKeys_body, F.sealringref54_rightKeys_b, F.sealringref54_rightKeys_res, F.sealringref54_rightKeys_keep, encS, e1, e2, c1', c2']
  replace c2 := Decidable.not_not.1 c2
  have c2' : (s.keys.length ≤ 8) = True := eq_true c2
  obtain ⟨l, hl⟩ : ∃ l, s.keys.getLast? = some l := by
    cases h : s.keys.getLast? with
    | none => rw [List.getLast?_eq_none_iff] at h; rw [h] at c1; simp at c1
    | some l => exact ⟨l, rfl⟩
  have q3 : s.keys[s.keys.length - 1]? = some l := by rw [← hl, List.getLast?_eq_getElem?]
  have q4 : ((s.keys.length : Int) - 1).toNat = s.keys.length - 1 := by omega
  have q5 : (0 ≤ (s.keys.length : Int) - 1) = True := eq_true (by omega)
  have q7 : ((1 : Int) ≤ (s.keys.length : Int)) = True := eq_true (by omega)
  have e3 : (s.epoch - (s.keys.length : Int) + 1 < 0) = ¬ (0 ≤ s.epoch - (s.keys.length : Int) + 1) := by rw [eq_iff_iff]; omega
  simp only [rkeysB, c1', c2', hl, Option.map_some, decide_true, Bool.true_and, Option.some.injEq]
  by_cases c3 : l.n = s.epoch <;> by_cases c4 : 0 ≤ s.epoch - (s.keys.length : Int) + 1 <;> by_cases c5 : l.e = 0 <;>
    simp [F.sealringref54_rightKeys_body, F.sealringref54_rightKeys_b, F.sealringref54_rightKeys_res, F.sealringref54_rightKeys_keep, encS, encE, e1, e2, e3, c1', c2', hw1, hw3, hw4, q3, q4, q5, q7, c3, c4, c5]
  rw [rkeys_loop s bs hn hep c2 c4 hm s.keys [] none] <;> simp [encS, isLast]

theorem keysLP_eq (s : Srv) : ∀ (ks : List Ep) (i : Nat) (pv : Option Ep), ks ≠ [] →
    keysLP s i pv ks = (keysLR s i pv ks && decide (0 ≤ s.epoch - s.keys.length + 1 + i) && decide (ks.getLast?.map Ep.e = some 0))
  | [], _, _, h => absurd rfl h
  | [k], i, pv, _ => by
    by_cases c1 : k.n = s.epoch - s.keys.length + 1 + i <;> by_cases c2 : 0 ≤ s.epoch - s.keys.length + 1 + i <;> by_cases c3 : k.e = 0 <;>
      simp [keysLP, keysLR, keyP, keyR, c1, c2, c3]
    · cases pv <;> simp <;> omega
  | k :: k' :: ks, i, pv, _ => by
    have ih := keysLP_eq s (k' :: ks) (i + 1) (some k) (by simp)
    have hR : keysLR s i pv (k :: k' :: ks) = (keyR s i (k' :: ks).isEmpty pv k && keysLR s (i + 1) (some k) (k' :: ks)) := rfl
    have hP : keysLP s i pv (k :: k' :: ks) = (keyP s i (k' :: ks).isEmpty pv k && keysLP s (i + 1) (some k) (k' :: ks)) := rfl
    rw [hP, ih, hR]
    simp only [List.getLast?_cons_cons]
    have c : ((i + 1 : Nat) : Int) = (i : Int) + 1 := by omega
    rw [c]
    generalize keysLR s (i + 1) (some k) (k' :: ks) = r
    generalize decide ((k' :: ks).getLast?.map Ep.e = some 0) = q
    have hk : keyP s i (k' :: ks).isEmpty pv k = (keyR s i (k' :: ks).isEmpty pv k && decide (0 ≤ s.epoch - s.keys.length + 1 + i)) := by
      by_cases c1 : k.n = s.epoch - s.keys.length + 1 + i <;> by_cases c2 : 0 ≤ s.epoch - s.keys.length + 1 + i <;> by_cases c3 : k.e < 1 <;>
        simp [keyP, keyR, c1, c2, c3]
      · intros; omega
      · have h1 : ¬ k.e = 0 := by omega
        have h2 : ¬ k.e < 0 := by omega
        have h3 : ¬ s.epoch - s.keys.length + 1 + i < 0 := by omega
        have h4 : 0 ≤ k.e := by omega
        cases pv <;> simp [h1, h2, h3]
    rw [hk]
    by_cases c2 : 0 ≤ s.epoch - s.keys.length + 1 + i
    · have c3 : 0 ≤ s.epoch - s.keys.length + 1 + ((i : Int) + 1) := by omega
      simp [c2, c3, Bool.and_assoc]
    · simp [c2]

theorem keysLR_last (s : Srv) : ∀ (ks : List Ep) (i : Nat) (pv : Option Ep), keysLR s i pv ks = true → ks = [] ∨ ks.getLast?.map Ep.n = some (s.epoch - s.keys.length + i + ks.length)
  | [], _, _, _ => .inl rfl
  | [k], i, pv, h => by
    right
    simp [keysLR, keyR] at h
    simp [h.1]; omega
  | k :: k' :: ks, i, pv, h => by
    right
    rw [keysLR, Bool.and_eq_true] at h
    rcases keysLR_last s (k' :: ks) (i + 1) (some k) h.2 with h1 | h1
    · cases h1
    · rw [List.getLast?_cons_cons, h1]
      simp; omega

theorem rkeys_eq (s : Srv) : rkeysB s = keysP s := by
  unfold rkeysB keysP
  by_cases c1 : 1 ≤ s.keys.length
  · have hne : s.keys ≠ [] := fun h => by rw [h] at c1; simp at c1
    rw [keysLP_eq s s.keys 0 none hne]
    have hl := keysLR_last s s.keys 0 none
    cases hr : keysLR s 0 none s.keys
    · simp
    · rcases hl hr with h1 | h1
      · exact absurd h1 hne
      · rw [h1]
        have h2 : s.epoch - s.keys.length + ((0 : Nat) : Int) + s.keys.length = s.epoch := by omega
        simp only [h2, c1]
        simp
        generalize decide (0 ≤ s.epoch - s.keys.length + 1) = a
        cases a <;> simp [Bool.and_comm]
  · simp [c1]

theorem rused_loop (s : Srv) (bs : List (List AV)) (hul : s.used.length < 4611686018427387904) :
    ∀ (post pre : List Us) (pv : Option Us) (ρ : Nat → AV), s.used = pre ++ post → isLast pre pv → ρ 1 = .bx (encS s) → ρ 3 = .int .i64 pre.length →
    R F.tb (.loop F.sealringref54_Valid_l0) ρ bs (blockK 0 (seqK F.tb F.sealringref54_Valid_r0 (finK F.sealringref54_Valid bs.length))) = some (.int .i64 (if usLP s.next pv post then 0 else 1), bs) := by
  intro post
  induction post with
  | nil =>
    intro pre pv ρ hk hpv h1 h3
    rw [R_loop' F.sealringref54_Valid_l0.eq_1]
    simp at hk
    rw [← hk] at h3
    simp [h1, h3, encS, F.sealringref54_Valid_r0, F.sealringref54_Valid_res, F.sealringref54_Valid_keep, usLP]
  | cons x post IH =>
    intro pre pv ρ hk hpv h1 h3
    have hg := get_pre hk
    have hl : s.used.length = pre.length + (post.length + 1) := by rw [hk]; simp
    have hw1 : IntKind.i64.wrap ((pre.length : Int) + 1) = (pre.length : Int) + 1 := wrap64 (by omega) (by omega)
    have hw6 : IntKind.i64.wrap ((pre.length : Int) - 1) = (pre.length : Int) - 1 := wrap64 (by omega) (by omega)
    have hlt : (pre.length : Int) < (s.used.length : Int) := by omega
    have hnext : isLast (pre ++ [x]) (some x) := .inr ⟨pre, x, rfl, rfl⟩
    have hih := fun ρ => IH (pre ++ [x]) (some x) ρ (by simp [hk]) hnext
    rw [R_loop' F.sealringref54_Valid_l0.eq_1]
    rcases hpv with ⟨hpe, rfl⟩ | ⟨pre', p, hpe, rfl⟩
    · have q1 : (0 < (pre.length : Int)) = False := eq_false (by rw [hpe]; simp)
      have q2 : (pre = []) = True := eq_true hpe
      have q6 : (0 < pre.length) = False := eq_false (by rw [hpe]; simp)
      by_cases c1 : x.n < 0 <;> by_cases c2 : s.next ≤ x.n <;> by_cases c3 : x.e < 0 <;>
      simp [h1, h3, encS, encU, hg, hw1, hlt, c1, c2, c3, usLP, usP, q1, q2, q6, F.sealringref54_Valid_res, F.sealringref54_Valid_keep]
      rw [hih] <;> simp [h1, encS]
    · have hpl : pre.length = pre'.length + 1 := by rw [hpe]; simp
      have q1 : (0 < (pre.length : Int)) = True := eq_true (by omega)
      have q2 : (pre = []) = False := eq_false (by intro h; rw [h] at hpl; simp at hpl)
      have q3 : s.used[pre.length - 1]? = some p := by
        rw [hpl, hk, hpe]; simp
      have q4 : ((pre.length : Int) - 1).toNat = pre.length - 1 := by omega
      have q6 : (0 < pre.length) = True := eq_true (by omega)
      have q7 : ((1 : Int) ≤ (pre.length : Int)) = True := eq_true (by omega)
      have q5 : (0 ≤ (pre.length : Int) - 1) = True := eq_true (by omega)
      by_cases c1 : x.n < 0 <;> by_cases c2 : s.next ≤ x.n <;> by_cases c3 : x.e < 0 <;> by_cases c4 : x.n ≤ p.n <;>
      simp [h1, h3, encS, encU, hg, hw1, hw6, hlt, c1, c2, c3, c4, usLP, usP, q1, q2, q3, q4, q5, q6, q7, F.sealringref54_Valid_res, F.sealringref54_Valid_keep]
      rw [hih] <;> simp [h1, encS]

theorem call_RValidS (s : Srv) (bs : List (List AV)) (hn : s.name.length < 1000000) (hul : s.used.length < 4611686018427387904) (hm : ∀ k ∈ s.keys, k.key.mass < big) (hkl : s.keys.length < 4611686018427387904) :
    call F.tb 109 [.agg (encS s)] bs = some (.int .i64 (if validS s then 0 else 1), bs) := by
  rw [call_code F.tb_109 _ _ rfl]
  have g0 := call_rightName s.name bs hn
  have g2 := call_rightKeys s bs hn
  have e9 : ((200 : Int) < s.used.length) = ¬ (s.used.length ≤ 200) := by rw [eq_iff_iff]; omega
  have hloop := rused_loop s bs hul s.used [] none
  rw [rkeys_eq] at g2
  unfold encS at g2
  unfold validS
  cases c1 : nameB s.name
  · simp [F.sealringref54_Valid_body, F.sealringref54_Valid_b, F.sealringref54_Valid_res, F.sealringref54_Valid_keep, encS, g0, c1]
  by_cases d1 : s.window < 1
  · have d1' : ¬ 1 ≤ s.window := by omega
    simp [F.sealringref54_Valid_body, F.sealringref54_Valid_b, F.sealringref54_Valid_res, F.sealringref54_Valid_keep, encS, g0, c1, d1, d1']
  by_cases d2 : 1000 < s.window
  · have d2' : ¬ s.window ≤ 1000 := by omega
    simp [F.sealringref54_Valid_body, F.sealringref54_Valid_b, F.sealringref54_Valid_res, F.sealringref54_Valid_keep, encS, g0, c1, d1, d2, d2']
  by_cases d3 : s.epoch < 0
  · have d3' : ¬ 0 ≤ s.epoch := by omega
    simp [F.sealringref54_Valid_body, F.sealringref54_Valid_b, F.sealringref54_Valid_res, F.sealringref54_Valid_keep, encS, g0, c1, d1, d2, d3, d3']
  by_cases d4 : 10000 < s.epoch
  · have d4' : ¬ s.epoch ≤ 10000 := by omega
    simp [F.sealringref54_Valid_body, F.sealringref54_Valid_b, F.sealringref54_Valid_res, F.sealringref54_Valid_keep, encS, g0, c1, d1, d2, d3, d4, d4']
  by_cases d5 : s.next < 0
  · have d5' : ¬ 0 ≤ s.next := by omega
    simp [F.sealringref54_Valid_body, F.sealringref54_Valid_b, F.sealringref54_Valid_res, F.sealringref54_Valid_keep, encS, g0, c1, d1, d2, d3, d4, d5, d5']
  by_cases d6 : 10000 < s.next
  · have d6' : ¬ s.next ≤ 10000 := by omega
    simp [F.sealringref54_Valid_body, F.sealringref54_Valid_b, F.sealringref54_Valid_res, F.sealringref54_Valid_keep, encS, g0, c1, d1, d2, d3, d4, d5, d6, d6']
  by_cases d7 : s.now < 0
  · have d7' : ¬ 0 ≤ s.now := by omega
    simp [F.sealringref54_Valid_body, F.sealringref54_Valid_b, F.sealringref54_Valid_res, F.sealringref54_Valid_keep, encS, g0, c1, d1, d2, d3, d4, d5, d6, d7, d7']
  by_cases d8 : 100000 < s.now
  · have d8' : ¬ s.now ≤ 100000 := by omega
    simp [F.sealringref54_Valid_body, F.sealringref54_Valid_b, F.sealringref54_Valid_res, F.sealringref54_Valid_keep, encS, g0, c1, d1, d2, d3, d4, d5, d6, d7, d8, d8']
  by_cases d9 : s.used.length ≤ 200
  · have g2' := g2 (by omega) hm hkl
    have h1 : (decide (1 ≤ s.window) && decide (s.window ≤ 1000)) = true := by simp; omega
    have h2 : (decide (0 ≤ s.epoch) && decide (s.epoch ≤ 10000)) = true := by simp; omega
    have h3 : (decide (0 ≤ s.next) && decide (s.next ≤ 10000)) = true := by simp; omega
    have h4 : (decide (0 ≤ s.now) && decide (s.now ≤ 100000)) = true := by simp; omega
    simp only [h1, h2, h3, h4, Bool.true_and, d9, decide_true, Bool.and_true]
    cases hk : keysP s
    · simp [F.sealringref54_Valid_body, F.sealringref54_Valid_b, F.sealringref54_Valid_res, F.sealringref54_Valid_keep, encS, g0, c1, d1, d2, d3, d4, d5, d6, d7, d8, d9, e9, g2', hk]
    · simp [F.sealringref54_Valid_body, F.sealringref54_Valid_b, F.sealringref54_Valid_res, F.sealringref54_Valid_keep, encS, g0, c1, d1, d2, d3, d4, d5, d6, d7, d8, d9, e9, g2', hk]
      rw [hloop] <;> simp [encS, isLast]
  · simp [F.sealringref54_Valid_body, F.sealringref54_Valid_b, F.sealringref54_Valid_res, F.sealringref54_Valid_keep, encS, g0, c1, d1, d2, d3, d4, d5, d6, d7, d8, d9, e9]
end Go.Am
