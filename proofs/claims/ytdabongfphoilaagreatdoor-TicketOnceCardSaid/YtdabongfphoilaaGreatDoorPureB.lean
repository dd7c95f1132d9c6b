/-
  The pure land, part 5: servers and their encoding; Few; names and numbers.
-/
import Derived.Test.YtdabongfphoilaaGreatDoorPureA
set_option linter.unusedVariables false
set_option linter.unusedSimpArgs false

namespace Go.Am
set_option maxRecDepth 8000

structure Ep where
  n : Int
  e : Int
  key : Tm
structure Us where
  n : Int
  e : Int
structure Srv where
  name : List UInt8
  epoch : Int
  keys : List Ep
  next : Int
  used : List Us
  window : Int
  now : Int

def encE (k : Ep) : List AV := .int .i64 k.n :: .int .i64 k.e :: encT k.key
def encU (u : Us) : List AV := [.int .i64 u.n, .int .i64 u.e]
def encS (s : Srv) : List AV := [.str s.name, .int .i64 s.epoch, .sl false 6 (s.keys.map encE), .int .i64 s.next, .sl false 2 (s.used.map encU), .int .i64 s.window, .int .i64 s.now]

-- budgets of nodes
mutual
def budT : Tm → Int → Int
  | .mk _ n _ ks, m => if m ≤ 0 ∨ 40 < n.length then -1 else budL ks (m - 1)
def budL : List Tm → Int → Int
  | [], m => m
  | t :: ts, m => if budT t m < 0 then -1 else budL ts (budT t m)
end
mutual
theorem budT_le : ∀ (t : Tm) (m : Int), budT t m = -1 ∨ 0 ≤ budT t m ∧ budT t m + t.nodes ≤ m ∧ t.mass + 1 ≤ 42 * t.nodes
  | .mk k n s ks, m => by
    simp only [budT, Tm.nodes, Tm.mass]
    split
    · exact .inl rfl
    · rename_i h
      rcases budL_le ks (m - 1) (by omega) with h1 | h1
      · exact .inl h1
      · right; omega
theorem budL_le : ∀ (ts : List Tm) (m : Int), 0 ≤ m → budL ts m = -1 ∨ 0 ≤ budL ts m ∧ budL ts m + nodesL ts ≤ m ∧ massL ts + ts.length ≤ 42 * nodesL ts
  | [], m, h => by simp [budL, nodesL, massL]; omega
  | t :: ts, m, h => by
    simp only [budL, nodesL, massL, List.length_cons]
    split
    · exact .inl rfl
    · rename_i h0
      rcases budT_le t m with h1 | h1
      · omega
      · rcases budL_le ts (budT t m) (by omega) with h2 | h2
        · exact .inl h2
        · right
          omega
end

theorem bud_loop (t : Tm) (bs : List (List AV)) (m0 : Int) (hm : m0 < 1000000) (ih : ∀ x ∈ t.kids, ∀ (m : Int) bs, m < 1000000 → call F.tb 102 [.agg (encT x), .int .i64 m] bs = some (.int .i64 (budT x m), bs)) :
    ∀ (post pre : List Tm) (m : Int) (ρ : Nat → AV), t.kids = pre ++ post → 0 ≤ m → m + pre.length ≤ m0 → ρ 2 = .bx (encT t) → ρ 5 = .int .i64 pre.length → ρ 1 = .int .i64 m →
    R F.tb (.loop F.sealringref01_budget_l0) ρ bs (blockK 0 (seqK F.tb F.sealringref01_budget_r0 (finK F.sealringref01_budget bs.length))) = some (.int .i64 (budL post m), bs) := by
  intro post
  induction post with
  | nil =>
    intro pre m ρ hk h0 hp h2 h5 h1
    rw [R_loop' F.sealringref01_budget_l0.eq_1]
    simp at hk
    simp [h1, h2, h5, hk, F.sealringref01_budget_r0, F.sealringref01_budget_res, F.sealringref01_budget_keep, budL]
  | cons x post IH =>
    intro pre m ρ hk h0 hp h2 h5 h1
    have hg := get_pre hk
    have hl : t.kids.length = pre.length + (post.length + 1) := by rw [hk]; simp
    have hw1 : IntKind.i64.wrap ((pre.length : Int) + 1) = (pre.length : Int) + 1 := wrap64 (by omega) (by omega)
    have hlt : (pre.length : Int) < (t.kids.length : Int) := by omega
    have hn := nodes_eq x
    rw [R_loop' F.sealringref01_budget_l0.eq_1]
    rcases budT_le x m with hb | hb
    · simp [h1, h2, h5, hg, hw1, hlt, ih x (by rw [hk]; simp) m bs (by omega), hb, F.sealringref01_budget_res, F.sealringref01_budget_keep, budL]
    · have hb0 : ¬ budT x m < 0 := by omega
      simp [h1, h2, h5, hg, hw1, hlt, ih x (by rw [hk]; simp) m bs (by omega), hb0, budL]
      rw [IH (pre ++ [x]) (budT x m)] <;> first | omega | (simp [h1, h2, h5, hk]; done) | (simp; omega)

theorem call_bud : ∀ (t : Tm) (m : Int) (bs : List (List AV)), m < 1000000 → call F.tb 102 [.agg (encT t), .int .i64 m] bs = some (.int .i64 (budT t m), bs) := by
  refine tm_ind ?_
  intro k n s ks ih m bs hm
  rw [call_code F.tb_102 _ _ rfl]
  have hn : (40 < (n.length : Int)) = (40 < n.length) := by rw [eq_iff_iff]; omega
  simp [F.sealringref01_budget_body, F.sealringref01_budget_b, F.sealringref01_budget_res, F.sealringref01_budget_keep, guardB_ite, hn, budT]
  split
  · rfl
  · rename_i hc
    have hw : IntKind.i64.wrap (m - 1) = m - 1 := wrap64 (by omega) (by omega)
    refine bud_loop (.mk k n s ks) bs m hm (fun x hx => ih x hx) ks [] (m - 1) _ ?_ ?_ ?_ ?_ ?_ ?_ <;> first | (simp [hw]; done) | (simp; omega)

def few (l : List Tm) (n : Nat) (m : Int) : Bool := decide (l.length ≤ n) && decide (0 ≤ budL l m)

theorem few_loop (l : List Tm) (o : Bool) (bs : List (List AV)) (hl : l.length < 1000000) :
    ∀ (post pre : List Tm) (m : Int) (ρ : Nat → AV), l = pre ++ post → 0 ≤ m → m < 1000000 → ρ 0 = .sl o 4 (encTs l) → ρ 7 = .int .i64 pre.length → ρ 2 = .int .i64 m →
    R F.tb (.loop F.sealringref01_Few_l0) ρ bs (blockK 0 (seqK F.tb F.sealringref01_Few_r0 (finK F.sealringref01_Few bs.length))) = some (.bool (decide (0 ≤ budL post m)), bs) := by
  intro post
  induction post with
  | nil =>
    intro pre m ρ hk h0 hm hr0 h7 h2
    rw [R_loop' F.sealringref01_Few_l0.eq_1]
    simp at hk
    simp [hr0, h7, h2, hk, F.sealringref01_Few_r0, F.sealringref01_Few_res, F.sealringref01_Few_keep, budL, h0]
  | cons x post IH =>
    intro pre m ρ hk h0 hm hr0 h7 h2
    have hg := get_pre hk
    have hl : l.length = pre.length + (post.length + 1) := by rw [hk]; simp
    have hw1 : IntKind.i64.wrap ((pre.length : Int) + 1) = (pre.length : Int) + 1 := wrap64 (by omega) (by omega)
    have hlt : (pre.length : Int) < (l.length : Int) := by omega
    rw [R_loop' F.sealringref01_Few_l0.eq_1]
    rcases budT_le x m with hb | hb
    · simp [hr0, h7, h2, hg, hw1, hlt, call_bud x m bs (by omega), hb, F.sealringref01_Few_res, F.sealringref01_Few_keep, budL]
    · have hb0 : ¬ budT x m < 0 := by omega
      simp [hr0, h7, h2, hg, hw1, hlt, call_bud x m bs (by omega), hb0, budL]
      rw [IH (pre ++ [x]) (budT x m)] <;> first | omega | (simp [hr0, h7, h2, hk]; done)

theorem call_few (l : List Tm) (o : Bool) (n : Nat) (m : Int) (bs : List (List AV)) (hn : n < 1000000) (h0 : 0 ≤ m) (hm : m < 1000000) :
    call F.tb 101 [.sl o 4 (encTs l), .int .i64 n, .int .i64 m] bs = some (.bool (few l n m), bs) := by
  rw [call_code F.tb_101 _ _ rfl]
  have e1 : ((n : Int) < (l.length : Int)) = (n < l.length) := by rw [eq_iff_iff]; omega
  simp [F.sealringref01_Few_body, F.sealringref01_Few_b, F.sealringref01_Few_res, F.sealringref01_Few_keep, guardB_ite, few]
  split
  · have : ¬ l.length ≤ n := by omega
    simp [this]
  · have : l.length ≤ n := by omega
    rw [few_loop l false bs (by omega) l [] m] <;> simp [this, h0, hm]
end Go.Am

namespace Go.Am
set_option maxRecDepth 8000

def letterB (c : UInt8) : Bool := (97 ≤ c.toNat && c.toNat ≤ 122) || (65 ≤ c.toNat && c.toNat ≤ 90)
def digitB (c : UInt8) : Bool := 48 ≤ c.toNat && c.toNat ≤ 57
theorem partB_eq (c : UInt8) : partB c = (letterB c || digitB c || c.toNat == 95 || c.toNat == 35) := rfl
theorem int_le_nat (m n : Nat) : ((m : Int) ≤ (n : Int)) = (m ≤ n) := by rw [eq_iff_iff]; omega

theorem call_letter (c : UInt8) (bs : List (List AV)) : call F.tb 58 [.int .u8 c.toNat] bs = some (.bool (letterB c), bs) := by
  rw [call_code F.tb_58 _ _ rfl]
  have e1 : ((97 : Int) ≤ (c.toNat : Int)) = (97 ≤ c.toNat) := int_le_nat 97 _
  have e2 : ((c.toNat : Int) ≤ 122) = (c.toNat ≤ 122) := int_le_nat _ 122
  have e3 : ((65 : Int) ≤ (c.toNat : Int)) = (65 ≤ c.toNat) := int_le_nat 65 _
  have e4 : ((c.toNat : Int) ≤ 90) = (c.toNat ≤ 90) := int_le_nat _ 90
  simp [F.sealringref01_letter, F.sealringref01_letter_b, letterB, e1, e2, e3, e4]

theorem call_digit (c : UInt8) (bs : List (List AV)) : call F.tb 59 [.int .u8 c.toNat] bs = some (.bool (digitB c), bs) := by
  rw [call_code F.tb_59 _ _ rfl]
  have e1 : ((48 : Int) ≤ (c.toNat : Int)) = (48 ≤ c.toNat) := int_le_nat 48 _
  have e2 : ((c.toNat : Int) ≤ 57) = (c.toNat ≤ 57) := int_le_nat _ 57
  simp [F.sealringref01_digit, F.sealringref01_digit_b, digitB, e1, e2]

theorem cast_eq95 (n : Nat) : ((n : Int) = 95) = (n = 95) := by rw [eq_iff_iff]; omega
theorem cast_eq35 (n : Nat) : ((n : Int) = 35) = (n = 35) := by rw [eq_iff_iff]; omega

theorem RIsName_loop (s : List UInt8) (bs : List (List AV)) (hs : s.length < 4611686018427387904) : ∀ (post pre : List UInt8) (ρ : Nat → AV), s = pre ++ post → ρ 0 = .str s → ρ 3 = .int .i64 pre.length →
    R F.tb (.loop F.sealringref01_IsName_l0) ρ bs (blockK 0 (seqK F.tb F.sealringref01_IsName_r0 (finK F.sealringref01_IsName bs.length))) = some (.bool (post.all partB), bs) := by
  intro post
  induction post with
  | nil =>
    intro pre ρ hk h0 h3
    rw [R_loop' F.sealringref01_IsName_l0.eq_1]
    simp at hk
    simp [h0, h3, hk, F.sealringref01_IsName_r0, F.sealringref01_IsName_res, F.sealringref01_IsName_keep]
  | cons x post IH =>
    intro pre ρ hk h0 h3
    have hg := get_pre hk
    have hl : s.length = pre.length + (post.length + 1) := by rw [hk]; simp
    have hw1 : IntKind.i64.wrap ((pre.length : Int) + 1) = (pre.length : Int) + 1 := wrap64 (by omega) (by omega)
    have hlt : (pre.length : Int) < (s.length : Int) := by omega
    rw [R_loop' F.sealringref01_IsName_l0.eq_1]
    cases hp : partB x
    · rw [partB_eq] at hp
      simp only [Bool.or_eq_false_iff] at hp
      obtain ⟨⟨⟨p1, p2⟩, p3⟩, p4⟩ := hp
      have p3' : ¬ x.toNat = 95 := by simpa using p3
      have p4' : ¬ x.toNat = 35 := by simpa using p4
      simp [h0, h3, hg, hw1, hlt, call_letter, call_digit, p1, p2, p3', p4', cast_eq95, cast_eq35, F.sealringref01_IsName_res, F.sealringref01_IsName_keep, partB_eq]
    · simp [h0, h3, hg, hw1, hlt, call_letter, call_digit, cast_eq95, cast_eq35, F.sealringref01_IsName_res, F.sealringref01_IsName_keep, partB_eq, guardB_ite]
      split
      · rename_i hc
        simp [partB_eq, hc] at hp
      · rw [IH (pre ++ [x])]
        · simp [partB_eq] at hp
          simp [hp]
        · simp [hk]
        · simp [h0]
        · simp

theorem letter_not {c : UInt8} (h : letterB c = true) : digitB c = false ∧ (c.toNat == 95) = false ∧ (c.toNat == 35) = false := by
  simp only [letterB, Bool.or_eq_true, Bool.and_eq_true, decide_eq_true_eq] at h
  refine ⟨?_, ?_, ?_⟩
  · simp only [digitB, Bool.and_eq_false_iff, decide_eq_false_iff_not]; omega
  · simp; omega
  · simp; omega

theorem isNameB_ref (c : UInt8) (r : List UInt8) : isNameB (c :: r) = (decide (r.length < 24) && letterB c && (c :: r).all partB) := by
  have hd : (decide (48 ≤ c.toNat) && decide (c.toNat ≤ 57)) = digitB c := rfl
  simp only [isNameB, List.all_cons, hd, bne]
  cases hl : letterB c
  · rw [partB_eq, hl]
    cases digitB c <;> cases (c.toNat == 95) <;> cases (c.toNat == 35) <;> simp
  · obtain ⟨h1, h2, h3⟩ := letter_not hl
    rw [partB_eq, hl, h1, h2, h3]
    simp

theorem call_RIsName (s : List UInt8) (bs : List (List AV)) (hs : s.length < 4611686018427387904) : call F.tb 57 [.str s] bs = some (.bool (isNameB s), bs) := by
  rw [call_code F.tb_57 _ _ rfl]
  cases s with
  | nil => simp [F.sealringref01_IsName_body, F.sealringref01_IsName_b, F.sealringref01_IsName_res, F.sealringref01_IsName_keep, isNameB]
  | cons c r =>
    have e1 : (24 < (r.length : Int) + 1) = ¬ (r.length < 24) := by rw [eq_iff_iff]; omega
    have e2 : ((r.length : Int) + 1 = 0) = False := eq_false (by omega)
    rw [isNameB_ref]
    by_cases h1 : r.length < 24 <;> cases h2 : letterB c <;>
    simp [F.sealringref01_IsName_body, F.sealringref01_IsName_b, F.sealringref01_IsName_res, F.sealringref01_IsName_keep, call_letter, e1, e2, h1, h2, -List.all_cons]
    rw [RIsName_loop (c :: r) bs hs (c :: r) []] <;> (try simp)

theorem call_tisName (s : List UInt8) (bs : List (List AV)) (hs : s.length < 1000000) : call F.tb 4 [.str s] bs = some (.bool (isNameB s), bs) := by
  rw [call_code F.tb_4 _ _ rfl]
  have hv := call_Valid (.mk 2 s 1 []) bs (by simp [Tm.mass, massL, big]; omega)
  have : validT (.mk 2 s 1 []) = if isNameB s then 0 else 2 := by
    cases hn : isNameB s <;> simp [validT, errT, nodeE, errL, Tm.nodes, nodesL, Tm.depth, depthL, hn]
  rw [this] at hv
  simp [F.ticket_isName, F.ticket_isName_b, call_atom, encT_fold0, hv]

/-- Has a name one of the marks? -/
def markB (s : List UInt8) : Bool := s.any fun b => [35, 95].contains b
theorem markB_nil : markB [] = false := rfl
theorem markB_cons (x : UInt8) (r : List UInt8) : markB (x :: r) = (decide (x.toNat = 35) || decide (x.toNat = 95) || markB r) := by
  have hc : ([35, 95] : List UInt8).contains x = (decide (x.toNat = 35) || decide (x.toNat = 95)) := by
    have e : ∀ n : UInt8, (x == n) = decide (x.toNat = n.toNat) := fun n => by
      rw [Bool.eq_iff_iff]; simp [UInt8.toNat_inj]
    simp only [List.contains_cons, List.contains_nil, e, Bool.or_false]; rfl
  unfold markB
  rw [List.any_cons, hc]
/-- The name of a server. -/
def nameB (s : List UInt8) : Bool := isNameB s && decide (s.length ≤ 10) && !(markB s) && !(s == [101])

theorem partB_ascii (c : UInt8) (h : partB c = true) : c < 128 := by
  rw [UInt8.lt_iff_toNat_lt]
  simp only [partB, Bool.or_eq_true, Bool.and_eq_true, decide_eq_true_eq, beq_iff_eq] at h
  show c.toNat < 128
  omega
theorem isName_ascii {s : List UInt8} (h : isNameB s = true) : s.all (· < 128) = true := by
  cases s with
  | nil => simp [isNameB] at h
  | cons c r =>
    rw [isNameB_ref, Bool.and_eq_true] at h
    rw [List.all_eq_true] at h ⊢
    intro x hx
    exact decide_eq_true (partB_ascii x (h.2 x hx))
theorem call_any (s : List UInt8) (bs : List (List AV)) (hs : s.length < 1000000) (hn : isNameB s = true) : call F.tb 10 [.str s, .str [35, 95]] bs = some (.bool (markB s), bs) := by
  rw [call_orc F.tb_10]
  have h : ((([35, 95] : List UInt8).all (· < 128)) && s.all (· < 128) && decide (s.length < 1000000) && decide (([35, 95] : List UInt8).length < 1000000)) = true := by
    rw [isName_ascii hn, decide_eq_true hs]; rfl
  show Option.map _ (anyO [.str s, .str [35, 95]]) = _
  unfold anyO
  simp only [h, if_true]
  rfl

theorem call_serverName (s : List UInt8) (bs : List (List AV)) (hs : s.length < 1000000) : call F.tb 3 [.str s] bs = some (.bool (nameB s), bs) := by
  rw [call_code F.tb_3 _ _ rfl]
  have e1 : ((s.length : Int) ≤ 10) = (s.length ≤ 10) := int_le_nat _ 10
  have hc := call_any s bs hs
  simp only [nameB]
  cases h1 : isNameB s <;> by_cases h2 : s.length ≤ 10 <;> cases h3 : markB s <;>
  simp [F.ticket_serverName, F.ticket_serverName_b, call_tisName s bs hs, hc, e1, h1, h2, h3]

theorem rightName_loop (s : List UInt8) (bs : List (List AV)) (hs : s.length < 1000000) : ∀ (post pre : List UInt8) (ρ : Nat → AV), s = pre ++ post → ρ 0 = .str s → ρ 3 = .int .i64 pre.length →
    R F.tb (.loop F.sealringref54_rightName_l0) ρ bs (blockK 0 (seqK F.tb F.sealringref54_rightName_r0 (finK F.sealringref54_rightName bs.length))) =
      some (.bool (!(markB post) && isNameB s && decide (s.length ≤ 10) && !(s == [101])), bs) := by
  intro post
  induction post with
  | nil =>
    intro pre ρ hk h0 h3
    rw [R_loop' F.sealringref54_rightName_l0.eq_1]
    have e1 : ((s.length : Int) ≤ 10) = (s.length ≤ 10) := int_le_nat _ 10
    have hl : pre.length = s.length := by rw [hk]; simp
    have hh := call_RIsName s bs (by omega)
    by_cases h2 : s.length ≤ 10 <;> cases h1 : isNameB s <;>
    simp [h0, h3, hl, hh, h1, h2, e1, F.sealringref54_rightName_r0, F.sealringref54_rightName_res, F.sealringref54_rightName_keep, markB_nil]
  | cons x post IH =>
    intro pre ρ hk h0 h3
    have hg := get_pre hk
    have hl : s.length = pre.length + (post.length + 1) := by rw [hk]; simp
    have hw1 : IntKind.i64.wrap ((pre.length : Int) + 1) = (pre.length : Int) + 1 := wrap64 (by omega) (by omega)
    have hlt : (pre.length : Int) < (s.length : Int) := by omega
    rw [R_loop' F.sealringref54_rightName_l0.eq_1, markB_cons]
    by_cases c1 : x.toNat = 35 <;> by_cases c2 : x.toNat = 95 <;>
      simp [h0, h3, hg, hw1, hlt, cast_eq95, cast_eq35, F.sealringref54_rightName_res, F.sealringref54_rightName_keep, c1, c2]
    rw [IH (pre ++ [x])] <;> simp [h0, h3, hk]

theorem call_rightName (s : List UInt8) (bs : List (List AV)) (hs : s.length < 1000000) : call F.tb 104 [.str s] bs = some (.bool (nameB s), bs) := by
  rw [call_code F.tb_104 _ _ rfl]
  simp [F.sealringref54_rightName_body, F.sealringref54_rightName_b]
  rw [rightName_loop s bs hs s []] <;> simp [nameB, Bool.and_assoc, Bool.and_comm, Bool.and_left_comm]

theorem digit_at {n : Nat} (h : n < 10) : (([48, 49, 50, 51, 52, 53, 54, 55, 56, 57] : List UInt8).take (n + 1)).drop n = [(48 + n).toUInt8] := by
  have : ∀ n < 10, (([48, 49, 50, 51, 52, 53, 54, 55, 56, 57] : List UInt8).take (n + 1)).drop n = [(48 + n).toUInt8] := by decide
  exact this n h

theorem call_digits : ∀ (n : Nat) (bs : List (List AV)), n < 1000000000000 → call F.tb 106 [.int .i64 n] bs = some (.str (decN n), bs) := by
  intro n
  induction n using Nat.strongRecOn with
  | ind n ih =>
    intro bs hn
    rw [call_code F.tb_106 _ _ rfl]
    by_cases h : n < 10
    · have e1 : ((n : Int) < 10) := by omega
      have e2 : IntKind.i64.wrap ((n : Int) + 1) = (n : Int) + 1 := wrap64 (by omega) (by omega)
      have e3 : 0 ≤ (n : Int) + 1 ∧ (n : Int) + 1 ≤ 10 := by omega
      have e4 : ((n : Int) + 1).toNat = n + 1 := by omega
      have hd := digit_at h
      simp [F.sealringref54_digits, F.sealringref54_digits_b, e1, e2, e3, e4, decN_small h]
      simpa using hd
    · have e1 : ¬ ((n : Int) < 10) := by omega
      have e2 : IntKind.i64.wrap ((n : Int) / 10) = (n : Int) / 10 := wrap64 (by omega) (by omega)
      have i1 : ∀ bs, call F.tb 106 [.int .i64 ((n : Int) / 10)] bs = some (.str (decN (n / 10)), bs) := fun bs => by
        have := ih (n / 10) (by omega) bs (by omega); simpa using this
      have i2 : ∀ bs, call F.tb 106 [.int .i64 ((n : Int) % 10)] bs = some (.str (decN (n % 10)), bs) := fun bs => by
        have := ih (n % 10) (by omega) bs (by omega); simpa using this
      have hl := decN_len (n / 10)
      have hl2 : (decN (n / 10)).length + 1 ≤ 9223372036854775807 := by omega
      have e3 : (n : Int).tmod 10 = (n : Int) % 10 := Int.tmod_eq_emod_of_nonneg (by omega)
      rw [decN_small (show n % 10 < 10 by omega)] at i2
      simp [F.sealringref54_digits, F.sealringref54_digits_b, e1, e2, e3, decN_large h, i1, i2, hl2]

theorem call_Itoa (n : Nat) (bs : List (List AV)) (h : n < 1000000000) : call F.tb 18 [.int .i64 n] bs = some (.str (decN n), bs) := by
  rw [call_orc F.tb_18]
  have h2 : -9223372036854775808 ≤ (n : Int) ∧ (n : Int) ≤ 9223372036854775807 := by omega
  show Option.map _ (itoaO [.int .i64 n]) = _
  unfold itoaO
  simp only [if_pos h2, dec_nat]
  rfl

-- atoms of servers
def numT (n : Int) : Tm := .mk 2 ([110, 35] ++ dec n) 4 []
def epochT (name : List UInt8) (e : Int) : Tm := .mk 2 (name ++ [35] ++ dec e) 3 []
def tickT (name : List UInt8) (n : Int) : Tm := .mk 2 (name ++ [95] ++ dec n) 3 []

theorem call_epochKey (s : List UInt8) (n : Nat) (bs : List (List AV)) (hs : s.length < 1000000) (hn : n < 1000000000) : call F.tb 17 [.str s, .int .i64 n] bs = some (.agg (encT (epochT s n)), bs) := by
  rw [call_code F.tb_17 _ _ rfl]
  have hl := decN_len n
  have h1 : s.length + 1 ≤ 9223372036854775807 := by omega
  have h2 : s.length + 1 + (decN n).length ≤ 9223372036854775807 := by omega
  simp [F.ticket_epochKey, F.ticket_epochKey_b, call_Itoa n _ hn, dec_nat, h1, h2, call_atom, encT_fold0, epochT]
theorem call_ticketKey (s : List UInt8) (n : Nat) (bs : List (List AV)) (hs : s.length < 1000000) (hn : n < 1000000000) : call F.tb 38 [.str s, .int .i64 n] bs = some (.agg (encT (tickT s n)), bs) := by
  rw [call_code F.tb_38 _ _ rfl]
  have hl := decN_len n
  have h1 : s.length + 1 ≤ 9223372036854775807 := by omega
  have h2 : s.length + 1 + (decN n).length ≤ 9223372036854775807 := by omega
  simp [F.ticket_ticketKey, F.ticket_ticketKey_b, call_Itoa n _ hn, dec_nat, h1, h2, call_atom, encT_fold0, tickT]
theorem call_tnumber (n : Nat) (bs : List (List AV)) (hn : n < 1000000000) : call F.tb 39 [.int .i64 n] bs = some (.agg (encT (numT n)), bs) := by
  rw [call_code F.tb_39 _ _ rfl]
  have hl := decN_len n
  have h2 : 2 + (decN n).length ≤ 9223372036854775807 := by omega
  simp [F.ticket_number, F.ticket_number_b, call_Itoa n _ hn, dec_nat, h2, call_atom, encT_fold0, numT]
theorem call_RAtom (s : List UInt8) (n : Int) (bs : List (List AV)) : call F.tb 107 [.str s, .int .i64 n] bs = some (.agg (encT (.mk 2 s n [])), bs) := by
  rw [call_code F.tb_107 _ _ rfl]
  simp [F.sealringref01_Atom, F.sealringref01_Atom_b, encT_fold0]
theorem call_REpochKey (s : List UInt8) (n : Nat) (bs : List (List AV)) (hs : s.length < 1000000) (hn : n < 1000000000) : call F.tb 105 [.str s, .int .i64 n] bs = some (.agg (encT (epochT s n)), bs) := by
  rw [call_code F.tb_105 _ _ rfl]
  have hl := decN_len n
  have h1 : s.length + 1 ≤ 9223372036854775807 := by omega
  have h2 : s.length + 1 + (decN n).length ≤ 9223372036854775807 := by omega
  simp [F.sealringref54_EpochKey, F.sealringref54_EpochKey_b, call_digits n _ (show n < 1000000000000 by omega), dec_nat, h1, h2, call_RAtom, epochT]
theorem call_RTicketKey (s : List UInt8) (n : Nat) (bs : List (List AV)) (hs : s.length < 1000000) (hn : n < 1000000000) : call F.tb 117 [.str s, .int .i64 n] bs = some (.agg (encT (tickT s n)), bs) := by
  rw [call_code F.tb_117 _ _ rfl]
  have hl := decN_len n
  have h1 : s.length + 1 ≤ 9223372036854775807 := by omega
  have h2 : s.length + 1 + (decN n).length ≤ 9223372036854775807 := by omega
  simp [F.sealringref54_TicketKey, F.sealringref54_TicketKey_b, call_digits n _ (show n < 1000000000000 by omega), dec_nat, h1, h2, call_RAtom, tickT]
theorem call_RNumber (n : Nat) (bs : List (List AV)) (hn : n < 1000000000) : call F.tb 119 [.int .i64 n] bs = some (.agg (encT (numT n)), bs) := by
  rw [call_code F.tb_119 _ _ rfl]
  have hl := decN_len n
  have h2 : 2 + (decN n).length ≤ 9223372036854775807 := by omega
  simp [F.sealringref54_Number, F.sealringref54_Number_b, call_digits n _ (show n < 1000000000000 by omega), dec_nat, h2, call_RAtom, numT]

-- Few of a server
theorem sFew_loop (s : Srv) (bs : List (List AV)) (hk : s.keys.length * 72 ≤ 140737488355328) (hn : s.name.length < 4611686018427387904) (hu : s.used.length < 4611686018427387904) :
    ∀ (post pre : List Ep) (ρ : Nat → AV), s.keys = pre ++ post → ρ 1 = .bx (encS s) → ρ 3 = .sl true 4 (encTs (pre.map Ep.key)) → ρ 4 = .int .i64 pre.length →
    R F.tb (.loop F.sealringref54_Few_l0) ρ bs (blockK 0 (seqK F.tb F.sealringref54_Few_r0 (finK F.sealringref54_Few bs.length))) =
      some (.bool (decide (s.name.length ≤ 60) && decide (s.used.length ≤ 210) && few (s.keys.map Ep.key) 12 60), bs) := by
  intro post
  induction post with
  | nil =>
    intro pre ρ hkk h1 h3 h4
    rw [R_loop' F.sealringref54_Few_l0.eq_1]
    simp at hkk
    have hf : call F.tb 101 [.sl false 4 (encTs (s.keys.map Ep.key)), .int .i64 12, .int .i64 60] bs = _ := call_few (s.keys.map Ep.key) false 12 60 bs (by omega) (by omega) (by omega)
    have e1 : ((s.name.length : Int) ≤ 60) = (s.name.length ≤ 60) := int_le_nat _ 60
    have e2 : ((s.used.length : Int) ≤ 210) = (s.used.length ≤ 210) := int_le_nat _ 210
    rw [← hkk] at h3 h4
    by_cases c1 : s.name.length ≤ 60 <;> by_cases c2 : s.used.length ≤ 210 <;>
    simp [h1, h3, h4, encS, F.sealringref54_Few_r0, F.sealringref54_Few_res, F.sealringref54_Few_keep, e1, e2, c1, c2, hf]
  | cons x post IH =>
    intro pre ρ hkk h1 h3 h4
    have hg := get_pre hkk
    have hl : s.keys.length = pre.length + (post.length + 1) := by rw [hkk]; simp
    have hw1 : IntKind.i64.wrap ((pre.length : Int) + 1) = (pre.length : Int) + 1 := wrap64 (by omega) (by omega)
    have hlt : (pre.length : Int) < (s.keys.length : Int) := by omega
    have ha : (pre.length + 1) * 56 ≤ 140737488355328 := by omega
    rw [R_loop' F.sealringref54_Few_l0.eq_1]
    simp [h1, h3, h4, encS, hg, hw1, hlt, ha, encE, encTs_one, encTs_append]
    rw [IH (pre ++ [x])] <;> simp [h1, hkk, encS]

def fewS (s : Srv) : Bool := decide (s.name.length ≤ 60) && decide (s.used.length ≤ 210) && few (s.keys.map Ep.key) 12 60

theorem call_sFew (s : Srv) (bs : List (List AV)) (hk : s.keys.length * 72 ≤ 140737488355328) (hn : s.name.length < 4611686018427387904) (hu : s.used.length < 4611686018427387904) :
    call F.tb 100 [.agg (encS s)] bs = some (.bool (fewS s), bs) := by
  have hl := sFew_loop s bs hk hn hu s.keys []
  rw [call_code F.tb_100 _ _ rfl]
  simp [F.sealringref54_Few_body, F.sealringref54_Few_b, encS] at hl ⊢
  rw [hl] <;> simp [fewS, encTs]
end Go.Am
