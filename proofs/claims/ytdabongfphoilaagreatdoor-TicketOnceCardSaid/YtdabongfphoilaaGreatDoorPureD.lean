/-
  The pure land, part 10: New, Knows, equality of lists and servers; the law TicketValid.
-/
import Derived.Test.YtdabongfphoilaaGreatDoorPureC
import Derived.Test.YtdabongfphoilaaGreatDoorAwake
set_option linter.unusedVariables false
set_option linter.unusedSimpArgs false

namespace Go.Am
set_option maxRecDepth 8000

def zeroS : Srv := ⟨[], 0, [], 0, [], 0, 0⟩
def newS (n : List UInt8) (w : Int) : Srv × Int := if nameB n = false then (zeroS, 2) else if (decide (1 ≤ w) && decide (w ≤ 1000)) = false then (zeroS, 7) else (⟨n, 0, [⟨0, 0, epochT n 0⟩], 0, [], w, 0⟩, 0)

theorem call_New (n : List UInt8) (w : Int) (bs : List (List AV)) (hn : n.length < 1000000) : call F.tb 2 [.str n, .int .i64 w] bs = some (.tup [.agg (encS (newS n w).1), .int .i64 (newS n w).2], bs) := by
  rw [call_code F.tb_2 _ _ rfl]
  have g0 := call_serverName n bs hn
  have g1 := call_in w 1 1000 bs
  have g2 : call F.tb 17 [.str n, .int .i64 0] bs = _ := call_epochKey n 0 bs hn (by omega)
  cases c1 : nameB n
  · simp [F.ticket_New, F.ticket_New_b, g0, c1, newS, zeroS, encS]
  cases c2 : (decide (1 ≤ w) && decide (w ≤ 1000))
  · rw [c2] at g1; simp [F.ticket_New, F.ticket_New_b, g0, c1, g1, c2, newS, zeroS, encS]
  · rw [c2] at g1; simp [F.ticket_New, F.ticket_New_b, g0, c1, g1, c2, g2, newS, zeroS, encS, encE]

theorem call_RNew (n : List UInt8) (w : Int) (bs : List (List AV)) (hn : n.length < 1000000) : call F.tb 103 [.str n, .int .i64 w] bs = some (.tup [.agg (encS (newS n w).1), .int .i64 (newS n w).2], bs) := by
  rw [call_code F.tb_103 _ _ rfl]
  have g0 := call_rightName n bs hn
  have g2 : call F.tb 105 [.str n, .int .i64 0] bs = _ := call_REpochKey n 0 bs hn (by omega)
  cases c1 : nameB n
  · simp [F.sealringref54_New, F.sealringref54_New_b, g0, c1, newS, zeroS, encS]
  by_cases d1 : w < 1
  · have d1' : ¬ 1 ≤ w := by omega
    simp [F.sealringref54_New, F.sealringref54_New_b, g0, c1, d1, d1', newS, zeroS, encS]
  by_cases d2 : 1000 < w
  · have d2' : ¬ w ≤ 1000 := by omega
    simp [F.sealringref54_New, F.sealringref54_New_b, g0, c1, d1, d2, d2', newS, zeroS, encS]
  have d1' : 1 ≤ w := by omega
  have d2' : w ≤ 1000 := by omega
  simp [F.sealringref54_New, F.sealringref54_New_b, g0, g2, c1, d1, d2, d1', d2', newS, zeroS, encS, encE]

-- equality
theorem bytesLess_irrefl : ∀ a : List UInt8, Op.bytesLess a a = false
  | [] => rfl
  | c :: r => by simp [Op.bytesLess, bytesLess_irrefl r]
theorem cmpS_refl (a : List UInt8) : cmpS a a = 0 := by simp [cmpS, bytesLess_irrefl]
theorem sgn_refl (a : Int) : sgn a a = 0 := sgn0.2 rfl
theorem hdT_refl (t : Tm) : hdT t t = 0 := by simp [hdT, sgn_refl, cmpS_refl, or0]
mutual
theorem cmpT_refl : ∀ t : Tm, cmpT t t = 0
  | .mk k n s ks => by rw [cmpT, hdT_refl, or0_0]; exact cmpL_refl ks
theorem cmpL_refl : ∀ ts : List Tm, cmpL ts ts = 0
  | [] => by simp [cmpL]
  | t :: ts => by rw [cmpL, cmpT_refl t, or0_0]; exact cmpL_refl ts
end

theorem Lists_loop (a : List Tm) (bs : List (List AV)) (oa ob : Bool) (ha : massL a < big) (hl : a.length < 4611686018427387904) :
    ∀ (post pre : List Tm) (ρ : Nat → AV), a = pre ++ post → ρ 0 = .sl oa 4 (encTs a) → ρ 1 = .sl ob 4 (encTs a) → ρ 5 = .int .i64 pre.length →
    R F.tb (.loop F.sealringref01_Lists_l0) ρ bs (blockK 0 (seqK F.tb F.sealringref01_Lists_r0 (finK F.sealringref01_Lists bs.length))) = some (.bool true, bs) := by
  intro post
  induction post with
  | nil =>
    intro pre ρ hk h0 h1 h5
    rw [R_loop' F.sealringref01_Lists_l0.eq_1]
    simp at hk
    simp [h0, h1, h5, hk, F.sealringref01_Lists_r0, F.sealringref01_Lists_res, F.sealringref01_Lists_keep]
  | cons x post IH =>
    intro pre ρ hk h0 h1 h5
    have hg := get_pre hk
    have hl : a.length = pre.length + (post.length + 1) := by rw [hk]; simp
    have hw1 : IntKind.i64.wrap ((pre.length : Int) + 1) = (pre.length : Int) + 1 := wrap64 (by omega) (by omega)
    have hlt : (pre.length : Int) < (a.length : Int) := by omega
    have hx : x.mass < big := by have := massL_mem (x := x) (ks := a) (by rw [hk]; simp); omega
    rw [R_loop' F.sealringref01_Lists_l0.eq_1]
    simp [h0, h1, h5, hg, hw1, hlt, call_RSame x x bs hx hx, cmpT_refl]
    rw [IH (pre ++ [x])] <;> simp [h0, h1, hk]

theorem call_Lists_refl (a : List Tm) (bs : List (List AV)) (oa ob : Bool) (ha : massL a < big) (hl : a.length < 4611686018427387904) :
    call F.tb 112 [.sl oa 4 (encTs a), .sl ob 4 (encTs a)] bs = some (.bool true, bs) := by
  rw [call_code F.tb_112 _ _ rfl]
  simp [F.sealringref01_Lists_body, F.sealringref01_Lists_b, F.sealringref01_Lists_res, F.sealringref01_Lists_keep]
  rw [Lists_loop a bs false false ha hl a []] <;> simp

theorem sSame_loop1 (s : Srv) (bs : List (List AV)) (hul : s.used.length < 4611686018427387904) :
    ∀ (post pre : List Us) (ρ : Nat → AV), s.used = pre ++ post → ρ 2 = .bx (encS s) → ρ 3 = .bx (encS s) → ρ 6 = .int .i64 pre.length →
    R F.tb (.loop F.sealringref54_Same_l1) ρ bs (blockK 2 (seqK F.tb F.sealringref54_Same_r0 (finK F.sealringref54_Same bs.length))) = some (.bool true, bs) := by
  intro post
  induction post with
  | nil =>
    intro pre ρ hk h2 h3 h6
    rw [R_loop' F.sealringref54_Same_l1.eq_1]
    simp at hk
    rw [← hk] at h6
    simp [h2, h3, h6, encS, F.sealringref54_Same_r0, F.sealringref54_Same_res, F.sealringref54_Same_keep]
  | cons x post IH =>
    intro pre ρ hk h2 h3 h6
    have hg := get_pre hk
    have hl : s.used.length = pre.length + (post.length + 1) := by rw [hk]; simp
    have hw1 : IntKind.i64.wrap ((pre.length : Int) + 1) = (pre.length : Int) + 1 := wrap64 (by omega) (by omega)
    have hlt : (pre.length : Int) < (s.used.length : Int) := by omega
    rw [R_loop' F.sealringref54_Same_l1.eq_1]
    simp [h2, h3, h6, encS, encU, hg, hw1, hlt, eqCells, eqCell]
    rw [IH (pre ++ [x])] <;> simp [h2, h3, hk, encS]

theorem sSame_loop0 (s : Srv) (bs : List (List AV)) (hul : s.used.length < 4611686018427387904) (hkl : s.keys.length < 4611686018427387904) (hm : ∀ k ∈ s.keys, k.key.mass < big) :
    ∀ (post pre : List Ep) (ρ : Nat → AV), s.keys = pre ++ post → ρ 2 = .bx (encS s) → ρ 3 = .bx (encS s) → ρ 5 = .int .i64 pre.length →
    R F.tb (.loop F.sealringref54_Same_l0) ρ bs (blockK 0 (seqK F.tb F.sealringref54_Same_r1 (finK F.sealringref54_Same bs.length))) = some (.bool true, bs) := by
  intro post
  induction post with
  | nil =>
    intro pre ρ hk h2 h3 h5
    rw [R_loop' F.sealringref54_Same_l0.eq_1]
    simp at hk
    rw [← hk] at h5
    simp [h2, h3, h5, encS, F.sealringref54_Same_r1]
    rw [sSame_loop1 s bs hul s.used []] <;> simp [h2, h3, encS]
  | cons x post IH =>
    intro pre ρ hk h2 h3 h5
    have hg := get_pre hk
    have hl : s.keys.length = pre.length + (post.length + 1) := by rw [hk]; simp
    have hw1 : IntKind.i64.wrap ((pre.length : Int) + 1) = (pre.length : Int) + 1 := wrap64 (by omega) (by omega)
    have hlt : (pre.length : Int) < (s.keys.length : Int) := by omega
    have hx := hm x (by rw [hk]; simp)
    rw [R_loop' F.sealringref54_Same_l0.eq_1]
    simp [h2, h3, h5, encS, encE, hg, hw1, hlt, call_RSame x.key x.key bs hx hx, cmpT_refl]
    rw [IH (pre ++ [x])] <;> simp [h2, h3, hk, encS]

theorem call_sSame_refl (s : Srv) (bs : List (List AV)) (hul : s.used.length < 4611686018427387904) (hkl : s.keys.length < 4611686018427387904) (hm : ∀ k ∈ s.keys, k.key.mass < big) :
    call F.tb 108 [.agg (encS s), .agg (encS s)] bs = some (.bool true, bs) := by
  rw [call_code F.tb_108 _ _ rfl]
  simp [F.sealringref54_Same_body, F.sealringref54_Same_b, F.sealringref54_Same_res, F.sealringref54_Same_keep, encS]
  rw [sSame_loop0 s bs hul hkl hm s.keys []] <;> simp [encS]

-- Knows
theorem Knows_loop (s : Srv) (bs : List (List AV)) (hk : s.keys.length * 72 ≤ 140737488355328) :
    ∀ (post pre : List Ep) (ρ : Nat → AV), s.keys = pre ++ post → ρ 10 = .sl false 6 (s.keys.map encE) → ρ 11 = .int .i64 s.keys.length → ρ 3 = .sl true 4 (encTs (pre.map Ep.key)) → ρ 12 = .int .i64 pre.length →
    R F.tb (.loop F.ticket_Knows_l0) ρ bs (blockK 0 (seqK F.tb F.ticket_Knows_r0 (finK F.ticket_Knows bs.length))) = some (.sl false 4 (encTs (s.keys.map Ep.key)), bs) := by
  intro post
  induction post with
  | nil =>
    intro pre ρ hkk h10 h11 h3 h12
    rw [R_loop' F.ticket_Knows_l0.eq_1]
    simp at hkk
    rw [← hkk] at h3 h12
    simp [h3, h10, h11, h12, F.ticket_Knows_r0, F.ticket_Knows_res, F.ticket_Knows_keep]
  | cons x post IH =>
    intro pre ρ hkk h10 h11 h3 h12
    have hg := get_pre hkk
    have hl : s.keys.length = pre.length + (post.length + 1) := by rw [hkk]; simp
    have hw1 : IntKind.i64.wrap ((pre.length : Int) + 1) = (pre.length : Int) + 1 := wrap64 (by omega) (by omega)
    have hlt : (pre.length : Int) < (s.keys.length : Int) := by omega
    have ha : (pre.length + 1) * 56 ≤ 140737488355328 := by omega
    rw [R_loop' F.ticket_Knows_l0.eq_1]
    simp [h10, h11, h12, h3, hg, hw1, hlt, ha, encE, encTs_one, encTs_append]
    rw [IH (pre ++ [x])] <;> simp [h10, h11, hkk]

def knowsS (s : Srv) : List Tm := if validS s then s.keys.map Ep.key else []

theorem call_Knows (s : Srv) (bs : List (List AV)) (hn : s.name.length < 1000000) (hul : s.used.length < 4611686018427387904) (hm : ∀ k ∈ s.keys, k.key.mass < big) (hk : s.keys.length * 72 ≤ 140737488355328) :
    call F.tb 99 [.agg (encS s)] bs = some (.sl (!validS s) 4 (encTs (knowsS s)), bs) := by
  rw [call_code F.tb_99 _ _ rfl]
  have hv := call_SValid s bs hn hul hm
  have hloop := Knows_loop s bs hk s.keys []
  unfold knowsS
  unfold encS at *
  cases c : validS s
  · simp [F.ticket_Knows_body, F.ticket_Knows_b, F.ticket_Knows_res, F.ticket_Knows_keep, hv, c, encTs]
  · simp [F.ticket_Knows_body, F.ticket_Knows_b, F.ticket_Knows_res, F.ticket_Knows_keep, hv, c]
    rw [hloop] <;> simp [encTs]

theorem RKnows_loop (s : Srv) (bs : List (List AV)) (hk : s.keys.length * 72 ≤ 140737488355328) :
    ∀ (post pre : List Ep) (ρ : Nat → AV), s.keys = pre ++ post → ρ 1 = .bx (encS s) → ρ 3 = .sl true 4 (encTs (pre.map Ep.key)) → ρ 4 = .int .i64 pre.length →
    R F.tb (.loop F.sealringref54_Knows_l0) ρ bs (blockK 0 (seqK F.tb F.sealringref54_Knows_r0 (finK F.sealringref54_Knows bs.length))) = some (.sl false 4 (encTs (s.keys.map Ep.key)), bs) := by
  intro post
  induction post with
  | nil =>
    intro pre ρ hkk h1 h3 h4
    rw [R_loop' F.sealringref54_Knows_l0.eq_1]
    simp at hkk
    rw [← hkk] at h3 h4
    simp [h1, h3, h4, encS, F.sealringref54_Knows_r0, F.sealringref54_Knows_res, F.sealringref54_Knows_keep]
  | cons x post IH =>
    intro pre ρ hkk h1 h3 h4
    have hg := get_pre hkk
    have hl : s.keys.length = pre.length + (post.length + 1) := by rw [hkk]; simp
    have hw1 : IntKind.i64.wrap ((pre.length : Int) + 1) = (pre.length : Int) + 1 := wrap64 (by omega) (by omega)
    have hlt : (pre.length : Int) < (s.keys.length : Int) := by omega
    have ha : (pre.length + 1) * 56 ≤ 140737488355328 := by omega
    rw [R_loop' F.sealringref54_Knows_l0.eq_1]
    simp [h1, h4, h3, hg, hw1, hlt, ha, encS, encE, encTs_one, encTs_append]
    rw [IH (pre ++ [x])] <;> simp [h1, hkk, encS]

theorem call_RKnows (s : Srv) (bs : List (List AV)) (hn : s.name.length < 1000000) (hul : s.used.length < 4611686018427387904) (hm : ∀ k ∈ s.keys, k.key.mass < big) (hk : s.keys.length * 72 ≤ 140737488355328) :
    call F.tb 111 [.agg (encS s)] bs = some (.sl (!validS s) 4 (encTs (knowsS s)), bs) := by
  rw [call_code F.tb_111 _ _ rfl]
  have hv := call_RValidS s bs hn hul hm (by omega)
  have hloop := RKnows_loop s bs hk s.keys []
  unfold knowsS
  unfold encS at *
  cases c : validS s
  · simp [F.sealringref54_Knows_body, F.sealringref54_Knows_b, F.sealringref54_Knows_res, F.sealringref54_Knows_keep, hv, c, encTs]
  · simp [F.sealringref54_Knows_body, F.sealringref54_Knows_b, F.sealringref54_Knows_res, F.sealringref54_Knows_keep, hv, c]
    rw [hloop] <;> simp [encTs]

-- what Few says
theorem few_mass {l : List Tm} {n : Nat} {m : Int} (h0 : 0 ≤ m) (h : few l n m = true) : l.length ≤ n ∧ massL l + l.length ≤ 42 * m.toNat ∧ nodesL l ≤ m.toNat := by
  simp only [few, Bool.and_eq_true, decide_eq_true_eq] at h
  rcases budL_le l m h0 with h1 | h1
  · omega
  · omega
theorem massL_keys {s : Srv} {k : Ep} (h : k ∈ s.keys) : k.key.mass ≤ massL (s.keys.map Ep.key) := massL_mem (List.mem_map.2 ⟨k, h, rfl⟩)

/-- What is known of a server that is not more than memory can hold. -/
structure Srv.room (s : Srv) : Prop where
  k : s.keys.length * 72 ≤ 140737488355328
  n : s.name.length < 4611686018427387904
  u : s.used.length < 4611686018427387904

theorem fewS_spec {s : Srv} (h : fewS s = true) : s.name.length ≤ 60 ∧ s.used.length ≤ 210 ∧ s.keys.length ≤ 12 ∧ massL (s.keys.map Ep.key) + s.keys.length ≤ 2520 := by
  simp only [fewS, Bool.and_eq_true, decide_eq_true_eq] at h
  obtain ⟨⟨h1, h2⟩, h3⟩ := h
  have := few_mass (by omega) h3
  simp at this
  omega

theorem newS_small (n : List UInt8) (w : Int) (hn : n.length ≤ 60) : (newS n w).1.used.length = 0 ∧ (newS n w).1.keys.length ≤ 1 ∧ ∀ k ∈ (newS n w).1.keys, k.key.mass < big := by
  unfold newS
  split
  · simp [zeroS]
  · split
    · simp [zeroS]
    · refine ⟨rfl, by simp, fun k hk => ?_⟩
      simp at hk
      subst hk
      exact mass_epochT n 0 (by omega) (by omega)

theorem law_TicketValid (s : Srv) (n : List UInt8) (w : Int) (hr : s.room) (hn : n.length < 4611686018427387904) :
    call F.tb 0 [.agg (encS s), .str n, .int .i64 w] [] = some (.bool true, []) := by
  rw [call_code F.tb_0 _ _ rfl]
  have hf := call_sFew s [] hr.k hr.n hr.u
  have e1 : ((60 : Int) < n.length) = ¬ (n.length ≤ 60) := by rw [eq_iff_iff]; omega
  by_cases c2 : ¬ n.length ≤ 60
  · unfold encS at *
    cases c1 : fewS s <;>
    simp [F.sealringlaw54_TicketValid, F.sealringlaw54_TicketValid_b, call_awake, hf, c1, c2, e1]
  replace c2 := Decidable.not_not.1 c2
  cases c1 : fewS s
  · unfold encS at *
    simp [F.sealringlaw54_TicketValid, F.sealringlaw54_TicketValid_b, call_awake, hf, c1, c2, e1]
  obtain ⟨f1, f2, f3, f4⟩ := fewS_spec c1
  have hm : ∀ k ∈ s.keys, k.key.mass < big := fun k hk => by have := massL_keys hk; unfold big; omega
  obtain ⟨n1, n2, n3⟩ := newS_small n w c2
  have g1 := call_New n w [] (by omega)
  have g2 := call_RNew n w [] (by omega)
  have g3 := call_sSame_refl (newS n w).1 [] (by omega) (by omega) n3
  have g4 := call_SValid s [] (by omega) (by omega) hm
  have g5 := call_RValidS s [] (by omega) (by omega) hm (by omega)
  have g6 := call_Knows s [] (by omega) (by omega) hm hr.k
  have g7 := call_RKnows s [] (by omega) (by omega) hm hr.k
  have hml : massL (knowsS s) < big := by
    unfold knowsS; split
    · unfold big; omega
    · simp [massL, big]
  have g8 := call_Lists_refl (knowsS s) [] false false hml (by unfold knowsS; split <;> simp <;> omega)
  generalize newS n w = v at *
  generalize knowsS s = ks at *
  unfold encS at *
  simp [F.sealringlaw54_TicketValid, F.sealringlaw54_TicketValid_b, call_awake, hf, c1, c2, e1, g1, g2, g3, g4, g5, g6, g7, g8]
end Go.Am
