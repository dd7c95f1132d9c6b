/-
  The pure land, part 26: the reference's valid terms, in layer 1 and in the theory.
-/
import Derived.Test.YtdabongfphoilaaGreatDoorPureG
set_option linter.unusedVariables false
set_option linter.unusedSimpArgs false

namespace Go.Am
set_option maxRecDepth 8000

/-- What is known at a loop's step over a list. -/
theorem at_pre {α : Type} {l pre post : List α} {x : α} (h : l = pre ++ x :: post) (hb : l.length < 4611686018427387904) :
    l[pre.length]? = some x ∧ IntKind.i64.wrap ((pre.length : Int) + 1) = (pre.length : Int) + 1 ∧ (pre.length : Int) < (l.length : Int) ∧ x ∈ l := by
  have hl : l.length = pre.length + (post.length + 1) := by rw [h]; simp
  exact ⟨get_pre h, wrap64 (by omega) (by omega), by omega, by rw [h]; simp⟩
theorem mass_kids {t : Tm} (h : t.mass < big) : t.kids.length < 4611686018427387904 := by
  have := mass_eq t; unfold big at h; omega
theorem mass_kid {t x : Tm} (h : t.mass < big) (hx : x ∈ t.kids) : x.mass < big := by
  have := massL_mem hx; have := mass_eq t; omega

theorem call_Rnode (t : Tm) (bs : List (List AV)) (hm : t.mass < big) : call F.tb 56 [.agg (encT t)] bs = some (.int .i64 (nodeE t), bs) := by
  rw [call_code F.tb_56 _ _ rfl]
  have hn := call_RIsName t.name bs (by have := mass_eq t; unfold big at hm; omega)
  have hks : ((8 : Int) < t.kids.length) = (8 < t.kids.length) := by rw [eq_iff_iff]; omega
  obtain ⟨k, n, s, ks⟩ := t
  simp at hn hks
  unfold nodeE
  simp only [mk_kind, mk_sort, mk_name, mk_kids]
  by_cases k1 : k = 1
  · subst k1
    simp [F.sealringref01_node_body, F.sealringref01_node_b, F.sealringref01_node_res, F.sealringref01_node_keep, encT, hn, hks]
    rcases Bool.eq_false_or_eq_true (isNameB n) with c4 | c4 <;> by_cases c1 : s < 0 <;> by_cases c2 : 5 < s <;> by_cases c3 : 0 < ks.length <;> simp [c1, c2, c3, c4] <;> omega
  by_cases k2 : k = 2
  · subst k2
    simp [F.sealringref01_node_body, F.sealringref01_node_b, F.sealringref01_node_res, F.sealringref01_node_keep, encT, hn, hks]
    rcases Bool.eq_false_or_eq_true (isNameB n) with c4 | c4 <;> by_cases c1 : s < 0 <;> by_cases c2 : 5 < s <;> by_cases c3 : 0 < ks.length <;> simp [c1, c2, c3, c4] <;> omega
  by_cases k3 : k = 3
  · subst k3
    simp [F.sealringref01_node_body, F.sealringref01_node_b, F.sealringref01_node_res, F.sealringref01_node_keep, encT, hn, hks]
    rcases Bool.eq_false_or_eq_true (isNameB n) with c4 | c4 <;> by_cases c1 : s < 0 <;> by_cases c2 : 5 < s <;> by_cases c3 : s = 0 <;> simp [c1, c2, c3, c4] <;> omega
  · simp [F.sealringref01_node_body, F.sealringref01_node_b, F.sealringref01_node_res, F.sealringref01_node_keep, encT, hn, hks, k1, k2, k3]

theorem Rnodes_loop (t : Tm) (bs : List (List AV)) (hm : t.mass < big) (ih : ∀ x ∈ t.kids, ∀ bs, call F.tb 55 [.agg (encT x)] bs = some (.int .i64 (errT x), bs)) :
    ∀ (post pre : List Tm) (ρ : Nat → AV), t.kids = pre ++ post → ρ 1 = .bx (encT t) → ρ 4 = .int .i64 pre.length →
    R F.tb (.loop F.sealringref01_nodes_l0) ρ bs (blockK 0 (seqK F.tb F.sealringref01_nodes_r0 (finK F.sealringref01_nodes bs.length))) = some (.int .i64 (errL post), bs) := by
  intro post
  induction post with
  | nil =>
    intro pre ρ hk h1 h4
    rw [R_loop' F.sealringref01_nodes_l0.eq_1]
    simp at hk
    simp [h1, h4, ← hk, F.sealringref01_nodes_r0, F.sealringref01_nodes_res, F.sealringref01_nodes_keep, errL]
  | cons x post IH =>
    intro pre ρ hk h1 h4
    obtain ⟨hg, hw, hlt, hx⟩ := at_pre hk (mass_kids hm)
    have hh := ih x hx bs
    rw [R_loop' F.sealringref01_nodes_l0.eq_1]
    by_cases he : errT x = 0
    · simp [h1, h4, hg, hw, hlt, hh, he, errL]
      rw [IH (pre ++ [x])] <;> simp [h1, hk]
    · simp [h1, h4, hg, hw, hlt, hh, he, errL, F.sealringref01_nodes_res, F.sealringref01_nodes_keep]

theorem call_Rnodes : ∀ (t : Tm) (bs : List (List AV)), t.mass < big → call F.tb 55 [.agg (encT t)] bs = some (.int .i64 (errT t), bs) := by
  refine tm_ind ?_
  intro k n s ks ih bs hm
  have hl := Rnodes_loop (.mk k n s ks) bs hm (fun x hx bs => ih x hx bs (mass_kid hm hx)) ks []
  have hn := call_Rnode (.mk k n s ks) bs hm
  rw [call_code F.tb_55 _ _ rfl]
  by_cases he : nodeE (.mk k n s ks) = 0
  · simp [F.sealringref01_nodes_body, F.sealringref01_nodes_b, hn, he, errT]
    rw [hl] <;> simp
  · simp [F.sealringref01_nodes_body, F.sealringref01_nodes_b, F.sealringref01_nodes_res, F.sealringref01_nodes_keep, hn, he, errT]

theorem call_RValid1 (t : Tm) (bs : List (List AV)) (hm : t.mass < big) : call F.tb 54 [.agg (encT t)] bs = some (.int .i64 (validT t), bs) := by
  have h1 := call_Rnodes t bs hm
  have h2 := call_RSize t bs hm
  have h3 := call_RDepth t bs hm
  rw [call_code F.tb_54 _ _ rfl]
  have e1 : (400 < (t.nodes : Int)) = (400 < t.nodes) := by rw [eq_iff_iff]; omega
  have e2 : (40 < (t.depth : Int)) = (40 < t.depth) := by rw [eq_iff_iff]; omega
  simp [F.sealringref01_Valid_body, F.sealringref01_Valid_b, F.sealringref01_Valid_res, F.sealringref01_Valid_keep, h1, h2, h3, e1, e2, validT]
  by_cases he : errT t = 0 <;> by_cases c1 : 400 < t.nodes <;> by_cases c2 : 40 < t.depth <;> simp [he, c1, c2]

-- the theory
theorem call_RSymbols (bs : List (List AV)) : call F.tb 129 [] bs = some (.sl true 4 (encYs symL), bs) := by
  rw [call_code F.tb_129 _ _ rfl]
  simp [F.sealringref09_Symbols, F.sealringref09_Symbols_b, symL, encYs, encY]

theorem Kind_loop (n : List UInt8) (bs : List (List AV)) (l : List Sy) (hl : l.length < 1000) : ∀ (post pre : List Sy) (ρ : Nat → AV), l = pre ++ post → ρ 0 = .str n → (∃ o, ρ 3 = .sl o 4 (encYs l)) → ρ 4 = .int .i64 pre.length →
    R F.tb (.loop F.sealringref09_Kind_l0) ρ bs (blockK 0 (seqK F.tb F.sealringref09_Kind_r0 (finK F.sealringref09_Kind bs.length))) = some (.int .i64 (match findSy n post with | some y => y.k | none => 0), bs) := by
  intro post
  induction post with
  | nil =>
    intro pre ρ hk h0 ⟨o, h3⟩ h4
    rw [R_loop' F.sealringref09_Kind_l0.eq_1]
    simp at hk
    rw [← hk] at h4
    simp [h0, h3, h4, F.sealringref09_Kind_r0, F.sealringref09_Kind_res, F.sealringref09_Kind_keep, findSy]
  | cons x post IH =>
    intro pre ρ hk h0 ⟨o, h3⟩ h4
    have hg := encYs_get hk
    obtain ⟨_, hw, hlt, _⟩ := at_pre hk (by omega)
    rw [R_loop' F.sealringref09_Kind_l0.eq_1]
    by_cases hx : x.n = n
    · simp [h0, h3, h4, hg, hw, hlt, encY, hx, findSy, F.sealringref09_Kind_res, F.sealringref09_Kind_keep]
    · have hxb : (x.n == n) = false := by simp [hx]
      simp [h0, h3, h4, hg, hw, hlt, encY, hx, hxb, findSy]
      rw [IH (pre ++ [x])] <;> simp [h0, h3, hk]

theorem call_Kind (n : List UInt8) (bs : List (List AV)) : call F.tb 128 [.str n] bs = some (.int .i64 (match findSy n symL with | some y => y.k | none => 0), bs) := by
  rw [call_code F.tb_128 _ _ rfl]
  simp [F.sealringref09_Kind_body, F.sealringref09_Kind_b, call_RSymbols]
  rw [Kind_loop n bs symL (by decide) symL []] <;> simp

theorem fits_loop (t : Tm) (bs : List (List AV)) (l : List Sy) (hl : l.length < 1000) : ∀ (post pre : List Sy) (ρ : Nat → AV), l = pre ++ post → ρ 1 = .bx (encT t) → (∃ o, ρ 3 = .sl o 4 (encYs l)) → ρ 4 = .int .i64 pre.length →
    R F.tb (.loop F.sealringref09_fits_l0) ρ bs (blockK 0 (seqK F.tb F.sealringref09_fits_r0 (finK F.sealringref09_fits bs.length))) =
      some (.bool (match findSy t.name post with | some y => decide (y.l ≤ t.kids.length) && decide (t.kids.length ≤ y.m) | none => false), bs) := by
  intro post
  induction post with
  | nil =>
    intro pre ρ hk h1 ⟨o, h3⟩ h4
    rw [R_loop' F.sealringref09_fits_l0.eq_1]
    simp at hk
    rw [← hk] at h4
    simp [h1, h3, h4, F.sealringref09_fits_r0, F.sealringref09_fits_res, F.sealringref09_fits_keep, findSy]
  | cons x post IH =>
    intro pre ρ hk h1 ⟨o, h3⟩ h4
    have hg := encYs_get hk
    obtain ⟨_, hw, hlt, _⟩ := at_pre hk (by omega)
    rw [R_loop' F.sealringref09_fits_l0.eq_1]
    by_cases hx : x.n = t.name
    · by_cases c1 : x.l ≤ t.kids.length <;>
      simp [h1, h3, h4, hg, hw, hlt, encY, hx, findSy, c1, F.sealringref09_fits_res, F.sealringref09_fits_keep]
    · have hxb : (x.n == t.name) = false := by simp [hx]
      simp [h1, h3, h4, hg, hw, hlt, encY, hx, hxb, findSy]
      rw [IH (pre ++ [x])] <;> simp [h1, h3, hk]

theorem call_fits (t : Tm) (bs : List (List AV)) : call F.tb 130 [.agg (encT t)] bs =
    some (.bool (match findSy t.name symL with | some y => decide (y.l ≤ t.kids.length) && decide (t.kids.length ≤ y.m) | none => false), bs) := by
  rw [call_code F.tb_130 _ _ rfl]
  simp [F.sealringref09_fits_body, F.sealringref09_fits_b, call_RSymbols]
  rw [fits_loop t bs symL (by decide) symL []] <;> simp

theorem agents_loop (t : Tm) (bs : List (List AV)) (hm : t.mass < big) : ∀ (post pre : List Tm) (ρ : Nat → AV), t.kids = pre ++ post → ρ 1 = .bx (encT t) → ρ 3 = .int .i64 pre.length →
    R F.tb (.loop F.sealringref09_agents_l0) ρ bs (blockK 0 (seqK F.tb F.sealringref09_agents_r0 (finK F.sealringref09_agents bs.length))) = some (.bool (!(post.any notAg)), bs) := by
  intro post
  induction post with
  | nil =>
    intro pre ρ hk h1 h3
    rw [R_loop' F.sealringref09_agents_l0.eq_1]
    simp at hk
    simp [h1, h3, ← hk, F.sealringref09_agents_r0, F.sealringref09_agents_res, F.sealringref09_agents_keep]
  | cons x post IH =>
    intro pre ρ hk h1 h3
    obtain ⟨hg, hw, hlt, hx⟩ := at_pre hk (mass_kids hm)
    rw [R_loop' F.sealringref09_agents_l0.eq_1]
    by_cases c1 : x.kind = 3 <;> by_cases c2 : x.sort = 1 <;>
      simp [h1, h3, hg, hw, hlt, c1, c2, notAg, F.sealringref09_agents_res, F.sealringref09_agents_keep]
    rw [IH (pre ++ [x])] <;> simp [h1, hk, notAg]

theorem call_agents (t : Tm) (bs : List (List AV)) (hm : t.mass < big) (hk : t.name = [110, 101, 119] → t.kids ≠ []) : call F.tb 131 [.agg (encT t)] bs =
    some (.bool (if t.name = [110, 101, 119] then decide (t.kids.head?.map Tm.kind = some 2) else !(t.kids.any notAg)), bs) := by
  rw [call_code F.tb_131 _ _ rfl]
  by_cases hn : t.name = [110, 101, 119]
  · cases hkk : t.kids with
    | nil => exact absurd hkk (hk hn)
    | cons x xs => simp [F.sealringref09_agents_body, F.sealringref09_agents_b, F.sealringref09_agents_res, F.sealringref09_agents_keep, hn, hkk, encT_eq t, encTs]
  · have hnb : (t.name == [110, 101, 119]) = false := by simp [hn]
    simp [F.sealringref09_agents_body, F.sealringref09_agents_b, hn, hnb]
    rw [agents_loop t bs hm t.kids []] <;> simp

theorem Rthnodes_loop (t : Tm) (bs : List (List AV)) (hm : t.mass < big) (ih : ∀ x ∈ t.kids, ∀ bs, call F.tb 127 [.agg (encT x)] bs = some (.int .i64 (chkT x), bs)) :
    ∀ (post pre : List Tm) (ρ : Nat → AV), t.kids = pre ++ post → ρ 1 = .bx (encT t) → ρ 4 = .int .i64 pre.length →
    R F.tb (.loop F.sealringref09_nodes_l0) ρ bs (blockK 0 (seqK F.tb F.sealringref09_nodes_r0 (finK F.sealringref09_nodes bs.length))) = some (.int .i64 (chkL post), bs) := by
  intro post
  induction post with
  | nil =>
    intro pre ρ hk h1 h4
    rw [R_loop' F.sealringref09_nodes_l0.eq_1]
    simp at hk
    simp [h1, h4, ← hk, F.sealringref09_nodes_r0, F.sealringref09_nodes_res, F.sealringref09_nodes_keep, chkL]
  | cons x post IH =>
    intro pre ρ hk h1 h4
    obtain ⟨hg, hw, hlt, hx⟩ := at_pre hk (mass_kids hm)
    have hh := ih x hx bs
    rw [R_loop' F.sealringref09_nodes_l0.eq_1]
    by_cases he : chkT x = 0
    · simp [h1, h4, hg, hw, hlt, hh, he, chkL]
      rw [IH (pre ++ [x])] <;> simp [h1, hk]
    · simp [h1, h4, hg, hw, hlt, hh, he, chkL, F.sealringref09_nodes_res, F.sealringref09_nodes_keep]

/-- The private symbols. -/
theorem symL_priv {y : Sy} (h : y ∈ symL) : (y.k = 2) = (y.n = [115, 107] ∨ y.n = [115, 104, 107] ∨ y.n = [110, 101, 119]) := by
  have : symL.all (fun y => decide ((y.k = 2) = (y.n = [115, 107] ∨ y.n = [115, 104, 107] ∨ y.n = [110, 101, 119]))) = true := by
    simp only [eq_iff_iff]; decide
  have := List.all_eq_true.1 this y h
  exact of_decide_eq_true this

theorem call_Rthnodes : ∀ (t : Tm) (bs : List (List AV)), t.mass < big → call F.tb 127 [.agg (encT t)] bs = some (.int .i64 (chkT t), bs) := by
  refine tm_ind ?_
  intro k n s ks ih bs hm
  have hl := Rthnodes_loop (.mk k n s ks) bs hm (fun x hx bs => ih x hx bs (mass_kid hm hx)) ks []
  have hf := call_fits (.mk k n s ks) bs
  have ha := call_agents (.mk k n s ks) bs hm
  have hkd := call_Kind n bs
  simp only [mk_name, mk_kids] at hf ha
  rw [call_code F.tb_127 _ _ rfl]
  by_cases hk : k = 3
  · subst hk
    simp only [encT] at hf ha hl
    cases hy : findSy n symL with
    | none =>
      rw [hy] at hkd
      simp [F.sealringref09_nodes_body, F.sealringref09_nodes_b, F.sealringref09_nodes_res, F.sealringref09_nodes_keep, encT, hkd, hy, chkT]
    | some y =>
      obtain ⟨hy1, hy2⟩ := findSy_mem hy
      obtain ⟨hy3, hy4⟩ := symL_k hy1
      have hp := symL_priv hy1
      rw [hy] at hkd hf
      simp only at hkd hf
      by_cases c : y.l ≤ ks.length ∧ (ks.length : Int) ≤ y.m
      · have c1 := c.1
        have c2 := c.2
        have d1 : ¬ (ks.length : Int) < y.l := by omega
        have d2 : ¬ y.m < (ks.length : Int) := by omega
        have ha' := ha (fun e => by
          have := hy4 (by rw [hy2]; exact e)
          intro e2; subst e2; simp at c1; omega)
        rw [hy2] at hp
        have hl' := fun ρ => hl ρ rfl
        by_cases h1 : n = [115, 107]
        · subst h1
          have hk2 : y.k = 2 := by rw [hp]; simp
          simp at ha'
          rcases Bool.eq_false_or_eq_true (ks.any notAg) with c4 | c4 <;>
            simp [F.sealringref09_nodes_body, F.sealringref09_nodes_b, F.sealringref09_nodes_res, F.sealringref09_nodes_keep, encT, hkd, hk2, hf, c1, c2, d1, d2, ha', chkT, hy, c4]
          rw [hl'] <;> simp
        by_cases h2 : n = [115, 104, 107]
        · subst h2
          have hk2 : y.k = 2 := by rw [hp]; simp
          simp at ha'
          rcases Bool.eq_false_or_eq_true (ks.any notAg) with c4 | c4 <;>
            simp [F.sealringref09_nodes_body, F.sealringref09_nodes_b, F.sealringref09_nodes_res, F.sealringref09_nodes_keep, encT, hkd, hk2, hf, c1, c2, d1, d2, ha', chkT, hy, c4]
          rw [hl'] <;> simp
        by_cases h3 : n = [110, 101, 119]
        · subst h3
          have hk2 : y.k = 2 := by rw [hp]; simp
          simp at ha'
          by_cases c4 : ∃ a, ks.head? = some a ∧ a.kind = 2 <;>
            simp [F.sealringref09_nodes_body, F.sealringref09_nodes_b, F.sealringref09_nodes_res, F.sealringref09_nodes_keep, encT, hkd, hk2, hf, c1, c2, d1, d2, ha', chkT, hy, c4]
          rw [hl'] <;> simp
        · have hk2 : ¬ y.k = 2 := by rw [hp]; simp [h1, h2, h3]
          have hk2b : (y.k == 2) = false := by simp [hk2]
          simp [F.sealringref09_nodes_body, F.sealringref09_nodes_b, F.sealringref09_nodes_res, F.sealringref09_nodes_keep, encT, hkd, hk2, hy3, hf, c1, c2, d1, d2, chkT, hy, h1, h2, h3]
          rw [hl'] <;> simp
      · have d : (ks.length : Int) < y.l ∨ y.m < ks.length := by omega
        have e : (decide (y.l ≤ ks.length) && decide ((ks.length : Int) ≤ y.m)) = false := by
          rw [Bool.and_eq_false_iff]; simp; omega
        have hf2 : call F.tb 130 [.agg [.int .i64 3, .str n, .int .i64 s, .sl false 4 (encTs ks)]] bs = some (.bool (decide (y.l ≤ (ks.length : Int)) && decide ((ks.length : Int) ≤ y.m)), bs) := hf
        rw [e] at hf2
        simp [F.sealringref09_nodes_body, F.sealringref09_nodes_b, F.sealringref09_nodes_res, F.sealringref09_nodes_keep, encT, hkd, hy, hy3, hf2, d, chkT]
  · simp [F.sealringref09_nodes_body, F.sealringref09_nodes_b, F.sealringref09_nodes_res, F.sealringref09_nodes_keep, encT, hk, chkT]

theorem call_R9Valid (t : Tm) (bs : List (List AV)) (hm : t.mass < big) : call F.tb 126 [.agg (encT t)] bs = some (.int .i64 (thV t), bs) := by
  have h1 := call_RValid1 t bs hm
  have h2 := call_Rthnodes t bs hm
  rw [call_code F.tb_126 _ _ rfl]
  rw [encT_eq] at *
  by_cases h : validT t = 0
  · simp [F.sealringref09_Valid_body, F.sealringref09_Valid_b, h1, h2, h, thV, F.sealringref09_Valid_res, F.sealringref09_Valid_keep]
  · simp [F.sealringref09_Valid_body, F.sealringref09_Valid_b, h1, h, thV, F.sealringref09_Valid_res, F.sealringref09_Valid_keep]
end Go.Am

namespace Go.Am
set_option maxRecDepth 8000

-- equality
theorem bytesLess_eq : ∀ {a b : List UInt8}, cmpS a b = 0 → a = b := by
  intro a b h
  unfold cmpS at h
  split at h
  · simp at h
  · split at h
    · rename_i h2; exact beq_iff_eq.1 h2
    · simp at h
mutual
theorem cmpT_eq0 : ∀ (t u : Tm), cmpT t u = 0 → t = u
  | .mk k n s ks, .mk k' n' s' ks', h => by
    rw [cmpT_eq, or0_eq0] at h
    obtain ⟨h1, h2⟩ := h
    unfold hdT at h1
    simp only [or0_eq0, sgn0, mk_kind, mk_name, mk_sort, mk_kids] at h1 h2
    obtain ⟨_, h3, h4, h5, h6⟩ := h1
    have e1 := bytesLess_eq h4
    have e2 := cmpL_eq0 ks ks' (by omega) h2
    rw [h3, e1, h5, e2]
theorem cmpL_eq0 : ∀ (ts us : List Tm), ts.length = us.length → cmpL ts us = 0 → ts = us
  | [], [], _, _ => rfl
  | [], _ :: _, h, _ => by simp at h
  | _ :: _, [], h, _ => by simp at h
  | t :: ts, u :: us, h, h2 => by
    rw [cmpL, or0_eq0] at h2
    rw [cmpT_eq0 t u h2.1, cmpL_eq0 ts us (by simpa using h) h2.2]
end
theorem cmpT_iff {t u : Tm} : cmpT t u = 0 ↔ t = u := ⟨cmpT_eq0 t u, fun h => h ▸ cmpT_refl t⟩

-- numbers
def valD (acc : Nat) (l : List UInt8) : Nat := l.foldl (fun a c => a * 10 + (c.toNat - 48)) acc
theorem valD_nil (acc : Nat) : valD acc [] = acc := rfl
theorem valD_cons (acc : Nat) (c : UInt8) (r : List UInt8) : valD acc (c :: r) = valD (acc * 10 + (c.toNat - 48)) r := by simp only [valD, List.foldl_cons]
theorem valD_app (a b : List UInt8) (acc : Nat) : valD acc (a ++ b) = valD (valD acc a) b := by simp [valD]
theorem valD_ge : ∀ (a : List UInt8) (acc : Nat), acc ≤ valD acc a
  | [], _ => Nat.le_refl _
  | c :: r, acc => by have := valD_ge r (acc * 10 + (c.toNat - 48)); rw [valD_cons]; omega
theorem digit_toNat {n : Nat} (h : n < 10) : (48 + n).toUInt8.toNat = 48 + n := by
  have : ∀ n : Fin 10, (48 + n.val).toUInt8.toNat = 48 + n.val := by decide
  exact this ⟨n, h⟩
theorem digit_B {c : UInt8} {n : Nat} (hc : c.toNat = 48 + n) (h : n < 10) : digitB c = true := by
  simp only [digitB, hc, Bool.and_eq_true, decide_eq_true_eq]; omega
theorem decN_val : ∀ n : Nat, valD 0 (decN n) = n ∧ (decN n).all digitB = true ∧ decN n ≠ [] := by
  intro n
  induction n using Nat.strongRecOn with
  | ind n ih =>
    by_cases h : n < 10
    · rw [decN_small h]
      have hd := digit_toNat h
      generalize (48 + n).toUInt8 = c at *
      refine ⟨?_, ?_, by simp⟩
      · simp only [valD_cons, valD_nil, hd]; omega
      · simp only [List.all_cons, List.all_nil, Bool.and_true]; exact digit_B hd h
    · obtain ⟨h1, h2, h3⟩ := ih (n / 10) (by omega)
      have hd := digit_toNat (n := n % 10) (by omega)
      rw [decN_large h]
      generalize (48 + n % 10).toUInt8 = c at *
      refine ⟨?_, ?_, by simp⟩
      · rw [valD_app, h1]; simp only [valD_cons, valD_nil, hd]; omega
      · rw [List.all_append, h2]
        simp only [List.all_cons, List.all_nil, Bool.and_true, Bool.true_and]; exact digit_B hd (by omega)
theorem decN_inj {a b : Nat} (h : decN a = decN b) : a = b := by rw [← (decN_val a).1, ← (decN_val b).1, h]

theorem parse10 : ∀ (l : List UInt8) (acc : Nat), l.all digitB = true → valD acc l ≤ 1000000 → Lib.parseUint10 acc l = .ok (valD acc l)
  | [], _, _, _ => rfl
  | c :: r, acc, h, hv => by
    simp only [List.all_cons, Bool.and_eq_true, digitB, decide_eq_true_eq] at h
    rw [valD_cons] at hv ⊢
    have := valD_ge r (acc * 10 + (c.toNat - 48))
    rw [Lib.parseUint10, if_pos h.1, if_neg (by omega), if_neg (by omega)]
    exact parse10 r _ (by simpa [digitB] using h.2) hv

theorem atoi_decN {n : Nat} (h : n ≤ 1000000) : Lib.atoiAll (decN n) = .ok (n : Int) := by
  obtain ⟨h1, h2, h3⟩ := decN_val n
  cases hd : decN n with
  | nil => exact absurd hd h3
  | cons c r =>
    have hp := parse10 (decN n) 0 h2 (by omega)
    rw [h1] at hp
    rw [hd] at hp h2
    simp only [List.all_cons, Bool.and_eq_true, digitB, decide_eq_true_eq] at h2
    have c1 : ¬ (c.toNat = 43 ∨ c.toNat = 45) := by omega
    have c2 : ¬ c.toNat = 45 := by omega
    have c3 : ¬ 9223372036854775808 ≤ n := by omega
    have hm : Lib.parseMag (c :: r) = .ok n := by rw [Lib.parseMag, if_neg (by simp), hp]
    unfold Lib.atoiAll
    simp only [if_neg c1, hm, not_false_eq_true, true_and, if_neg c3, false_and, if_false]
    rw [if_neg (by omega), if_neg (by omega), if_neg c2]

/-- The number that a term stands for, if it does. -/
def numV (t : Tm) : Nat := valD 0 (t.name.drop 2)
def numB (t : Tm) : Bool := decide (numV t ≤ 1000000) && decide (cmpT t (numT (numV t)) = 0)
theorem numB_iff {t : Tm} : numB t = true ↔ numV t ≤ 1000000 ∧ t = numT (numV t) := by
  simp only [numB, Bool.and_eq_true, decide_eq_true_eq, cmpT_iff]
theorem numV_numT (n : Nat) : numV (numT n) = n := by
  simp only [numV, numT, mk_name, dec_nat]
  exact (decN_val n).1

theorem call_HasPrefix (s p : List UInt8) (bs : List (List AV)) (hs : s.length < 4611686018427387904) (hp : p.length < 4611686018427387904) :
    call F.tb 75 [.str s, .str p] bs = some (.bool (decide (p.length ≤ s.length) && s.take p.length == p), bs) := by
  rw [call_code F.tb_75 _ _ rfl]
  have e1 : ((p.length : Int) ≤ (s.length : Int)) = (p.length ≤ s.length) := int_le_nat _ _
  by_cases h : p.length ≤ s.length <;> simp [F.internal_stringslite_HasPrefix, F.internal_stringslite_HasPrefix_b, e1, h]

theorem call_CutPrefix (s p : List UInt8) (bs : List (List AV)) (hs : s.length < 4611686018427387904) (hp : p.length < 4611686018427387904) :
    call F.tb 73 [.str s, .str p] bs = some (if decide (p.length ≤ s.length) && s.take p.length == p then .tup [.str (s.drop p.length), .bool true] else .tup [.str s, .bool false], bs) := by
  have h1 := call_HasPrefix s p bs hs hp
  have h2 : call F.tb 74 [.str s, .str p] bs = some (if decide (p.length ≤ s.length) && s.take p.length == p then .tup [.str (s.drop p.length), .bool true] else .tup [.str s, .bool false], bs) := by
    rw [call_code F.tb_74 _ _ rfl]
    cases hh : (decide (p.length ≤ s.length) && s.take p.length == p)
    · rw [hh] at h1
      simp [F.internal_stringslite_CutPrefix, F.internal_stringslite_CutPrefix_b, h1]
    · rw [hh] at h1
      have hl : p.length ≤ s.length := by simp at hh; exact hh.1
      simp [F.internal_stringslite_CutPrefix, F.internal_stringslite_CutPrefix_b, h1, hl]
  rw [call_code F.tb_73 _ _ rfl]
  cases hh : (decide (p.length ≤ s.length) && s.take p.length == p) <;> rw [hh] at h2 <;>
    simp [F.strings_CutPrefix, F.strings_CutPrefix_b, h2]

theorem call_Atoi (s : List UInt8) (bs : List (List AV)) (hs : s.length < 1000000) : ∃ (v : Int) (e : Bool), call F.tb 76 [.str s] bs = some (.tup [.int .i64 v, .err e], bs) ∧ (e = true → Lib.atoiAll s = .ok v) ∧ (e = false → ∀ v, Lib.atoiAll s ≠ .ok v) := by
  rw [call_orc F.tb_76]
  simp only [pureOrc, atoiO, hs, if_true]
  match h : Lib.atoiAll s with
  | .ok v => exact ⟨v, true, rfl, fun _ => rfl, fun h => by simp at h⟩
  | .range => exact ⟨_, false, rfl, fun h => by simp at h, fun _ v => by simp⟩
  | Lib.NumEnd.syntax => exact ⟨_, false, rfl, fun h => by simp at h, fun _ v => by simp⟩

theorem mass_numT {n : Nat} (h : n ≤ 1000000) : (numT n).mass < big := by
  have := decN_len n
  simp [numT, Tm.mass, massL, big, dec_nat]; omega

theorem call_tread (t : Tm) (bs : List (List AV)) (hm : t.mass < big) (hn : t.name.length < 1000000) :
    ∃ v : Int, call F.tb 72 [.agg (encT t)] bs = some (.tup [.int .i64 v, .bool (numB t)], bs) ∧ (numB t = true → v = numV t) := by
  have h1 := call_CutPrefix t.name [110, 35] bs (by omega) (by simp)
  have hnum : ∀ n : Nat, t = numT n → (decide (([110, 35] : List UInt8).length ≤ t.name.length) && t.name.take 2 == [110, 35]) = true := fun n h => by
    rw [h]; simp [numT]
  by_cases hc : (decide (([110, 35] : List UInt8).length ≤ t.name.length) && t.name.take ([110, 35] : List UInt8).length == [110, 35]) = true
  · rw [if_pos hc] at h1
    obtain ⟨v, e, h2, h3, h4⟩ := call_Atoi (t.name.drop 2) bs (by simp; omega)
    have hi := call_in v 0 1000000 bs
    refine ⟨v, ?_, fun hb => ?_⟩
    · have hs : 0 ≤ v → v ≤ 1000000 → call F.tb 39 [.int .i64 v] bs = some (.agg (encT (numT v)), bs) ∧ call F.tb 29 [.agg (encT t), .agg (encT (numT v))] bs = some (.bool (decide (cmpT t (numT v) = 0)), bs) := fun a b => by
        obtain ⟨n, rfl⟩ : ∃ n : Nat, v = n := ⟨v.toNat, by omega⟩
        exact ⟨call_tnumber n bs (by omega), call_same29 t (numT n) bs hm (mass_numT (by omega))⟩
      have hb : numB t = (e && (decide (0 ≤ v) && decide (v ≤ 1000000)) && decide (cmpT t (numT v) = 0)) := by
        rw [Bool.eq_iff_iff, numB_iff]
        simp only [Bool.and_eq_true, decide_eq_true_eq, cmpT_iff]
        constructor
        · rintro ⟨a, b⟩
          have hd : t.name.drop 2 = decN (numV t) := by rw [b, numV_numT]; simp [numT, dec_nat]
          rw [hd, atoi_decN a] at h3 h4
          cases e
          · exact absurd rfl (h4 rfl _)
          · have := h3 rfl
            injection this with this
            rw [← this]
            exact ⟨⟨rfl, by omega, by omega⟩, b⟩
        · rintro ⟨⟨rfl, a, b⟩, c⟩
          obtain ⟨n, rfl⟩ : ∃ n : Nat, v = n := ⟨v.toNat, by omega⟩
          have : numV t = n := by rw [c, numV_numT]
          rw [this]
          exact ⟨by omega, c⟩
      rw [call_code F.tb_72 _ _ rfl]
      rw [hb]
      simp only [List.length_cons, List.length_nil] at h1
      cases e
      · simp [F.ticket_read_body, F.ticket_read_b, F.ticket_read_res, F.ticket_read_keep, h1, h2]
      · by_cases c1 : 0 ≤ v
        · by_cases c2 : v ≤ 1000000
          · obtain ⟨g1, g2⟩ := hs c1 c2
            simp only [c1, c2, decide_true, Bool.and_self] at hi
            rw [encT_eq t, encT_eq (numT v)] at *
            simp [F.ticket_read_body, F.ticket_read_b, F.ticket_read_res, F.ticket_read_keep, h1, h2, hi, c1, c2, g1, g2]
          · simp only [c1, c2, decide_true, decide_false, Bool.and_false] at hi
            simp [F.ticket_read_body, F.ticket_read_b, F.ticket_read_res, F.ticket_read_keep, h1, h2, hi, c1, c2]
        · simp only [c1, decide_false, Bool.false_and] at hi
          simp [F.ticket_read_body, F.ticket_read_b, F.ticket_read_res, F.ticket_read_keep, h1, h2, hi, c1]
    · obtain ⟨a, b⟩ := numB_iff.1 hb
      have hd : t.name.drop 2 = decN (numV t) := by rw [b, numV_numT]; simp [numT, dec_nat]
      rw [hd, atoi_decN a] at h3 h4
      cases e
      · exact absurd rfl (h4 rfl _)
      · have := h3 rfl
        injection this with this
        exact this.symm
  · rw [if_neg hc] at h1
    have hb : numB t = false := by
      rw [← Bool.not_eq_true]
      intro h
      exact hc (hnum _ (numB_iff.1 h).2)
    obtain ⟨v, e, h2, h3, h4⟩ := call_Atoi t.name bs hn
    refine ⟨v, ?_, fun h => by rw [hb] at h; cases h⟩
    rw [call_code F.tb_72 _ _ rfl, hb]
    simp [F.ticket_read_body, F.ticket_read_b, F.ticket_read_res, F.ticket_read_keep, h1, h2]

-- the reference's
theorem wrapU8 {n : Int} (h : 0 ≤ n ∧ n < 256) : IntKind.u8.wrap n = n := by
  simp [IntKind.wrap, IntKind.bits, IntKind.signed]; omega

theorem number_loop (t : Tm) (bs : List (List AV)) (hn : t.name.length < 1000000) :
    ∀ (post pre : List UInt8) (acc : Nat) (ρ : Nat → AV), t.name = pre ++ post → acc ≤ 1000000 → 2 ≤ t.name.length → ρ 1 = .bx (encT t) → ρ 3 = .int .i64 acc → ρ 4 = .int .i64 pre.length →
    R F.tb (.loop F.sealringref54_number_l0) ρ bs (blockK 0 (seqK F.tb F.sealringref54_number_r0 (finK F.sealringref54_number bs.length))) =
      some (.int .i64 (if post.all digitB = true ∧ valD acc post ≤ 1000000 ∧ decN (valD acc post) = t.name.drop 2 then valD acc post else -1), bs) := by
  intro post
  induction post with
  | nil =>
    intro pre acc ρ hk ha h2 h1 h3 h4
    have hd := call_digits acc bs (by omega)
    rw [R_loop' F.sealringref54_number_l0.eq_1]
    simp at hk
    have h2' : (2 : Int) ≤ t.name.length := by omega
    by_cases c : decN acc = t.name.drop 2
    · have cb : (decN acc == t.name.drop 2) = true := by simp [c]
      simp [h1, h3, h4, ← hk, hd, h2', c, cb, valD_nil, ha, F.sealringref54_number_r0, F.sealringref54_number_res, F.sealringref54_number_keep]
    · have cb : (decN acc == t.name.drop 2) = false := by simp [c]
      simp [h1, h3, h4, ← hk, hd, h2', c, cb, valD_nil, F.sealringref54_number_r0, F.sealringref54_number_res, F.sealringref54_number_keep]
  | cons x post IH =>
    intro pre acc ρ hk ha h2 h1 h3 h4
    obtain ⟨hg, hw, hlt, _⟩ := at_pre hk (by omega)
    rw [R_loop' F.sealringref54_number_l0.eq_1]
    have hx := x.toNat_lt
    have e1 : ((x.toNat : Int) < 48) = (x.toNat < 48) := by rw [eq_iff_iff]; omega
    have e2 : ((57 : Int) < x.toNat) = (57 < x.toNat) := by rw [eq_iff_iff]; omega
    by_cases c1 : x.toNat < 48
    · have hd : digitB x = false := by simp [digitB]; omega
      simp [h1, h3, h4, hg, hw, hlt, e1, c1, hd, F.sealringref54_number_res, F.sealringref54_number_keep]
    by_cases c2 : 57 < x.toNat
    · have hd : digitB x = false := by simp [digitB]; omega
      simp [h1, h3, h4, hg, hw, hlt, e1, e2, c1, c2, hd, F.sealringref54_number_res, F.sealringref54_number_keep]
    have hd : digitB x = true := by simp [digitB]; omega
    have w1 : IntKind.u8.wrap ((x.toNat : Int) - 48) = ((x.toNat - 48 : Nat) : Int) := by rw [wrapU8 (by omega)]; omega
    have w2 : IntKind.i64.wrap (10 * (acc : Int)) = 10 * (acc : Int) := wrap64 (by omega) (by omega)
    have w3 : IntKind.i64.wrap (((x.toNat - 48 : Nat) : Int)) = ((x.toNat - 48 : Nat) : Int) := wrap64 (by omega) (by omega)
    have w4 : IntKind.i64.wrap (10 * (acc : Int) + ((x.toNat - 48 : Nat) : Int)) = ((acc * 10 + (x.toNat - 48) : Nat) : Int) := by rw [wrap64 (by omega) (by omega)]; omega
    have hv := valD_ge post (acc * 10 + (x.toNat - 48))
    have e3 : ((1000000 : Int) < ((acc * 10 + (x.toNat - 48) : Nat) : Int)) = (1000000 < acc * 10 + (x.toNat - 48)) := by rw [eq_iff_iff]; omega
    generalize hac : acc * 10 + (x.toNat - 48) = acc' at *
    by_cases c3 : 1000000 < acc'
    · have : ¬ valD acc' post ≤ 1000000 := by omega
      simp [h1, h3, h4, hg, hw, hlt, e1, e2, c1, c2, hd, w1, w2, w3, w4, e3, c3, valD_cons, hac, this, F.sealringref54_number_res, F.sealringref54_number_keep]
    · simp [h1, h3, h4, hg, hw, hlt, e1, e2, c1, c2, hd, w1, w2, w3, w4, e3, c3, valD_cons, hac]
      rw [IH (pre ++ [x]) acc'] <;> first | omega | simp [h1, hk]

theorem call_Rnumber54 (t : Tm) (bs : List (List AV)) (hn : t.name.length < 1000000) (hk : t.kind = 2 → t.kids = []) :
    call F.tb 134 [.agg (encT t)] bs = some (.int .i64 (if numB t = true then (numV t : Int) else -1), bs) := by
  rw [call_code F.tb_134 _ _ rfl]
  by_cases hk2 : ¬ t.kind = 2
  · have hq : ¬ numB t = true := fun h => hk2 (by rw [(numB_iff.1 h).2]; rfl)
    rw [if_neg hq]
    simp [F.sealringref54_number_body, F.sealringref54_number_b, hk2, F.sealringref54_number_res, F.sealringref54_number_keep]
  replace hk := hk (Decidable.not_not.1 hk2)
  clear hk2
  obtain ⟨k, n, s, ks⟩ := t
  simp at hn hk
  subst hk
  have hb : numB (.mk k n s []) = true ↔ k = 2 ∧ s = 4 ∧ 3 ≤ n.length ∧ n.take 2 = [110, 35] ∧ (n.drop 2).all digitB = true ∧ valD 0 (n.drop 2) ≤ 1000000 ∧ decN (valD 0 (n.drop 2)) = n.drop 2 := by
    rw [numB_iff]
    simp only [numV, mk_name, numT, dec_nat, Tm.mk.injEq]
    constructor
    · rintro ⟨a, rfl, b, rfl, _⟩
      have e : n.drop 2 = decN (valD 0 (n.drop 2)) := by
        have := congrArg (List.drop 2) b
        simpa using this
      obtain ⟨h1, h2, h3⟩ := decN_val (valD 0 (n.drop 2))
      refine ⟨rfl, rfl, ?_, ?_, ?_, a, e.symm⟩
      · have h4 : 0 < (decN (valD 0 (n.drop 2))).length := List.length_pos_iff.2 h3
        rw [← e] at h4; simp at h4; omega
      · have := congrArg (List.take 2) b
        simpa using this
      · rw [e]; exact h2
    · rintro ⟨rfl, rfl, _, h2, _, h4, h5⟩
      refine ⟨h4, rfl, ?_, rfl, trivial⟩
      rw [h5, ← h2, List.take_append_drop]
  have e3 : ((n.length : Int) < 3) = ¬ (3 ≤ n.length) := by rw [eq_iff_iff]; omega
  by_cases c1 : k = 2
  · by_cases c2 : s = 4
    · by_cases c3 : 3 ≤ n.length
      · have h2 : (2 : Int) ≤ n.length := by omega
        by_cases c4 : n.take 2 = [110, 35]
        · have hl := number_loop (.mk k n s []) bs hn (n.drop 2) (n.take 2) 0
          have hlen : (n.take 2).length = 2 := by rw [c4]; rfl
          subst c1 c2
          simp [F.sealringref54_number_body, F.sealringref54_number_b, encT, e3, c3, c4, h2]
          rw [hl] <;> (try simp [encT, c3]) <;> (try omega)
          · by_cases hq : numB (.mk 2 n 4 []) = true
            · have := hb.1 hq
              simp only [numV, mk_name, hq, if_true]
              rw [if_pos ⟨by simpa using this.2.2.2.2.1, this.2.2.2.2.2.1, this.2.2.2.2.2.2⟩]
            · rw [if_neg hq, if_neg]
              intro ⟨a, b, c⟩
              exact hq (hb.2 ⟨rfl, rfl, c3, c4, by simpa using a, b, c⟩)
        · have cb : (n.take 2 == [110, 35]) = false := by simp [c4]
          have hq : ¬ numB (.mk k n s []) = true := fun h => c4 (hb.1 h).2.2.2.1
          rw [if_neg hq]
          subst c1 c2
          simp [F.sealringref54_number_body, F.sealringref54_number_b, encT, e3, c3, cb, h2, F.sealringref54_number_res, F.sealringref54_number_keep]
      · have hq : ¬ numB (.mk k n s []) = true := fun h => c3 (hb.1 h).2.2.1
        rw [if_neg hq]
        subst c1 c2
        simp [F.sealringref54_number_body, F.sealringref54_number_b, encT, e3, c3, F.sealringref54_number_res, F.sealringref54_number_keep]
    · have hq : ¬ numB (.mk k n s []) = true := fun h => c2 (hb.1 h).2.1
      rw [if_neg hq]
      subst c1
      simp [F.sealringref54_number_body, F.sealringref54_number_b, encT, c2, F.sealringref54_number_res, F.sealringref54_number_keep]
  · have hq : ¬ numB (.mk k n s []) = true := fun h => c1 (hb.1 h).1
    rw [if_neg hq]
    simp [F.sealringref54_number_body, F.sealringref54_number_b, encT, c1, F.sealringref54_number_res, F.sealringref54_number_keep]
end Go.Am

namespace Go.Am
set_option maxRecDepth 8000

def isB (t : Tm) (n : List UInt8) : Bool := decide (t.kind = 3) && (t.name == n)
theorem isB_iff {t : Tm} {n : List UInt8} : isB t n = true ↔ t.kind = 3 ∧ t.name = n := by simp [isB]
theorem call_this (t : Tm) (n : List UInt8) (bs : List (List AV)) : call F.tb 71 [.agg (encT t), .str n] bs = some (.bool (isB t n), bs) := by
  rw [call_code F.tb_71 _ _ rfl]
  by_cases h : t.kind = 3 <;> simp [F.theory_is, F.theory_is_b, isB, h]
theorem call_RIs (t : Tm) (n : List UInt8) (bs : List (List AV)) : call F.tb 132 [.agg (encT t), .str n] bs = some (.bool (isB t n), bs) := by
  rw [call_code F.tb_132 _ _ rfl]
  by_cases h : t.kind = 3 <;> simp [F.sealringref09_Is, F.sealringref09_Is_b, isB, h]

/-- The terms of a tuple. -/
def untL : Tm → List Tm
  | .mk k n s [a, b] => if k = 3 ∧ n = PAIR then a :: untL b else [.mk k n s [a, b]]
  | t => [t]
theorem untL_pair (t a b : Tm) (h : isB t PAIR = true) (hk : t.kids = [a, b]) : untL t = a :: untL b := by
  obtain ⟨k, n, s, ks⟩ := t
  simp at hk
  subst hk
  have h := isB_iff.1 h
  simp only [mk_kind, mk_name] at h
  rw [untL, if_pos h]
theorem untL_other (t : Tm) (h : ¬ (isB t PAIR = true ∧ t.kids.length = 2)) : untL t = [t] := by
  obtain ⟨k, n, s, ks⟩ := t
  simp only [isB_iff, mk_kind, mk_name, mk_kids] at h
  match ks with
  | [] => simp [untL]
  | [a] => simp [untL]
  | [a, b] =>
    have : ¬ (k = 3 ∧ n = PAIR) := fun h1 => h ⟨h1, rfl⟩
    simp [untL, this]
  | a :: b :: c :: r => simp [untL]

theorem pair_cases (t : Tm) : (∃ a b, isB t PAIR = true ∧ t.kids = [a, b]) ∨ ¬ (isB t PAIR = true ∧ t.kids.length = 2) := by
  by_cases h : isB t PAIR = true ∧ t.kids.length = 2
  · obtain ⟨h1, h2⟩ := h
    match hk : t.kids, h2 with
    | [a, b], _ => exact .inl ⟨a, b, h1, rfl⟩
  · exact .inr h

theorem Untuple_loop (bs : List (List AV)) : ∀ (n : Nat) (t : Tm) (acc : List Tm) (ρ : Nat → AV), t.nodes ≤ n → t.mass < big → acc.length + t.nodes < 2000000000000 → ρ 1 = .bx (encT t) → ρ 3 = .sl true 4 (encTs acc) →
    R F.tb (.loop F.theory_Untuple_l0) ρ bs (blockK 0 (seqK F.tb F.theory_Untuple_r0 (finK F.theory_Untuple bs.length))) = some (.sl true 4 (encTs (acc ++ untL t)), bs) := by
  intro n
  induction n with
  | zero => intro t acc ρ hn; have := nodes_eq t; omega
  | succ n IH =>
    intro t acc ρ hn hm ha h1 h3
    have hi : call F.tb 71 [.agg (encT t), .str [112, 97, 105, 114]] bs = some (.bool (isB t PAIR), bs) := call_this t PAIR bs
    have hc := call_copied t bs hm
    have hap : (acc.length + 1) * 56 ≤ 140737488355328 := by omega
    rw [R_loop' F.theory_Untuple_l0.eq_1]
    rcases pair_cases t with ⟨a, b, hb, hk⟩ | hb
    · have hnn := nodes_eq t
      rw [hk] at hnn
      simp only [nodesL] at hnn
      have hma : a.mass < big := mass_kid hm (by rw [hk]; simp)
      have hmb : b.mass < big := mass_kid hm (by rw [hk]; simp)
      have hca := call_copied a bs hma
      rw [hb] at hi
      rw [untL_pair t a b hb hk]
      simp [h1, h3, hi, hap, hca, hk, encTs]
      have := nodes_eq a
      rw [IH b (acc ++ [a])] <;> first | omega | assumption | (simp [encTs_map]; done) | skip
      all_goals (simp; omega)
    · rw [untL_other t hb]
      have h2 : (isB t PAIR && decide (t.kids.length = 2)) = false := by
        rw [← Bool.not_eq_true, Bool.and_eq_true, decide_eq_true_eq]; exact hb
      cases hb1 : isB t PAIR
      · rw [hb1] at hi
        simp [h1, h3, hi, hap, hc, F.theory_Untuple_r0, F.theory_Untuple_res, F.theory_Untuple_keep, encTs_one, encTs_append]
      · rw [hb1] at hi h2
        have h3' : ¬ t.kids.length = 2 := by simpa using h2
        have h4 : ¬ ((t.kids.length : Int) = 2) := by omega
        simp [h1, h3, hi, hap, hc, h3', h4, F.theory_Untuple_r0, F.theory_Untuple_res, F.theory_Untuple_keep, encTs_one, encTs_append]

theorem call_Untuple (t : Tm) (bs : List (List AV)) (hm : t.mass < big) : call F.tb 70 [.agg (encT t)] bs = some (.sl true 4 (encTs (untL t)), bs) := by
  rw [call_code F.tb_70 _ _ rfl]
  have hn := nodes_le_mass t
  have hl := Untuple_loop bs t.nodes t []
  simp [F.theory_Untuple_body, F.theory_Untuple_b]
  rw [hl] <;> first | omega | assumption | (simp [encTs]; done) | skip
  unfold big at hm; simp; omega

theorem untL_len : ∀ (n : Nat) (t : Tm), t.nodes ≤ n → (untL t).length ≤ t.nodes
  | 0, t, h => by have := nodes_eq t; omega
  | n + 1, t, h => by
    rcases pair_cases t with ⟨a, b, hb, hk⟩ | hb
    · have hnn := nodes_eq t
      rw [hk] at hnn
      simp only [nodesL] at hnn
      rw [untL_pair t a b hb hk]
      have := untL_len n b (by omega)
      have := nodes_eq a
      simp only [List.length_cons]; omega
    · rw [untL_other t hb]; have := nodes_eq t; simp; omega

theorem call_RUntuple (bs : List (List AV)) : ∀ (n : Nat) (t : Tm), t.nodes ≤ n → t.mass < big → call F.tb 133 [.agg (encT t)] bs = some (.sl true 4 (encTs (untL t)), bs) := by
  intro n
  induction n with
  | zero => intro t hn; have := nodes_eq t; omega
  | succ n IH =>
    intro t hn hm
    have hi : call F.tb 132 [.agg (encT t), .str [112, 97, 105, 114]] bs = some (.bool (isB t PAIR), bs) := call_RIs t PAIR bs
    rw [call_code F.tb_133 _ _ rfl]
    rcases pair_cases t with ⟨a, b, hb, hk⟩ | hb
    · have hnn := nodes_eq t
      rw [hk] at hnn
      simp only [nodesL] at hnn
      have hma : a.mass < big := mass_kid hm (by rw [hk]; simp)
      have hmb : b.mass < big := mass_kid hm (by rw [hk]; simp)
      have hca := IH b (by have := nodes_eq a; omega) hmb
      have hle := untL_len b.nodes b (Nat.le_refl _)
      have hnm := nodes_le_mass b
      have hap : (1 + (untL b).length) * 56 ≤ 140737488355328 := by unfold big at hmb; omega
      rw [hb] at hi
      rw [untL_pair t a b hb hk]
      simp [F.sealringref09_Untuple_body, F.sealringref09_Untuple_b, F.sealringref09_Untuple_res, F.sealringref09_Untuple_keep, hi, hca, hap, hk, encTs]
    · rw [untL_other t hb]
      have h2 : (isB t PAIR && decide (t.kids.length = 2)) = false := by
        rw [← Bool.not_eq_true, Bool.and_eq_true, decide_eq_true_eq]; exact hb
      cases hb1 : isB t PAIR
      · rw [hb1] at hi
        simp [F.sealringref09_Untuple_body, F.sealringref09_Untuple_b, F.sealringref09_Untuple_res, F.sealringref09_Untuple_keep, hi, encTs]
      · rw [hb1] at hi h2
        have h3' : ¬ t.kids.length = 2 := by simpa using h2
        have h4 : ¬ ((t.kids.length : Int) = 2) := by omega
        simp [F.sealringref09_Untuple_body, F.sealringref09_Untuple_b, F.sealringref09_Untuple_res, F.sealringref09_Untuple_keep, hi, h3', h4, encTs]
end Go.Am

namespace Go.Am
set_option maxRecDepth 8000

/-- What a ticket says: agent, key, number, expiry; and the key under which it says it. -/
def partsQ (t : Tm) : Option ((List UInt8 × Tm × Int × Int) × Tm) :=
  if thV t = 0 ∧ isB t ENC = true then match t.kids with
    | [b, k] => match untL b with
      | [a, ky, x, y] => if (a.kind = 2 ∧ a.sort = 1 ∧ ky.kind = 2 ∧ ky.sort = 3) ∧ numB x = true ∧ numB y = true then some ((a.name, ky, numV x, numV y), k) else none
      | _ => none
    | _ => none
  else none
def encQ : Option (List UInt8 × Tm × Int × Int) → List AV
  | none => [.str [], .int .i64 0, .str [], .int .i64 0, .sl false 4 [], .int .i64 0, .int .i64 0]
  | some (a, k, n, e) => .str a :: encT k ++ [.int .i64 n, .int .i64 e]

theorem enc_kids {t : Tm} (h : thV t = 0) (h2 : isB t ENC = true) : ∃ b k, t.kids = [b, k] := by
  have hv : validT t = 0 := by unfold thV at h; split at h <;> simp_all
  have hc : chkT t = 0 := by unfold thV at h; split at h <;> simp_all
  obtain ⟨k, n, s, ks⟩ := t
  obtain ⟨h3, h4⟩ := isB_iff.1 h2
  simp only [mk_kind, mk_name] at h3 h4
  subst h3 h4
  have hf : findSy ENC symL = some ⟨ENC, 2, 2, 1⟩ := by simp [findSy, symL, ENC]
  simp only [chkT, hf, ne_eq, not_true, if_false] at hc
  by_cases hl : (ks.length : Int) < 2 ∨ 2 < (ks.length : Int)
  · rw [if_pos hl] at hc; simp at hc
  · have : ks.length = 2 := by omega
    match ks, this with
    | [b, k], _ => exact ⟨b, k, rfl⟩

theorem untL_mass : ∀ (n : Nat) (t : Tm), t.nodes ≤ n → ∀ x ∈ untL t, x.mass ≤ t.mass
  | 0, t, h => by have := nodes_eq t; omega
  | n + 1, t, h => by
    intro x hx
    rcases pair_cases t with ⟨a, b, hb, hk⟩ | hb
    · have hnn := nodes_eq t
      have hmm := mass_eq t
      rw [hk] at hnn hmm
      simp only [nodesL, massL] at hnn hmm
      rw [untL_pair t a b hb hk] at hx
      rcases List.mem_cons.1 hx with rfl | hx
      · omega
      · have := untL_mass n b (by omega) x hx; omega
    · rw [untL_other t hb] at hx
      simp at hx; subst hx; omega
theorem errL_mem {x : Tm} : ∀ {ks : List Tm}, errL ks = 0 → x ∈ ks → errT x = 0
  | [], _, h => by cases h
  | t :: ts, h, hx => by
    simp only [errL] at h
    split at h
    · rename_i hne; exact absurd h hne
    · rename_i hne
      rcases List.mem_cons.1 hx with rfl | hx
      · simpa using hne
      · exact errL_mem h hx
theorem errT_kids {t x : Tm} (h : errT t = 0) (hx : x ∈ t.kids) : errT x = 0 := by
  obtain ⟨k, n, s, ks⟩ := t
  simp only [errT] at h
  split at h
  · rename_i hne; exact absurd h hne
  · exact errL_mem h hx
theorem errT_atom {t : Tm} (h : errT t = 0) (hk : t.kind = 2) : t.kids = [] := by
  obtain ⟨k, n, s, ks⟩ := t
  simp at hk
  subst hk
  simp only [errT] at h
  split at h
  · rename_i hne; exact absurd h hne
  · rename_i hne
    have hne := Decidable.not_not.1 hne
    simp only [nodeE, mk_kind, mk_kids, mk_sort, mk_name] at hne
    cases ks with
    | nil => rfl
    | cons a b => simp at hne
theorem untL_err : ∀ (n : Nat) (t : Tm), t.nodes ≤ n → errT t = 0 → ∀ x ∈ untL t, errT x = 0
  | 0, t, h => by have := nodes_eq t; omega
  | n + 1, t, h => by
    intro he x hx
    rcases pair_cases t with ⟨a, b, hb, hk⟩ | hb
    · have hnn := nodes_eq t
      rw [hk] at hnn
      simp only [nodesL] at hnn
      rw [untL_pair t a b hb hk] at hx
      rcases List.mem_cons.1 hx with rfl | hx
      · exact errT_kids he (by rw [hk]; simp)
      · exact untL_err n b (by omega) (errT_kids he (by rw [hk]; simp)) x hx
    · rw [untL_other t hb] at hx
      simp at hx; subst hx; exact he

theorem list4 {α : Type} (l : List α) : (∃ a b c d, l = [a, b, c, d]) ∨ l.length ≠ 4 := by
  match l with
  | [a, b, c, d] => exact .inl ⟨a, b, c, d, rfl⟩
  | [] => exact .inr (by simp)
  | [a] => exact .inr (by simp)
  | [a, b] => exact .inr (by simp)
  | [a, b, c] => exact .inr (by simp)
  | a :: b :: c :: d :: e :: r => exact .inr (by simp)

theorem partsQ_ne4 {t b k : Tm} (hk : t.kids = [b, k]) (h : (untL b).length ≠ 4) : partsQ t = none := by
  unfold partsQ
  split
  · rw [hk]
    simp only
    split
    · rename_i h2; rw [h2] at h; simp at h
    · rfl
  · rfl

theorem call_parts (t : Tm) (bs : List (List AV)) (hm : t.mass < 1000000) :
    ∃ q k, call F.tb 69 [.agg (encT t)] bs = some (.tup [.agg (encQ q), .agg (encT k), .bool (partsQ t).isSome], bs) ∧ k.mass < big ∧ ∀ r, partsQ t = some r → q = some r.1 ∧ k = r.2 := by
  have hmb : t.mass < big := by unfold big; omega
  have hv := call_thValid t bs hmb
  have hno : partsQ t = none → call F.tb 69 [.agg (encT t)] bs = some (.tup [.agg (encQ none), .agg (encT zeroT), .bool false], bs) →
      ∃ q k, call F.tb 69 [.agg (encT t)] bs = some (.tup [.agg (encQ q), .agg (encT k), .bool (partsQ t).isSome], bs) ∧ k.mass < big ∧ ∀ r, partsQ t = some r → q = some r.1 ∧ k = r.2 := fun h1 h2 =>
    ⟨none, zeroT, by rw [h1]; exact h2, by decide, fun r h => by rw [h1] at h; cases h⟩
  by_cases c1 : thV t = 0
  · by_cases c2 : t.kind = 3
    · by_cases c3 : t.name = ENC
      · have hB : isB t ENC = true := isB_iff.2 ⟨c2, c3⟩
        obtain ⟨b, k, hk⟩ := enc_kids c1 hB
        have hmb2 : b.mass < 1000000 := by have := mass_eq t; rw [hk] at this; simp [massL] at this; omega
        have hmk : k.mass < big := mass_kid hmb (by rw [hk]; simp)
        have hu := call_Untuple b bs (by unfold big; omega)
        have c3' : t.name = [101, 110, 99] := c3
        rcases list4 (untL b) with ⟨a, ky, x, y, hl⟩ | hl
        · have hx : x.mass < 1000000 := by have := untL_mass b.nodes b (Nat.le_refl _) x (by rw [hl]; simp); omega
          have hy : y.mass < 1000000 := by have := untL_mass b.nodes b (Nat.le_refl _) y (by rw [hl]; simp); omega
          obtain ⟨vx, rx, ex⟩ := call_tread x bs (by unfold big; omega) (by have := mass_eq x; omega)
          obtain ⟨vy, ry, ey⟩ := call_tread y bs (by unfold big; omega) (by have := mass_eq y; omega)
          rw [hl] at hu
          have hp : partsQ t = if (a.kind = 2 ∧ a.sort = 1 ∧ ky.kind = 2 ∧ ky.sort = 3) ∧ numB x = true ∧ numB y = true then some ((a.name, ky, (numV x : Int), (numV y : Int)), k) else none := by
            unfold partsQ; rw [if_pos ⟨c1, hB⟩, hk]; simp only [hl]
          by_cases d1 : a.kind = 2 ∧ a.sort = 1 ∧ ky.kind = 2 ∧ ky.sort = 3
          · refine ⟨some (a.name, ky, vx, vy), k, ?_, hmk, fun r h => ?_⟩
            · have hs : (partsQ t).isSome = (numB x && numB y) := by
                rw [hp]; cases hx : numB x <;> cases hy : numB y <;> simp [d1]
              obtain ⟨d1, d2, d3, d4⟩ := d1
              rw [call_code F.tb_69 _ _ rfl, hs]
              simp [F.ticket_parts_body, F.ticket_parts_b, F.ticket_parts_res, F.ticket_parts_keep, hv, c1, c2, c3', hk, hu, encTs, d1, d2, d3, d4, rx, ry, encQ, encT_eq ky]
            · rw [hp] at h
              split at h
              · rename_i hh
                injection h with h
                subst h
                exact ⟨by rw [ex hh.2.1, ey hh.2.2], rfl⟩
              · cases h
          · refine hno (by rw [hp, if_neg (fun h => d1 h.1)]) ?_
            rw [call_code F.tb_69 _ _ rfl]
            by_cases d1' : a.kind = 2 <;> by_cases d2 : a.sort = 1 <;> by_cases d3 : ky.kind = 2 <;> by_cases d4 : ky.sort = 3 <;>
              first
              | (simp [F.ticket_parts_body, F.ticket_parts_b, F.ticket_parts_res, F.ticket_parts_keep, hv, c1, c2, c3', hk, hu, encTs, d1', d2, d3, d4, encQ, zeroT, encT]; done)
              | exact absurd ⟨d1', d2, d3, d4⟩ d1
        · refine hno (partsQ_ne4 hk hl) ?_
          have hl' : ¬ ((untL b).length : Int) = 4 := by omega
          rw [call_code F.tb_69 _ _ rfl]
          simp [F.ticket_parts_body, F.ticket_parts_b, F.ticket_parts_res, F.ticket_parts_keep, hv, c1, c2, c3', hk, hu, encTs, hl', encQ, zeroT, encT]
      · have c3' : ¬ t.name = [101, 110, 99] := c3
        have c3b : (t.name == [101, 110, 99]) = false := by simp [c3']
        refine hno (by unfold partsQ; rw [if_neg (fun h => c3 (isB_iff.1 h.2).2)]) ?_
        rw [call_code F.tb_69 _ _ rfl]
        simp [F.ticket_parts_body, F.ticket_parts_b, F.ticket_parts_res, F.ticket_parts_keep, hv, c1, c2, c3', c3b, encQ, zeroT, encT, encTs]
    · refine hno (by unfold partsQ; rw [if_neg (fun h => c2 (isB_iff.1 h.2).1)]) ?_
      rw [call_code F.tb_69 _ _ rfl]
      simp [F.ticket_parts_body, F.ticket_parts_b, F.ticket_parts_res, F.ticket_parts_keep, hv, c1, c2, encQ, zeroT, encT, encTs]
  · refine hno (by unfold partsQ; rw [if_neg (fun h => c1 h.1)]) ?_
    rw [call_code F.tb_69 _ _ rfl]
    simp [F.ticket_parts_body, F.ticket_parts_b, F.ticket_parts_res, F.ticket_parts_keep, hv, c1, encQ, zeroT, encT, encTs]

-- Read
theorem call_c79 (x : Ep) (k : Tm) (g : Nat) (bs : List (List AV)) (hg : bs[g]? = some (encT k)) (hx : x.key.mass < big) (hk : k.mass < big) :
    call F.tb 79 [.agg (encE x), .gp g 0] bs = some (.bool (decide (cmpT x.key k = 0)), bs) := by
  rw [call_code F.tb_79 _ _ rfl]
  simp [F.ticket_Read_c1, F.ticket_Read_c1_b, encE, hg, call_same29 x.key k bs hx hk]

theorem IndexE_loop (ks : List Ep) (k : Tm) (g : Nat) (bs : List (List AV)) (hg : bs[g]? = some (encT k)) (hl : ks.length < 4611686018427387904) (hx : ∀ x ∈ ks, x.key.mass < big) (hk : k.mass < big) :
    ∀ (post pre : List Ep) (o : Bool) (ρ : Nat → AV), ks = pre ++ post → ρ 0 = .sl o 6 (ks.map encE) → ρ 1 = .fn 79 [.gp g 0] → ρ 7 = .int .i64 ks.length → ρ 8 = .int .i64 pre.length →
    R F.tb (.loop F.slices_IndexFunc_api_Epoch_api_Epoch_l0) ρ bs (blockK 0 (seqK F.tb F.slices_IndexFunc_api_Epoch_api_Epoch_r0 (finK F.slices_IndexFunc_api_Epoch_api_Epoch bs.length))) =
      some (.int .i64 (idxI (fun x => decide (cmpT x.key k = 0)) pre.length post), bs) := by
  intro post
  induction post with
  | nil =>
    intro pre o ρ hkk h0 h1 h7 h8
    rw [R_loop' F.slices_IndexFunc_api_Epoch_api_Epoch_l0.eq_1]
    simp at hkk
    simp [h0, h1, h7, h8, ← hkk, F.slices_IndexFunc_api_Epoch_api_Epoch_r0, F.slices_IndexFunc_api_Epoch_api_Epoch, idxI]
  | cons x post IH =>
    intro pre o ρ hkk h0 h1 h7 h8
    obtain ⟨hgx, hw, hlt, hmem⟩ := at_pre hkk hl
    have hc := call_c79 x k g bs hg (hx x hmem) hk
    have he : (ks.map encE)[pre.length]? = some (encE x) := by simp [hgx]
    generalize ks.map encE = L at *
    rw [R_loop' F.slices_IndexFunc_api_Epoch_api_Epoch_l0.eq_1]
    have hs := encE_strip x
    have hln := encE_len x
    have htk : (encE x).take 6 = encE x := List.take_of_length_le (by omega)
    generalize encE x = X at *
    by_cases c : cmpT x.key k = 0
    · simp [h0, h1, h7, h8, he, hw, hlt, hs, hln, htk, hc, c, idxI, F.slices_IndexFunc_api_Epoch_api_Epoch]
    · simp [h0, h1, h7, h8, he, hw, hlt, hs, hln, htk, hc, c, idxI]
      rw [IH (pre ++ [x]) o] <;> simp [h0, h1, h7, hkk]

theorem idxI_ge {α : Type} (p : α → Bool) (i : Nat) (l : List α) : decide (0 ≤ idxI p i l) = l.any p := by
  cases h : l.any p
  · by_cases hi : idxI p i l = -1
    · rw [hi]; rfl
    · obtain ⟨pre, post, rfl, h2, _, x, post', rfl, h4⟩ := idxI_some p l i hi
      rw [List.any_append, List.any_cons, h4] at h; simp at h
  · by_cases hi : idxI p i l = -1
    · have := idxI_none p l i hi; rw [h] at this; cases this
    · obtain ⟨pre, post, _, h2, h3, _⟩ := idxI_some p l i hi
      rw [h3]; simp; omega

theorem call_ContainsE (ks : List Ep) (k : Tm) (g : Nat) (o : Bool) (bs : List (List AV)) (hg : bs[g]? = some (encT k)) (hl : ks.length < 4611686018427387904) (hx : ∀ x ∈ ks, x.key.mass < big) (hk : k.mass < big) :
    call F.tb 80 [.sl o 6 (ks.map encE), .fn 79 [.gp g 0]] bs = some (.bool (ks.any fun x => decide (cmpT x.key k = 0)), bs) := by
  have h1 : ∀ o, call F.tb 81 [.sl o 6 (ks.map encE), .fn 79 [.gp g 0]] bs = some (.int .i64 (idxI (fun x => decide (cmpT x.key k = 0)) 0 ks), bs) := fun o => by
    rw [call_code F.tb_81 _ _ rfl]
    simp [F.slices_IndexFunc_api_Epoch_api_Epoch_body, F.slices_IndexFunc_api_Epoch_api_Epoch_b]
    rw [IndexE_loop ks k g bs hg hl hx hk ks [] false] <;> simp
  rw [call_code F.tb_80 _ _ rfl, ← idxI_ge _ 0]
  simp [F.slices_ContainsFunc_api_Epoch_api_Epoch, F.slices_ContainsFunc_api_Epoch_api_Epoch_b, h1]

/-- What a server reads in a term: Read. -/
def readS (s : Srv) (t : Tm) : Option (List UInt8 × Tm × Int × Int) × Int :=
  if validS s = false then (none, 1) else match partsQ t with
    | none => (none, 10)
    | some (q, k) => if (s.keys.any fun x => decide (cmpT x.key k = 0)) = true then (some q, 0) else (none, 4)

theorem call_tRead (s : Srv) (t : Tm) (bs : List (List AV)) (hn : s.name.length < 1000000) (hul : s.used.length < 4611686018427387904) (hkl : s.keys.length < 4611686018427387904) (hm : ∀ k ∈ s.keys, k.key.mass < big) (ht : t.mass < 1000000) :
    call F.tb 68 [.agg (encS s), .agg (encT t)] bs = some (.tup [.agg (encQ (readS s t).1), .int .i64 (readS s t).2], bs) := by
  have h1 := fun bs => call_SValid s bs hn hul hm
  have h2 := fun bs => call_parts t bs ht
  rw [call_code F.tb_68 _ _ rfl]
  unfold encS at *
  cases hv : validS s
  · simp [F.ticket_Read_body, F.ticket_Read_b, F.ticket_Read_res, F.ticket_Read_keep, h1, hv, readS, encQ]
  · obtain ⟨q, k, hq, hkm, hr⟩ := h2 bs
    have hc := call_ContainsE s.keys k bs.length false (bs ++ [encT k]) (by simp) hkl hm hkm
    cases hp : partsQ t with
    | none =>
      rw [hp] at hq
      cases q <;> simp [F.ticket_Read_body, F.ticket_Read_b, F.ticket_Read_res, F.ticket_Read_keep, h1, hv, hq, readS, hp, encQ]
    | some r =>
      obtain ⟨rfl, rfl⟩ := hr r hp
      obtain ⟨⟨a, ky, n, e⟩, k⟩ := r
      rw [hp] at hq
      rcases Bool.eq_false_or_eq_true (s.keys.any fun x => decide (cmpT x.key k = 0)) with hA | hA
      · simp only at hc; rw [hA] at hc
        simp [F.ticket_Read_body, F.ticket_Read_b, F.ticket_Read_res, F.ticket_Read_keep, h1, hv, hq, hc, readS, hp, hA, encQ, encT_eq ky]
      · simp only at hc; rw [hA] at hc
        simp [F.ticket_Read_body, F.ticket_Read_b, F.ticket_Read_res, F.ticket_Read_keep, h1, hv, hq, hc, readS, hp, hA, encQ, encT_eq ky]

-- the reference's
theorem Rhas_loop (s : Srv) (k : Tm) (bs : List (List AV)) (hl : s.keys.length < 4611686018427387904) (hx : ∀ x ∈ s.keys, x.key.mass < big) (hk : k.mass < big) :
    ∀ (post pre : List Ep) (ρ : Nat → AV), s.keys = pre ++ post → ρ 2 = .bx (encS s) → ρ 3 = .bx (encT k) → ρ 5 = .int .i64 pre.length →
    R F.tb (.loop F.sealringref54_has_l0) ρ bs (blockK 0 (seqK F.tb F.sealringref54_has_r0 (finK F.sealringref54_has bs.length))) =
      some (.bool (post.any fun x => decide (cmpT x.key k = 0)), bs) := by
  intro post
  induction post with
  | nil =>
    intro pre ρ hkk h2 h3 h5
    rw [R_loop' F.sealringref54_has_l0.eq_1]
    simp at hkk
    simp [h2, h3, h5, encS, ← hkk, F.sealringref54_has_r0, F.sealringref54_has_res, F.sealringref54_has_keep]
  | cons x post IH =>
    intro pre ρ hkk h2 h3 h5
    obtain ⟨hgx, hw, hlt, hmem⟩ := at_pre hkk hl
    have hc := call_RSame x.key k bs (hx x hmem) hk
    rw [R_loop' F.sealringref54_has_l0.eq_1]
    by_cases c : cmpT x.key k = 0
    · simp [h2, h3, h5, encS, hgx, encE, hw, hlt, hc, c, F.sealringref54_has_res, F.sealringref54_has_keep]
    · simp [h2, h3, h5, encS, hgx, encE, hw, hlt, hc, c]
      rw [IH (pre ++ [x])] <;> simp [h2, h3, hkk, encS]

theorem call_Rhas (s : Srv) (k : Tm) (bs : List (List AV)) (hl : s.keys.length < 4611686018427387904) (hx : ∀ x ∈ s.keys, x.key.mass < big) (hk : k.mass < big) :
    call F.tb 135 [.agg (encS s), .agg (encT k)] bs = some (.bool (s.keys.any fun x => decide (cmpT x.key k = 0)), bs) := by
  have h := Rhas_loop s k bs hl hx hk s.keys []
  rw [call_code F.tb_135 _ _ rfl]
  unfold encS at *
  simp [F.sealringref54_has_body, F.sealringref54_has_b]
  rw [h] <;> simp

theorem call_RRead (s : Srv) (t : Tm) (bs : List (List AV)) (hn : s.name.length < 1000000) (hul : s.used.length < 4611686018427387904) (hkl : s.keys.length < 4611686018427387904) (hm : ∀ k ∈ s.keys, k.key.mass < big) (ht : t.mass < 1000000) :
    call F.tb 125 [.agg (encS s), .agg (encT t)] bs = some (.tup [.agg (encQ (readS s t).1), .int .i64 (readS s t).2], bs) := by
  have h1 := call_RValidS s bs hn hul hm hkl
  have hmb : t.mass < big := by unfold big; omega
  have hv2 := call_R9Valid t bs hmb
  have hi : call F.tb 132 [.agg (encT t), .str [101, 110, 99]] bs = some (.bool (isB t ENC), bs) := call_RIs t ENC bs
  have hh := fun k hk => call_Rhas s k bs hkl hm hk
  rw [call_code F.tb_125 _ _ rfl]
  unfold encS at *
  cases hv : validS s
  · simp [F.sealringref54_Read_body, F.sealringref54_Read_b, F.sealringref54_Read_res, F.sealringref54_Read_keep, h1, hv, readS, encQ]
  · by_cases c1 : ¬ thV t = 0
    · have hp : partsQ t = none := by unfold partsQ; rw [if_neg (fun h => c1 h.1)]
      simp [F.sealringref54_Read_body, F.sealringref54_Read_b, F.sealringref54_Read_res, F.sealringref54_Read_keep, h1, hv, hv2, c1, hp, readS, encQ]
    · replace c1 := Decidable.not_not.1 c1
      cases c2 : isB t ENC
      · have hp : partsQ t = none := by unfold partsQ; rw [if_neg (fun h => by rw [c2] at h; cases h.2)]
        rw [c2] at hi
        simp [F.sealringref54_Read_body, F.sealringref54_Read_b, F.sealringref54_Read_res, F.sealringref54_Read_keep, h1, hv, hv2, hi, c1, hp, readS, encQ]
      · rw [c2] at hi
        obtain ⟨b, k, hk⟩ := enc_kids c1 c2
        have hmb2 : b.mass < 1000000 := by have := mass_eq t; rw [hk] at this; simp [massL] at this; omega
        have hmk : k.mass < big := mass_kid hmb (by rw [hk]; simp)
        have hu := call_RUntuple bs b.nodes b (Nat.le_refl _) (by unfold big; omega)
        have heb : errT b = 0 := errT_kids (t := t) (by
          have hvt : validT t = 0 := by unfold thV at c1; split at c1 <;> simp_all
          unfold validT at hvt; split at hvt <;> simp_all) (by rw [hk]; simp)
        have hh' := hh k hmk
        rcases list4 (untL b) with ⟨a, ky, x, y, hl⟩ | hl
        · have hx : x.mass < 1000000 := by have := untL_mass b.nodes b (Nat.le_refl _) x (by rw [hl]; simp); omega
          have hy : y.mass < 1000000 := by have := untL_mass b.nodes b (Nat.le_refl _) y (by rw [hl]; simp); omega
          have rx := call_Rnumber54 x bs (by have := mass_eq x; omega) (fun h => errT_atom (untL_err b.nodes b (Nat.le_refl _) heb x (by rw [hl]; simp)) h)
          have ry := call_Rnumber54 y bs (by have := mass_eq y; omega) (fun h => errT_atom (untL_err b.nodes b (Nat.le_refl _) heb y (by rw [hl]; simp)) h)
          rw [hl] at hu
          have hp : partsQ t = if (a.kind = 2 ∧ a.sort = 1 ∧ ky.kind = 2 ∧ ky.sort = 3) ∧ numB x = true ∧ numB y = true then some ((a.name, ky, (numV x : Int), (numV y : Int)), k) else none := by
            unfold partsQ; rw [if_pos ⟨c1, c2⟩, hk]; simp only [hl]
          by_cases d1 : a.kind = 2 ∧ a.sort = 1 ∧ ky.kind = 2 ∧ ky.sort = 3
          · have hpx : ∀ n : Nat, ¬ (n : Int) < 0 := fun n => by omega
            cases hbx : numB x
            · rw [hbx] at rx hp
              simp at rx hp
              obtain ⟨d1, d2, d3, d4⟩ := d1
              simp [F.sealringref54_Read_body, F.sealringref54_Read_b, F.sealringref54_Read_res, F.sealringref54_Read_keep, h1, hv, hv2, hi, c1, hk, encTs, hu, d1, d2, d3, d4, rx, hp, readS, encQ]
            · cases hby : numB y
              · rw [hbx] at rx
                rw [hby] at ry hp
                simp at rx ry hp
                obtain ⟨d1, d2, d3, d4⟩ := d1
                simp [F.sealringref54_Read_body, F.sealringref54_Read_b, F.sealringref54_Read_res, F.sealringref54_Read_keep, h1, hv, hv2, hi, c1, hk, encTs, hu, d1, d2, d3, d4, rx, ry, hpx, hp, readS, encQ]
              · rw [hbx] at rx
                rw [hby] at ry
                simp at rx ry
                rw [if_pos ⟨d1, hbx, hby⟩] at hp
                obtain ⟨d1, d2, d3, d4⟩ := d1
                rcases Bool.eq_false_or_eq_true (s.keys.any fun x => decide (cmpT x.key k = 0)) with hA | hA <;> rw [hA] at hh' <;>
                simp [F.sealringref54_Read_body, F.sealringref54_Read_b, F.sealringref54_Read_res, F.sealringref54_Read_keep, h1, hv, hv2, hi, c1, hk, encTs, hu, d1, d2, d3, d4, rx, ry, hpx, hp, hA, hh', readS, encQ, encT_eq ky]
          · have hp : partsQ t = none := by rw [hp, if_neg (fun h => d1 h.1)]
            by_cases d1' : a.kind = 2 <;> by_cases d2 : a.sort = 1 <;> by_cases d3 : ky.kind = 2 <;> by_cases d4 : ky.sort = 3 <;>
              first
              | (simp [F.sealringref54_Read_body, F.sealringref54_Read_b, F.sealringref54_Read_res, F.sealringref54_Read_keep, h1, hv, hv2, hi, c1, hk, encTs, hu, d1', d2, d3, d4, hp, readS, encQ]; done)
              | exact absurd ⟨d1', d2, d3, d4⟩ d1
        · have hl' : ¬ ((untL b).length : Int) = 4 := by omega
          have hp := partsQ_ne4 hk hl
          simp [F.sealringref54_Read_body, F.sealringref54_Read_b, F.sealringref54_Read_res, F.sealringref54_Read_keep, h1, hv, hv2, hi, c1, hk, encTs, hu, hl', hp, readS, encQ]
end Go.Am
