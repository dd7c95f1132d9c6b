/-
  The pure land, part 11: copies of terms; symbols of the theory.
-/
import Derived.Test.YtdabongfphoilaaGreatDoorPureD
set_option linter.unusedVariables false
set_option linter.unusedSimpArgs false

namespace Go.Am
set_option maxRecDepth 8000

theorem clone_loop (t : Tm) (bs : List (List AV)) (hm : t.mass < big) (ih : ∀ x ∈ t.kids, ∀ bs, call F.tb 48 [.agg (encT x)] bs = some (.agg (encT x), bs)) :
    ∀ (post pre : List Tm) (ρ : Nat → AV), t.kids = pre ++ post → ρ 1 = .bx [.int .i64 t.kind, .str t.name, .int .i64 t.sort, .sl true 4 (encTs pre)] → ρ 2 = .bx [.int .i64 0, .str [], .int .i64 0, .sl true 4 []] →
      ρ 9 = .sl false 4 (encTs t.kids) → ρ 10 = .int .i64 t.kids.length → ρ 11 = .int .i64 pre.length →
    R F.tb (.loop F.term_clone_l0) ρ bs (blockK 0 (seqK F.tb F.term_clone_r0 (finK F.term_clone bs.length))) = some (.agg (encT t), bs) := by
  have hm2 := mass_eq t
  unfold big at hm
  intro post
  induction post with
  | nil =>
    intro pre ρ hk h1 h2 h9 h10 h11
    rw [R_loop' F.term_clone_l0.eq_1]
    simp at hk
    rw [← hk] at h1 h11
    simp [h1, h2, h9, h10, h11, F.term_clone_r0, F.term_clone_res, F.term_clone_keep, encT_fold, Tm.eta]
  | cons x post IH =>
    intro pre ρ hk h1 h2 h9 h10 h11
    have hg := get_pre hk
    have hl : t.kids.length = pre.length + (post.length + 1) := by rw [hk]; simp
    have hw1 : IntKind.i64.wrap ((pre.length : Int) + 1) = (pre.length : Int) + 1 := wrap64 (by omega) (by omega)
    have hlt : (pre.length : Int) < (t.kids.length : Int) := by omega
    have ha : (pre.length + 1) * 56 ≤ 140737488355328 := by omega
    rw [R_loop' F.term_clone_l0.eq_1]
    simp [h1, h2, h9, h10, h11, hg, hw1, hlt, ha, ih x (by rw [hk]; simp), encTs_one, encTs_append]
    rw [IH (pre ++ [x])] <;> simp [h2, h9, h10, hk]

theorem call_clone : ∀ (t : Tm) (bs : List (List AV)), t.mass < big → call F.tb 48 [.agg (encT t)] bs = some (.agg (encT t), bs) := by
  refine tm_ind ?_
  intro k n s ks ih bs hm
  rw [call_code F.tb_48 _ _ rfl]
  simp [F.term_clone_body, F.term_clone_b, encT]
  refine clone_loop (.mk k n s ks) bs hm (fun x hx bs => ih x hx bs ?_) ks [] _ ?_ ?_ ?_ ?_ ?_ ?_ <;> (try simp [encTs])
  have := massL_mem hx; have := mass_eq (.mk k n s ks); simp at *; omega

theorem call_At0 (t : Tm) (bs : List (List AV)) (hm : t.mass < big) (o : Bool) : call F.tb 47 [.agg (encT t), .sl o 1 []] bs = some (.tup [.agg (encT t), .int .i64 0], bs) := by
  rw [call_code F.tb_47 _ _ rfl]
  simp [F.term_At_body, F.term_At_b, F.term_At_res, F.term_At_keep]
  rw [R_loop' F.term_At_l0.eq_1]
  simp [F.term_At_r0, call_clone t bs hm, F.term_At_res, F.term_At_keep]

theorem call_copied (t : Tm) (bs : List (List AV)) (hm : t.mass < big) : call F.tb 46 [.agg (encT t)] bs = some (.agg (encT t), bs) := by
  rw [call_code F.tb_46 _ _ rfl]
  simp [F.theory_copied, F.theory_copied_b, call_At0 t bs hm]

theorem call_app (n : List UInt8) (ks : List Tm) (o : Bool) (bs : List (List AV)) : call F.tb 49 [.str n, .sl o 4 (encTs ks)] bs = some (.agg (encT (.mk 3 n 0 ks)), bs) := by
  rw [call_code F.tb_49 _ _ rfl]
  simp [F.theory_app, F.theory_app_b, encT_fold]

/-- The symbols: name, least, most, kind. -/
structure Sy where
  n : List UInt8
  l : Int
  m : Int
  k : Int
def encY (s : Sy) : List AV := [.str s.n, .int .i64 s.l, .int .i64 s.m, .int .i64 s.k]
def symL : List Sy := [⟨[112, 97, 105, 114], 2, 2, 1⟩, ⟨[101, 110, 99], 2, 2, 1⟩, ⟨[97, 101, 110, 99], 2, 2, 1⟩, ⟨[112, 107], 1, 1, 1⟩, ⟨[115, 105, 103, 110], 2, 2, 1⟩, ⟨[104, 97, 115, 104], 1, 1, 1⟩,
  ⟨[120, 111, 114], 2, 8, 1⟩, ⟨[122, 101, 114, 111], 0, 0, 1⟩, ⟨[101, 120, 112], 2, 2, 1⟩, ⟨[109, 117, 108], 2, 8, 1⟩, ⟨[105, 110, 118], 1, 1, 1⟩, ⟨[111, 110, 101], 0, 0, 1⟩,
  ⟨[115, 107], 1, 1, 2⟩, ⟨[115, 104, 107], 2, 2, 2⟩, ⟨[110, 101, 119], 1, 8, 2⟩, ⟨[102, 115, 116], 1, 1, 3⟩, ⟨[115, 110, 100], 1, 1, 3⟩, ⟨[100, 101, 99], 2, 2, 3⟩, ⟨[97, 100, 101, 99], 2, 2, 3⟩, ⟨[111, 112, 101, 110], 2, 2, 3⟩, ⟨[114, 101, 97, 100], 1, 1, 3⟩]

def encYs (ys : List Sy) : List (List AV) := ys.map encY
@[simp] theorem gpfreeE_encYs (ys : List Sy) : gpfreeE (encYs ys) = true := by
  induction ys with
  | nil => rfl
  | cons y ys ih => simpa [encYs, encY, gpfreeE, gpfreeL, AV.gpfree] using ih
@[simp] theorem encYs_len (ys : List Sy) : (encYs ys).length = ys.length := by simp [encYs]

theorem call_add (k l m : Int) (n : List UInt8) (ys : List Sy) (bs : List (List AV)) (hx : ys.length < 1000) : 
    call F.tb 45 [.int .i64 k, .str n, .int .i64 l, .int .i64 m, .gp bs.length 0] (bs ++ [[.sl true 4 (encYs ys)]]) = some (.tup [], bs ++ [[.sl true 4 (encYs (ys ++ [⟨n, l, m, k⟩]))]]) := by
  rw [call_code F.tb_45 _ _ rfl]
  have ha : (ys.length + 1) * 40 ≤ 140737488355328 := by omega
  have h1 : encYs (ys ++ [⟨n, l, m, k⟩]) = encYs ys ++ [[.str n, .int .i64 l, .int .i64 m, .int .i64 k]] := by simp [encYs, encY]
  have h2 : gpfreeE (encYs ys ++ [[.str n, .int .i64 l, .int .i64 m, .int .i64 k]]) = true := by rw [← h1]; exact gpfreeE_encYs _
  simp [F.theory_Symbols_c1, F.theory_Symbols_c1_b, ha, h1, h2, List.take_of_length_le]

theorem call_add0 (k l m : Int) (n : List UInt8) (bs : List (List AV)) : 
    call F.tb 45 [.int .i64 k, .str n, .int .i64 l, .int .i64 m, .gp bs.length 0] (bs ++ [[.sl true 4 []]]) = some (.tup [], bs ++ [[.sl true 4 (encYs [⟨n, l, m, k⟩])]]) := call_add k l m n [] bs (by simp)

theorem call_Symbols (bs : List (List AV)) : call F.tb 44 [] bs = some (.sl false 4 (encYs symL), bs) := by
  rw [call_code F.tb_44 _ _ rfl]
  simp only [F.theory_Symbols, F.theory_Symbols_b]
  simp [call_add0, call_add, symL]

def findSy (n : List UInt8) : List Sy → Option Sy
  | [] => none
  | s :: ss => if s.n = n then some s else findSy n ss

theorem encYs_get {l : List Sy} {pre post : List Sy} {s : Sy} (h : l = pre ++ s :: post) : (encYs l)[pre.length]? = some (encY s) := by
  subst h; simp [encYs]

theorem symbol_loop (n : List UInt8) (l : List Sy) (bs : List (List AV)) (hn : l.length < 1000) :
    ∀ (post pre : List Sy) (ρ : Nat → AV), l = pre ++ post → ρ 0 = .str n → ρ 2 = .bx [.str [], .int .i64 0, .int .i64 0, .int .i64 0] →
      ρ 5 = .sl false 4 (encYs l) → ρ 6 = .int .i64 l.length → ρ 7 = .int .i64 pre.length →
    R F.tb (.loop F.theory_symbol_l0) ρ bs (blockK 0 (seqK F.tb F.theory_symbol_r0 (finK F.theory_symbol bs.length))) =
      some (.agg (match findSy n post with | some s => encY s | none => [.str [], .int .i64 0, .int .i64 0, .int .i64 0]), bs) := by
  intro post
  induction post with
  | nil =>
    intro pre ρ hk h0 h2 h5 h6 h7
    rw [R_loop' F.theory_symbol_l0.eq_1]
    simp at hk
    rw [← hk] at h7
    simp [h0, h2, h5, h6, h7, F.theory_symbol_r0, F.theory_symbol_res, F.theory_symbol_keep, findSy]
  | cons x post IH =>
    intro pre ρ hk h0 h2 h5 h6 h7
    have hg := encYs_get hk
    have hl : l.length = pre.length + (post.length + 1) := by rw [hk]; simp
    have hw1 : IntKind.i64.wrap ((pre.length : Int) + 1) = (pre.length : Int) + 1 := wrap64 (by omega) (by omega)
    have hlt : (pre.length : Int) < (l.length : Int) := by omega
    rw [R_loop' F.theory_symbol_l0.eq_1]
    by_cases hx : x.n = n
    · simp [h0, h2, h5, h6, h7, hg, hw1, hlt, encY, hx, findSy, F.theory_symbol_res, F.theory_symbol_keep]
    · have hxb : (x.n == n) = false := by simp [hx]
      simp [h0, h2, h5, h6, h7, hg, hw1, hlt, encY, hx, hxb, findSy]
      rw [IH (pre ++ [x])] <;> simp [h0, h2, h5, h6, hk, encY]

theorem call_symbol (n : List UInt8) (bs : List (List AV)) : call F.tb 43 [.str n] bs = some (.agg (match findSy n symL with | some s => encY s | none => [.str [], .int .i64 0, .int .i64 0, .int .i64 0]), bs) := by
  rw [call_code F.tb_43 _ _ rfl]
  simp [F.theory_symbol_body, F.theory_symbol_b, call_Symbols]
  refine symbol_loop n symL bs (by simp [symL]) symL [] _ rfl ?_ ?_ ?_ ?_ ?_ <;> simp
end Go.Am

namespace Go.Am
set_option maxRecDepth 8000

/-- No agent's name or variable. -/
def notAg (k : Tm) : Bool := k.kind == 3 || k.sort != 1

mutual
def chkT : Tm → Int
  | .mk k n _ ks => if k ≠ 3 then 0 else match findSy n symL with
    | none => 10
    | some y => if (ks.length : Int) < y.l ∨ y.m < ks.length then 6 else if (n = [115, 107] ∨ n = [115, 104, 107]) ∧ ks.any notAg then 10
      else if n = [110, 101, 119] ∧ ks.head?.map Tm.kind ≠ some 2 then 10 else chkL ks
def chkL : List Tm → Int
  | [] => 0
  | t :: ts => if chkT t ≠ 0 then chkT t else chkL ts
end

theorem check_l1 (t : Tm) (bs : List (List AV)) (hm : t.mass < big) (ih : ∀ x ∈ t.kids, ∀ bs, call F.tb 42 [.agg (encT x)] bs = some (.int .i64 (chkT x), bs)) :
    ∀ (post pre : List Tm) (ρ : Nat → AV), t.kids = pre ++ post → ρ 62 = .sl false 4 (encTs t.kids) → ρ 63 = .int .i64 t.kids.length → ρ 64 = .int .i64 pre.length →
    R F.tb (.loop F.theory_check_l1) ρ bs (blockK 3 (seqK F.tb F.theory_check_r0 (finK F.theory_check bs.length))) = some (.int .i64 (chkL post), bs) := by
  have hm2 := mass_eq t
  unfold big at hm
  intro post
  induction post with
  | nil =>
    intro pre ρ hk h1 h2 h3
    rw [R_loop' F.theory_check_l1.eq_1]
    simp at hk
    rw [← hk] at h3
    simp [h1, h2, h3, F.theory_check_r0, F.theory_check_res, F.theory_check_keep, chkL]
  | cons x post IH =>
    intro pre ρ hk h1 h2 h3
    have hg := get_pre hk
    have hl : t.kids.length = pre.length + (post.length + 1) := by rw [hk]; simp
    have hw1 : IntKind.i64.wrap ((pre.length : Int) + 1) = (pre.length : Int) + 1 := wrap64 (by omega) (by omega)
    have hlt : (pre.length : Int) < (t.kids.length : Int) := by omega
    rw [R_loop' F.theory_check_l1.eq_1]
    by_cases hc : chkT x = 0
    · simp [h1, h2, h3, hg, hw1, hlt, ih x (by rw [hk]; simp), hc, chkL]
      rw [IH (pre ++ [x])] <;> simp [h1, h2, hk]
    · simp [h1, h2, h3, hg, hw1, hlt, ih x (by rw [hk]; simp), hc, chkL, F.theory_check_res, F.theory_check_keep]

theorem check_r1 (t : Tm) (bs : List (List AV)) (hm : t.mass < big) (ih : ∀ x ∈ t.kids, ∀ bs, call F.tb 42 [.agg (encT x)] bs = some (.int .i64 (chkT x), bs)) (ρ : Nat → AV) (h1 : ρ 1 = .bx (encT t)) :
    R F.tb F.theory_check_r1 ρ bs (finK F.theory_check bs.length) = some (.int .i64 (chkL t.kids), bs) := by
  simp [F.theory_check_r1, h1, encT_eq]
  refine check_l1 t bs hm ih t.kids [] _ rfl ?_ ?_ ?_ <;> simp

theorem check_l0 (t : Tm) (bs : List (List AV)) (hm : t.mass < big) (ih : ∀ x ∈ t.kids, ∀ bs, call F.tb 42 [.agg (encT x)] bs = some (.int .i64 (chkT x), bs)) :
    ∀ (post pre : List Tm) (ρ : Nat → AV), t.kids = pre ++ post → ρ 1 = .bx (encT t) → ρ 38 = .sl false 4 (encTs t.kids) → ρ 39 = .int .i64 t.kids.length → ρ 40 = .int .i64 pre.length →
    R F.tb (.loop F.theory_check_l0) ρ bs (blockK 1 (blockK 0 (seqK F.tb F.theory_check_r1 (finK F.theory_check bs.length)))) = some (.int .i64 (if post.any notAg then 10 else chkL t.kids), bs) := by
  have hm2 := mass_eq t
  have hm0 := hm
  unfold big at hm
  intro post
  induction post with
  | nil =>
    intro pre ρ hk h0 h1 h2 h3
    rw [R_loop' F.theory_check_l0.eq_1]
    simp at hk
    rw [← hk] at h3
    simp [h0, h1, h2, h3]
    rw [check_r1 t bs hm0 ih] <;> simp [h0]
  | cons x post IH =>
    intro pre ρ hk h0 h1 h2 h3
    have hg := get_pre hk
    have hl : t.kids.length = pre.length + (post.length + 1) := by rw [hk]; simp
    have hw1 : IntKind.i64.wrap ((pre.length : Int) + 1) = (pre.length : Int) + 1 := wrap64 (by omega) (by omega)
    have hlt : (pre.length : Int) < (t.kids.length : Int) := by omega
    rw [R_loop' F.theory_check_l0.eq_1]
    by_cases h3' : x.kind = 3
    · simp [h0, h1, h2, h3, hg, hw1, hlt, encT_eq, h3', notAg, F.theory_check_res, F.theory_check_keep]
    · by_cases h4 : x.sort = 1
      · have hb : notAg x = false := by simp [notAg, h3', h4]
        have hb3 : (x.kind == 3) = false := by simp [h3']
        simp [h0, h1, h2, h3, hg, hw1, hlt, encT_eq x, h3', h4, hb, hb3]
        rw [IH (pre ++ [x])] <;> simp [h0, h1, h2, hk, hb]
      · have hb : notAg x = true := by simp [notAg, h4]
        have hb3 : (x.kind == 3) = false := by simp [h3']
        have hb4 : (x.sort != 1) = true := by simp [h4]
        simp [h0, h1, h2, h3, hg, hw1, hlt, encT_eq x, h3', h4, hb, hb3, hb4, F.theory_check_res, F.theory_check_keep]

theorem findSy_mem {n : List UInt8} {y : Sy} : ∀ {l : List Sy}, findSy n l = some y → y ∈ l ∧ y.n = n
  | [], h => by simp [findSy] at h
  | s :: ss, h => by
    simp only [findSy] at h
    split at h
    · rename_i e; injection h with h; subst h; exact ⟨by simp, e⟩
    · have := findSy_mem h; exact ⟨List.mem_cons_of_mem _ this.1, this.2⟩
theorem symL_k {y : Sy} (h : y ∈ symL) : y.k ≠ 0 ∧ (y.n = [110, 101, 119] → y.l = 1) := by
  have : symL.all (fun y => y.k ≠ 0 ∧ (y.n = [110, 101, 119] → y.l = 1)) = true := by decide
  have := List.all_eq_true.1 this y h
  simpa only [decide_eq_true_eq] using this

theorem call_thcheck : ∀ (t : Tm) (bs : List (List AV)), t.mass < big → call F.tb 42 [.agg (encT t)] bs = some (.int .i64 (chkT t), bs) := by
  refine tm_ind ?_
  intro k n s ks ih bs hm
  have hmk := mass_eq (.mk k n s ks)
  have ih' : ∀ x ∈ (Tm.mk k n s ks).kids, ∀ bs, call F.tb 42 [.agg (encT x)] bs = some (.int .i64 (chkT x), bs) := fun x hx bs => ih x hx bs (by
    have := massL_mem hx; simp at *; omega)
  have r1 := fun ρ h => check_r1 (.mk k n s ks) bs hm ih' ρ h
  have l0 := fun ρ h0 h1 h2 h3 => check_l0 (.mk k n s ks) bs hm ih' ks [] ρ rfl h0 h1 h2 h3
  simp only [encT, mk_kids, List.length_nil] at r1 l0
  rw [call_code F.tb_42 _ _ rfl]
  by_cases hk : k = 3
  · subst hk
    cases hy : findSy n symL with
    | none => simp [F.theory_check_body, F.theory_check_b, encT, call_symbol, hy, F.theory_check_res, F.theory_check_keep, chkT]
    | some y =>
      obtain ⟨hy1, hy2⟩ := findSy_mem hy
      obtain ⟨hy3, hy4⟩ := symL_k hy1
      by_cases ha : (ks.length : Int) < y.l
      · simp [F.theory_check_body, F.theory_check_b, encT, call_symbol, hy, hy3, ha, encY, F.theory_check_res, F.theory_check_keep, chkT]
      · by_cases hb : y.m < (ks.length : Int)
        · simp [F.theory_check_body, F.theory_check_b, encT, call_symbol, hy, hy3, ha, hb, encY, F.theory_check_res, F.theory_check_keep, chkT]
        · by_cases h1 : n = [115, 107]
          · subst h1
            simp [F.theory_check_body, F.theory_check_b, encT, call_symbol, hy, hy3, ha, hb, encY, chkT]
            rw [l0] <;> simp
          · by_cases h2 : n = [115, 104, 107]
            · subst h2
              simp [F.theory_check_body, F.theory_check_b, encT, call_symbol, hy, hy3, ha, hb, encY, chkT]
              rw [l0] <;> simp
            · have b1 : (n == [115, 107]) = false := by simp [h1]
              have b2 : (n == [115, 104, 107]) = false := by simp [h2]
              by_cases h3 : n = [110, 101, 119]
              · subst h3
                have hl := hy4 hy2
                cases ks with
                | nil => simp at ha; omega
                | cons x xs =>
                  have ha' : ¬ ((xs.length : Int) + 1 < y.l) := by simpa using ha
                  have hb' : ¬ (y.m < (xs.length : Int) + 1) := by simpa using hb
                  by_cases hx : x.kind = 2
                  · simp [F.theory_check_body, F.theory_check_b, encT, encTs, encT_eq x, call_symbol, hy, hy3, ha', hb', encY, chkT, hx] at *
                    refine (r1 _ ?_).trans ?_ <;> simp [encTs, encT_eq x]
                  · simp [F.theory_check_body, F.theory_check_b, encT, encTs, encT_eq x, call_symbol, hy, hy3, ha', hb', encY, chkT, hx, F.theory_check_res, F.theory_check_keep]
              · have b3 : (n == [110, 101, 119]) = false := by simp [h3]
                simp [F.theory_check_body, F.theory_check_b, encT, call_symbol, hy, hy3, ha, hb, encY, chkT, h1, h2, h3, b1, b2, b3]
                rw [r1] <;> simp
  · simp [F.theory_check_body, F.theory_check_b, encT, hk, F.theory_check_res, F.theory_check_keep, chkT]

def thV (t : Tm) : Int := if validT t ≠ 0 then validT t else chkT t

theorem call_thValid (t : Tm) (bs : List (List AV)) (hm : t.mass < big) : call F.tb 41 [.agg (encT t)] bs = some (.int .i64 (thV t), bs) := by
  rw [call_code F.tb_41 _ _ rfl]
  have h1 := call_Valid t bs hm
  have h2 := call_thcheck t bs hm
  rw [encT_eq] at *
  by_cases h : validT t = 0
  · simp [F.theory_Valid_body, F.theory_Valid_b, h1, h2, h, thV, F.theory_Valid_res, F.theory_Valid_keep]
  · simp [F.theory_Valid_body, F.theory_Valid_b, h1, h, thV, F.theory_Valid_res, F.theory_Valid_keep]
end Go.Am

namespace Go.Am
set_option maxRecDepth 8000

def PAIR : List UInt8 := [112, 97, 105, 114]
def ENC : List UInt8 := [101, 110, 99]
def pairT (a b : Tm) : Tm := .mk 3 PAIR 0 [a, b]
def zeroT : Tm := .mk 0 [] 0 []
def tupR (t : Tm) : Tm × Int := if thV t ≠ 0 then (zeroT, thV t) else (t, 0)

theorem Tuple_l1 (l : List Tm) (o : Bool) (bs : List (List AV)) (hl : l.length ≤ 400) (hm : ∀ x ∈ l, x.mass < big) :
    ∀ (n : Nat) (pre post : List Tm) (t : Tm) (ρ : Nat → AV), pre.length = n → l = pre ++ post → (pre.foldr pairT t).mass < big → ρ 0 = .sl o 4 (encTs l) → ρ 2 = .bx [.int .i64 0, .str [], .int .i64 0, .sl true 4 []] → ρ 7 = .bx (encT t) → ρ 8 = .int .i64 ((pre.length : Int) - 1) →
    R F.tb (.loop F.theory_Tuple_l1) ρ bs (blockK 2 (seqK F.tb F.theory_Tuple_r1 (finK F.theory_Tuple bs.length))) =
      some (.tup [.agg (encT (tupR (pre.foldr pairT t)).1), .int .i64 (tupR (pre.foldr pairT t)).2], bs) := by
  intro n
  induction n with
  | zero =>
    intro pre post t ρ hn hk htm h0 h2 h7 h8
    have : pre = [] := List.eq_nil_of_length_eq_zero hn
    subst this
    simp only [List.foldr_nil] at *
    have hv := call_thValid t bs htm
    rw [R_loop' F.theory_Tuple_l1.eq_1]
    rw [encT_eq] at *
    by_cases h : thV t = 0
    · simp [h0, h2, h7, h8, F.theory_Tuple_r1, hv, h, tupR, F.theory_Tuple_res, F.theory_Tuple_keep, encT_eq]
    · simp [h0, h2, h7, h8, F.theory_Tuple_r1, hv, h, tupR, F.theory_Tuple_res, F.theory_Tuple_keep, zeroT, encT_eq, encTs]
  | succ n IH =>
    intro pre post t ρ hn hk htm h0 h2 h7 h8
    obtain ⟨p, x, rfl⟩ : ∃ p x, pre = p ++ [x] := by
      rcases List.eq_nil_or_concat pre with h | ⟨p, x, h⟩
      · rw [h] at hn; simp at hn
      · exact ⟨p, x, by simpa using h⟩
    have hx : x ∈ l := by rw [hk]; simp
    have hg : (encTs l)[p.length]? = some (encT x) := by rw [hk, encTs_map]; simp
    have hpl : p.length < l.length := by rw [hk]; simp
    have hw1 : IntKind.i64.wrap ((p.length : Int) - 1) = (p.length : Int) - 1 := wrap64 (by omega) (by omega)
    have hc := call_copied x bs (hm x hx)
    have ha := fun o => call_app PAIR [x, t] o bs
    have h8' : ρ 8 = .int .i64 (p.length : Int) := by rw [h8]; simp
    rw [R_loop' F.theory_Tuple_l1.eq_1]
    simp [PAIR, encTs, encT_fold] at ha hc
    rw [encT_eq t] at *
    simp [h0, h2, h7, h8', hg, hw1, hc, ha]
    have e0 : (p ++ [x]).foldr pairT t = p.foldr pairT (pairT x t) := by simp
    have hn' : p.length = n := by simpa using hn
    rw [e0] at htm
    refine (IH p (x :: post) (pairT x t) _ hn' (by rw [hk]; simp) htm ?_ ?_ ?_ ?_) <;> simp [h0, h2, pairT, PAIR]

theorem call_Tuple (l : List Tm) (last : Tm) (o : Bool) (bs : List (List AV)) (hl : l.length < 400) (hm : ∀ x ∈ l, x.mass < big) (hla : last.mass < big) (htm : (l.foldr pairT last).mass < big) :
    call F.tb 40 [.sl o 4 (encTs (l ++ [last]))] bs = some (.tup [.agg (encT (tupR (l.foldr pairT last)).1), .int .i64 (tupR (l.foldr pairT last)).2], bs) := by
  rw [call_code F.tb_40 _ _ rfl]
  have hc := call_copied last bs hla
  have hg : (encTs (l ++ [last]))[l.length]? = some (encT last) := by rw [encTs_map]; simp
  have h1 := fun ρ => Tuple_l1 (l ++ [last]) false bs (by simp; omega) (by simp only [List.mem_append, List.mem_singleton]; rintro x (h | rfl); exact hm x h; exact hla) l.length l [last] last ρ rfl rfl htm
  have hw1 : IntKind.i64.wrap ((l.length : Int) + 1 - 1) = (l.length : Int) := by rw [Int.add_sub_cancel]; exact wrap64 (by omega) (by omega)
  have hw2 : IntKind.i64.wrap ((l.length : Int) + 1 - 2) = (l.length : Int) - 1 := by rw [wrap64 (by omega) (by omega)]; omega
  have hw0 : IntKind.i64.wrap (l.length : Int) = (l.length : Int) := wrap64 (by omega) (by omega)
  have hgt : ¬ (400 < (l.length : Int) + 1) := by omega
  have hne : ¬ ((l.length : Int) + 1 = 0) := by omega
  simp [-getElem?_pos, F.theory_Tuple_body, F.theory_Tuple_b, encTs_length, hw0, hw1, hw2, hg, hc, hgt, hne, F.theory_Tuple_r2]
  refine h1 _ ?_ ?_ ?_ ?_ <;> simp
end Go.Am

namespace Go.Am
set_option maxRecDepth 8000

theorem call_cl51 (o : Bool) (ks : List Ep) (bs : List (List AV)) (h : ks.length * 72 ≤ 140737488355328) : call F.tb 51 [.sl o 6 (ks.map encE)] bs = some (.sl true 6 (ks.map encE), bs) := by
  rw [call_orc F.tb_51]
  simp [cloneO, cloneR, h]
theorem call_cl52 (o : Bool) (us : List Us) (bs : List (List AV)) (h : us.length * 16 ≤ 140737488355328) : call F.tb 52 [.sl o 2 (us.map encU)] bs = some (.sl true 2 (us.map encU), bs) := by
  rw [call_orc F.tb_52]
  simp [cloneO, cloneR, h]

@[simp] theorem encE_gp (ks : List Ep) : gpfreeE (ks.map encE) = true := by
  induction ks with
  | nil => rfl
  | cons k ks ih => simp [gpfreeE, encE, gpfreeL, AV.gpfree, encT_gp, ih]
@[simp] theorem encU_gp (us : List Us) : gpfreeE (us.map encU) = true := by
  induction us with
  | nil => rfl
  | cons k ks ih => simp [gpfreeE, encU, gpfreeL, AV.gpfree, ih]

/-- A server that has room for its copies. -/
structure Srv.cl (s : Srv) : Prop where
  k : s.keys.length * 72 ≤ 140737488355328
  u : s.used.length * 16 ≤ 140737488355328

theorem call_own (s : Srv) (bs : List (List AV)) (h : s.cl) : call F.tb 114 [.agg (encS s)] bs = some (.agg (encS s), bs) := by
  rw [call_code F.tb_114 _ _ rfl]
  have h1 := fun o => call_cl51 o s.keys bs h.k
  have h2 := fun o => call_cl52 o s.used bs h.u
  simp [F.sealringlaw54_own, F.sealringlaw54_own_b, encS, h1, h2]

theorem call_tcopied (s : Srv) (now : Int) (bs : List (List AV)) (h : s.cl) : call F.tb 50 [.agg (encS s), .int .i64 now] bs = some (.agg (encS { s with now := now }), bs) := by
  rw [call_code F.tb_50 _ _ rfl]
  have h1 := fun o => call_cl51 o s.keys bs h.k
  have h2 := fun o => call_cl52 o s.used bs h.u
  simp [F.ticket_copied, F.ticket_copied_b, encS, h1, h2]

def lateB (s : Srv) (now : Int) : Bool := decide (s.now ≤ now) && decide (now ≤ 100000)
theorem call_early (s : Srv) (now : Int) (bs : List (List AV)) : call F.tb 37 [.agg (encS s), .int .i64 now] bs = some (.bool (!lateB s now), bs) := by
  rw [call_code F.tb_37 _ _ rfl]
  have h1 := call_in now s.now 100000 bs
  simp [F.ticket_early, F.ticket_early_b, encS, h1, lateB]

def callS (s : Srv) (now : Int) : Int := if validS s = false then 1 else if lateB s now = false then 7 else 0

theorem call_tcall (s : Srv) (now : Int) (bs : List (List AV)) (hn : s.name.length < 1000000) (hul : s.used.length < 4611686018427387904) (hm : ∀ k ∈ s.keys, k.key.mass < big) :
    call F.tb 26 [.agg (encS s), .int .i64 now] bs = some (.int .i64 (callS s now), bs) := by
  rw [call_code F.tb_26 _ _ rfl]
  have h1 := call_SValid s bs hn hul hm
  have h2 := call_early s now bs
  unfold encS at *
  cases hv : validS s
  · simp [F.ticket_call, F.ticket_call_b, h1, hv, callS]
  · cases hl : lateB s now <;> simp [F.ticket_call, F.ticket_call_b, h1, h2, hv, hl, callS]

theorem call_Rcalled (s : Srv) (now : Int) (bs : List (List AV)) (hn : s.name.length < 1000000) (hul : s.used.length < 4611686018427387904) (hm : ∀ k ∈ s.keys, k.key.mass < big) (hkl : s.keys.length < 4611686018427387904) :
    call F.tb 116 [.agg (encS s), .int .i64 now] bs = some (.int .i64 (callS s now), bs) := by
  rw [call_code F.tb_116 _ _ rfl]
  have h1 := call_RValidS s bs hn hul hm hkl
  unfold encS at *
  cases hv : validS s
  · simp [F.sealringref54_called, F.sealringref54_called_b, h1, hv, callS]
  · by_cases ha : now < s.now
    · have hl : lateB s now = false := by simp [lateB]; omega
      simp [F.sealringref54_called, F.sealringref54_called_b, h1, hv, callS, ha, hl]
    · by_cases hb : 100000 < now
      · have hl : lateB s now = false := by simp [lateB]; omega
        simp [F.sealringref54_called, F.sealringref54_called_b, h1, hv, callS, ha, hb, hl]
      · have hl : lateB s now = true := by simp [lateB]; omega
        simp [F.sealringref54_called, F.sealringref54_called_b, h1, hv, callS, ha, hb, hl]
end Go.Am

namespace Go.Am
set_option maxRecDepth 8000

theorem digit_part {n : Nat} (h : n < 10) : partB (48 + n).toUInt8 = true := by
  have : ∀ n : Fin 10, partB (48 + n.val).toUInt8 = true := by decide
  exact this ⟨n, h⟩
theorem decN_part : ∀ n : Nat, (decN n).all partB = true := by
  intro n
  induction n using Nat.strongRecOn with
  | ind n ih =>
    by_cases h : n < 10
    · rw [decN_small h]; simp only [List.all_cons, List.all_nil, Bool.and_true]; exact digit_part h
    · rw [decN_large h, List.all_append, ih _ (by omega)]
      simp only [List.all_cons, List.all_nil, Bool.and_true, Bool.true_and]
      exact digit_part (by omega)
theorem decN_len10 : ∀ (k n : Nat), n < 10 ^ (k + 1) → (decN n).length ≤ k + 1
  | 0, n, h => by rw [decN_small (by simpa using h)]; simp
  | k + 1, n, h => by
    by_cases h0 : n < 10
    · rw [decN_small h0]; simp
    · rw [decN_large h0, List.length_append]
      have := decN_len10 k (n / 10) (by rw [Nat.pow_succ] at h; omega)
      simp; omega

theorem isNameB_app {a b : List UInt8} (ha : isNameB a = true) (hb : b.all partB = true) (hl : a.length + b.length ≤ 24) : isNameB (a ++ b) = true := by
  cases a with
  | nil => simp [isNameB] at ha
  | cons c r =>
    rw [List.cons_append, isNameB_ref]
    rw [isNameB_ref] at ha
    simp only [Bool.and_eq_true, decide_eq_true_eq, List.all_cons] at ha
    simp only [List.length_cons] at hl
    simp only [List.length_append, ha.1.2, List.all_cons, List.all_append, ha.2.1, ha.2.2, hb, Bool.and_true, decide_eq_true_eq]
    omega

theorem name_num {n : Nat} (h : n < 1000000) : isNameB ([110, 35] ++ decN n) = true :=
  isNameB_app (by decide) (decN_part n) (by have := decN_len10 5 n h; simp; omega)
theorem name_tick {s : List UInt8} {n : Nat} (hs : nameB s = true) (h : n < 1000000) : isNameB (s ++ [95] ++ decN n) = true := by
  simp only [nameB, Bool.and_eq_true, decide_eq_true_eq] at hs
  rw [List.append_assoc]
  exact isNameB_app hs.1.1.1 (by rw [List.all_append, decN_part]; decide) (by have := decN_len10 5 n h; have := hs.1.1.2; simp; omega)

def bodyT (ag : List UInt8) (key : Tm) (n ex : Int) : Tm := pairT (.mk 2 ag 1 []) (pairT key (pairT (numT n) (numT ex)))
def writT (ag : List UInt8) (key : Tm) (n ex : Int) (k : Tm) : Tm := .mk 3 ENC 0 [bodyT ag key n ex, k]

theorem thV_body {ag s : List UInt8} {n ex : Nat} (ha : isNameB ag = true) (hs : nameB s = true) (hn : n < 1000000) (he : ex < 1000000) : thV (bodyT ag (tickT s n) n ex) = 0 := by
  have h1 := name_num hn
  have h2 := name_num he
  have h3 := name_tick hs hn
  have h4 : findSy [112, 97, 105, 114] symL = some ⟨[112, 97, 105, 114], 2, 2, 1⟩ := by simp [findSy, symL]
  have h5 : isNameB [112, 97, 105, 114] = true := by decide
  simp at h1 h2 h3
  simp [thV, validT, bodyT, pairT, PAIR, tickT, numT, dec_nat, errT, errL, nodeE, Tm.nodes, nodesL, Tm.depth, depthL, chkT, chkL, h1, h2, h3, h4, h5, ha]

theorem mass_decN {n : Nat} (h : n < 1000000) : (decN n).length ≤ 6 := decN_len10 5 n h

theorem mass_body {ag s : List UInt8} {n ex : Nat} (ha : ag.length ≤ 1000) (hs : s.length ≤ 1000000) (hn : n < 1000000) (he : ex < 1000000) : (bodyT ag (tickT s n) n ex).mass < 2000000 := by
  have h1 := mass_decN hn
  have h2 := mass_decN he
  simp [bodyT, pairT, PAIR, tickT, numT, dec_nat, Tm.mass, massL]
  omega

theorem call_RApp (n : List UInt8) (ks : List Tm) (o : Bool) (bs : List (List AV)) (hl : ks.length ≤ 1000) : call F.tb 120 [.str n, .sl o 4 (encTs ks)] bs = some (.agg (encT (.mk 3 n 0 ks)), bs) := by
  rw [call_code F.tb_120 _ _ rfl]
  have ha : ks.length * 56 ≤ 140737488355328 := by omega
  simp [F.sealringref01_App, F.sealringref01_App_b, encT_fold, encTs_length, ha, encTs_gp]
end Go.Am

namespace Go.Am
set_option maxRecDepth 8000

def lastK (s : Srv) : Tm := (s.keys.getLast?.map Ep.key).getD zeroT
def issueS (s : Srv) (ag : List UInt8) (now : Int) : Srv × Tm × Tm × Int :=
  if callS s now ≠ 0 then (zeroS, zeroT, zeroT, callS s now) else if isNameB ag = false then (zeroS, zeroT, zeroT, 2) else if s.next = 10000 then (zeroS, zeroT, zeroT, 3)
  else ({ s with now := now, next := s.next + 1 }, writT ag (tickT s.name s.next) s.next (now + s.window) (lastK s), tickT s.name s.next, 0)

structure Srv.ok (s : Srv) : Prop where
  name : nameB s.name = true
  w : 1 ≤ s.window ∧ s.window ≤ 1000
  ep : 0 ≤ s.epoch ∧ s.epoch ≤ 10000
  nx : 0 ≤ s.next ∧ s.next ≤ 10000
  nw : 0 ≤ s.now ∧ s.now ≤ 100000
  ks : keysP s = true
  us : usLP s.next none s.used = true
  ul : s.used.length ≤ 200

theorem validS_ok {s : Srv} (h : validS s = true) : s.ok := by
  simp only [validS, Bool.and_eq_true, decide_eq_true_eq] at h
  obtain ⟨⟨⟨⟨⟨⟨h1, h2⟩, h3⟩, h4⟩, h5⟩, h6⟩, h7, h8⟩ := h
  exact ⟨h1, h2, h3, h4, h5, h6, h7, h8⟩

theorem Srv.ok.last {s : Srv} (h : s.ok) : ∃ i k, s.keys = i ++ [k] ∧ i.length < 8 := by
  have := h.ks
  simp only [keysP, Bool.and_eq_true, decide_eq_true_eq] at this
  rcases List.eq_nil_or_concat s.keys with e | ⟨i, k, e⟩
  · rw [e] at this; simp at this
  · refine ⟨i, k, by simpa using e, ?_⟩
    rw [e] at this; simp at this; omega

theorem callS0 {s : Srv} {now : Int} (h : callS s now = 0) : s.ok ∧ s.now ≤ now ∧ now ≤ 100000 := by
  unfold callS at h
  split at h
  · simp at h
  · split at h
    · simp at h
    · rename_i h1 h2
      simp [lateB] at h1 h2
      exact ⟨validS_ok h1, h2⟩

theorem call_Issue (s : Srv) (ag : List UInt8) (now : Int) (bs : List (List AV)) (hn : s.name.length < 1000000) (hcl : s.cl) (hm : ∀ k ∈ s.keys, k.key.mass < big) (hag : ag.length ≤ 1000) :
    call F.tb 25 [.agg (encS s), .str ag, .int .i64 now] bs = some (.tup [.agg (encS (issueS s ag now).1), .agg (encT (issueS s ag now).2.1), .agg (encT (issueS s ag now).2.2.1), .int .i64 (issueS s ag now).2.2.2], bs) := by
  have hul : s.used.length < 4611686018427387904 := by have := hcl.u; omega
  rw [call_code F.tb_25 _ _ rfl]
  have h1 := call_tcall s now bs hn hul hm
  have h2 := call_tisName ag bs (by omega)
  by_cases hc : callS s now = 0
  · obtain ⟨hok, hnow⟩ := callS0 hc
    cases hag2 : isNameB ag
    · unfold encS at *
      simp [F.ticket_Issue_body, F.ticket_Issue_b, h1, h2, hc, hag2, issueS, F.ticket_Issue_res, F.ticket_Issue_keep, zeroS, zeroT, encT, encTs]
    · by_cases hnx : s.next = 10000
      · simp [issueS, hc, hag2, hnx]
        unfold encS at *
        simp only [hnx] at h1 ⊢
        simp [F.ticket_Issue_body, F.ticket_Issue_b, h1, h2, hc, hag2, hnx, issueS, F.ticket_Issue_res, F.ticket_Issue_keep, zeroS, zeroT, encT, encTs]
      · obtain ⟨n, hn1⟩ : ∃ n : Nat, s.next = n := ⟨s.next.toNat, by have := hok.nx; omega⟩
        obtain ⟨ex, he1⟩ : ∃ e : Nat, now + s.window = e := ⟨(now + s.window).toNat, by have := hok.nw; have := hok.w; omega⟩
        obtain ⟨i, k, hk, hi⟩ := hok.last
        have hnb := hok.nx
        have hwb := hok.w
        have hexb : ex < 1000000 := by have := hok.nw; have := hok.w; omega
        have he2 := he1
        have hwn : IntKind.i64.wrap ((n : Int) + 1) = (n : Int) + 1 := wrap64 (by omega) (by omega)
        have hwi : IntKind.i64.wrap (i.length : Int) = (i.length : Int) := wrap64 (by omega) (by omega)
        have hlk : lastK s = k.key := by simp [lastK, hk]
        have t1 := call_ticketKey s.name n bs hn (by omega)
        have t2 := call_tnumber n bs (by omega)
        have t3 := call_tnumber ex bs (by omega)
        have t4 := call_Tuple [.mk 2 ag 1 [], tickT s.name n, numT n] (numT ex) false bs (by simp) (by
          have := mass_decN (n := n) (by omega)
          simp [Tm.mass, massL, numT, tickT, dec_nat, big]; omega) (by
          have := mass_decN (n := ex) (by omega)
          simp [Tm.mass, massL, numT, dec_nat, big]; omega) (by
          have := mass_body (ag := ag) (s := s.name) (n := n) (ex := ex) hag (by omega) (by omega) (by omega)
          simpa [bodyT, big] using Nat.lt_trans this (by decide))
        have t5 : tupR ([Tm.mk 2 ag 1 [], tickT s.name n, numT n].foldr pairT (numT ex)) = (bodyT ag (tickT s.name n) n ex, 0) := by
          have := thV_body (ag := ag) (s := s.name) (n := n) (ex := ex) hag2 hok.name (by omega) (by omega)
          simp [tupR]
          simp [bodyT] at this ⊢
          simp [this]
        have t6 := call_tcopied s now bs hcl
        have t7 := call_atom ag 1 bs
        rw [t5] at t4
        simp only [List.cons_append, List.nil_append, encTs, encT] at t4
        have hg : (s.keys.map encE)[i.length]? = some (encE k) := by rw [hk]; simp
        have hkl : s.keys.length = i.length + 1 := by rw [hk]; simp
        simp [issueS, hc, hag2, hnx]
        unfold encS at *
        simp only [hn1] at *
        have hwx : IntKind.i64.wrap (now + s.window) = (ex : Int) := by rw [he2]; exact wrap64 (by omega) (by omega)
        simp only [he1]
        have hLg := encE_gp s.keys
        have hLl : (s.keys.map encE).length = i.length + 1 := by simp [hkl]
        generalize s.keys.map encE = L at *
        have hg2 : ∀ h : i.length < L.length, L[i.length]'h = encE k := fun h => by
          rw [List.getElem?_eq_getElem h] at hg; exact Option.some.inj hg
        simp [F.ticket_Issue_body, F.ticket_Issue_b, h1, h2, hc, hag2, hnx, t1, t2, t3, t4, t6, t7, hg, hg2, hLl, hlk, encE, hwx, hwn, hwi, hLg, F.ticket_Issue_res, F.ticket_Issue_keep]
        simp [writT, ENC, encT, encTs]
  · unfold encS at *
    simp [F.ticket_Issue_body, F.ticket_Issue_b, h1, h2, hc, issueS, F.ticket_Issue_res, F.ticket_Issue_keep, zeroS, zeroT, encT, encTs]

theorem call_Written (ag : List UInt8) (key k : Tm) (n ex : Nat) (bs : List (List AV)) (hn : n < 1000000) (he : ex < 1000000) :
    call F.tb 118 [.agg ([.str ag] ++ encT key ++ [.int .i64 n, .int .i64 ex]), .agg (encT k)] bs = some (.agg (encT (writT ag key n ex k)), bs) := by
  rw [call_code F.tb_118 _ _ rfl]
  have t2 := call_RNumber n bs (by omega)
  have t3 := call_RNumber ex bs (by omega)
  have t4 := call_RAtom ag 1 bs
  have a1 := call_RApp PAIR [numT n, numT ex] false bs (by simp)
  have a2 := call_RApp PAIR [key, pairT (numT n) (numT ex)] false bs (by simp)
  have a3 := call_RApp PAIR [.mk 2 ag 1 [], pairT key (pairT (numT n) (numT ex))] false bs (by simp)
  have a4 := call_RApp ENC [bodyT ag key n ex, k] false bs (by simp)
  simp only [pairT, bodyT, PAIR, ENC, encTs] at a1 a2 a3 a4
  rw [encT_eq key, encT_eq k] at *
  simp [F.sealringref54_Written_body, F.sealringref54_Written_b, t2, t3, t4, a1, a2, a3, a4, F.sealringref54_Written_res, F.sealringref54_Written_keep, writT, bodyT, pairT, PAIR, ENC]

theorem call_RIssue (s : Srv) (ag : List UInt8) (now : Int) (bs : List (List AV)) (hn : s.name.length < 1000000) (hcl : s.cl) (hm : ∀ k ∈ s.keys, k.key.mass < big) (hag : ag.length ≤ 1000) :
    call F.tb 115 [.agg (encS s), .str ag, .int .i64 now] bs = some (.tup [.agg (encS (issueS s ag now).1), .agg (encT (issueS s ag now).2.1), .agg (encT (issueS s ag now).2.2.1), .int .i64 (issueS s ag now).2.2.2], bs) := by
  have hul : s.used.length < 4611686018427387904 := by have := hcl.u; omega
  have hkl0 : s.keys.length < 4611686018427387904 := by have := hcl.k; omega
  rw [call_code F.tb_115 _ _ rfl]
  have h1 := call_Rcalled s now bs hn hul hm hkl0
  have h2 := call_RIsName ag bs (by omega)
  by_cases hc : callS s now = 0
  · obtain ⟨hok, hnow⟩ := callS0 hc
    cases hag2 : isNameB ag
    · unfold encS at *
      simp [F.sealringref54_Issue_body, F.sealringref54_Issue_b, h1, h2, hc, hag2, issueS, F.sealringref54_Issue_res, F.sealringref54_Issue_keep, zeroS, zeroT, encT, encTs]
    · by_cases hnx : s.next = 10000
      · simp [issueS, hc, hag2, hnx]
        unfold encS at *
        simp only [hnx] at h1 ⊢
        simp [F.sealringref54_Issue_body, F.sealringref54_Issue_b, h1, h2, hc, hag2, hnx, issueS, F.sealringref54_Issue_res, F.sealringref54_Issue_keep, zeroS, zeroT, encT, encTs]
      · obtain ⟨n, hn1⟩ : ∃ n : Nat, s.next = n := ⟨s.next.toNat, by have := hok.nx; omega⟩
        obtain ⟨ex, he1⟩ : ∃ e : Nat, now + s.window = e := ⟨(now + s.window).toNat, by have := hok.nw; have := hok.w; omega⟩
        obtain ⟨i, k, hk, hi⟩ := hok.last
        have hnb := hok.nx
        have hwb := hok.w
        have hexb : ex < 1000000 := by have := hok.nw; have := hok.w; omega
        have he2 := he1
        have hwn : IntKind.i64.wrap ((n : Int) + 1) = (n : Int) + 1 := wrap64 (by omega) (by omega)
        have hwi : IntKind.i64.wrap (i.length : Int) = (i.length : Int) := wrap64 (by omega) (by omega)
        have hlk : lastK s = k.key := by simp [lastK, hk]
        have t1 := call_RTicketKey s.name n bs hn (by omega)
        have t2 := call_Written ag (tickT s.name n) k.key n ex bs (by omega) hexb
        have hg : (s.keys.map encE)[i.length]? = some (encE k) := by rw [hk]; simp
        have hkl : s.keys.length = i.length + 1 := by rw [hk]; simp
        simp [issueS, hc, hag2, hnx]
        unfold encS at *
        simp only [hn1] at *
        have hwx : IntKind.i64.wrap (now + s.window) = (ex : Int) := by rw [he2]; exact wrap64 (by omega) (by omega)
        simp only [he1]
        have hLg := encE_gp s.keys
        have hLl : (s.keys.map encE).length = i.length + 1 := by simp [hkl]
        generalize s.keys.map encE = L at *
        have hg2 : ∀ h : i.length < L.length, L[i.length]'h = encE k := fun h => by
          rw [List.getElem?_eq_getElem h] at hg; exact Option.some.inj hg
        have e4 := encT_eq (tickT s.name n)
        generalize tickT s.name n = tk at *
        simp only [e4, List.cons_append, List.nil_append] at t1 t2
        simp [e4, F.sealringref54_Issue_body, F.sealringref54_Issue_b, h1, h2, hc, hag2, hnx, t1, t2, hg, hg2, hLl, hlk, encE, hkl, hwx, hwn, hwi, hLg, F.sealringref54_Issue_res, F.sealringref54_Issue_keep]
  · unfold encS at *
    simp [F.sealringref54_Issue_body, F.sealringref54_Issue_b, h1, h2, hc, issueS, F.sealringref54_Issue_res, F.sealringref54_Issue_keep, zeroS, zeroT, encT, encTs]
end Go.Am
