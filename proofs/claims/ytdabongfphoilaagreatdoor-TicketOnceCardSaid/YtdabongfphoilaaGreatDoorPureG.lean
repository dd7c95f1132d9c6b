/-
  The pure land, part 20: IndexFunc and DeleteFunc over a box.
-/
import Derived.Test.YtdabongfphoilaaGreatDoorPureF
set_option linter.unusedVariables false
set_option linter.unusedSimpArgs false

namespace Go.Am
set_option maxRecDepth 8000

theorem call_c94 (k : Ep) (now : Int) (g : Nat) (bs : List (List AV)) (hg : bs[g]? = some [.int .i64 now]) :
    call F.tb 94 [.agg (encE k), .gp g 0] bs = some (.bool (!keepE now k), bs) := by
  have ha : (!keepE now k) = (decide (k.e ≠ 0) && decide (k.e < now)) := by
    simp only [keepE]; rw [Bool.eq_iff_iff]; simp
  rw [call_code F.tb_94 _ _ rfl, ha]
  by_cases h0 : k.e = 0
  · simp [F.ticket_Expire_c1, F.ticket_Expire_c1_b, encE, h0, hg]
  · have b0 : (k.e != 0) = true := by simp [h0]
    simp [F.ticket_Expire_c1, F.ticket_Expire_c1_b, encE, h0, b0, hg]
theorem call_c96 (u : Us) (now : Int) (g : Nat) (bs : List (List AV)) (hg : bs[g]? = some [.int .i64 now]) :
    call F.tb 96 [.agg (encU u), .gp g 0] bs = some (.bool (!keepU now u), bs) := by
  have ha : (!keepU now u) = (decide (u.e < now)) := by
    simp only [keepU]; rw [Bool.eq_iff_iff]; simp
  rw [call_code F.tb_96 _ _ rfl, ha]
  simp [F.ticket_Expire_c2, F.ticket_Expire_c2_b, encU, hg]

theorem rd_flat {ks pre post : List Ep} {x : Ep} (h : ks = pre ++ x :: post) : ((flat ks).drop (pre.length * 6)).take 6 = encE x := by
  subst h
  rw [flat_app, flat_cons, ← flat_len]
  simp [List.take_append, encE_len]
theorem take_flat {ks pre post : List Ep} (h : ks = pre ++ post) : (flat ks).take (pre.length * 6) = flat pre := by
  subst h; rw [flat_app, ← flat_len]; simp
theorem drop_flat {ks pre post : List Ep} (h : ks = pre ++ post) : (flat ks).drop (pre.length * 6) = flat post := by
  subst h; rw [flat_app, ← flat_len]; simp

theorem flat_strip (ks : List Ep) : (flat ks).map AV.strip = flat ks := by
  induction ks with
  | nil => rfl
  | cons k ks ih => rw [flat_cons, List.map_append, ih, encE_strip]

def idxI {α : Type} (p : α → Bool) (i : Nat) : List α → Int
  | [] => -1
  | x :: xs => if p x then i else idxI p (i + 1) xs

theorem Index_loop (ks : List Ep) (now : Int) (id g : Nat) (bs : List (List AV)) (hid : bs[id]? = some (flat ks)) (hg : bs[g]? = some [.int .i64 now]) (hl : ks.length < 1000000) :
    ∀ (post pre : List Ep) (ρ : Nat → AV), ks = pre ++ post → ρ 0 = .gs id 0 6 ks.length → ρ 1 = .fn 94 [.gp g 0] → ρ 7 = .int .i64 ks.length → ρ 8 = .int .i64 pre.length →
    R F.tb (.loop F.slices_IndexFunc_api_Epoch_api_Epoch_a0_l0) ρ bs (blockK 0 (seqK F.tb F.slices_IndexFunc_api_Epoch_api_Epoch_a0_r0 (finK F.slices_IndexFunc_api_Epoch_api_Epoch_a0 bs.length))) =
      some (.int .i64 (idxI (fun k => !keepE now k) pre.length post), bs) := by
  intro post
  induction post with
  | nil =>
    intro pre ρ hk h0 h1 h7 h8
    rw [R_loop' F.slices_IndexFunc_api_Epoch_api_Epoch_a0_l0.eq_1]
    simp only [List.append_nil] at hk
    rw [← hk] at h8
    simp [h0, h1, h7, h8, F.slices_IndexFunc_api_Epoch_api_Epoch_a0_r0, F.slices_IndexFunc_api_Epoch_api_Epoch_a0_res, F.slices_IndexFunc_api_Epoch_api_Epoch_a0_keep, idxI]
  | cons x post IH =>
    intro pre ρ hk h0 h1 h7 h8
    have hll : ks.length = pre.length + (post.length + 1) := by rw [hk]; simp
    have hw1 : IntKind.i64.wrap ((pre.length : Int) + 1) = (pre.length : Int) + 1 := wrap64 (by omega) (by omega)
    have hlt : (pre.length : Int) < (ks.length : Int) := by omega
    have hrd := rd_flat hk
    have hfl := flat_len ks
    have hle : pre.length * 6 + 6 ≤ ks.length * 6 := by omega
    have hc := call_c94 x now g bs hg
    have hst := flat_strip ks
    generalize flat ks = fl at *
    rw [R_loop' F.slices_IndexFunc_api_Epoch_api_Epoch_a0_l0.eq_1]
    cases hx : keepE now x
    · simp [h0, h1, h7, h8, hw1, hlt, hid, hrd, hfl, hle, hc, hx, hst, idxI, F.slices_IndexFunc_api_Epoch_api_Epoch_a0_res, F.slices_IndexFunc_api_Epoch_api_Epoch_a0_keep]
    · simp [h0, h1, h7, h8, hw1, hlt, hid, hrd, hfl, hle, hc, hx, hst, idxI]
      rw [IH (pre ++ [x])] <;> simp [h0, h1, h7, hk]
end Go.Am

namespace Go.Am
set_option maxRecDepth 8000

theorem chunks_take {c : List AV} {sz n : Nat} : chunks c 0 sz n = chunks ((c.map AV.strip).take (n * sz)) 0 sz n := by
  unfold chunks
  refine List.map_congr_left fun j hj => ?_
  have hj : j < n := List.mem_range.1 hj
  have h1 : j * sz + sz ≤ n * sz := by
    have := Nat.mul_le_mul_right sz (Nat.succ_le_of_lt hj)
    rw [Nat.succ_mul] at this; exact this
  simp only [Nat.zero_add]
  rw [List.drop_take, List.take_take, Nat.min_eq_left (by omega), ← List.map_drop, ← List.map_take, List.map_map]
  exact List.map_congr_left fun x _ => (strip_strip x).symm
theorem chunks_keep {c : List AV} {K : List Ep} (h : (c.map AV.strip).take (K.length * 6) = flat K) : chunks c 0 6 K.length = K.map encE := by
  rw [chunks_take, h, chunks_flat0]

theorem Del_r0 (n : Nat) (K : List Ep) (id : Nat) (B : List (List AV)) (c : List AV) (hB : id < B.length) (hc : c.length = n * 6) (hK : K.length ≤ n) (hn : n < 1000000) (ht : (c.map AV.strip).take (K.length * 6) = flat K)
    (ρ : Nat → AV) (h0 : ρ 0 = .gs id 0 6 n) (h5 : ρ 5 = .int .i64 K.length) :
    ∃ o c', R F.tb F.slices_DeleteFunc_api_Epoch_api_Epoch_a0_r0 ρ (B.set id c) (finK F.slices_DeleteFunc_api_Epoch_api_Epoch_a0 B.length) = some (.sl o 6 (K.map encE), B.set id c') := by
  have hk1 : (K.length : Int) ≤ (n : Int) := by omega
  by_cases hz : n - K.length = 0
  · by_cases hk0 : K.length = 0
    · have : K = [] := List.eq_nil_of_length_eq_zero hk0
      subst this
      refine ⟨false, c, ?_⟩
      simp at hz
      subst hz
      simp [F.slices_DeleteFunc_api_Epoch_api_Epoch_a0_r0, h0, h5, bound, frzAt, List.take_of_length_le, F.slices_DeleteFunc_api_Epoch_api_Epoch_a0_res, F.slices_DeleteFunc_api_Epoch_api_Epoch_a0_keep]
    · have hch := chunks_keep ht
      refine ⟨true, [], ?_⟩
      have hk2 : K ≠ [] := fun e => hk0 (by rw [e]; rfl)
      have hle : K.length * 6 ≤ n * 6 := by omega
      simp [F.slices_DeleteFunc_api_Epoch_api_Epoch_a0_r0, h0, h5, bound, hz, hk0, hK, hk2, hle, frzAt, List.take_of_length_le, hB, hc, hch, F.slices_DeleteFunc_api_Epoch_api_Epoch_a0_res, F.slices_DeleteFunc_api_Epoch_api_Epoch_a0_keep]
  · have hle : K.length * 6 + (n - K.length) * 6 ≤ n * 6 := by omega
    by_cases hk0 : K.length = 0
    · have : K = [] := List.eq_nil_of_length_eq_zero hk0
      subst this
      refine ⟨false, put c 0 (List.replicate (n * 6) .undef), ?_⟩
      simp at hz hle
      simp [F.slices_DeleteFunc_api_Epoch_api_Epoch_a0_r0, h0, h5, bound, hz, hle, hc, hB, frzAt, List.take_of_length_le, F.slices_DeleteFunc_api_Epoch_api_Epoch_a0_res, F.slices_DeleteFunc_api_Epoch_api_Epoch_a0_keep]
    · have hch : chunks (put c (K.length * 6) (List.replicate ((n - K.length) * 6) .undef)) 0 6 K.length = K.map encE := by
        apply chunks_keep
        rw [put, List.append_assoc, List.map_append, List.map_take, List.take_append_of_le_length (by simp; omega), List.take_take, Nat.min_self, ht]
      refine ⟨true, [], ?_⟩
      have hk2 : K ≠ [] := fun e => hk0 (by rw [e]; rfl)
      have hle1 : K.length * 6 ≤ n * 6 := by omega
      have hpl : (put c (K.length * 6) (List.replicate ((n - K.length) * 6) .undef)).length = n * 6 := by
        simp [put, hc]; omega
      generalize hp : put c (K.length * 6) (List.replicate ((n - K.length) * 6) .undef) = pc at *
      simp [put] at hp
      simp [F.slices_DeleteFunc_api_Epoch_api_Epoch_a0_r0, h0, h5, bound, hz, hk0, hK, hk2, hle, hle1, hpl, hp, frzAt, List.take_of_length_le, hB, hc, hch, F.slices_DeleteFunc_api_Epoch_api_Epoch_a0_res, F.slices_DeleteFunc_api_Epoch_api_Epoch_a0_keep]
end Go.Am

namespace Go.Am
set_option maxRecDepth 8000

theorem put_keep {c : List AV} {n kp pl : Nat} {K post : List Ep} {x : Ep} (hc : c.length = n * 6) (hkp : kp = K.length) (hle : kp ≤ pl) (hlt : pl < n)
    (ht : (c.map AV.strip).take (kp * 6) = flat K) (hd : (c.map AV.strip).drop (pl * 6) = flat (x :: post)) :
    (c.take (kp * 6) ++ (encE x ++ c.drop (kp * 6 + 6))).length = n * 6 ∧
    ((c.take (kp * 6) ++ (encE x ++ c.drop (kp * 6 + 6))).map AV.strip).take ((kp + 1) * 6) = flat (K ++ [x]) ∧
    ((c.take (kp * 6) ++ (encE x ++ c.drop (kp * 6 + 6))).map AV.strip).drop ((pl + 1) * 6) = flat post := by
  have h1 : (c.take (kp * 6)).length = kp * 6 := by rw [List.length_take]; omega
  have h2 := encE_len x
  refine ⟨by simp [h1, h2, hc]; omega, ?_, ?_⟩
  · rw [List.map_append, List.map_append, List.map_take, ht, encE_strip, flat_app, show flat [x] = encE x by simp [flat], ← List.append_assoc, List.take_append_of_le_length (by simp [flat_len, h2, hkp]; omega)]
    exact List.take_of_length_le (by simp [flat_len, h2, hkp]; omega)
  · rw [List.map_append, List.map_append, List.drop_append, List.drop_eq_nil_of_le (by simp; omega), List.nil_append, List.drop_append, List.drop_eq_nil_of_le (by simp [h1, h2]; omega), List.nil_append, List.map_drop, List.drop_drop]
    simp only [List.length_map, h1, h2]
    rw [show kp * 6 + 6 + ((pl + 1) * 6 - kp * 6 - 6) = pl * 6 + 6 by omega, ← List.drop_drop, hd, flat_cons]
    simp [h2]

def DelOk (K : List Ep) (B : List (List AV)) (id : Nat) (r : Option (AV × List (List AV))) : Prop := ∃ o c', r = some (.sl o 6 (K.map encE), B.set id c')

theorem Del_loop (ks : List Ep) (now : Int) (id g : Nat) (B : List (List AV)) (hB : id < B.length) (hgi : g ≠ id) (hg : B[g]? = some [.int .i64 now]) (hl : ks.length < 1000000) :
    ∀ (post pre : List Ep) (c : List AV) (ρ : Nat → AV), ks = pre ++ post → c.length = ks.length * 6 → (c.map AV.strip).take ((pre.filter (keepE now)).length * 6) = flat (pre.filter (keepE now)) →
      (c.map AV.strip).drop (pre.length * 6) = flat post → ρ 0 = .gs id 0 6 ks.length → ρ 1 = .fn 94 [.gp g 0] → ρ 5 = .int .i64 (pre.filter (keepE now)).length → ρ 6 = .int .i64 pre.length →
    DelOk (ks.filter (keepE now)) B id (R F.tb (.loop F.slices_DeleteFunc_api_Epoch_api_Epoch_a0_l0) ρ (B.set id c) (blockK 0 (seqK F.tb F.slices_DeleteFunc_api_Epoch_api_Epoch_a0_r0 (finK F.slices_DeleteFunc_api_Epoch_api_Epoch_a0 B.length)))) := by
  intro post
  induction post with
  | nil =>
    intro pre c ρ hk hc ht hd h0 h1 h5 h6
    simp only [List.append_nil] at hk
    subst hk
    have h := fun ρ => Del_r0 ks.length (ks.filter (keepE now)) id B c hB hc (List.length_filter_le _ _) hl ht ρ
    rw [R_loop' F.slices_DeleteFunc_api_Epoch_api_Epoch_a0_l0.eq_1]
    simp [h0, h1, h5, h6]
    exact h _ (by simp [h0]) (by simp [h5])
  | cons x post IH =>
    intro pre c ρ hk hc ht hd h0 h1 h5 h6
    have hll : ks.length = pre.length + (post.length + 1) := by rw [hk]; simp
    have hfl := List.length_filter_le (keepE now) pre
    have hw1 : IntKind.i64.wrap ((pre.length : Int) + 1) = (pre.length : Int) + 1 := wrap64 (by omega) (by omega)
    have hw2 : IntKind.i64.wrap (((pre.filter (keepE now)).length : Int) + 1) = ((pre.filter (keepE now)).length : Int) + 1 := wrap64 (by omega) (by omega)
    have hlt : (pre.length : Int) < (ks.length : Int) := by omega
    have hlt2 : ((pre.filter (keepE now)).length : Int) < (ks.length : Int) := by omega
    have hrd : List.take 6 (List.drop (pre.length * 6) (c.map AV.strip)) = encE x := by rw [hd, flat_cons]; simp [List.take_append, encE_len]
    have hle : pre.length * 6 + 6 ≤ ks.length * 6 := by omega
    have hle2 : (pre.filter (keepE now)).length * 6 + 6 ≤ ks.length * 6 := by omega
    have hg2 : (B.set id c)[g]? = some [.int .i64 now] := by rw [List.getElem?_set_ne (Ne.symm hgi)]; exact hg
    have hcc := call_c94 x now g (B.set id c) hg2
    have hes := encE_strip x
    have htk : List.take 6 (encE x) = encE x := List.take_of_length_le (by rw [encE_len]; omega)
    have hel := encE_len x
    have heg : gpfreeL (encE x) = true := by have := flat_gp [x]; simpa [flat] using this
    have e : ks = (pre ++ [x]) ++ post := by rw [hk]; simp
    rw [R_loop' F.slices_DeleteFunc_api_Epoch_api_Epoch_a0_l0.eq_1]
    cases hx : keepE now x
    · have hf : (pre ++ [x]).filter (keepE now) = pre.filter (keepE now) := by simp [List.filter_cons, hx]
      have hd2 : (c.map AV.strip).drop ((pre ++ [x]).length * 6) = flat post := by
        rw [show (pre ++ [x]).length * 6 = pre.length * 6 + 6 by simp; omega, ← List.drop_drop, hd, flat_cons]
        simp [encE_len]
      have hr := fun ρ => IH (pre ++ [x]) c ρ e hc (by rw [hf]; exact ht) hd2
      rw [hf] at hr
      simp [h0, h1, h5, h6, hB, hw1, hlt, hrd, hc, hle, hcc, hx, htk, hel, hes]
      exact hr _ (by simp [h0]) (by simp [h1]) (by simp [h5]) (by simp)
    · obtain ⟨q1, q2, q3⟩ := put_keep hc rfl hfl (by omega) ht hd
      have hf : (pre ++ [x]).filter (keepE now) = pre.filter (keepE now) ++ [x] := by simp [List.filter_cons, hx]
      have hr := fun ρ => IH (pre ++ [x]) _ ρ e q1 (by rw [hf, List.length_append]; exact q2) (by rw [List.length_append]; exact q3)
      rw [hf] at hr
      simp [h0, h1, h5, h6, hB, hw1, hw2, hlt, hlt2, hrd, hc, hle, hle2, hcc, hx, htk, hel, hes, heg]
      exact hr _ (by simp [h0]) (by simp [h1]) (by simp) (by simp)

theorem idxI_none {α : Type} (p : α → Bool) : ∀ (l : List α) (i : Nat), idxI p i l = -1 → l.any p = false
  | [], _, _ => rfl
  | x :: xs, i, h => by
    simp only [idxI] at h
    cases hx : p x
    · rw [hx] at h; simp only [List.any_cons, hx, Bool.false_or]; exact idxI_none p xs (i + 1) (by simpa using h)
    · rw [hx] at h; simp at h
theorem idxI_some {α : Type} (p : α → Bool) : ∀ (l : List α) (i : Nat), idxI p i l ≠ -1 → ∃ pre post, l = pre ++ post ∧ pre.any p = false ∧ idxI p i l = (i + pre.length : Nat) ∧ ∃ x post', post = x :: post' ∧ p x = true
  | [], _, h => by simp [idxI] at h
  | x :: xs, i, h => by
    cases hx : p x
    · simp only [idxI, hx] at h ⊢
      obtain ⟨pre, post, h1, h2, h3, y, q, h4⟩ := idxI_some p xs (i + 1) (by simpa using h)
      exact ⟨x :: pre, post, by rw [h1]; rfl, by simp [hx, h2], by simp [h3]; omega, y, q, h4⟩
    · exact ⟨[], x :: xs, rfl, rfl, by simp [idxI, hx], x, xs, rfl, hx⟩

theorem call_Index (ks : List Ep) (now : Int) (id g : Nat) (bs : List (List AV)) (hid : bs[id]? = some (flat ks)) (hg : bs[g]? = some [.int .i64 now]) (hl : ks.length < 1000000) :
    call F.tb 143 [.gs id 0 6 ks.length, .fn 94 [.gp g 0]] bs = some (.int .i64 (idxI (fun k => !keepE now k) 0 ks), bs) := by
  rw [call_code F.tb_143 _ _ rfl]
  simp [F.slices_IndexFunc_api_Epoch_api_Epoch_a0_body, F.slices_IndexFunc_api_Epoch_api_Epoch_a0_b]
  have := fun ρ => Index_loop ks now id g bs hid hg hl ks [] ρ rfl
  simp only [List.length_nil] at this
  rw [this] <;> simp

theorem call_Delete (ks : List Ep) (now : Int) (id g : Nat) (B : List (List AV)) (hid : B[id]? = some (flat ks)) (hgi : g ≠ id) (hg : B[g]? = some [.int .i64 now]) (hl : ks.length < 1000000) :
    ∃ o c', call F.tb 142 [.gs id 0 6 ks.length, .fn 94 [.gp g 0]] B = some (.sl o 6 ((ks.filter (keepE now)).map encE), B.set id c') := by
  have hB : id < B.length := by
    rcases Nat.lt_or_ge id B.length with h | h
    · exact h
    · rw [List.getElem?_eq_none h] at hid; cases hid
  have hset : ∀ c, B[id]? = some c → B.set id c = B := fun c h => List.ext_getElem? fun j => by
    rw [List.getElem?_set]; split
    · rename_i e; subst e; exact h.symm
    · rfl
  have hi := call_Index ks now id g B hid hg hl
  show DelOk (ks.filter (keepE now)) B id _
  rw [call_code F.tb_142 _ _ rfl]
  by_cases hx : idxI (fun k => !keepE now k) 0 ks = -1
  · have ha := idxI_none _ ks 0 hx
    have hfil : ks.filter (keepE now) = ks := List.filter_eq_self.2 fun k hk => by
      have := List.any_eq_false.1 ha k hk; simpa using this
    have hfl := flat_len ks
    have hch := chunks_flat0 ks
    cases ks with
    | nil =>
      refine ⟨false, flat [], ?_⟩
      rw [hset _ hid]
      simp only [List.length_nil] at hi
      rw [hx] at hi
      simp [F.slices_DeleteFunc_api_Epoch_api_Epoch_a0_body, F.slices_DeleteFunc_api_Epoch_api_Epoch_a0_b, hi, hx, frzAt, F.slices_DeleteFunc_api_Epoch_api_Epoch_a0_res, F.slices_DeleteFunc_api_Epoch_api_Epoch_a0_keep]
    | cons k ks =>
      refine ⟨true, [], ?_⟩
      rw [hfil]
      have heg : gpfreeL (encE k) = true := by have := flat_gp [k]; simpa [flat] using this
      simp only [List.length_cons] at *
      rw [hx] at hi
      simp [F.slices_DeleteFunc_api_Epoch_api_Epoch_a0_body, F.slices_DeleteFunc_api_Epoch_api_Epoch_a0_b, hi, hx, frzAt, hid, hfl, hch, heg, List.take_of_length_le, F.slices_DeleteFunc_api_Epoch_api_Epoch_a0_res, F.slices_DeleteFunc_api_Epoch_api_Epoch_a0_keep]
  · obtain ⟨pre, post, h1, h2, h3, x, post', h4, h5⟩ := idxI_some _ ks 0 hx
    have hw1 : IntKind.i64.wrap ((pre.length : Int) + 1) = (pre.length : Int) + 1 := wrap64 (by omega) (by have : ks.length = pre.length + post.length := by rw [h1]; simp
                                                                                                           omega)
    have hfp : pre.filter (keepE now) = pre := List.filter_eq_self.2 fun k hk => by
      have := List.any_eq_false.1 h2 k hk; simpa using this
    have hfx : (pre ++ [x]).filter (keepE now) = pre := by rw [List.filter_append, hfp]; simp at h5; simp [List.filter_cons, h5]
    have hr := fun ρ => Del_loop ks now id g B hB hgi hg hl post' (pre ++ [x]) (flat ks) ρ (by rw [h1, h4]; simp) (flat_len ks) (by rw [hfx, flat_strip]; exact take_flat h1) (by rw [flat_strip]; exact drop_flat (by rw [h1, h4]; simp))
    rw [hfx, hset _ hid] at hr
    have h3' : idxI (fun k => !keepE now k) 0 ks = (pre.length : Int) := by rw [h3]; simp
    rw [h3'] at hi
    have hne : ¬ ((pre.length : Int) = -1) := by omega
    simp [F.slices_DeleteFunc_api_Epoch_api_Epoch_a0_body, F.slices_DeleteFunc_api_Epoch_api_Epoch_a0_b, hi, hne, hw1]
    exact hr _ (by simp) (by simp) (by simp) (by simp)
end Go.Am

namespace Go.Am
set_option maxRecDepth 8000

/-- The cells of a list of epochs. -/
def flatU (ks : List Us) : List AV := ks.flatMap encU
theorem encU_strip (k : Us) : (encU k).map AV.strip = encU k := by simp [encU, encT_strip]
theorem encU_len (k : Us) : (encU k).length = 2 := by simp [encU, encT_length]
theorem flat_eqU (ks : List Us) : (ks.map encU).flatten.map AV.strip = flatU ks := by
  induction ks with
  | nil => rfl
  | cons k ks ih => simp only [List.map_cons, List.flatten_cons, List.map_append, ih, encU_strip, flatU, List.flatMap_cons]
theorem flat_lenU (ks : List Us) : (flatU ks).length = ks.length * 2 := by
  induction ks with
  | nil => rfl
  | cons k ks ih => simp only [flatU, List.flatMap_cons, List.length_append, encU_len] at *; rw [ih]; simp; omega
theorem flat_appU (a b : List Us) : flatU (a ++ b) = flatU a ++ flatU b := by simp [flatU]
theorem flat_consU (a : Us) (b : List Us) : flatU (a :: b) = encU a ++ flatU b := by simp [flatU]
theorem flat_gpU (ks : List Us) : gpfreeL (flatU ks) = true := by
  induction ks with
  | nil => rfl
  | cons k ks ih => simp [flat_consU, encU, gpfreeL, AV.gpfree, ih, gpfreeL_append, encT_gp]
theorem chunks_flatU (ks : List Us) : ∀ (pre : List AV) (n : Nat), pre.length = n → chunks (pre ++ flatU ks) n 2 ks.length = ks.map encU := by
  induction ks with
  | nil => intro pre n h; rfl
  | cons k ks ih =>
    intro pre n h
    have h1 := ih (pre ++ encU k) (n + 2) (by simp [encU_len, h])
    unfold chunks at *
    rw [List.length_cons, List.range_succ_eq_map, List.map_cons, List.map_map, List.map_cons, ← h1]
    refine List.cons_eq_cons.2 ⟨?_, List.map_congr_left fun j _ => ?_⟩
    · rw [flat_consU]
      simp [← h, encU_strip, List.take_append, encU_len]
    · simp only [Function.comp_apply, flat_consU, List.append_assoc]
      rw [show n + 2 + j * 2 = n + (j + 1) * 2 by omega]
theorem chunks_flat0U (ks : List Us) : chunks (flatU ks) 0 2 ks.length = ks.map encU := chunks_flatU ks [] 0 rfl
theorem rd_flatU {ks pre post : List Us} {x : Us} (h : ks = pre ++ x :: post) : ((flatU ks).drop (pre.length * 2)).take 2 = encU x := by
  subst h
  rw [flat_appU, flat_consU, ← flat_lenU]
  simp [List.take_append, encU_len]
theorem take_flatU {ks pre post : List Us} (h : ks = pre ++ post) : (flatU ks).take (pre.length * 2) = flatU pre := by
  subst h; rw [flat_appU, ← flat_lenU]; simp
theorem drop_flatU {ks pre post : List Us} (h : ks = pre ++ post) : (flatU ks).drop (pre.length * 2) = flatU post := by
  subst h; rw [flat_appU, ← flat_lenU]; simp

theorem flat_stripU (ks : List Us) : (flatU ks).map AV.strip = flatU ks := by
  induction ks with
  | nil => rfl
  | cons k ks ih => rw [flat_consU, List.map_append, ih, encU_strip]

theorem Index_loopU (ks : List Us) (now : Int) (id g : Nat) (bs : List (List AV)) (hid : bs[id]? = some (flatU ks)) (hg : bs[g]? = some [.int .i64 now]) (hl : ks.length < 1000000) :
    ∀ (post pre : List Us) (ρ : Nat → AV), ks = pre ++ post → ρ 0 = .gs id 0 2 ks.length → ρ 1 = .fn 96 [.gp g 0] → ρ 7 = .int .i64 ks.length → ρ 8 = .int .i64 pre.length →
    R F.tb (.loop F.slices_IndexFunc_api_Used_api_Used_a0_l0) ρ bs (blockK 0 (seqK F.tb F.slices_IndexFunc_api_Used_api_Used_a0_r0 (finK F.slices_IndexFunc_api_Used_api_Used_a0 bs.length))) =
      some (.int .i64 (idxI (fun k => !keepU now k) pre.length post), bs) := by
  intro post
  induction post with
  | nil =>
    intro pre ρ hk h0 h1 h7 h8
    rw [R_loop' F.slices_IndexFunc_api_Used_api_Used_a0_l0.eq_1]
    simp only [List.append_nil] at hk
    rw [← hk] at h8
    simp [h0, h1, h7, h8, F.slices_IndexFunc_api_Used_api_Used_a0_r0, F.slices_IndexFunc_api_Used_api_Used_a0_res, F.slices_IndexFunc_api_Used_api_Used_a0_keep, idxI]
  | cons x post IH =>
    intro pre ρ hk h0 h1 h7 h8
    have hll : ks.length = pre.length + (post.length + 1) := by rw [hk]; simp
    have hw1 : IntKind.i64.wrap ((pre.length : Int) + 1) = (pre.length : Int) + 1 := wrap64 (by omega) (by omega)
    have hlt : (pre.length : Int) < (ks.length : Int) := by omega
    have hrd := rd_flatU hk
    have hfl := flat_lenU ks
    have hle : pre.length * 2 + 2 ≤ ks.length * 2 := by omega
    have hc := call_c96 x now g bs hg
    have hst := flat_stripU ks
    generalize flatU ks = fl at *
    rw [R_loop' F.slices_IndexFunc_api_Used_api_Used_a0_l0.eq_1]
    cases hx : keepU now x
    · simp [h0, h1, h7, h8, hw1, hlt, hid, hrd, hfl, hle, hc, hx, hst, idxI, F.slices_IndexFunc_api_Used_api_Used_a0_res, F.slices_IndexFunc_api_Used_api_Used_a0_keep]
    · simp [h0, h1, h7, h8, hw1, hlt, hid, hrd, hfl, hle, hc, hx, hst, idxI]
      rw [IH (pre ++ [x])] <;> simp [h0, h1, h7, hk]
theorem chunks_keepU {c : List AV} {K : List Us} (h : (c.map AV.strip).take (K.length * 2) = flatU K) : chunks c 0 2 K.length = K.map encU := by
  rw [chunks_take, h, chunks_flat0U]

theorem Del_r0U (n : Nat) (K : List Us) (id : Nat) (B : List (List AV)) (c : List AV) (hB : id < B.length) (hc : c.length = n * 2) (hK : K.length ≤ n) (hn : n < 1000000) (ht : (c.map AV.strip).take (K.length * 2) = flatU K)
    (ρ : Nat → AV) (h0 : ρ 0 = .gs id 0 2 n) (h5 : ρ 5 = .int .i64 K.length) :
    ∃ o c', R F.tb F.slices_DeleteFunc_api_Used_api_Used_a0_r0 ρ (B.set id c) (finK F.slices_DeleteFunc_api_Used_api_Used_a0 B.length) = some (.sl o 2 (K.map encU), B.set id c') := by
  have hk1 : (K.length : Int) ≤ (n : Int) := by omega
  by_cases hz : n - K.length = 0
  · by_cases hk0 : K.length = 0
    · have : K = [] := List.eq_nil_of_length_eq_zero hk0
      subst this
      refine ⟨false, c, ?_⟩
      simp at hz
      subst hz
      simp [F.slices_DeleteFunc_api_Used_api_Used_a0_r0, h0, h5, bound, frzAt, List.take_of_length_le, F.slices_DeleteFunc_api_Used_api_Used_a0_res, F.slices_DeleteFunc_api_Used_api_Used_a0_keep]
    · have hch := chunks_keepU ht
      refine ⟨true, [], ?_⟩
      have hk2 : K ≠ [] := fun e => hk0 (by rw [e]; rfl)
      have hle : K.length * 2 ≤ n * 2 := by omega
      simp [F.slices_DeleteFunc_api_Used_api_Used_a0_r0, h0, h5, bound, hz, hk0, hK, hk2, hle, frzAt, List.take_of_length_le, hB, hc, hch, F.slices_DeleteFunc_api_Used_api_Used_a0_res, F.slices_DeleteFunc_api_Used_api_Used_a0_keep]
  · have hle : K.length * 2 + (n - K.length) * 2 ≤ n * 2 := by omega
    by_cases hk0 : K.length = 0
    · have : K = [] := List.eq_nil_of_length_eq_zero hk0
      subst this
      refine ⟨false, put c 0 (List.replicate (n * 2) .undef), ?_⟩
      simp at hz hle
      simp [F.slices_DeleteFunc_api_Used_api_Used_a0_r0, h0, h5, bound, hz, hle, hc, hB, frzAt, List.take_of_length_le, F.slices_DeleteFunc_api_Used_api_Used_a0_res, F.slices_DeleteFunc_api_Used_api_Used_a0_keep]
    · have hch : chunks (put c (K.length * 2) (List.replicate ((n - K.length) * 2) .undef)) 0 2 K.length = K.map encU := by
        apply chunks_keepU
        rw [put, List.append_assoc, List.map_append, List.map_take, List.take_append_of_le_length (by simp; omega), List.take_take, Nat.min_self, ht]
      refine ⟨true, [], ?_⟩
      have hk2 : K ≠ [] := fun e => hk0 (by rw [e]; rfl)
      have hle1 : K.length * 2 ≤ n * 2 := by omega
      have hpl : (put c (K.length * 2) (List.replicate ((n - K.length) * 2) .undef)).length = n * 2 := by
        simp [put, hc]; omega
      generalize hp : put c (K.length * 2) (List.replicate ((n - K.length) * 2) .undef) = pc at *
      simp [put] at hp
      simp [F.slices_DeleteFunc_api_Used_api_Used_a0_r0, h0, h5, bound, hz, hk0, hK, hk2, hle, hle1, hpl, hp, frzAt, List.take_of_length_le, hB, hc, hch, F.slices_DeleteFunc_api_Used_api_Used_a0_res, F.slices_DeleteFunc_api_Used_api_Used_a0_keep]
theorem put_keepU {c : List AV} {n kp pl : Nat} {K post : List Us} {x : Us} (hc : c.length = n * 2) (hkp : kp = K.length) (hle : kp ≤ pl) (hlt : pl < n)
    (ht : (c.map AV.strip).take (kp * 2) = flatU K) (hd : (c.map AV.strip).drop (pl * 2) = flatU (x :: post)) :
    (c.take (kp * 2) ++ (encU x ++ c.drop (kp * 2 + 2))).length = n * 2 ∧
    ((c.take (kp * 2) ++ (encU x ++ c.drop (kp * 2 + 2))).map AV.strip).take ((kp + 1) * 2) = flatU (K ++ [x]) ∧
    ((c.take (kp * 2) ++ (encU x ++ c.drop (kp * 2 + 2))).map AV.strip).drop ((pl + 1) * 2) = flatU post := by
  have h1 : (c.take (kp * 2)).length = kp * 2 := by rw [List.length_take]; omega
  have h2 := encU_len x
  refine ⟨by simp [h1, h2, hc]; omega, ?_, ?_⟩
  · rw [List.map_append, List.map_append, List.map_take, ht, encU_strip, flat_appU, show flatU [x] = encU x by simp [flatU], ← List.append_assoc, List.take_append_of_le_length (by simp [flat_lenU, h2, hkp]; omega)]
    exact List.take_of_length_le (by simp [flat_lenU, h2, hkp]; omega)
  · rw [List.map_append, List.map_append, List.drop_append, List.drop_eq_nil_of_le (by simp; omega), List.nil_append, List.drop_append, List.drop_eq_nil_of_le (by simp [h1, h2]; omega), List.nil_append, List.map_drop, List.drop_drop]
    simp only [List.length_map, h1, h2]
    rw [show kp * 2 + 2 + ((pl + 1) * 2 - kp * 2 - 2) = pl * 2 + 2 by omega, ← List.drop_drop, hd, flat_consU]
    simp [h2]

def DelOkU (K : List Us) (B : List (List AV)) (id : Nat) (r : Option (AV × List (List AV))) : Prop := ∃ o c', r = some (.sl o 2 (K.map encU), B.set id c')

theorem Del_loopU (ks : List Us) (now : Int) (id g : Nat) (B : List (List AV)) (hB : id < B.length) (hgi : g ≠ id) (hg : B[g]? = some [.int .i64 now]) (hl : ks.length < 1000000) :
    ∀ (post pre : List Us) (c : List AV) (ρ : Nat → AV), ks = pre ++ post → c.length = ks.length * 2 → (c.map AV.strip).take ((pre.filter (keepU now)).length * 2) = flatU (pre.filter (keepU now)) →
      (c.map AV.strip).drop (pre.length * 2) = flatU post → ρ 0 = .gs id 0 2 ks.length → ρ 1 = .fn 96 [.gp g 0] → ρ 5 = .int .i64 (pre.filter (keepU now)).length → ρ 6 = .int .i64 pre.length →
    DelOkU (ks.filter (keepU now)) B id (R F.tb (.loop F.slices_DeleteFunc_api_Used_api_Used_a0_l0) ρ (B.set id c) (blockK 0 (seqK F.tb F.slices_DeleteFunc_api_Used_api_Used_a0_r0 (finK F.slices_DeleteFunc_api_Used_api_Used_a0 B.length)))) := by
  intro post
  induction post with
  | nil =>
    intro pre c ρ hk hc ht hd h0 h1 h5 h6
    simp only [List.append_nil] at hk
    subst hk
    have h := fun ρ => Del_r0U ks.length (ks.filter (keepU now)) id B c hB hc (List.length_filter_le _ _) hl ht ρ
    rw [R_loop' F.slices_DeleteFunc_api_Used_api_Used_a0_l0.eq_1]
    simp [h0, h1, h5, h6]
    exact h _ (by simp [h0]) (by simp [h5])
  | cons x post IH =>
    intro pre c ρ hk hc ht hd h0 h1 h5 h6
    have hll : ks.length = pre.length + (post.length + 1) := by rw [hk]; simp
    have hfl := List.length_filter_le (keepU now) pre
    have hw1 : IntKind.i64.wrap ((pre.length : Int) + 1) = (pre.length : Int) + 1 := wrap64 (by omega) (by omega)
    have hw2 : IntKind.i64.wrap (((pre.filter (keepU now)).length : Int) + 1) = ((pre.filter (keepU now)).length : Int) + 1 := wrap64 (by omega) (by omega)
    have hlt : (pre.length : Int) < (ks.length : Int) := by omega
    have hlt2 : ((pre.filter (keepU now)).length : Int) < (ks.length : Int) := by omega
    have hrd : List.take 2 (List.drop (pre.length * 2) (c.map AV.strip)) = encU x := by rw [hd, flat_consU]; simp [List.take_append, encU_len]
    have hle : pre.length * 2 + 2 ≤ ks.length * 2 := by omega
    have hle2 : (pre.filter (keepU now)).length * 2 + 2 ≤ ks.length * 2 := by omega
    have hg2 : (B.set id c)[g]? = some [.int .i64 now] := by rw [List.getElem?_set_ne (Ne.symm hgi)]; exact hg
    have hcc := call_c96 x now g (B.set id c) hg2
    have hes := encU_strip x
    have htk : List.take 2 (encU x) = encU x := List.take_of_length_le (by rw [encU_len]; omega)
    have hel := encU_len x
    have heg : gpfreeL (encU x) = true := by have := flat_gpU [x]; simpa [flatU] using this
    have e : ks = (pre ++ [x]) ++ post := by rw [hk]; simp
    rw [R_loop' F.slices_DeleteFunc_api_Used_api_Used_a0_l0.eq_1]
    cases hx : keepU now x
    · have hf : (pre ++ [x]).filter (keepU now) = pre.filter (keepU now) := by simp [List.filter_cons, hx]
      have hd2 : (c.map AV.strip).drop ((pre ++ [x]).length * 2) = flatU post := by
        rw [show (pre ++ [x]).length * 2 = pre.length * 2 + 2 by simp; omega, ← List.drop_drop, hd, flat_consU]
        simp [encU_len]
      have hr := fun ρ => IH (pre ++ [x]) c ρ e hc (by rw [hf]; exact ht) hd2
      rw [hf] at hr
      simp [h0, h1, h5, h6, hB, hw1, hlt, hrd, hc, hle, hcc, hx, htk, hel, hes]
      exact hr _ (by simp [h0]) (by simp [h1]) (by simp [h5]) (by simp)
    · obtain ⟨q1, q2, q3⟩ := put_keepU hc rfl hfl (by omega) ht hd
      have hf : (pre ++ [x]).filter (keepU now) = pre.filter (keepU now) ++ [x] := by simp [List.filter_cons, hx]
      have hr := fun ρ => IH (pre ++ [x]) _ ρ e q1 (by rw [hf, List.length_append]; exact q2) (by rw [List.length_append]; exact q3)
      rw [hf] at hr
      simp [h0, h1, h5, h6, hB, hw1, hw2, hlt, hlt2, hrd, hc, hle, hle2, hcc, hx, htk, hel, hes, heg]
      exact hr _ (by simp [h0]) (by simp [h1]) (by simp) (by simp)

theorem call_IndexU (ks : List Us) (now : Int) (id g : Nat) (bs : List (List AV)) (hid : bs[id]? = some (flatU ks)) (hg : bs[g]? = some [.int .i64 now]) (hl : ks.length < 1000000) :
    call F.tb 145 [.gs id 0 2 ks.length, .fn 96 [.gp g 0]] bs = some (.int .i64 (idxI (fun k => !keepU now k) 0 ks), bs) := by
  rw [call_code F.tb_145 _ _ rfl]
  simp [F.slices_IndexFunc_api_Used_api_Used_a0_body, F.slices_IndexFunc_api_Used_api_Used_a0_b]
  have := fun ρ => Index_loopU ks now id g bs hid hg hl ks [] ρ rfl
  simp only [List.length_nil] at this
  rw [this] <;> simp

theorem call_DeleteU (ks : List Us) (now : Int) (id g : Nat) (B : List (List AV)) (hid : B[id]? = some (flatU ks)) (hgi : g ≠ id) (hg : B[g]? = some [.int .i64 now]) (hl : ks.length < 1000000) :
    ∃ o c', call F.tb 144 [.gs id 0 2 ks.length, .fn 96 [.gp g 0]] B = some (.sl o 2 ((ks.filter (keepU now)).map encU), B.set id c') := by
  have hB : id < B.length := by
    rcases Nat.lt_or_ge id B.length with h | h
    · exact h
    · rw [List.getElem?_eq_none h] at hid; cases hid
  have hset : ∀ c, B[id]? = some c → B.set id c = B := fun c h => List.ext_getElem? fun j => by
    rw [List.getElem?_set]; split
    · rename_i e; subst e; exact h.symm
    · rfl
  have hi := call_IndexU ks now id g B hid hg hl
  show DelOkU (ks.filter (keepU now)) B id _
  rw [call_code F.tb_144 _ _ rfl]
  by_cases hx : idxI (fun k => !keepU now k) 0 ks = -1
  · have ha := idxI_none _ ks 0 hx
    have hfil : ks.filter (keepU now) = ks := List.filter_eq_self.2 fun k hk => by
      have := List.any_eq_false.1 ha k hk; simpa using this
    have hfl := flat_lenU ks
    have hch := chunks_flat0U ks
    cases ks with
    | nil =>
      refine ⟨false, flatU [], ?_⟩
      rw [hset _ hid]
      simp only [List.length_nil] at hi
      rw [hx] at hi
      simp [F.slices_DeleteFunc_api_Used_api_Used_a0_body, F.slices_DeleteFunc_api_Used_api_Used_a0_b, hi, hx, frzAt, F.slices_DeleteFunc_api_Used_api_Used_a0_res, F.slices_DeleteFunc_api_Used_api_Used_a0_keep]
    | cons k ks =>
      refine ⟨true, [], ?_⟩
      rw [hfil]
      have heg : gpfreeL (encU k) = true := by have := flat_gpU [k]; simpa [flatU] using this
      simp only [List.length_cons] at *
      rw [hx] at hi
      simp [F.slices_DeleteFunc_api_Used_api_Used_a0_body, F.slices_DeleteFunc_api_Used_api_Used_a0_b, hi, hx, frzAt, hid, hfl, hch, heg, List.take_of_length_le, F.slices_DeleteFunc_api_Used_api_Used_a0_res, F.slices_DeleteFunc_api_Used_api_Used_a0_keep]
  · obtain ⟨pre, post, h1, h2, h3, x, post', h4, h5⟩ := idxI_some _ ks 0 hx
    have hw1 : IntKind.i64.wrap ((pre.length : Int) + 1) = (pre.length : Int) + 1 := wrap64 (by omega) (by have : ks.length = pre.length + post.length := by rw [h1]; simp
                                                                                                           omega)
    have hfp : pre.filter (keepU now) = pre := List.filter_eq_self.2 fun k hk => by
      have := List.any_eq_false.1 h2 k hk; simpa using this
    have hfx : (pre ++ [x]).filter (keepU now) = pre := by rw [List.filter_append, hfp]; simp at h5; simp [List.filter_cons, h5]
    have hr := fun ρ => Del_loopU ks now id g B hB hgi hg hl post' (pre ++ [x]) (flatU ks) ρ (by rw [h1, h4]; simp) (flat_lenU ks) (by rw [hfx, flat_stripU]; exact take_flatU h1) (by rw [flat_stripU]; exact drop_flatU (by rw [h1, h4]; simp))
    rw [hfx, hset _ hid] at hr
    have h3' : idxI (fun k => !keepU now k) 0 ks = (pre.length : Int) := by rw [h3]; simp
    rw [h3'] at hi
    have hne : ¬ ((pre.length : Int) = -1) := by omega
    simp [F.slices_DeleteFunc_api_Used_api_Used_a0_body, F.slices_DeleteFunc_api_Used_api_Used_a0_b, hi, hne, hw1]
    exact hr _ (by simp) (by simp) (by simp) (by simp)
end Go.Am

namespace Go.Am
set_option maxRecDepth 8000

theorem call_cl87 (o : Bool) (us : List Us) (bs : List (List AV)) (h : us.length * 16 ≤ 140737488355328) (hk : us ≠ []) :
    call F.tb 87 [.sl o 2 (us.map encU)] bs = some (.gs bs.length 0 2 us.length, bs ++ [flatU us]) := by
  rw [call_orc F.tb_87]
  rw [← flat_eqU]
  simp [cloneO, cloneR, h, hk]
theorem call_cl87n (o : Bool) (bs : List (List AV)) : call F.tb 87 [.sl o 2 []] bs = some (.gs 0 0 0 0, bs) := by
  rw [call_orc F.tb_87]
  simp [cloneO, cloneR]

theorem call_copiedku (s : Srv) (now : Int) (bs : List (List AV)) (h : s.cl) (hk : s.keys ≠ []) (hu : s.used ≠ []) : call F.tb 93 [.agg (encS s), .int .i64 now] bs =
    some (.agg [.str s.name, .int .i64 s.epoch, .gs bs.length 0 6 s.keys.length, .int .i64 s.next, .gs (bs.length + 1) 0 2 s.used.length, .int .i64 s.window, .int .i64 now], bs ++ [flat s.keys] ++ [flatU s.used]) := by
  rw [call_code F.tb_93 _ _ rfl]
  have h1 := fun o => call_cl66 o s.keys bs h.k hk
  have h2 := fun o bs => call_cl87 o s.used bs h.u hu
  rw [flat_eq] at h1
  generalize flat s.keys = fl at *
  generalize flatU s.used = fu at *
  simp [F.ticket_copied_ku, F.ticket_copied_ku_b, encS, h1, h2]
theorem call_copiedku0 (s : Srv) (now : Int) (bs : List (List AV)) (h : s.cl) (hk : s.keys ≠ []) (hu : s.used = []) : call F.tb 93 [.agg (encS s), .int .i64 now] bs =
    some (.agg [.str s.name, .int .i64 s.epoch, .gs bs.length 0 6 s.keys.length, .int .i64 s.next, .gs 0 0 0 0, .int .i64 s.window, .int .i64 now], bs ++ [flat s.keys]) := by
  rw [call_code F.tb_93 _ _ rfl]
  have h1 := fun o => call_cl66 o s.keys bs h.k hk
  have h2 := fun o bs => call_cl87n o bs
  rw [flat_eq] at h1
  generalize flat s.keys = fl at *
  simp [F.ticket_copied_ku, F.ticket_copied_ku_b, encS, h1, h2, hu]

theorem call_Index0 (g : Nat) (bs : List (List AV)) : call F.tb 145 [.gs 0 0 0 0, .fn 96 [.gp g 0]] bs = some (.int .i64 (-1), bs) := by
  rw [call_code F.tb_145 _ _ rfl]
  simp [F.slices_IndexFunc_api_Used_api_Used_a0_body, F.slices_IndexFunc_api_Used_api_Used_a0_b]
  rw [R_loop' F.slices_IndexFunc_api_Used_api_Used_a0_l0.eq_1]
  simp [F.slices_IndexFunc_api_Used_api_Used_a0_r0, F.slices_IndexFunc_api_Used_api_Used_a0_res, F.slices_IndexFunc_api_Used_api_Used_a0_keep]
theorem call_Delete0 (g : Nat) (bs : List (List AV)) : call F.tb 144 [.gs 0 0 0 0, .fn 96 [.gp g 0]] bs = some (.sl true 2 [], bs) := by
  rw [call_code F.tb_144 _ _ rfl]
  simp [F.slices_DeleteFunc_api_Used_api_Used_a0_body, F.slices_DeleteFunc_api_Used_api_Used_a0_b, call_Index0, frzAt, List.take_of_length_le, F.slices_DeleteFunc_api_Used_api_Used_a0_res, F.slices_DeleteFunc_api_Used_api_Used_a0_keep]

theorem call_Expire (s : Srv) (now : Int) (bs : List (List AV)) (hn : s.name.length < 1000000) (hcl : s.cl) (hm : ∀ k ∈ s.keys, k.key.mass < big) :
    call F.tb 92 [.agg (encS s), .int .i64 now] bs = some (.agg (encS (expireS s now)), bs) := by
  have hul : s.used.length < 4611686018427387904 := by have := hcl.u; omega
  have h1 := fun bs => call_tcall s now bs hn hul hm
  rw [call_code F.tb_92 _ _ rfl]
  by_cases hc : callS s now = 0
  · obtain ⟨hok, hnow⟩ := callS0 hc
    obtain ⟨i, k, hk, hi⟩ := hok.last
    have hkn : s.keys ≠ [] := by rw [hk]; simp
    have hkl : s.keys.length < 1000000 := by rw [hk]; simp; omega
    have hull : s.used.length < 1000000 := by have := hok.ul; omega
    have hgE := encE_gp (s.keys.filter (keepE now))
    have hgU := encU_gp (s.used.filter (keepU now))
    by_cases hu : s.used = []
    · have t1 := call_copiedku0 s now (bs ++ [[.int .i64 now]]) hcl hkn hu
      obtain ⟨o, c', t2⟩ := call_Delete s.keys now (bs.length + 1) bs.length ((bs ++ [[.int .i64 now]]) ++ [flat s.keys]) (by simp) (by omega) (by simp) hkl
      have t3 := fun bs2 => call_Delete0 bs.length bs2
      generalize flat s.keys = fl at *
      simp only [expireS, hc, ne_eq, not_true_eq_false, if_false]
      unfold encS at *
      simp at t1 t2
      simp only [hu, List.map_nil] at h1 t1
      simp [F.ticket_Expire_body, F.ticket_Expire_b, h1, hc, t1, t2, t3, hu, hgE, F.ticket_Expire_res, F.ticket_Expire_keep]
    · have t1 := call_copiedku s now (bs ++ [[.int .i64 now]]) hcl hkn hu
      obtain ⟨o, c', t2⟩ := call_Delete s.keys now (bs.length + 1) bs.length ((bs ++ [[.int .i64 now]]) ++ [flat s.keys] ++ [flatU s.used]) (by simp) (by omega) (by simp) hkl
      obtain ⟨o2, c2, t3⟩ := call_DeleteU s.used now (bs.length + 2) bs.length (List.set (((bs ++ [[AV.int .i64 now]]) ++ [flat s.keys] ++ [flatU s.used])) (bs.length + 1) c') (by simp) (by omega) (by simp) hull
      generalize flat s.keys = fl at *
      generalize flatU s.used = fu at *
      simp only [expireS, hc, ne_eq, not_true_eq_false, if_false]
      unfold encS at *
      simp at t1 t2 t3
      simp [F.ticket_Expire_body, F.ticket_Expire_b, h1, hc, t1, t2, t3, hgE, hgU, F.ticket_Expire_res, F.ticket_Expire_keep]
  · simp only [expireS, hc, ne_eq, not_false_eq_true, if_true]
    unfold encS at *
    simp [F.ticket_Expire_body, F.ticket_Expire_b, h1, hc, F.ticket_Expire_res, F.ticket_Expire_keep]
end Go.Am

namespace Go.Am
set_option maxRecDepth 8000

def small (s : Srv) : Prop := s.used.length < 1000000 ∧ s.keys.length < 1000000 ∧ ∀ k ∈ s.keys, k.key.mass < big

theorem small_sSame (s : Srv) (h : small s) (bs : List (List AV)) : call F.tb 108 [.agg (encS s), .agg (encS s)] bs = some (.bool true, bs) :=
  call_sSame_refl s bs (by have := h.1; omega) (by have := h.2.1; omega) h.2.2
theorem small_zero : small zeroS := ⟨by decide, by decide, fun k hk => by simp [zeroS] at hk⟩
theorem tm_Same (t : Tm) (h : t.mass < big) (bs : List (List AV)) : call F.tb 89 [.agg (encT t), .agg (encT t)] bs = some (.bool true, bs) := by
  rw [call_RSame t t bs h h, cmpT_refl]; rfl

theorem issue_small (s : Srv) (ag : List UInt8) (now : Int) (h : small s) (hag : ag.length ≤ 1000) (hn : s.name.length ≤ 60) (hk : ∀ k ∈ s.keys, k.key.mass ≤ 3000) :
    small (issueS s ag now).1 ∧ (issueS s ag now).2.1.mass < big ∧ (issueS s ag now).2.2.1.mass < big := by
  have hz : zeroT.mass < big := by decide
  unfold issueS
  split
  · exact ⟨small_zero, hz, hz⟩
  · split
    · exact ⟨small_zero, hz, hz⟩
    · split
      · exact ⟨small_zero, hz, hz⟩
      · rename_i h1 _ _
        have h1 := Decidable.not_not.1 h1
        obtain ⟨hok, hnow⟩ := callS0 h1
        obtain ⟨n, hn1⟩ : ∃ n : Nat, s.next = n := ⟨s.next.toNat, by have := hok.nx; omega⟩
        obtain ⟨ex, he1⟩ : ∃ e : Nat, now + s.window = e := ⟨(now + s.window).toNat, by have := hok.nw; have := hok.w; omega⟩
        have hnb := hok.nx
        have hexb : ex < 1000000 := by have := hok.nw; have := hok.w; omega
        obtain ⟨i, k, hkk, hi⟩ := hok.last
        have hlk : lastK s = k.key := by simp [lastK, hkk]
        have hkm := hk k (by rw [hkk]; simp)
        have hb := mass_body (ag := ag) (s := s.name) (n := n) (ex := ex) hag (by omega) (by omega) hexb
        have hd := mass_decN (n := n) (by omega)
        refine ⟨h, ?_, ?_⟩
        · simp only [hn1, he1, hlk]
          simp [writT, ENC, Tm.mass, massL, big]; omega
        · simp only [hn1]
          simp [tickT, dec_nat, Tm.mass, massL, big]; omega

theorem rotate_small (s : Srv) (now : Int) (h : small s) (hn : s.name.length ≤ 60) : small (rotateS s now).1 := by
  unfold rotateS
  split
  · exact small_zero
  · split
    · exact small_zero
    · rename_i h1 _
      have h1 := Decidable.not_not.1 h1
      obtain ⟨hok, hnow⟩ := callS0 h1
      obtain ⟨i, k, hkk, hi⟩ := hok.last
      obtain ⟨n, hn1⟩ : ∃ n : Nat, s.epoch = n := ⟨s.epoch.toNat, by have := hok.ep; omega⟩
      have hep := hok.ep
      have hd := mass_epochT s.name (n + 1) (by omega) (by omega)
      refine ⟨h.1, ?_, ?_⟩
      · simp [rotK, hkk]; omega
      · intro k' hk'
        simp [rotK, hkk, hn1] at hk'
        rcases hk' with h' | h' | h'
        · exact h.2.2 k' (by rw [hkk]; simp [h'])
        · rw [h']; exact h.2.2 k (by rw [hkk]; simp)
        · rw [h']; simpa using hd

theorem expire_small (s : Srv) (now : Int) (h : small s) : small (expireS s now) := by
  unfold expireS
  split
  · exact h
  · exact ⟨Nat.lt_of_le_of_lt (List.length_filter_le _ _) h.1, Nat.lt_of_le_of_lt (List.length_filter_le _ _) h.2.1, fun k hk => h.2.2 k (List.mem_filter.1 hk).1⟩

theorem law_TicketIssue (s : Srv) (ag : List UInt8) (now : Int) (hr : s.room) (hag : ag.length < 4611686018427387904) :
    call F.tb 113 [.agg (encS s), .str ag, .int .i64 now] [] = some (.bool true, []) := by
  rw [call_code F.tb_113 _ _ rfl]
  have hf := call_sFew s [] hr.k hr.n hr.u
  have e1 : ((60 : Int) < ag.length) = ¬ (ag.length ≤ 60) := by rw [eq_iff_iff]; omega
  by_cases c2 : ¬ ag.length ≤ 60
  · unfold encS at *
    cases c1 : fewS s <;>
    simp [F.sealringlaw54_TicketIssue_body, F.sealringlaw54_TicketIssue_b, call_awake, hf, c1, c2, e1, F.sealringlaw54_TicketIssue_res, F.sealringlaw54_TicketIssue_keep]
  replace c2 := Decidable.not_not.1 c2
  cases c1 : fewS s
  · unfold encS at *
    simp [F.sealringlaw54_TicketIssue_body, F.sealringlaw54_TicketIssue_b, call_awake, hf, c1, c2, e1, F.sealringlaw54_TicketIssue_res, F.sealringlaw54_TicketIssue_keep]
  obtain ⟨f1, f2, f3, f4⟩ := fewS_spec c1
  have hk : ∀ k ∈ s.keys, k.key.mass ≤ 3000 := fun k hk => by have := massL_keys hk; omega
  have hm : ∀ k ∈ s.keys, k.key.mass < big := fun k hk => by have := massL_keys hk; unfold big; omega
  have hcl : s.cl := ⟨hr.k, by omega⟩
  have hsm : small s := ⟨by omega, by omega, hm⟩
  have g1 := call_own s [] hcl
  have g2 := call_Issue s ag now [] (by omega) hcl hm (by omega)
  have g3 := call_RIssue s ag now [] (by omega) hcl hm (by omega)
  have g4 := call_Rotate s now [] (by omega) hcl hm
  have g5 := call_RRotate s now [] (by omega) hcl hm
  have g6 := call_Expire s now [] (by omega) hcl hm
  have g7 := call_RExpire s now [] (by omega) hcl hm
  obtain ⟨i1, i2, i3⟩ := issue_small s ag now hsm (by omega) f1 hk
  have k1 := small_sSame _ i1 []
  have k2 := tm_Same _ i2 []
  have k3 := tm_Same _ i3 []
  have k4 := small_sSame _ (rotate_small s now hsm f1) []
  have k5 := small_sSame _ (expire_small s now hsm) []
  generalize issueS s ag now = v at *
  generalize rotateS s now = r at *
  generalize expireS s now = x at *
  rw [encT_eq v.2.1, encT_eq v.2.2.1] at *
  unfold encS at *
  simp [F.sealringlaw54_TicketIssue_body, F.sealringlaw54_TicketIssue_b, call_awake, hf, c1, c2, e1, g1, g2, g3, g4, g5, g6, g7, k1, k2, k3, k4, k5, F.sealringlaw54_TicketIssue_res, F.sealringlaw54_TicketIssue_keep]
end Go.Am
