/-
  The pure land, part 17: Rotate.
-/
import Derived.Test.YtdabongfphoilaaGreatDoorPureE
set_option linter.unusedVariables false
set_option linter.unusedSimpArgs false

namespace Go.Am
set_option maxRecDepth 8000

/-- The cells of a list of epochs. -/
def flat (ks : List Ep) : List AV := ks.flatMap encE
theorem encE_strip (k : Ep) : (encE k).map AV.strip = encE k := by simp [encE, encT_strip]
theorem encE_len (k : Ep) : (encE k).length = 6 := by simp [encE, encT_length]
theorem flat_eq (ks : List Ep) : (ks.map encE).flatten.map AV.strip = flat ks := by
  induction ks with
  | nil => rfl
  | cons k ks ih => simp only [List.map_cons, List.flatten_cons, List.map_append, ih, encE_strip, flat, List.flatMap_cons]
theorem flat_len (ks : List Ep) : (flat ks).length = ks.length * 6 := by
  induction ks with
  | nil => rfl
  | cons k ks ih => simp only [flat, List.flatMap_cons, List.length_append, encE_len] at *; rw [ih]; simp; omega
theorem flat_app (a b : List Ep) : flat (a ++ b) = flat a ++ flat b := by simp [flat]
theorem flat_cons (a : Ep) (b : List Ep) : flat (a :: b) = encE a ++ flat b := by simp [flat]
theorem gpfreeL_append (a b : List AV) : gpfreeL (a ++ b) = (gpfreeL a && gpfreeL b) := by
  induction a with
  | nil => simp [gpfreeL]
  | cons x a ih => simp [gpfreeL, ih, Bool.and_assoc]
theorem gpfreeE_append (a b : List (List AV)) : gpfreeE (a ++ b) = (gpfreeE a && gpfreeE b) := by
  induction a with
  | nil => simp [gpfreeE]
  | cons x a ih => simp [gpfreeE, ih, Bool.and_assoc]
theorem flat_gp (ks : List Ep) : gpfreeL (flat ks) = true := by
  induction ks with
  | nil => rfl
  | cons k ks ih => simp [flat_cons, encE, gpfreeL, AV.gpfree, ih, gpfreeL_append, encT_gp]
theorem chunks_flat (ks : List Ep) : ∀ (pre : List AV) (n : Nat), pre.length = n → chunks (pre ++ flat ks) n 6 ks.length = ks.map encE := by
  induction ks with
  | nil => intro pre n h; rfl
  | cons k ks ih =>
    intro pre n h
    have h1 := ih (pre ++ encE k) (n + 6) (by simp [encE_len, h])
    unfold chunks at *
    rw [List.length_cons, List.range_succ_eq_map, List.map_cons, List.map_map, List.map_cons, ← h1]
    refine List.cons_eq_cons.2 ⟨?_, List.map_congr_left fun j _ => ?_⟩
    · rw [flat_cons]
      simp [← h, encE_strip, List.take_append, encE_len]
    · simp only [Function.comp_apply, flat_cons, List.append_assoc]
      rw [show n + 6 + j * 6 = n + (j + 1) * 6 by omega]
theorem chunks_flat0 (ks : List Ep) : chunks (flat ks) 0 6 ks.length = ks.map encE := chunks_flat ks [] 0 rfl
theorem put_e (i : List Ep) (k : Ep) (e : Int) : put (flat (i ++ [k])) (i.length * 6 + 1) [.int .i64 e] = flat (i ++ [{ k with e := e }]) := by
  have h1 := flat_len i
  have h2 : ∀ k, flat [k] = encE k := fun k => by simp [flat]
  rw [flat_app, flat_app, h2, h2]
  generalize flat i = A at *
  simp only [put, ← h1, encE]
  simp [List.take_append, List.drop_append]
  rw [List.take_of_length_le (by omega), List.drop_eq_nil_of_le (by omega), show A.length + 1 + 1 - A.length = 2 by omega]
  simp

theorem call_cl66 (o : Bool) (ks : List Ep) (bs : List (List AV)) (h : ks.length * 72 ≤ 140737488355328) (hk : ks ≠ []) :
    call F.tb 66 [.sl o 6 (ks.map encE)] bs = some (.gs bs.length 0 6 ks.length, bs ++ [(ks.map encE).flatten.map AV.strip]) := by
  rw [call_orc F.tb_66]
  simp [cloneO, cloneR, h, hk]
theorem call_cl66n (o : Bool) (bs : List (List AV)) : call F.tb 66 [.sl o 6 []] bs = some (.gs 0 0 0 0, bs) := by
  rw [call_orc F.tb_66]
  simp [cloneO, cloneR]
theorem call_copiedk (s : Srv) (now : Int) (bs : List (List AV)) (h : s.cl) (hk : s.keys ≠ []) : call F.tb 65 [.agg (encS s), .int .i64 now] bs =
    some (.agg [.str s.name, .int .i64 s.epoch, .gs bs.length 0 6 s.keys.length, .int .i64 s.next, .sl false 2 (s.used.map encU), .int .i64 s.window, .int .i64 now], bs ++ [(s.keys.map encE).flatten.map AV.strip]) := by
  rw [call_code F.tb_65 _ _ rfl]
  have h1 := fun o => call_cl66 o s.keys bs h.k hk
  have h2 := fun o bs => call_cl52 o s.used bs h.u
  generalize hfl : (s.keys.map encE).flatten.map AV.strip = fl at *
  simp [F.ticket_copied_k, F.ticket_copied_k_b, encS, h1, h2]

def rotK (s : Srv) (e : Int) : List Ep := s.keys.dropLast ++ (s.keys.getLast?.toList.map fun k => { k with e := e })
def rotateS (s : Srv) (now : Int) : Srv × Int :=
  if callS s now ≠ 0 then (zeroS, callS s now) else if s.keys.length = 8 ∨ s.epoch = 10000 then (zeroS, 3)
  else ({ s with now := now, epoch := s.epoch + 1, keys := rotK s (now + s.window) ++ [⟨s.epoch + 1, 0, epochT s.name (s.epoch + 1)⟩] }, 0)

theorem call_Rotate (s : Srv) (now : Int) (bs : List (List AV)) (hn : s.name.length < 1000000) (hcl : s.cl) (hm : ∀ k ∈ s.keys, k.key.mass < big) :
    call F.tb 64 [.agg (encS s), .int .i64 now] bs = some (.tup [.agg (encS (rotateS s now).1), .int .i64 (rotateS s now).2], bs) := by
  have hul : s.used.length < 4611686018427387904 := by have := hcl.u; omega
  rw [call_code F.tb_64 _ _ rfl]
  have h1 := call_tcall s now bs hn hul hm
  by_cases hc : callS s now = 0
  · obtain ⟨hok, hnow⟩ := callS0 hc
    by_cases hk8 : s.keys.length = 8
    · unfold encS at *
      simp [F.ticket_Rotate_body, F.ticket_Rotate_b, h1, hc, hk8, rotateS, F.ticket_Rotate_res, F.ticket_Rotate_keep, zeroS]
    · by_cases hep : s.epoch = 10000
      · simp [rotateS, hc, hep]
        unfold encS at *
        simp only [hep] at h1 ⊢
        simp [F.ticket_Rotate_body, F.ticket_Rotate_b, h1, hc, hk8, hep, F.ticket_Rotate_res, F.ticket_Rotate_keep, zeroS]
      · obtain ⟨i, k, hk, hi⟩ := hok.last
        obtain ⟨n, hn1⟩ : ∃ n : Nat, s.epoch = n := ⟨s.epoch.toNat, by have := hok.ep; omega⟩
        have hnb := hok.ep
        have hwb := hok.w
        have hnwb := hok.nw
        have t1 := call_copiedk s now bs hcl (by rw [hk]; simp)
        have t2 := fun bs => call_epochKey s.name (n + 1) bs hn (by omega)
        have hwx : IntKind.i64.wrap (now + s.window) = now + s.window := wrap64 (by omega) (by omega)
        have hwn : IntKind.i64.wrap ((n : Int) + 1) = (n : Int) + 1 := wrap64 (by omega) (by omega)
        have hwi : IntKind.i64.wrap (i.length : Int) = (i.length : Int) := wrap64 (by omega) (by omega)
        have hp := put_e i k (now + s.window)
        simp only [put, List.length_singleton, List.append_assoc, List.singleton_append] at hp
        simp only [Int.natCast_add, Int.natCast_one] at t2
        have hkl : s.keys.length = i.length + 1 := by rw [hk]; simp
        have hch := chunks_flat0 (i ++ [{ k with e := now + s.window }])
        have hfl : (flat (i ++ [k])).length = i.length * 6 + 6 := by rw [flat_len]; simp; omega
        have hfl2 : (flat (i ++ [{ k with e := now + s.window }])).length = i.length * 6 + 6 := by rw [flat_len]; simp; omega
        have hgp1 := flat_gp (i ++ [k])
        have hgp2 := encE_gp (i ++ [{ k with e := now + s.window }])
        rw [flat_eq, hk] at t1
        have hi8 : ¬ ((i.length : Int) + 1 = 8) := by omega
        have hle : (i.length + 1) * 6 ≤ i.length * 6 + 6 := by omega
        have hle2 : (i.length + 1 + 1) * 72 ≤ 140737488355328 := by omega
        have hlt : (i.length : Int) < (i.length : Int) + 1 := by omega
        simp [rotateS, rotK, hc, hk8, hep]
        unfold encS at *
        simp only [hn1, hk, List.map_append, List.map_cons, List.map_nil] at *
        generalize flat (i ++ [k]) = fl at *
        generalize flat (i ++ [{ k with e := now + s.window }]) = fl2 at *
        simp at hch hgp2
        simp [F.ticket_Rotate_body, F.ticket_Rotate_b, h1, hc, hi8, hlt, hle, hle2, frzAt, hep, t1, t2, hp, hch, hwx, hwn, hwi, hfl, hfl2, hgp1, hgp2, F.ticket_Rotate_res, F.ticket_Rotate_keep]
        refine ⟨?_, by simp [encE]⟩
        rw [gpfreeE_append, encE_gp]
        simp [gpfreeE, encE, gpfreeL, AV.gpfree, encT_gp]
  · unfold encS at *
    simp [F.ticket_Rotate_body, F.ticket_Rotate_b, h1, hc, rotateS, F.ticket_Rotate_res, F.ticket_Rotate_keep, zeroS]
end Go.Am

namespace Go.Am
set_option maxRecDepth 8000

theorem le3 {n : Nat} (h : n < 8) : (n + 1) * 72 ≤ 140737488355328 := by omega
theorem le2 {n : Nat} (h : n < 8) : (n + 1 + 1) * 72 ≤ 140737488355328 := by omega

theorem call_RRotate (s : Srv) (now : Int) (bs : List (List AV)) (hn : s.name.length < 1000000) (hcl : s.cl) (hm : ∀ k ∈ s.keys, k.key.mass < big) :
    call F.tb 121 [.agg (encS s), .int .i64 now] bs = some (.tup [.agg (encS (rotateS s now).1), .int .i64 (rotateS s now).2], bs) := by
  have hul : s.used.length < 4611686018427387904 := by have := hcl.u; omega
  rw [call_code F.tb_121 _ _ rfl]
  have h1 := call_Rcalled s now bs hn hul hm (by have := hcl.k; omega)
  by_cases hc : callS s now = 0
  · obtain ⟨hok, hnow⟩ := callS0 hc
    by_cases hk8 : s.keys.length = 8
    · unfold encS at *
      simp [F.sealringref54_Rotate_body, F.sealringref54_Rotate_b, h1, hc, hk8, rotateS, F.sealringref54_Rotate_res, F.sealringref54_Rotate_keep, zeroS]
    · by_cases hep : s.epoch = 10000
      · simp [rotateS, hc, hep]
        unfold encS at *
        simp only [hep] at h1 ⊢
        simp [F.sealringref54_Rotate_body, F.sealringref54_Rotate_b, h1, hc, hk8, hep, F.sealringref54_Rotate_res, F.sealringref54_Rotate_keep, zeroS]
      · obtain ⟨i, k, hk, hi⟩ := hok.last
        have hkl : s.keys.length = i.length + 1 := by rw [hk]; simp
        have hi8 : ¬ ((i.length : Int) + 1 = 8) := by omega
        have hle : (i.length + 1) * 6 ≤ i.length * 6 + 6 := by omega
        have hlt : (i.length : Int) < (i.length : Int) + 1 := Int.lt_add_one_of_le (Int.le_refl _)
        obtain ⟨n, hn1⟩ : ∃ n : Nat, s.epoch = n := ⟨s.epoch.toNat, by have := hok.ep; omega⟩
        have hnb := hok.ep
        have hwb := hok.w
        have hnwb := hok.nw
        have hne := flat_eq (i ++ [k])
        have hgp3 := encE_gp (i ++ [k])
        have t2 := fun bs => call_REpochKey s.name (n + 1) bs hn (by omega)
        have hwx : IntKind.i64.wrap (now + s.window) = now + s.window := wrap64 (by omega) (by omega)
        have hwn : IntKind.i64.wrap ((n : Int) + 1) = (n : Int) + 1 := wrap64 (by omega) (by omega)
        have hwi : IntKind.i64.wrap (i.length : Int) = (i.length : Int) := wrap64 (by omega) (by omega)
        have hp := put_e i k (now + s.window)
        simp only [put, List.length_singleton, List.append_assoc, List.singleton_append] at hp
        simp only [Int.natCast_add, Int.natCast_one] at t2
        have hch := chunks_flat0 (i ++ [{ k with e := now + s.window }])
        have hfl : (flat (i ++ [k])).length = i.length * 6 + 6 := by rw [flat_len]; simp; omega
        have hfl2 : (flat (i ++ [{ k with e := now + s.window }])).length = i.length * 6 + 6 := by rw [flat_len]; simp; omega
        have hgp1 := flat_gp (i ++ [k])
        have hgp2 := encE_gp (i ++ [{ k with e := now + s.window }])
        have hle3 := le3 hi
        have hle2 := le2 hi
        simp [rotateS, rotK, hc, hk8, hep]
        unfold encS at *
        simp only [hn1, hk] at *
        have hLl : ((i ++ [k]).map encE).length = i.length + 1 := by simp
        generalize (i ++ [k]).map encE = L at *
        generalize flat (i ++ [k]) = fl at *
        generalize flat (i ++ [{ k with e := now + s.window }]) = fl2 at *
        simp at hch hgp2
        simp [F.sealringref54_Rotate_body, F.sealringref54_Rotate_b, h1, hc, hi8, hlt, hle, hle2, frzAt, hep, hLl, hne, hgp3, hle3, t2, hp, hch, hwx, hwn, hwi, hfl, hfl2, hgp1, hgp2, F.sealringref54_Rotate_res, F.sealringref54_Rotate_keep]
        refine ⟨?_, by simp [encE]⟩
        rw [gpfreeE_append, encE_gp]
        simp [gpfreeE, encE, gpfreeL, AV.gpfree, encT_gp]
  · unfold encS at *
    simp [F.sealringref54_Rotate_body, F.sealringref54_Rotate_b, h1, hc, rotateS, F.sealringref54_Rotate_res, F.sealringref54_Rotate_keep, zeroS]
end Go.Am

namespace Go.Am
set_option maxRecDepth 8000

def keepE (now : Int) (k : Ep) : Bool := decide (k.e = 0) || decide (now ≤ k.e)
def keepU (now : Int) (u : Us) : Bool := decide (now ≤ u.e)
def expireS (s : Srv) (now : Int) : Srv :=
  if callS s now ≠ 0 then s else { s with keys := s.keys.filter (keepE now), used := s.used.filter (keepU now), now := now }

theorem RExpire_l1 (s : Srv) (now : Int) (ks : List Ep) (bs : List (List AV)) (hcl : s.cl) :
    ∀ (post pre : List Us) (ρ : Nat → AV), s.used = pre ++ post → ρ 1 = .int .i64 now → ρ 2 = .bx (encS s) → ρ 4 = .bx [.str [], .int .i64 0, .sl true 6 [], .int .i64 0, .sl true 2 [], .int .i64 0, .int .i64 0] →
      ρ 5 = .sl true 6 (ks.map encE) → ρ 7 = .sl true 2 ((pre.filter (keepU now)).map encU) → ρ 8 = .int .i64 pre.length →
    R F.tb (.loop F.sealringref54_Expire_l1) ρ bs (blockK 2 (seqK F.tb F.sealringref54_Expire_r0 (finK F.sealringref54_Expire bs.length))) =
      some (.agg (encS { s with keys := ks, used := (pre ++ post).filter (keepU now), now := now }), bs) := by
  have hcu := hcl.u
  intro post
  induction post with
  | nil =>
    intro pre ρ hk h1 h2 h4 h5 h7 h8
    rw [R_loop' F.sealringref54_Expire_l1.eq_1]
    simp only [List.append_nil] at hk ⊢
    subst hk
    unfold encS at *
    simp [h1, h2, h4, h5, h7, h8, F.sealringref54_Expire_r0, F.sealringref54_Expire_res, F.sealringref54_Expire_keep]
  | cons x post IH =>
    intro pre ρ hk h1 h2 h4 h5 h7 h8
    have hl : s.used.length = pre.length + (post.length + 1) := by rw [hk]; simp
    have hg : s.used[pre.length]? = some x := by rw [hk]; simp
    have hw1 : IntKind.i64.wrap ((pre.length : Int) + 1) = (pre.length : Int) + 1 := wrap64 (by omega) (by omega)
    have hlt : (pre.length : Int) < (s.used.length : Int) := by omega
    have hf := List.length_filter_le (keepU now) pre
    have hb : ((pre.filter (keepU now)).length + 1) * 16 ≤ 140737488355328 := by omega
    have e : pre ++ x :: post = (pre ++ [x]) ++ post := by simp
    rw [R_loop' F.sealringref54_Expire_l1.eq_1]
    have h2' := h2
    unfold encS at h2
    rw [e]
    have hr := IH (pre ++ [x])
    by_cases hx : now ≤ x.e
    · have hkx : keepU now x = true := by simp [keepU, hx]
      simp only [List.filter_append, List.filter_cons, hkx, List.filter_nil, if_true] at hr
      simp [h1, h2, h4, h5, h7, h8, hg, hw1, hlt, encU, hx, hb]
      rw [hr] <;> simp [h1, h2', h4, h5, hk, encU, List.filter_cons, hkx]
    · have hkx : keepU now x = false := by simp [keepU, hx]
      simp only [List.filter_append, List.filter_cons, hkx, List.filter_nil, if_false, List.append_nil] at hr
      simp [h1, h2, h4, h5, h7, h8, hg, hw1, hlt, encU, hx, hb]
      rw [hr] <;> simp [h1, h2', h4, h5, hk, h7, List.filter_cons, hkx]

theorem RExpire_r1 (s : Srv) (now : Int) (ks : List Ep) (bs : List (List AV)) (hcl : s.cl) (ρ : Nat → AV) (h1 : ρ 1 = .int .i64 now) (h2 : ρ 2 = .bx (encS s))
    (h4 : ρ 4 = .bx [.str [], .int .i64 0, .sl true 6 [], .int .i64 0, .sl true 2 [], .int .i64 0, .int .i64 0]) (h5 : ρ 5 = .sl true 6 (ks.map encE)) :
    R F.tb F.sealringref54_Expire_r1 ρ bs (finK F.sealringref54_Expire bs.length) =
      some (.agg (encS { s with keys := ks, used := s.used.filter (keepU now), now := now }), bs) := by
  simp [F.sealringref54_Expire_r1]
  have := fun ρ => RExpire_l1 s now ks bs hcl s.used [] ρ rfl
  simp only [List.nil_append] at this
  rw [this] <;> simp [h1, h2, h4, h5]

theorem RExpire_l0 (s : Srv) (now : Int) (bs : List (List AV)) (hcl : s.cl) :
    ∀ (post pre : List Ep) (ρ : Nat → AV), s.keys = pre ++ post → ρ 1 = .int .i64 now → ρ 2 = .bx (encS s) → ρ 4 = .bx [.str [], .int .i64 0, .sl true 6 [], .int .i64 0, .sl true 2 [], .int .i64 0, .int .i64 0] →
      ρ 5 = .sl true 6 ((pre.filter (keepE now)).map encE) → ρ 6 = .int .i64 pre.length →
    R F.tb (.loop F.sealringref54_Expire_l0) ρ bs (blockK 0 (seqK F.tb F.sealringref54_Expire_r1 (finK F.sealringref54_Expire bs.length))) =
      some (.agg (encS { s with keys := (pre ++ post).filter (keepE now), used := s.used.filter (keepU now), now := now }), bs) := by
  have hck := hcl.k
  intro post
  induction post with
  | nil =>
    intro pre ρ hk h1 h2 h4 h5 h6
    rw [R_loop' F.sealringref54_Expire_l0.eq_1]
    simp only [List.append_nil] at hk ⊢
    subst hk
    have h2' := h2
    unfold encS at h2
    simp [h1, h2, h4, h5, h6]
    rw [RExpire_r1 s now _ bs hcl] <;> simp [h1, h2', h4, h5]
  | cons x post IH =>
    intro pre ρ hk h1 h2 h4 h5 h6
    have hl : s.keys.length = pre.length + (post.length + 1) := by rw [hk]; simp
    have hg : s.keys[pre.length]? = some x := by rw [hk]; simp
    have hw1 : IntKind.i64.wrap ((pre.length : Int) + 1) = (pre.length : Int) + 1 := wrap64 (by omega) (by omega)
    have hlt : (pre.length : Int) < (s.keys.length : Int) := by omega
    have hf := List.length_filter_le (keepE now) pre
    have hb : ((pre.filter (keepE now)).length + 1) * 72 ≤ 140737488355328 := by omega
    have e : pre ++ x :: post = (pre ++ [x]) ++ post := by simp
    rw [R_loop' F.sealringref54_Expire_l0.eq_1]
    have h2' := h2
    unfold encS at h2
    rw [e]
    have hr := IH (pre ++ [x])
    by_cases h0 : x.e = 0
    · have hkx : keepE now x = true := by simp [keepE, h0]
      simp only [List.filter_append, List.filter_cons, hkx, List.filter_nil, if_true] at hr
      simp [h1, h2, h4, h5, h6, hg, hw1, hlt, encE, h0, hb]
      rw [hr] <;> simp [h1, h2', h4, h5, hk, encE, List.filter_cons, hkx, h0]
    · have b0 : (x.e == 0) = false := by simp [h0]
      by_cases hx : now ≤ x.e
      · have hkx : keepE now x = true := by simp [keepE, hx]
        simp only [List.filter_append, List.filter_cons, hkx, List.filter_nil, if_true] at hr
        simp [h1, h2, h4, h5, h6, hg, hw1, hlt, encE, h0, b0, hx, hb]
        rw [hr] <;> simp [h1, h2', h4, h5, hk, encE, List.filter_cons, hkx]
      · have hkx : keepE now x = false := by simp [keepE, hx, h0]
        simp only [List.filter_append, List.filter_cons, hkx, List.filter_nil, if_false, List.append_nil] at hr
        simp [h1, h2, h4, h5, h6, hg, hw1, hlt, encE, h0, b0, hx, hb]
        rw [hr] <;> simp [h1, h2', h4, h5, hk, List.filter_cons, hkx]

theorem call_RExpire (s : Srv) (now : Int) (bs : List (List AV)) (hn : s.name.length < 1000000) (hcl : s.cl) (hm : ∀ k ∈ s.keys, k.key.mass < big) :
    call F.tb 122 [.agg (encS s), .int .i64 now] bs = some (.agg (encS (expireS s now)), bs) := by
  have hul : s.used.length < 4611686018427387904 := by have := hcl.u; omega
  have h1 := call_Rcalled s now bs hn hul hm (by have := hcl.k; omega)
  have h2 := fun ρ => RExpire_l0 s now bs hcl s.keys [] ρ rfl
  simp only [List.nil_append] at h2
  rw [call_code F.tb_122 _ _ rfl]
  by_cases hc : callS s now = 0
  · simp only [expireS, hc, ne_eq, not_true_eq_false, if_false]
    generalize encS { s with keys := s.keys.filter (keepE now), used := s.used.filter (keepU now), now := now } = r at *
    unfold encS at *
    simp [F.sealringref54_Expire_body, F.sealringref54_Expire_b, h1, hc]
    rw [h2] <;> simp
  · simp only [expireS, hc, ne_eq, not_false_eq_true, if_true]
    unfold encS at *
    simp [F.sealringref54_Expire_body, F.sealringref54_Expire_b, h1, hc, F.sealringref54_Expire_res, F.sealringref54_Expire_keep]
end Go.Am
