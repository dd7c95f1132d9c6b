/-
  Library functions at any element, part 1: slices.BinarySearchFunc.
-/
import Derived.Test.YtdabongfphoilaaGreatDoorPureA
import Derived.Test.YtdabongfphoilaaGreatDoorPureH
set_option linter.unusedVariables false
set_option linter.unusedSimpArgs false

namespace Go.Am
set_option maxRecDepth 8000

def bsL (sz : Nat) (ag : Bool) : AC :=
  .seq (.seq (.reg false [
      ⟨some 15, .mov (.t 9), none⟩,
      ⟨some 16, .mov (.t 10), none⟩,
      ⟨some 17, .bin .lss (.t 15) (.t 16), none⟩]) (.cond (.t 17) (.skip) (.exit 0))) (.block 1 (.seq (.reg false [
      ⟨some 18, .mov (.t 9), none⟩,
      ⟨some 19, .mov (.t 10), none⟩,
      ⟨some 20, .bin .add (.t 18) (.t 19), none⟩,
      ⟨some 21, .conv .u64 (.t 20), none⟩,
      ⟨some 22, .bin .shr (.t 21) (.c (.int .u64 1)), none⟩,
      ⟨some 23, .conv .i64 (.t 22), none⟩,
      ⟨some 11, .mov (.t 23), none⟩]) (.seq (.reg false [
      ⟨some 24, .mov (.t 2), none⟩,
      ⟨some 25, .mov (.t 0), none⟩,
      ⟨some 26, .mov (.t 11), none⟩,
      ⟨some 27, .idxa sz (.t 25) (.t 26), none⟩,
      ⟨some 28, .ld 27 sz ag, none⟩,
      ⟨some 29, .mov (.t 1), none⟩,
      ⟨some 30, .callv (.t 24) [.t 28, .t 29], none⟩,
      ⟨some 31, .bin .lss (.t 30) (.c (.int .i64 0)), none⟩]) (.cond (.t 31) (.reg false [
      ⟨some 32, .mov (.t 11), none⟩,
      ⟨some 33, .bin .add (.t 32) (.c (.int .i64 1)), none⟩,
      ⟨some 9, .mov (.t 33), none⟩]) (.reg false [
      ⟨some 34, .mov (.t 11), none⟩,
      ⟨some 10, .mov (.t 34), none⟩])))))
def bsR (sz : Nat) (ag : Bool) : AC :=
  .seq (.reg false [
      ⟨some 35, .mov (.t 9), none⟩,
      ⟨some 36, .mov (.t 9), none⟩,
      ⟨some 37, .mov (.t 8), none⟩,
      ⟨some 38, .bin .lss (.t 36) (.t 37), none⟩,
      ⟨some 39, .mov (.t 38), none⟩,
      ⟨some 40, .mov (.t 2), some (39, true)⟩,
      ⟨some 41, .mov (.t 0), some (39, true)⟩,
      ⟨some 42, .mov (.t 9), some (39, true)⟩,
      ⟨some 43, .idxa sz (.t 41) (.t 42), some (39, true)⟩,
      ⟨some 44, .ld 43 sz ag, some (39, true)⟩,
      ⟨some 45, .mov (.t 1), some (39, true)⟩,
      ⟨some 46, .callv (.t 40) [.t 44, .t 45], some (39, true)⟩,
      ⟨some 47, .bin .eql (.t 46) (.c (.int .i64 0)), some (39, true)⟩,
      ⟨some 48, .pick (.t 39) (.t 47) (.c (.bool false)), none⟩,
      ⟨some 6, .mov (.t 35), none⟩,
      ⟨some 7, .mov (.t 48), none⟩]) (.ret)
def bsB (sz : Nat) (ag : Bool) : AC :=
  .seq (.reg false [
      ⟨some 6, .mov (.c (.int .i64 0)), none⟩,
      ⟨some 7, .mov (.c (.bool false)), none⟩]) (.seq (.reg false [
      ⟨some 12, .mov (.t 0), none⟩,
      ⟨some 13, .lenl (.t 12), none⟩,
      ⟨some 8, .mov (.t 13), none⟩]) (.seq (.reg false [
      ⟨some 14, .mov (.t 8), none⟩,
      ⟨some 9, .mov (.c (.int .i64 0)), none⟩,
      ⟨some 10, .mov (.t 14), none⟩]) (.seq (.block 0 (.loop (bsL sz ag))) (bsR sz ag))))
def bsF (sz : Nat) (ag : Bool) : AFun := { nparams := 3, ntmps := 49, res := [.tmp 6, .tmp 7], keep := false, body := bsB sz ag }
theorem bsF_body (sz : Nat) (ag : Bool) : (bsF sz ag).body = bsB sz ag := rfl
theorem bsF_res (sz : Nat) (ag : Bool) : (bsF sz ag).res = [.tmp 6, .tmp 7] := rfl
theorem bsF_keep (sz : Nat) (ag : Bool) : (bsF sz ag).keep = false := rfl

theorem half64 {i j : Nat} (h : i + j < 9223372036854775808) : IntKind.i64.wrap (IntKind.u64.wrap (IntKind.i64.wrap ((i : Int) + (j : Int))) / 2 ^ min 1 IntKind.u64.bits) = (((i + j) / 2 : Nat) : Int) := by
  rw [wrap64 (n := (i : Int) + j) (by omega) (by omega)]
  have h1 : IntKind.u64.wrap ((i : Int) + j) = (i : Int) + j := by
    simp [IntKind.wrap, IntKind.bits, IntKind.signed]; omega
  have h2 : (2 : Int) ^ min 1 IntKind.u64.bits = 2 := by decide
  rw [h1, h2, wrap64 (by omega) (by omega)]
  omega

section
variable {T : Nat → Option AFn} {sz : Nat} {L : List (List AV)} {tgt : AV} {g : Nat} {caps : List AV} {cmp : Nat → Int} {bs : List (List AV)}

/-- What is asked of the elements and of the function that compares. -/
structure BsIn (T : Nat → Option AFn) (sz : Nat) (L : List (List AV)) (tgt : AV) (g : Nat) (caps : List AV) (cf : Nat → Int) (bs : List (List AV)) : Prop where
  len : L.length < 4611686018427387904
  el : ∀ (i : Nat) (e : List AV), L[i]? = some e → e.length = sz ∧ e.map AV.strip = e
  cmp : ∀ (i : Nat) (e : List AV), L[i]? = some e → call T g (AV.agg e :: tgt :: caps) bs = some (.int .i64 (cf i), bs)
  mono : ∀ i j : Nat, i ≤ j → j < L.length → cf j < 0 → cf i < 0
  ts : tgt.strip = tgt
  tk : tgt.ok = true
  ck : caps.all AV.ok = true

/-- The place at which numbers below 0 end. -/
def BsAt (n : Nat) (cf : Nat → Int) (k : Nat) : Prop := k ≤ n ∧ (∀ i, i < k → cf i < 0) ∧ (∀ i, k ≤ i → i < n → ¬ cf i < 0)
def BsOk (n : Nat) (cf : Nat → Int) (bs : List (List AV)) (r : Out) : Prop := ∃ k, BsAt n cf k ∧ r = some (.tup [.int .i64 k, .bool (decide (k < n) && decide (cf k = 0))], bs)

theorem bs_loop (h : BsIn T sz L tgt g caps cmp bs) : ∀ (d i j : Nat) (o : Bool) (ρ : Nat → AV), j - i ≤ d → i ≤ j → j ≤ L.length → (∀ k, k < i → cmp k < 0) → (∀ k, j ≤ k → k < L.length → ¬ cmp k < 0) →
    ρ 0 = .sl o sz L → ρ 1 = tgt → ρ 2 = .fn g caps → ρ 8 = .int .i64 L.length → ρ 9 = .int .i64 i → ρ 10 = .int .i64 j →
    BsOk L.length cmp bs (R T (.loop (bsL sz true)) ρ bs (blockK 0 (seqK T (bsR sz true) (finK (bsF sz true) bs.length)))) := by
  intro d
  induction d with
  | zero =>
    intro i j o ρ hd hij hj hlo hhi h0 h1 h2 h8 h9 h10
    have : i = j := by omega
    subst this
    refine ⟨i, ⟨hj, hlo, hhi⟩, ?_⟩
    rw [R_loop' (bsL.eq_1 sz true)]
    have e1 : ((i : Int) < (L.length : Int)) = (i < L.length) := by rw [eq_iff_iff]; omega
    by_cases c : i < L.length
    · obtain ⟨g1, g2⟩ := h.el i _ (List.getElem?_eq_getElem c)
      have g3 := h.cmp i _ (List.getElem?_eq_getElem c)
      have htk : (L[i]).take sz = L[i] := List.take_of_length_le (by omega)
      have hL : L[i]? = some L[i] := List.getElem?_eq_getElem c
      generalize L[i] = e at *
      have hck := h.ck
      simp [-getElem?_pos, -List.all_eq_true, bsR, h0, h1, h2, h8, h9, h10, e1, c, hL, g1, g2, htk, g3, h.ts, h.tk, hck, bsF_res, bsF_keep]
    · simp [bsR, h0, h1, h2, h8, h9, h10, e1, c, h.ts, h.tk, bsF_res, bsF_keep]
  | succ d IH =>
    intro i j o ρ hd hij hj hlo hhi h0 h1 h2 h8 h9 h10
    by_cases hlt : i < j
    · have hL := h.len
      have hm : (i + j) / 2 < L.length := by omega
      have hw := half64 (i := i) (j := j) (by omega)
      obtain ⟨g1, g2⟩ := h.el _ _ (List.getElem?_eq_getElem hm)
      have g3 := h.cmp _ _ (List.getElem?_eq_getElem hm)
      have htk : (L[(i + j) / 2]).take sz = L[(i + j) / 2] := List.take_of_length_le (by omega)
      have hLg : L[(i + j) / 2]? = some L[(i + j) / 2] := List.getElem?_eq_getElem hm
      have hck := h.ck
      have hltI : (i : Int) < (j : Int) := by omega
      have hb1 : i ≤ (i + j) / 2 := by omega
      have hb2 : (i + j) / 2 < j := by omega
      generalize hmm : (i + j) / 2 = m at *
      generalize L[m] = e at *
      have hw1 : IntKind.i64.wrap ((m : Int) + 1) = ((m + 1 : Nat) : Int) := by rw [wrap64 (by omega) (by omega)]; omega
      by_cases c : cmp m < 0
      · rw [R_loop' (bsL.eq_1 sz true)]
        simp [-getElem?_pos, -List.all_eq_true, h0, h1, h2, h8, h9, h10, hltI, hw, hw1, hLg, g1, g2, htk, g3, h.ts, h.tk, hck, c]
        apply IH (m + 1) j o <;> first | omega | exact hhi | (intro k hk; exact h.mono k m (by omega) (by omega) c) | simp [h0, h1, h2, h8, h10]
      · rw [R_loop' (bsL.eq_1 sz true)]
        simp [-getElem?_pos, -List.all_eq_true, h0, h1, h2, h8, h9, h10, hltI, hw, hw1, hLg, g1, g2, htk, g3, h.ts, h.tk, hck, c]
        apply IH i m o <;> first | omega | exact hlo | (intro k hk hk2 hk3; exact c (h.mono m k hk hk2 hk3)) | simp [h0, h1, h2, h8, h9]
    · exact IH i j o ρ (by omega) hij hj hlo hhi h0 h1 h2 h8 h9 h10

theorem bs_call {f : Nat} (hf : T f = some (.code (bsF sz true))) (o : Bool) (h : BsIn T sz L tgt g caps cmp bs) : BsOk L.length cmp bs (call T f [.sl o sz L, tgt, .fn g caps] bs) := by
  rw [call_code hf _ _ rfl]
  simp [bsF_body, bsB, h.ts, h.tk]
  apply bs_loop h L.length 0 L.length false <;> first | omega | (simp [h.ts]; done) | (intro k h1; omega) | (intro k h1 h2; omega)
end
end Go.Am

namespace Go.Am
set_option maxRecDepth 8000

/-- A used number in its place. -/
def insU (x : Us) : List Us → List Us
  | [] => [x]
  | u :: r => if x.n < u.n then x :: u :: r else u :: insU x r
theorem insU_len (x : Us) : ∀ us, (insU x us).length = us.length + 1
  | [] => rfl
  | u :: r => by simp only [insU]; split <;> simp [insU_len x r]
theorem insU_eq (x : Us) : ∀ (us : List Us) (k : Nat), k ≤ us.length → (∀ (i : Nat) (u : Us), i < k → us[i]? = some u → u.n < x.n) → (∀ (i : Nat) (u : Us), k ≤ i → us[i]? = some u → x.n < u.n) →
    us.take k ++ x :: us.drop k = insU x us
  | [], k, h, _, _ => by simp at h; subst h; rfl
  | u :: r, 0, _, _, h2 => by simp [insU, h2 0 u (by omega) rfl]
  | u :: r, k + 1, h, h1, h2 => by
    have := h1 0 u (by omega) rfl
    have ih := insU_eq x r k (by simpa using h) (fun i v hi hv => h1 (i + 1) v (by omega) (by simpa using hv)) (fun i v hi hv => h2 (i + 1) v (by omega) (by simpa using hv))
    rw [insU, if_neg (by omega), ← ih]
    simp

def hasN (n : Int) (us : List Us) : Bool := us.any fun u => decide (u.n = n)

/-- The end of Resume. -/
def resF (s : Srv) (now : Int) (ky : Tm) (n ex : Int) : Srv × Tm × Int :=
  if hasN n s.used = true then (zeroS, zeroT, 21) else if s.used.length = 200 then (zeroS, zeroT, 3) else ({ s with used := insU ⟨n, ex⟩ s.used, now := now }, ky, 0)
/-- Resume. -/
def resumeS (s : Srv) (t : Tm) (now : Int) : Srv × Tm × Int :=
  if callS s now ≠ 0 then (zeroS, zeroT, callS s now) else match (readS s t).1 with
    | none => (zeroS, zeroT, (readS s t).2)
    | some (_, ky, n, ex) => if s.next ≤ n then (zeroS, zeroT, 22) else if ex < now then (zeroS, zeroT, 20) else resF s now ky n ex

theorem readS_iff {s : Srv} {t : Tm} : (readS s t).1 = none ↔ (readS s t).2 ≠ 0 := by
  unfold readS
  split
  · simp
  · split
    · simp
    · split <;> simp

-- the reference
def rfin (s : Srv) (now : Int) (ky : Tm) (b : Bool) (l : List Us) : AV :=
  if b = true then .tup [.agg (encS zeroS), .agg (encT zeroT), .int .i64 21] else
    if 200 < l.length then .tup [.agg (encS zeroS), .agg (encT zeroT), .int .i64 3] else .tup [.agg (encS { s with used := l, now := now }), .agg (encT ky), .int .i64 0]

set_option maxHeartbeats 2000000 in
theorem RResume_loop (s : Srv) (now : Int) (bs : List (List AV)) (a : List UInt8) (ky : Tm) (n ex : Int) (hul : s.used.length < 1000000) :
    ∀ (post pre acc : List Us) (dn : Bool) (ρ : Nat → AV), s.used = pre ++ post → acc.length ≤ pre.length + (if dn then 1 else 0) → ρ 2 = .int .i64 now → ρ 3 = .bx (encS s) → ρ 6 = .bx [.str [], .int .i64 0, .sl true 6 [], .int .i64 0, .sl true 2 [], .int .i64 0, .int .i64 0] → ρ 7 = .bx [.int .i64 0, .str [], .int .i64 0, .sl true 4 []] →
      ρ 10 = .bx (encQ (some (a, ky, n, ex))) → ρ 12 = .sl true 2 (acc.map encU) → ρ 13 = .bool dn → ρ 14 = .int .i64 pre.length →
    R F.tb (.loop F.sealringref54_Resume_l0) ρ bs (blockK 0 (seqK F.tb F.sealringref54_Resume_r0 (finK F.sealringref54_Resume bs.length))) =
      some (rfin s now ky (hasN n post) (acc ++ (if dn then post else insU ⟨n, ex⟩ post)), bs) := by
  intro post
  induction post with
  | nil =>
    intro pre acc dn ρ hk hacc h2 h3 h6 h7 h10 h12 h13 h14
    rw [R_loop' F.sealringref54_Resume_l0.eq_1]
    simp at hk
    rw [← hk] at h14
    have hap : (acc.length + 1) * 16 ≤ 140737488355328 := by rw [hk] at hul; split at hacc <;> omega
    have hsn : hasN n [] = false := rfl
    rw [hsn]
    have hacc2 : acc.length ≤ pre.length + 1 := by split at hacc <;> omega
    have e1 : ((200 : Int) < (acc.length : Int)) = (200 < acc.length) := by rw [eq_iff_iff]; omega
    have e2 : ((200 : Int) < (acc.length : Int) + 1) = (200 < acc.length + 1) := by rw [eq_iff_iff]; omega
    cases dn
    · by_cases c : 200 < acc.length + 1 <;>
      simp [h2, h3, h6, h7, h10, h12, h13, h14, rfin, encS, encQ, encT_eq ky, zeroT, encT, zeroS, hap, insU, encU, encTs, gpfreeE_append, gpfreeE, gpfreeL, AV.gpfree, e2, c, F.sealringref54_Resume_r0, F.sealringref54_Resume_res, F.sealringref54_Resume_keep]
    · by_cases c : 200 < acc.length <;>
      simp [h2, h3, h6, h7, h10, h12, h13, h14, rfin, encS, encQ, encT_eq ky, zeroT, encT, zeroS, encTs, e1, c, F.sealringref54_Resume_r0, F.sealringref54_Resume_res, F.sealringref54_Resume_keep]
  | cons x post IH =>
    intro pre acc dn ρ hk hacc h2 h3 h6 h7 h10 h12 h13 h14
    obtain ⟨hg, hw, hlt, hx⟩ := at_pre hk (by omega)
    have hl : s.used.length = pre.length + (post.length + 1) := by rw [hk]; simp
    have hacc2 : acc.length ≤ pre.length + 1 := by split at hacc <;> omega
    have hap : (acc.length + 1) * 16 ≤ 140737488355328 := by omega
    have hap2 : (acc.length + 1 + 1) * 16 ≤ 140737488355328 := by omega
    by_cases c : x.n = n
    · have hsn : hasN n (x :: post) = true := by simp [hasN, c]
      rw [hsn, R_loop' F.sealringref54_Resume_l0.eq_1]
      simp [h2, h3, h6, h7, h10, h12, h13, h14, hg, hw, hlt, encS, encU, encQ, encT_eq ky, c, rfin, zeroT, encT, zeroS, F.sealringref54_Resume_res, F.sealringref54_Resume_keep, encTs]
    · have hsn : hasN n (x :: post) = hasN n post := by simp [hasN, c]
      rw [hsn, R_loop' F.sealringref54_Resume_l0.eq_1]
      cases dn
      · by_cases c2 : n < x.n
        · have hi : insU ⟨n, ex⟩ (x :: post) = ⟨n, ex⟩ :: x :: post := by simp [insU, c2]
          simp [h2, h3, h6, h7, h10, h12, h13, h14, hg, hw, hlt, encS, encU, encQ, encT_eq ky, c, c2, hap, hap2]
          refine (IH (pre ++ [x]) (acc ++ [⟨n, ex⟩] ++ [x]) true _ (by simp [hk]) (by simp at hacc ⊢; omega) ?_ ?_ ?_ ?_ ?_ ?_ ?_ ?_).trans ?_ <;> first | (simp [h2, h3, h6, h7, h10, encS, encU, encQ, encT_eq ky]; done) | skip
          rw [hi]; simp
        · have hi : insU ⟨n, ex⟩ (x :: post) = x :: insU ⟨n, ex⟩ post := by simp [insU, c2]
          simp [h2, h3, h6, h7, h10, h12, h13, h14, hg, hw, hlt, encS, encU, encQ, encT_eq ky, c, c2, hap, hap2]
          refine (IH (pre ++ [x]) (acc ++ [x]) false _ (by simp [hk]) (by simp at hacc ⊢; omega) ?_ ?_ ?_ ?_ ?_ ?_ ?_ ?_).trans ?_ <;> first | (simp [h2, h3, h6, h7, h10, h13, encS, encU, encQ, encT_eq ky]; done) | skip
          rw [hi]; simp
      · simp [h2, h3, h6, h7, h10, h12, h13, h14, hg, hw, hlt, encS, encU, encQ, encT_eq ky, c, hap, hap2]
        refine (IH (pre ++ [x]) (acc ++ [x]) true _ (by simp [hk]) (by simp at hacc ⊢; omega) ?_ ?_ ?_ ?_ ?_ ?_ ?_ ?_).trans ?_ <;> first | (simp [h2, h3, h6, h7, h10, h13, encS, encU, encQ, encT_eq ky]; done) | skip
end Go.Am

namespace Go.Am
set_option maxRecDepth 8000

theorem call_RResume (s : Srv) (t : Tm) (now : Int) (bs : List (List AV)) (hn : s.name.length < 1000000) (hul : s.used.length < 1000000) (hkl : s.keys.length < 1000000) (hm : ∀ k ∈ s.keys, k.key.mass < big) (ht : t.mass < 1000000) :
    call F.tb 124 [.agg (encS s), .agg (encT t), .int .i64 now] bs = some (.tup [.agg (encS (resumeS s t now).1), .agg (encT (resumeS s t now).2.1), .int .i64 (resumeS s t now).2.2], bs) := by
  have h1 := call_Rcalled s now bs hn (by omega) hm (by omega)
  have h2 := call_RRead s t bs hn (by omega) (by omega) hm ht
  have hl := fun a ky n ex => RResume_loop s now bs a ky n ex hul s.used [] [] false
  rw [call_code F.tb_124 _ _ rfl]
  unfold encS at h1 h2
  by_cases c1 : callS s now = 0
  · rw [c1] at h1
    have hr0 := readS_iff (s := s) (t := t)
    unfold resumeS
    rw [if_neg (by simp [c1])]
    cases hr : (readS s t).1 with
    | none =>
      have hne := hr0.1 hr
      rw [hr] at h2
      simp [F.sealringref54_Resume_body, F.sealringref54_Resume_b, F.sealringref54_Resume_res, F.sealringref54_Resume_keep, encS, h1, h2, hne, encQ, zeroS, zeroT, encT, encTs]
    | some q =>
      obtain ⟨a, ky, n, ex⟩ := q
      have he : (readS s t).2 = 0 := by
        rcases Decidable.em ((readS s t).2 = 0) with h | h
        · exact h
        · have := hr0.2 h; rw [hr] at this; cases this
      rw [hr, he] at h2
      have hl := hl a ky n ex
      have e4 := encT_eq ky
      simp only [encQ, List.cons_append] at h2 hl
      simp only
      by_cases c2 : s.next ≤ n
      · rw [if_pos c2]
        simp [F.sealringref54_Resume_body, F.sealringref54_Resume_b, F.sealringref54_Resume_res, F.sealringref54_Resume_keep, encS, h1, h2, e4, c2, zeroS, zeroT, encT, encTs]
      · rw [if_neg c2]
        by_cases c3 : ex < now
        · rw [if_pos c3]
          simp [F.sealringref54_Resume_body, F.sealringref54_Resume_b, F.sealringref54_Resume_res, F.sealringref54_Resume_keep, encS, h1, h2, e4, c2, c3, zeroS, zeroT, encT, encTs]
        · rw [if_neg c3]
          have hvl : s.used.length ≤ 200 := (callS0 c1).1.ul
          have hil := insU_len ⟨n, ex⟩ s.used
          have hres : rfin s now ky (hasN n s.used) ([] ++ (if false = true then s.used else insU ⟨n, ex⟩ s.used)) = .tup [.agg (encS (resF s now ky n ex).1), .agg (encT (resF s now ky n ex).2.1), .int .i64 (resF s now ky n ex).2.2] := by
            unfold rfin resF
            cases hasN n s.used
            · by_cases c5 : s.used.length = 200
              · simp [c5, hil]
              · have : ¬ 200 < s.used.length + 1 := by omega
                simp [c5, hil, this]
            · simp
          rw [← hres]
          have h2' : call F.tb 125 [.agg (encS s), .agg (encT t)] bs = _ := h2
          have h1' : call F.tb 116 [.agg (encS s), .int .i64 now] bs = _ := h1
          generalize rfin s now ky (hasN n s.used) ([] ++ (if false = true then s.used else insU ⟨n, ex⟩ s.used)) = RR at *
          clear hres h1 h2
          simp [F.sealringref54_Resume_body, F.sealringref54_Resume_b, encS, e4, c2, c3] at h1' h2' ⊢
          simp [h1', h2', c2, c3]
          apply hl <;> simp [e4, encS]
  · unfold resumeS
    rw [if_pos c1]
    simp [F.sealringref54_Resume_body, F.sealringref54_Resume_b, F.sealringref54_Resume_res, F.sealringref54_Resume_keep, encS, h1, c1, zeroS, zeroT, encT, encTs]
end Go.Am

namespace Go.Am
set_option maxRecDepth 8000

theorem usLP_mem {next : Int} : ∀ {us : List Us} {pv : Option Us}, usLP next pv us = true → (∀ u ∈ us, 0 ≤ u.n ∧ u.n < next ∧ 0 ≤ u.e) ∧ us.Pairwise (fun a b => a.n < b.n) ∧ ∀ p, pv = some p → ∀ u ∈ us, p.n < u.n
  | [], _, _ => by simp
  | x :: us, pv, h => by
    simp only [usLP, usP, Bool.and_eq_true, Bool.not_eq_true', decide_eq_false_iff_not] at h
    obtain ⟨⟨⟨⟨h1, h2⟩, h3⟩, h4⟩, h5⟩ := h
    obtain ⟨i1, i2, i3⟩ := usLP_mem h5
    refine ⟨fun u hu => ?_, List.pairwise_cons.2 ⟨fun u hu => i3 x rfl u hu, i2⟩, fun p hp u hu => ?_⟩
    · rcases List.mem_cons.1 hu with rfl | hu
      · omega
      · exact i1 u hu
    · subst hp
      simp at h4
      rcases List.mem_cons.1 hu with rfl | hu
      · omega
      · have := i3 x rfl u hu; omega

theorem call_c84 (u : Us) (n : Int) (bs : List (List AV)) (h : -4611686018427387904 ≤ u.n - n ∧ u.n - n < 4611686018427387904) : call F.tb 84 [.agg (encU u), .int .i64 n] bs = some (.int .i64 (u.n - n), bs) := by
  rw [call_code F.tb_84 _ _ rfl]
  have hw : IntKind.i64.wrap (u.n - n) = u.n - n := wrap64 (by omega) (by omega)
  simp [F.ticket_place_c1, F.ticket_place_c1_b, encU, hw]

/-- Where a number is, or would be. -/
structure PlaceAt (us : List Us) (n : Int) (k : Nat) : Prop where
  le : k ≤ us.length
  lo : ∀ (i : Nat) (u : Us), i < k → us[i]? = some u → u.n < n
  hi : ∀ (i : Nat) (u : Us), k ≤ i → us[i]? = some u → n ≤ u.n

theorem place_has {us : List Us} {n : Int} {k : Nat} (h : PlaceAt us n k) (hs : us.Pairwise (fun a b => a.n < b.n)) : hasN n us = (decide (k < us.length) && decide (((us[k]?).map fun u => u.n - n).getD 0 = 0)) := by
  rw [Bool.eq_iff_iff]
  simp only [hasN, List.any_eq_true, decide_eq_true_eq, Bool.and_eq_true]
  constructor
  · rintro ⟨u, hu, hn⟩
    obtain ⟨i, hi⟩ := List.getElem?_of_mem hu
    have hik : k ≤ i := by
      rcases Nat.lt_or_ge i k with h1 | h1
      · have := h.lo i u h1 hi; omega
      · exact h1
    have hil : i < us.length := by
      rcases Nat.lt_or_ge i us.length with h1 | h1
      · exact h1
      · rw [List.getElem?_eq_none h1] at hi; cases hi
    have hkl : k < us.length := by omega
    refine ⟨hkl, ?_⟩
    rw [List.getElem?_eq_getElem hkl]
    simp only [Option.map_some, Option.getD_some]
    have h2 := h.hi k _ (Nat.le_refl k) (List.getElem?_eq_getElem hkl)
    rcases Nat.eq_or_lt_of_le hik with e | e
    · subst e
      rw [List.getElem?_eq_getElem hkl] at hi
      injection hi with hi
      rw [hi]; omega
    · have h3 := List.pairwise_iff_getElem.1 hs k i hkl hil e
      rw [List.getElem?_eq_getElem hil] at hi
      injection hi with hi
      rw [hi] at h3
      omega
  · rintro ⟨hkl, h2⟩
    rw [List.getElem?_eq_getElem hkl] at h2
    simp only [Option.map_some, Option.getD_some] at h2
    exact ⟨us[k], List.getElem_mem hkl, by omega⟩

theorem call_place (s : Srv) (n : Int) (bs : List (List AV)) (hs : s.used.Pairwise (fun a b => a.n < b.n)) (hb : ∀ u ∈ s.used, -4611686018427387904 ≤ u.n - n ∧ u.n - n < 4611686018427387904) (hl : s.used.length < 1000000) :
    ∃ k : Nat, PlaceAt s.used n k ∧ call F.tb 83 [.agg (encS s), .int .i64 n] bs = some (.tup [.int .i64 k, .bool (hasN n s.used)], bs) := by
  have hin : BsIn F.tb 2 (s.used.map encU) (.int .i64 n) 84 [] (fun i => ((s.used[i]?).map fun u => u.n - n).getD 0) bs := by
    refine ⟨by simp; omega, fun i e he => ?_, fun i e he => ?_, fun i j hij hj hc => ?_, rfl, rfl, rfl⟩
    · rw [List.getElem?_map] at he
      cases hu : s.used[i]? with
      | none => rw [hu] at he; cases he
      | some u => rw [hu] at he; injection he with he; subst he; exact ⟨rfl, by simp [encU]⟩
    · rw [List.getElem?_map] at he
      cases hu : s.used[i]? with
      | none => rw [hu] at he; cases he
      | some u =>
        rw [hu] at he; injection he with he; subst he
        simp only [Option.map_some, Option.getD_some]
        exact call_c84 u n bs (hb u (List.mem_of_getElem? hu))
    · rw [List.length_map] at hj
      have hi : i < s.used.length := by omega
      simp only [List.getElem?_eq_getElem hj, Option.map_some, Option.getD_some] at hc
      simp only [List.getElem?_eq_getElem hi, Option.map_some, Option.getD_some]
      rcases Nat.eq_or_lt_of_le hij with e | e
      · subst e; exact hc
      · have := List.pairwise_iff_getElem.1 hs i j hi hj e; omega
  have hf : F.tb 85 = some (.code (bsF 2 true)) := F.tb_85
  obtain ⟨k, ⟨h1, h2, h3⟩, h4⟩ := bs_call hf false hin
  rw [List.length_map] at h1 h3 h4
  have hp : PlaceAt s.used n k := by
    refine ⟨h1, fun i u hi hu => ?_, fun i u hi hu => ?_⟩
    · have := h2 i hi; simp only [hu, Option.map_some, Option.getD_some] at this; omega
    · have hil : i < s.used.length := by
        rcases Nat.lt_or_ge i s.used.length with h | h
        · exact h
        · rw [List.getElem?_eq_none h] at hu; cases hu
      have := h3 i hi hil; simp only [hu, Option.map_some, Option.getD_some] at this; omega
  refine ⟨k, hp, ?_⟩
  rw [← place_has hp hs] at h4
  rw [call_code F.tb_83 _ _ rfl]
  simp [F.ticket_place, F.ticket_place_b, encS, h4]

def acceptE (s : Srv) (n ex now : Int) : Int := if s.next ≤ n then 22 else if ex < now then 20 else if hasN n s.used = true then 21 else if s.used.length = 200 then 3 else 0

theorem call_accept (s : Srv) (a : List UInt8) (ky : Tm) (n ex now : Int) (bs : List (List AV)) (hs : s.used.Pairwise (fun a b => a.n < b.n)) (hb : ∀ u ∈ s.used, -4611686018427387904 ≤ u.n - n ∧ u.n - n < 4611686018427387904) (hl : s.used.length < 1000000) :
    call F.tb 82 [.agg (encS s), .agg (encQ (some (a, ky, n, ex))), .int .i64 now] bs = some (.int .i64 (acceptE s n ex now), bs) := by
  obtain ⟨k, _, h1⟩ := call_place s n bs hs hb hl
  rw [call_code F.tb_82 _ _ rfl]
  unfold encS at *
  have e1 : ((s.used.length : Int) = 200) = (s.used.length = 200) := by rw [eq_iff_iff]; omega
  have e4 := encT_eq ky
  unfold acceptE
  by_cases c2 : s.next ≤ n <;> by_cases c3 : ex < now <;> rcases Bool.eq_false_or_eq_true (hasN n s.used) with c4 | c4 <;> rw [c4] at h1 <;> by_cases c5 : s.used.length = 200 <;>
    simp [F.ticket_accept_body, F.ticket_accept_b, F.ticket_accept_res, F.ticket_accept_keep, encQ, e4, h1, c2, c3, c4, c5, e1]

theorem call_copiedu (s : Srv) (now : Int) (bs : List (List AV)) (h : s.cl) (hu : s.used ≠ []) : call F.tb 86 [.agg (encS s), .int .i64 now] bs =
    some (.agg [.str s.name, .int .i64 s.epoch, .sl false 6 (s.keys.map encE), .int .i64 s.next, .gs bs.length 0 2 s.used.length, .int .i64 s.window, .int .i64 now], bs ++ [flatU s.used]) := by
  rw [call_code F.tb_86 _ _ rfl]
  have h1 := fun o bs => call_cl51 o s.keys bs h.k
  have h2 := fun o bs => call_cl87 o s.used bs h.u hu
  simp [F.ticket_copied_u, F.ticket_copied_u_b, encS, h1, h2]
theorem call_copiedu0 (s : Srv) (now : Int) (bs : List (List AV)) (h : s.cl) (hu : s.used = []) : call F.tb 86 [.agg (encS s), .int .i64 now] bs =
    some (.agg [.str s.name, .int .i64 s.epoch, .sl false 6 (s.keys.map encE), .int .i64 s.next, .gs 0 0 0 0, .int .i64 s.window, .int .i64 now], bs) := by
  rw [call_code F.tb_86 _ _ rfl]
  have h1 := fun o bs => call_cl51 o s.keys bs h.k
  have h2 := fun o bs => call_cl87n o bs
  simp [F.ticket_copied_u, F.ticket_copied_u_b, encS, h1, h2, hu]

theorem insC_flat (us : List Us) (k : Nat) (x : Us) : insC k 2 us.length (flatU us) [encU x] = flatU (us.take k ++ x :: us.drop k) := by
  have h0 : (flatU us).take (us.length * 2) = flatU us := List.take_of_length_le (by rw [flat_lenU]; exact Nat.le_refl _)
  have h1 : (flatU us).take (k * 2) = flatU (us.take k) := by
    rcases Nat.lt_or_ge us.length k with h | h
    · rw [List.take_of_length_le (l := us) (by omega), List.take_of_length_le (by rw [flat_lenU]; omega)]
    · have := take_flatU (ks := us) (pre := us.take k) (post := us.drop k) (List.take_append_drop k us).symm
      rwa [List.length_take, Nat.min_eq_left h] at this
  have h2 : (flatU us).drop (k * 2) = flatU (us.drop k) := by
    rcases Nat.lt_or_ge us.length k with h | h
    · rw [List.drop_of_length_le (l := us) (by omega), List.drop_of_length_le (by rw [flat_lenU]; omega)]; rfl
    · have := drop_flatU (ks := us) (pre := us.take k) (post := us.drop k) (List.take_append_drop k us).symm
      rwa [List.length_take, Nat.min_eq_left h] at this
  rw [insC, h0, h1, h2, List.map_append, List.map_append, flat_stripU, flat_stripU, flat_appU, flat_consU]
  simp [encU]

theorem call_Ins (us : List Us) (k : Nat) (x : Us) (o : Bool) (id : Nat) (bs : List (List AV)) (hu : us ≠ []) (hid : bs[id]? = some (flatU us)) (hk : k ≤ us.length) (hl : us.length < 1000000) :
    call F.tb 141 [.gs id 0 2 us.length, .int .i64 k, .sl o 2 [encU x]] bs = some (.sl true 2 ((us.take k ++ x :: us.drop k).map encU), bs.set id []) := by
  rw [call_orc F.tb_141]
  have hne : flatU us ≠ [] := fun e => by
    have := flat_lenU us
    rw [e] at this
    exact hu (List.eq_nil_of_length_eq_zero (by simp at this; omega))
  have hlen : (us.take k ++ x :: us.drop k).length = us.length + 1 := by simp; omega
  have c1 : 2 = 2 ∧ 0 < 2 ∧ [encU x] ≠ [] ∧ 0 ≤ (k : Int) ∧ (k : Int) ≤ us.length ∧ (us.length + [encU x].length) * 16 ≤ 140737488355328 ∧ us.length + [encU x].length ≤ 140737488355328 := ⟨rfl, by decide, by simp, by omega, by omega, by simp; omega, by simp; omega⟩
  have c2 : ¬ (2 = 0 ∧ us.length = 0) := by simp
  have c3 : 2 = 2 ∧ 0 = 0 := ⟨rfl, rfl⟩
  have c4 : flatU us ≠ [] ∧ us.length * 2 ≤ (flatU us).length := ⟨hne, by rw [flat_lenU]; exact Nat.le_refl _⟩
  show (if _ then _ else _) = _
  rw [if_pos c1, if_neg c2, if_pos c3, hid]
  simp only [Option.bind_some]
  rw [if_pos c4, Int.toNat_natCast, insC_flat]
  simp only [insR, flat_gpU, if_true, Bool.false_eq_true, if_false, List.length_singleton]
  rw [← hlen, chunks_flat0U]
theorem call_Ins0 (x : Us) (o : Bool) (bs : List (List AV)) : call F.tb 141 [.gs 0 0 0 0, .int .i64 0, .sl o 2 [encU x]] bs = some (.sl true 2 [encU x], bs) := by
  rw [call_orc F.tb_141]
  simp [insO, insR, insC, encU, gpfreeL, AV.gpfree, chunks]
end Go.Am

namespace Go.Am
set_option maxRecDepth 8000

theorem partsQ_bounds {t : Tm} {a : List UInt8} {ky k : Tm} {n ex : Int} (h : partsQ t = some ((a, ky, n, ex), k)) : (0 ≤ n ∧ n ≤ 1000000) ∧ (0 ≤ ex ∧ ex ≤ 1000000) ∧ ky.mass ≤ t.mass ∧ a.length ≤ t.mass := by
  unfold partsQ at h
  split at h
  · split at h
    · rename_i b k2 hk
      split at h
      · rename_i a2 ky2 x y hl
        split at h
        · rename_i hc
          simp only [Option.some.injEq, Prod.mk.injEq] at h
          obtain ⟨⟨rfl, rfl, rfl, rfl⟩, rfl⟩ := h
          have hx := (numB_iff.1 hc.2.1).1
          have hy := (numB_iff.1 hc.2.2).1
          have hb : b.mass ≤ t.mass := by have := mass_eq t; rw [hk] at this; simp only [massL] at this; omega
          have h1 := untL_mass b.nodes b (Nat.le_refl _) ky2 (by rw [hl]; simp)
          have h2 := untL_mass b.nodes b (Nat.le_refl _) a2 (by rw [hl]; simp)
          have h3 := mass_eq a2
          exact ⟨by omega, by omega, by omega, by omega⟩
        · cases h
      · cases h
    · cases h
  · cases h
theorem readS_some {s : Srv} {t : Tm} {a : List UInt8} {ky : Tm} {n ex : Int} (h : (readS s t).1 = some (a, ky, n, ex)) : validS s = true ∧ ∃ k, partsQ t = some ((a, ky, n, ex), k) := by
  unfold readS at h
  split at h
  · cases h
  · rename_i hv
    split at h
    · cases h
    · rename_i q k hp
      split at h
      · injection h with h
        subst h
        exact ⟨by simpa using hv, k, hp⟩
      · cases h

theorem call_tResume (s : Srv) (t : Tm) (now : Int) (bs : List (List AV)) (hn : s.name.length < 1000000) (hcl : s.cl) (hul : s.used.length < 1000000) (hkl : s.keys.length < 1000000) (hm : ∀ k ∈ s.keys, k.key.mass < big) (ht : t.mass < 1000000) :
    call F.tb 67 [.agg (encS s), .agg (encT t), .int .i64 now] bs = some (.tup [.agg (encS (resumeS s t now).1), .agg (encT (resumeS s t now).2.1), .int .i64 (resumeS s t now).2.2], bs) := by
  have h1 := call_tcall s now bs hn (by omega) hm
  have h2 := call_tRead s t bs hn (by omega) (by omega) hm ht
  rw [call_code F.tb_67 _ _ rfl]
  by_cases c1 : callS s now = 0
  · rw [c1] at h1
    have hr0 := readS_iff (s := s) (t := t)
    unfold resumeS
    rw [if_neg (by simp [c1])]
    cases hr : (readS s t).1 with
    | none =>
      have hne := hr0.1 hr
      rw [hr] at h2
      unfold encS at h1 h2
      simp [F.ticket_Resume_body, F.ticket_Resume_b, F.ticket_Resume_res, F.ticket_Resume_keep, encS, h1, h2, hne, encQ, zeroS, zeroT, encT, encTs]
    | some q =>
      obtain ⟨a, ky, n, ex⟩ := q
      have he : (readS s t).2 = 0 := by
        rcases Decidable.em ((readS s t).2 = 0) with h | h
        · exact h
        · have := hr0.2 h; rw [hr] at this; cases this
      rw [hr, he] at h2
      obtain ⟨_, k0, hpq⟩ := readS_some hr
      obtain ⟨hnb, hxb, _, _⟩ := partsQ_bounds hpq
      obtain ⟨hok, hnow⟩ := callS0 c1
      obtain ⟨u1, u2, _⟩ := usLP_mem hok.us
      have hnx := hok.nx
      have hb : ∀ u ∈ s.used, -4611686018427387904 ≤ u.n - n ∧ u.n - n < 4611686018427387904 := fun u hu => by have := u1 u hu; omega
      have h3 := call_accept s a ky n ex now bs u2 hb hul
      have e4 := encT_eq ky
      simp only
      have hacc : ∀ e, e ≠ 0 → acceptE s n ex now = e → R F.tb F.ticket_Resume.body (argEnv [.agg (encS s), .agg (encT t), .int .i64 now]) bs (finK F.ticket_Resume bs.length) = some (.tup [.agg (encS zeroS), .agg (encT zeroT), .int .i64 e], bs) := fun e hne hee => by
        rw [hee] at h3
        unfold encS at h1 h2 h3
        simp only [encQ, List.cons_append, List.nil_append, e4] at h2 h3
        simp [F.ticket_Resume_body, F.ticket_Resume_b, F.ticket_Resume_res, F.ticket_Resume_keep, encS, h1, h2, h3, hne, e4, zeroS, zeroT, encT, encTs]
      by_cases c2 : s.next ≤ n
      · rw [if_pos c2]; exact hacc 22 (by decide) (by simp [acceptE, c2])
      · rw [if_neg c2]
        by_cases c3 : ex < now
        · rw [if_pos c3]; exact hacc 20 (by decide) (by simp [acceptE, c2, c3])
        · rw [if_neg c3]
          unfold resF
          by_cases c4 : hasN n s.used = true
          · rw [if_pos c4]; exact hacc 21 (by decide) (by simp [acceptE, c2, c3, c4])
          · rw [if_neg c4]
            by_cases c5 : s.used.length = 200
            · rw [if_pos c5]; exact hacc 3 (by decide) (by simp [acceptE, c2, c3, c4, c5])
            · rw [if_neg c5]
              have hE : acceptE s n ex now = 0 := by simp [acceptE, c2, c3, c4, c5]
              rw [hE] at h3
              clear hacc hr0
              have hne : ∀ (k : Nat), PlaceAt s.used n k → s.used.take k ++ ⟨n, ex⟩ :: s.used.drop k = insU ⟨n, ex⟩ s.used := fun k hk =>
                insU_eq ⟨n, ex⟩ s.used k hk.le hk.lo (fun i u hi hu => by
                  have := hk.hi i u hi hu
                  have h6 : ¬ u.n = n := fun e => by
                    apply c4
                    simp only [hasN, List.any_eq_true, decide_eq_true_eq]
                    exact ⟨u, List.mem_of_getElem? hu, e⟩
                  show n < u.n
                  omega)
              by_cases hu : s.used = []
              · have h5 := call_copiedu0 s now bs hcl hu
                obtain ⟨k, hk, h6⟩ := call_place s n bs u2 hb hul
                have hk0 : k = 0 := by have := hk.le; rw [hu] at this; simpa using this
                subst hk0
                have h7 := call_Ins0 ⟨n, ex⟩ false bs
                have h8 := hne 0 hk
                rw [← h8]
                unfold encS at h1 h2 h3 h5 h6
                simp only [encQ, List.cons_append, List.nil_append, e4] at h2 h3
                simp only [encU] at h7
                simp only [hu, List.map_nil] at h1 h2 h3 h5 h6
                simp [F.ticket_Resume_body, F.ticket_Resume_b, F.ticket_Resume_res, F.ticket_Resume_keep, encS, h1, h2, h3, h5, h6, h7, e4, hu, encU]
              · have h5 := call_copiedu s now bs hcl hu
                obtain ⟨k, hk, h6⟩ := call_place s n (bs ++ [flatU s.used]) u2 hb hul
                have h7 := call_Ins s.used k ⟨n, ex⟩ false bs.length (bs ++ [flatU s.used]) hu (by simp) hk.le hul
                have htk : List.take bs.length ((bs ++ [flatU s.used]).set bs.length []) = bs := by
                  rw [List.set_append_right _ _ (Nat.le_refl _)]; simp
                rw [hne k hk] at h7
                generalize insU ⟨n, ex⟩ s.used = UU at *
                unfold encS at h1 h2 h3 h5 h6
                simp only [encQ, List.cons_append, List.nil_append, e4] at h2 h3
                simp only [encU] at h7
                have hgu := encU_gp UU
                simp [F.ticket_Resume_body, F.ticket_Resume_b, F.ticket_Resume_res, F.ticket_Resume_keep, encS, h1, h2, h3, h5, h6, h7, e4, encU, htk, hgu]
  · unfold resumeS
    rw [if_pos c1]
    unfold encS at h1 h2
    simp [F.ticket_Resume_body, F.ticket_Resume_b, F.ticket_Resume_res, F.ticket_Resume_keep, encS, h1, c1, zeroS, zeroT, encT, encTs]

-- the law
theorem call_fewT (t : Tm) (o : Bool) (bs : List (List AV)) : call F.tb 101 [.sl o 4 [encT t], .int .i64 1, .int .i64 40] bs = some (.bool (few [t] 1 40), bs) := by
  have := call_few [t] o 1 40 bs (by omega) (by omega) (by omega)
  simpa [encTs] using this

theorem resumeS_small (s : Srv) (t : Tm) (now : Int) (h : small s) (ht : t.mass < 1000000) : small (resumeS s t now).1 ∧ (resumeS s t now).2.1.mass < big := by
  have hz : zeroT.mass < big := by decide
  unfold resumeS
  split
  · exact ⟨small_zero, hz⟩
  · rename_i c1
    split
    · exact ⟨small_zero, hz⟩
    · rename_i q a ky n ex hr
      split
      · exact ⟨small_zero, hz⟩
      · split
        · exact ⟨small_zero, hz⟩
        · unfold resF
          split
          · exact ⟨small_zero, hz⟩
          · split
            · exact ⟨small_zero, hz⟩
            · obtain ⟨_, k0, hpq⟩ := readS_some hr
              obtain ⟨_, _, h3, _⟩ := partsQ_bounds hpq
              have c1 := Decidable.not_not.1 c1
              have := (callS0 c1).1.ul
              refine ⟨⟨by simp only [insU_len]; omega, h.2.1, h.2.2⟩, by simp only; unfold big; omega⟩

theorem law_TicketResume (s : Srv) (t : Tm) (now : Int) (hr : s.room) :
    call F.tb 123 [.agg (encS s), .agg (encT t), .int .i64 now] [] = some (.bool true, []) := by
  rw [call_code F.tb_123 _ _ rfl]
  have hf := call_sFew s [] hr.k hr.n hr.u
  have hf2 := fun o => call_fewT t o []
  cases c1 : fewS s
  · rw [c1] at hf
    unfold encS at *
    simp [F.sealringlaw54_TicketResume_body, F.sealringlaw54_TicketResume_b, F.sealringlaw54_TicketResume_res, F.sealringlaw54_TicketResume_keep, call_awake, hf]
  rw [c1] at hf
  cases c2 : few [t] 1 40
  · rw [c2] at hf2
    unfold encS at *
    simp [F.sealringlaw54_TicketResume_body, F.sealringlaw54_TicketResume_b, F.sealringlaw54_TicketResume_res, F.sealringlaw54_TicketResume_keep, call_awake, hf, hf2]
  rw [c2] at hf2
  obtain ⟨f1, f2, f3, f4⟩ := fewS_spec c1
  obtain ⟨_, f5, _⟩ := few_mass (by omega) c2
  simp only [massL, List.length_singleton] at f5
  have ht : t.mass < 1000000 := by omega
  have hm : ∀ k ∈ s.keys, k.key.mass < big := fun k hk => by have := massL_keys hk; unfold big; omega
  have hcl : s.cl := ⟨hr.k, by omega⟩
  have hsm : small s := ⟨by omega, by omega, hm⟩
  have g0 := call_own s [] hcl
  have g1 := call_tResume s t now [] (by omega) hcl (by omega) (by omega) hm ht
  have g2 := call_RResume s t now [] (by omega) (by omega) (by omega) hm ht
  have g3 := call_tRead s t [] (by omega) (by omega) (by omega) hm ht
  have g4 := call_RRead s t [] (by omega) (by omega) (by omega) hm ht
  obtain ⟨k1, k2⟩ := resumeS_small s t now hsm ht
  have g5 := small_sSame _ k1 []
  have g6 := tm_Same _ k2 []
  have g7 : ∀ a ky n ex, (readS s t).1 = some (a, ky, n, ex) → call F.tb 89 [.agg (encT ky), .agg (encT ky)] [] = some (.bool true, []) := fun a ky n ex h => by
    obtain ⟨_, k0, hpq⟩ := readS_some h
    obtain ⟨_, _, h3, _⟩ := partsQ_bounds hpq
    exact tm_Same ky (by unfold big; omega) []
  have g8 := tm_Same zeroT (by decide) []
  generalize resumeS s t now = v at *
  cases hrd : (readS s t).1 with
  | none =>
    rw [hrd] at g3 g4
    simp only [encQ, zeroT, encT, encTs] at g3 g4 g8
    unfold encS at *
    simp [F.sealringlaw54_TicketResume_body, F.sealringlaw54_TicketResume_b, F.sealringlaw54_TicketResume_res, F.sealringlaw54_TicketResume_keep, call_awake, hf, hf2, g0, g1, g2, g3, g4, g5, g6, g8]
  | some q =>
    obtain ⟨a, ky, n, ex⟩ := q
    have g7 := g7 a ky n ex hrd
    rw [hrd] at g3 g4
    have e4 := encT_eq ky
    simp only [encQ, e4, List.cons_append, List.nil_append] at g3 g4 g7
    unfold encS at *
    simp [F.sealringlaw54_TicketResume_body, F.sealringlaw54_TicketResume_b, F.sealringlaw54_TicketResume_res, F.sealringlaw54_TicketResume_keep, call_awake, hf, hf2, g0, g1, g2, g3, g4, g5, g6, g7]
end Go.Am
