/-
  Rc20, Rc21, Rc22, Rc23, Rc24.
-/
import Derived.Test.YteahheknpdcoeaaGreatDoorG21
set_option linter.unusedVariables false
set_option linter.unusedSimpArgs false
namespace Go.Am
set_option maxRecDepth 8000
theorem encPs_nil : encPs [] = [] := rfl
def addAllP (a : List Pw) : List Pw → List Pw
 | [] => a
 | q :: b => addAllP (addP a q.1 q.2) b
def rangeP (l : List Pw) : Int := if l.any (fun q => outN q.2) then 7 else if 200 < l.length then 3 else 0
def mulE (a b : List Pw) : Int := if validP a ≠ 0 then validP a else if validP b ≠ 0 then validP b else rangeP (addAllP a b)
def mulP (a b : List Pw) : List Pw := if mulE a b = 0 then addAllP a b else []
theorem range_loop (l : List Pw) (bs : List (List AV)) (hl : l.length < 100000000) :
  ∀ (post pre : List Pw) (o : Bool) (ρ : Nat → AV), l = pre ++ post → pre.any (fun q => outN q.2) = false → ρ 0 = .sl o 5 (encPs l) → ρ 3 = .int .i64 pre.length →
  R F.tb (.loop F.f263l0) ρ bs (blockK 0 (seqK F.tb F.f263r0 (finK F.f263 bs))) = some (.int .i64 (rangeP l), bs) := by
 intro post
 induction post with
 | nil =>
  intro pre o ρ hk hp h0 h3
  simp only [List.append_nil] at hk
  rw [← hk] at h3 hp
  rw [R_loop' F.f263l0.eq_1]
  by_cases c : 200 < l.length
  ·have c' : (200 : Int) < (l.length : Int) := by omega
   simp [h0, h3, F.f263r0, F.f263R, F.f263K, rangeP, hp, c, c', -List.any_eq_false, -List.any_eq_true]
  ·have c' : ¬ (200 : Int) < (l.length : Int) := by omega
   simp [h0, h3, F.f263r0, F.f263R, F.f263K, rangeP, hp, c, c', -List.any_eq_false, -List.any_eq_true]
 | cons p post IH =>
  intro pre o ρ hk hp h0 h3
  have hg := get_pre hk
  have hll : l.length = pre.length + (post.length + 1) := by rw [hk]; simp
  have hw1 : IntKind.i64.wrap ((pre.length : Int) + 1) = (pre.length : Int) + 1 := wrap64 (by omega) (by omega)
  have hlt : (pre.length : Int) < (l.length : Int) := by omega
  have hany : outN p.2 = true → rangeP l = 7 := by
   intro h
   have : l.any (fun q => outN q.2) = true := List.any_eq_true.2 ⟨p, by rw [hk]; simp, h⟩
   simp only [rangeP, this, if_true]
  rw [R_loop' F.f263l0.eq_1]
  by_cases c4 : p.2 < -1000
  ·rw [hany (by simp [outN, c4])]
   simp [h0, h3, hg, hlt, c4, F.f263R, F.f263K]
  ·by_cases c5 : 1000 < p.2
   ·rw [hany (by simp [outN, c5])]
    simp [h0, h3, hg, hlt, c4, c5, F.f263R, F.f263K]
   ·have ih := fun ρ => IH (pre ++ [p]) o ρ (by rw [hk]; simp) (by rw [List.any_append, hp]; simp [outN, c4, c5])
    simp [h0, h3, hg, hlt, hw1, c4, c5]
    apply ih <;> simp [h0]
theorem call263 (l : List Pw) (o : Bool) (bs : List (List AV)) (hl : l.length < 100000000) : call F.tb 263 [.sl o 5 (encPs l)] bs = some (.int .i64 (rangeP l), bs) := by
 have h := fun ρ => range_loop l bs hl l [] false ρ rfl rfl
 rw [call_code F.tb_263 _ _ rfl]
 simp [F.f263B, F.f263C]
 apply h <;> simp
theorem Rmul_loop (b : List Pw) (bs : List (List AV)) (hb : b.length ≤ 200) (hbm : ∀ q ∈ b, q.1.mass < big ∧ q.2 ≠ 0 ∧ -1000 ≤ q.2 ∧ q.2 ≤ 1000) (X : List Pw) :
  ∀ (post pre : List Pw) (acc : List Pw) (n : Nat) (o o2 : Bool) (ρ : Nat → AV), b = pre ++ post → PInv acc n → n + 1000 * post.length < 40000000 → addAllP acc post = X → ρ 1 = .sl o 5 (encPs b) → ρ 8 = .sl o2 5 (encPs acc) → ρ 9 = .int .i64 pre.length →
  R F.tb (.loop F.f262l0) ρ bs (blockK 0 (seqK F.tb F.f262r0 (finK F.f262 bs))) = some (.tup [.sl false 5 (encPs (if rangeP X = 0 then X else [])), .int .i64 (rangeP X)], bs) := by
 intro post
 induction post with
 | nil =>
  intro pre acc n o o2 ρ hk ha hn hX h1 h8 h9
  simp only [List.append_nil] at hk
  rw [← hk] at h9
  simp only [addAllP] at hX
  subst hX
  have hal := ha.len
  have hr := call263 acc false bs (by simp at hn; omega)
  rw [R_loop' F.f262l0.eq_1]
  by_cases c : rangeP acc = 0
  ·simp [h1, h8, h9, F.f262r0, hr, c, F.f262R, F.f262K]
  ·simp [h1, h8, h9, F.f262r0, hr, c, F.f262R, F.f262K, encPs_nil]
 | cons p post IH =>
  intro pre acc n o o2 ρ hk ha hn hX h1 h8 h9
  have hg := get_pre hk
  have hll : b.length = pre.length + (post.length + 1) := by rw [hk]; simp
  have hw1 : IntKind.i64.wrap ((pre.length : Int) + 1) = (pre.length : Int) + 1 := wrap64 (by omega) (by omega)
  have hlt : (pre.length : Int) < (b.length : Int) := by omega
  obtain ⟨q1, q2, q3, q4⟩ := hbm p (by rw [hk]; simp)
  simp only [List.length_cons] at hn
  have hc := call257 (m := p.2) false bs ha (by omega) q1 (by omega)
  have ih := fun ρ => IH (pre ++ [p]) (addP acc p.1 p.2) (n + 1000) o false ρ (by rw [hk]; simp) (ha.add (c := 1000) q1 q2 (by omega) (by omega)) (by omega) (by rw [← hX]; rfl)
  rw [R_loop' F.f262l0.eq_1]
  simp [h1, h8, h9, hg, hlt, hw1, hc]
  apply ih <;> simp [h1]
theorem call262 (a b : List Pw) (o o2 : Bool) (bs : List (List AV)) (ha : a.length < 100000000) (hb : b.length < 100000000) (hma : ∀ q ∈ a, q.1.mass < big) (hmb : ∀ q ∈ b, q.1.mass < big) :
  call F.tb 262 [.sl o 5 (encPs a), .sl o2 5 (encPs b)] bs = some (.tup [.sl false 5 (encPs (mulP a b)), .int .i64 (mulE a b)], bs) := by
 have h1 := call259 a false bs ha hma
 have h2 := call259 b false bs hb hmb
 rw [call_code F.tb_262 _ _ rfl]
 by_cases va : validP a = 0
 ·by_cases vb : validP b = 0
  ·obtain ⟨ia, la, _⟩ := validP_inv va hma
   obtain ⟨ib, lb, _⟩ := validP_inv vb hmb
   have h3 := fun ρ => Rmul_loop b bs lb (fun q hq => by obtain ⟨x1, x2, x3⟩ := ib.bd q hq; exact ⟨x1, ib.nz q hq, x2, x3⟩) _ b [] a 1000 false true ρ rfl ia (by omega) rfl
   have e1 : mulE a b = rangeP (addAllP a b) := by simp [mulE, va, vb]
   have e2 : mulP a b = if rangeP (addAllP a b) = 0 then addAllP a b else [] := by simp [mulP, e1]
   have hb64 : a.length * 64 ≤ 140737488355328 := lim64 (by omega)
   rw [e1, e2]
   simp [F.f262B, F.f262C, h1, h2, va, vb, hb64]
   apply h3 <;> simp
  ·have e1 : mulE a b = validP b := by simp [mulE, va, vb]
   have e2 : mulP a b = [] := by simp [mulP, e1, vb]
   rw [e1, e2]
   simp [F.f262B, F.f262C, h1, h2, va, vb, F.f262R, F.f262K, encPs_nil]
 ·have e1 : mulE a b = validP a := by simp [mulE, va]
  have e2 : mulP a b = [] := by simp [mulP, e1, va]
  rw [e1, e2]
  simp [F.f262B, F.f262C, h1, va, F.f262R, F.f262K, encPs_nil]
theorem ps_app {B0 B : List (List AV)} {v : AV} {l : List Pw} (p : Pw) (o : Bool) (h : PS B0 B v l) (hl : l.length < 50000000) : ∃ v' B', appM 64 5 v (.sl o 5 [encP p]) B = some (v', B') ∧ PS B0 B' v' (l ++ [p]) := by
 obtain ⟨M, id, sz, rfl, rfl, hc⟩ := h
 have hb : (l.length + 1) * 64 ≤ 140737488355328 := lim64 (by omega)
 have hs : srcOf 5 (.sl o 5 [encP p]) (B0 ++ M) = some (1, encP p) := by simp [srcOf]
 rcases hc with ⟨rfl, rfl, rfl⟩ | ⟨rfl, hid, t, hbx, hne⟩
 ·refine ⟨.gs (B0 ++ M).length 0 5 1, B0 ++ (M ++ [encP p]), ?_, M ++ [encP p], (B0 ++ M).length, 5, rfl, rfl, .inr ⟨rfl, by simp, [], ?_, ?_⟩⟩
  ·simp [appM, hs]
  ·rw [← List.append_assoc, List.getElem?_concat_length]; simp [rowP, rowOf]
  ·simp [rowP, rowOf, encP_eq]
 ·have hlt := get_lt hbx
  have hr := rowP_len l
  have hle : l.length * 5 ≤ (rowP l ++ t).length := by rw [List.length_append, hr]; omega
  have hrow : rowP (l ++ [p]) = rowP l ++ encP p := by simp [rowP, row_app, row_one]
  have htk : (rowP l ++ t).take (l.length * 5) = rowP l := by rw [← hr, List.take_left]
  have hne2 : ∀ x : List AV, rowP l ++ (encP p ++ x) ≠ [] := fun x e => by
   have := congrArg List.length e; simp at this
  by_cases hroom : (l.length + 1) * 5 ≤ (rowP l ++ t).length
  ·refine ⟨.gs id 0 5 (l.length + 1), (B0 ++ M).set id (rowP l ++ (encP p ++ (rowP l ++ t).drop (l.length * 5 + 5))), ?_, _, id, 5, set_base hid _, by simp, .inr ⟨rfl, hid, (rowP l ++ t).drop (l.length * 5 + 5), ?_, ?_⟩⟩
   ·simp only [appM, hs, Option.bind_some]
    rw [if_pos ⟨by omega, hb⟩, if_neg (by omega), if_neg (by omega), if_pos ⟨trivial, trivial⟩, hbx]
    simp only [Option.bind_some]
    rw [if_pos ⟨hne, hle⟩, if_pos hroom]
    simp only [put, htk, encP_len]
    simp
   ·have : id < (B0 ++ M).length := hlt
    rw [List.getElem?_set, if_pos rfl, if_pos this, hrow]; simp
   ·rw [hrow, List.append_assoc]; exact hne2 _
  ·refine ⟨.gs (B0 ++ M).length 0 5 (l.length + 1), (B0 ++ M).set id [] ++ [rowP l ++ encP p], ?_, M.set (id - B0.length) [] ++ [rowP l ++ encP p], (B0 ++ M).length, 5, ?_, by simp, .inr ⟨rfl, by simp, [], ?_, ?_⟩⟩
   ·have hst : (rowP l).map AV.strip = rowP l := row_strip encP_strip l
    simp only [appM, hs, Option.bind_some]
    rw [if_pos ⟨by omega, hb⟩, if_neg (by omega), if_neg (by omega), if_pos ⟨trivial, trivial⟩, hbx]
    simp only [Option.bind_some]
    rw [if_pos ⟨hne, hle⟩, if_neg hroom, htk, hst]
   ·rw [set_base hid, List.append_assoc]
   ·have e : (B0 ++ M).length = ((B0 ++ M).set id []).length := by simp
    rw [hrow, List.append_nil, e, List.getElem?_concat_length]
   ·rw [hrow, List.append_nil]; have := hne2 []; simpa using this
theorem copied_loop (l : List Pw) (B0 K : List (List AV)) (hl : l.length < 40000000) (hm : ∀ q ∈ l, q.1.mass < big) :
  ∀ (post pre : List Pw) (B : List (List AV)) (v : AV) (ρ : Nat → AV), l = pre ++ post → PS B0 B v pre → ρ 3 = v → ρ 6 = .sl false 5 (encPs l) → ρ 7 = .int .i64 l.length → ρ 8 = .int .i64 pre.length →
  PsOk B0 l (R F.tb (.loop F.f201l0) ρ B (blockK 0 (seqK F.tb F.f201r0 (finK F.f201 K)))) := by
 intro post
 induction post with
 | nil =>
  intro pre B v ρ hk hps h3 h6 h7 h8
  simp only [List.append_nil] at hk
  subst hk
  obtain ⟨id, sz, rfl⟩ := ps_gs hps
  rw [R_loop' F.f201l0.eq_1]
  refine ⟨_, B, ?_, hps⟩
  simp [h3, h6, h7, h8, F.f201r0, F.f201R, F.f201K]
 | cons p post IH =>
  intro pre B v ρ hk hps h3 h6 h7 h8
  have hg := get_pre hk
  have hll : l.length = pre.length + (post.length + 1) := by rw [hk]; simp
  have hw1 : IntKind.i64.wrap ((pre.length : Int) + 1) = (pre.length : Int) + 1 := wrap64 (by omega) (by omega)
  have hlt : (pre.length : Int) < (l.length : Int) := by omega
  have hc := call_xclone p.1 B (hm p (by rw [hk]; simp))
  obtain ⟨v2, B2, ha, hps2⟩ := ps_app p false hps (by omega)
  have ih := fun ρ => IH (pre ++ [p]) B2 v2 ρ (by rw [hk]; simp) hps2
  obtain ⟨id, sz, rfl⟩ := ps_gs hps
  obtain ⟨id2, sz2, rfl⟩ := ps_gs hps2
  have hf : encT p.1 ++ [.int .i64 p.2] = encP p := rfl
  rw [R_loop' F.f201l0.eq_1]
  simp [h3, h6, h7, h8, hg, hlt, hw1, hc, List.take_append, List.drop_append, hf, ha]
  apply ih <;> simp [h6, h7]
theorem call201 (l : List Pw) (o : Bool) (B0 : List (List AV)) (hl : l.length < 40000000) (hm : ∀ q ∈ l, q.1.mass < big) : PsOk B0 l (call F.tb 201 [.sl o 5 (encPs l)] B0) := by
 have h := fun ρ => copied_loop l B0 B0 hl hm l [] B0 _ ρ rfl (ps_nil B0)
 rw [call_code F.tb_201 _ _ rfl]
 simp [F.f201B, F.f201C]
 apply h <;> simp
theorem call203 (p : Pw) (B : List (List AV)) : call F.tb 203 [.agg (encP p)] B = some (.bool (outN p.2), B) := by
 rw [call_code F.tb_203 _ _ rfl]
 by_cases c4 : p.2 < -1000
 ·simp [F.f203B, F.f203C, F.f203R, F.f203K, outN, c4]
 ·by_cases c5 : 1000 < p.2
  ·simp [F.f203B, F.f203C, F.f203R, F.f203K, outN, c4, c5]
  ·simp [F.f203B, F.f203C, F.f203R, F.f203K, outN, c4, c5]
def IxOk (b : Bool) (B : List (List AV)) (r : Out) : Prop := ∃ i : Int, r = some (.int .i64 i, B) ∧ (0 ≤ i ↔ b = true)
theorem ix_loop {B0 B : List (List AV)} {v : AV} {l : List Pw} (h : PS B0 B v l) (hl : l.length < 100000000) :
  ∀ (post pre : List Pw) (ρ : Nat → AV), l = pre ++ post → pre.any (fun q => outN q.2) = false → ρ 0 = v → ρ 1 = .fn 203 [] → ρ 7 = .int .i64 l.length → ρ 8 = .int .i64 pre.length →
  IxOk (l.any fun q => outN q.2) B (R F.tb (.loop F.f205l0) ρ B (blockK 0 (seqK F.tb F.f205r0 (finK F.f205 B)))) := by
 obtain ⟨M, id, sz, rfl, rfl, hc⟩ := h
 have htk : (B0 ++ M).take (B0.length + M.length) = B0 ++ M := List.take_of_length_le (by simp)
 intro post
 induction post with
 | nil =>
  intro pre ρ hk hp h0 h1 h7 h8
  simp only [List.append_nil] at hk
  rw [← hk] at h8 hp
  rw [R_loop' F.f205l0.eq_1]
  refine ⟨-1, ?_, by rw [hp]; simp⟩
  simp [h0, h1, h7, h8, F.f205r0, F.f205R, F.f205K, htk]
 | cons p post IH =>
  intro pre ρ hk hp h0 h1 h7 h8
  have hg := get_pre hk
  have hll : l.length = pre.length + (post.length + 1) := by rw [hk]; simp
  have hw1 : IntKind.i64.wrap ((pre.length : Int) + 1) = (pre.length : Int) + 1 := wrap64 (by omega) (by omega)
  have hlt : (pre.length : Int) < (l.length : Int) := by omega
  have hlt' : pre.length < l.length := by omega
  rcases hc with ⟨rfl, rfl, rfl⟩ | ⟨rfl, hid, t, hbx, hne⟩
  ·simp at hlt'
  have r1 := row_atS (l := l) (row_at hg t)
  have hle : pre.length * 5 + 5 ≤ (rowP l ++ t).length := by rw [List.length_append, rowP_len]; omega
  have hcall := call203 p (B0 ++ M)
  have ih := fun ρ hpp => IH (pre ++ [p]) ρ (by rw [hk]; simp) hpp
  generalize rowP l ++ t = c at *
  rw [R_loop' F.f205l0.eq_1]
  cases ho : outN p.2
  ·have ih2 := fun ρ => ih ρ (by rw [List.any_append, hp]; simp [ho])
   simp [-getElem?_pos, h0, h1, h7, h8, hlt, hlt', hw1, hbx, hle, r1, hcall, ho, -List.any_eq_false, -List.any_eq_true]
   apply ih2 <;> simp [h0, h1, h7]
  ·have hany : l.any (fun q => outN q.2) = true := List.any_eq_true.2 ⟨p, by rw [hk]; simp, ho⟩
   refine ⟨pre.length, ?_, by rw [hany]; simp⟩
   simp [-getElem?_pos, h0, h1, h7, h8, hlt, hlt', hbx, hle, r1, hcall, ho, F.f205R, F.f205K, htk]
theorem call204 {B0 B : List (List AV)} {v : AV} {l : List Pw} (h : PS B0 B v l) (hl : l.length < 100000000) : call F.tb 204 [v, .fn 203 []] B = some (.bool (l.any fun q => outN q.2), B) := by
 have h1 := fun ρ => ix_loop h hl l [] ρ rfl rfl
 obtain ⟨id, sz, rfl⟩ := ps_gs h
 have h2 : IxOk (l.any fun q => outN q.2) B (call F.tb 205 [.gs id 0 sz l.length, .fn 203 []] B) := by
  rw [call_code F.tb_205 _ _ rfl]
  simp [F.f205B, F.f205C, -List.any_eq_false, -List.any_eq_true]
  apply h1 <;> simp
 obtain ⟨i, hi, hb⟩ := h2
 rw [call_code F.tb_204 _ _ rfl]
 simp [F.f204B, F.f204C, hi, F.f204R, F.f204K, -List.any_eq_false, -List.any_eq_true]
 cases hx : l.any fun q => outN q.2
 ·rw [hx] at hb; simp at hb; simpa using hb
 ·rw [hx] at hb; simp at hb; simpa using hb
theorem ps_frz2 {B0 B : List (List AV)} {v : AV} {l : List Pw} (h : PS B0 B v l) (n : Nat) : ∃ o M2, (B0 ++ M2).length = B.length ∧ chkB B (B0 ++ M2) = true ∧ ∀ ρ : Nat → AV, ρ n = v → frzAt { env := ρ, bs := B } n 5 = some (.sl o 5 (encPs l), { env := upd ρ n .undef, bs := B0 ++ M2 }) := by
 obtain ⟨M, id, sz, rfl, rfl, hc⟩ := h
 rcases hc with ⟨rfl, rfl, rfl⟩ | ⟨rfl, hid, t, hb, hne⟩
 ·exact ⟨true, M, rfl, chkB_self _, fun ρ hn => by simp [frzAt, hn, encPs]⟩
 ·by_cases hl : l.length = 0
  ·have : l = [] := List.eq_nil_of_length_eq_zero hl
   subst this
   exact ⟨false, M, rfl, chkB_self _, fun ρ hn => by simp [frzAt, hn, encPs]⟩
  ·refine ⟨true, M.set (id - B0.length) [], by simp, by rw [← set_base hid]; exact chkB_set_nil _ _, fun ρ hn => ?_⟩
   have hle : 0 + l.length * 5 ≤ (rowP l ++ t).length := by rw [List.length_append, rowP_len]; omega
   have hch : chunks (rowP l ++ t) 0 5 l.length = encPs l := row_chunks (f := encP) (k := 5) encP_len encP_strip l t
   simp only [frzAt, hn]
   rw [if_pos ⟨trivial, by omega⟩, if_neg hl, hb]
   simp only [Option.bind_some]
   rw [if_pos hle, hch, set_base hid]
   rfl
def ResOk (B0 : List (List AV)) (l : List Pw) (r : Out) : Prop := ∃ M, r = some (.tup [.sl false 5 (encPs (if rangeP l = 0 then l else [])), .int .i64 (rangeP l)], B0 ++ M)
theorem call202 {B0 B : List (List AV)} {v : AV} {l : List Pw} (h : PS B0 B v l) (hl : l.length < 100000000) : ResOk B0 l (call F.tb 202 [v] B) := by
 have h1 := call204 h hl
 obtain ⟨o, M2, hlen, hchk, hf⟩ := ps_frz2 h 9
 obtain ⟨M, hM⟩ : ∃ M, B = B0 ++ M := by obtain ⟨M, _, _, h, _⟩ := h; exact ⟨M, h⟩
 subst hM
 have htk : (B0 ++ M2).take (B0.length + M.length) = B0 ++ M2 := List.take_of_length_le (by rw [hlen]; simp)
 have htk0 : (B0 ++ M).take (B0.length + M.length) = B0 ++ M := List.take_of_length_le (by simp)
 have hgp := encPs_gp l
 obtain ⟨id, sz, rfl⟩ := ps_gs h
 rw [call_code F.tb_202 _ _ rfl]
 cases ha : l.any fun q => outN q.2
 ·rw [ha] at h1
  by_cases c : 200 < l.length
  ·have c' : (200 : Int) < (l.length : Int) := by omega
   have e : rangeP l = 3 := by simp only [rangeP, ha, c, if_true]; rfl
   refine ⟨M, ?_⟩
   rw [e]
   simp [F.f202B, F.f202C, h1, c', F.f202R, F.f202K, encPs_nil, htk0]
  ·have c' : ¬ (200 : Int) < (l.length : Int) := by omega
   have e : rangeP l = 0 := by simp only [rangeP, ha, c, if_false]; rfl
   refine ⟨M2, ?_⟩
   rw [e]
   simp [F.f202B, F.f202C, h1, c', F.f202R, F.f202K, hf, htk, hchk]
 ·rw [ha] at h1
  have e : rangeP l = 7 := by simp only [rangeP, ha, if_true]
  refine ⟨M, ?_⟩
  rw [e]
  simp [F.f202B, F.f202C, h1, F.f202R, F.f202K, encPs_nil, htk0]
theorem mul_loop (b : List Pw) (B0 : List (List AV)) (hb : b.length ≤ 200) (hbm : ∀ q ∈ b, q.1.mass < big ∧ q.2 ≠ 0 ∧ -1000 ≤ q.2 ∧ q.2 ≤ 1000) (X : List Pw) :
  ∀ (post pre : List Pw) (acc : List Pw) (n : Nat) (B : List (List AV)) (v : AV) (ρ : Nat → AV), b = pre ++ post → PS B0 B v acc → PInv acc n → n + 1000 * post.length < 40000000 → addAllP acc post = X → ρ 8 = v → ρ 23 = .sl false 5 (encPs b) → ρ 24 = .int .i64 b.length → ρ 25 = .int .i64 pre.length →
  R F.tb (.loop F.f200l0) ρ B (blockK 0 (seqK F.tb F.f200r0 (finK F.f200 B0))) = some (.tup [.sl false 5 (encPs (if rangeP X = 0 then X else [])), .int .i64 (rangeP X)], B0) := by
 intro post
 induction post with
 | nil =>
  intro pre acc n B v ρ hk hps ha hn hX h8 h23 h24 h25
  simp only [List.append_nil] at hk
  rw [← hk] at h25
  simp only [addAllP] at hX
  subst hX
  have hal := ha.len
  obtain ⟨M, hr⟩ := call202 hps (by simp at hn; omega)
  obtain ⟨id, sz, rfl⟩ := ps_gs hps
  rw [R_loop' F.f200l0.eq_1]
  generalize (if rangeP acc = 0 then acc else []) = X at *
  simp [h8, h23, h24, h25, F.f200r0, hr, F.f200R, F.f200K]
 | cons p post IH =>
  intro pre acc n B v ρ hk hps ha hn hX h8 h23 h24 h25
  have hg := get_pre hk
  have hll : b.length = pre.length + (post.length + 1) := by rw [hk]; simp
  have hw1 : IntKind.i64.wrap ((pre.length : Int) + 1) = (pre.length : Int) + 1 := wrap64 (by omega) (by omega)
  have hlt : (pre.length : Int) < (b.length : Int) := by omega
  obtain ⟨q1, q2, q3, q4⟩ := hbm p (by rw [hk]; simp)
  simp only [List.length_cons] at hn
  have hal := ha.len
  obtain ⟨v2, B2, hc, hps2⟩ := call189 (p := p) hps (by omega) (fun q hq => by obtain ⟨a1, a2, a3⟩ := ha.bd q hq; exact ⟨a1, by omega, by omega⟩) q1 (by omega) ha.asc
  have ih := fun ρ => IH (pre ++ [p]) (addP acc p.1 p.2) (n + 1000) B2 v2 ρ (by rw [hk]; simp) hps2 (ha.add (c := 1000) q1 q2 (by omega) (by omega)) (by omega) (by rw [← hX]; rfl)
  obtain ⟨id, sz, rfl⟩ := ps_gs hps
  obtain ⟨id2, sz2, rfl⟩ := ps_gs hps2
  rw [R_loop' F.f200l0.eq_1]
  simp [h8, h23, h24, h25, hg, hlt, hw1, hc]
  apply ih <;> simp [h23, h24]
theorem call200 (a b : List Pw) (o o2 : Bool) (bs : List (List AV)) (ha : a.length < 100000000) (hb : b.length < 100000000) (hma : ∀ q ∈ a, q.1.mass < big) (hmb : ∀ q ∈ b, q.1.mass < big) :
  call F.tb 200 [.sl o 5 (encPs a), .sl o2 5 (encPs b)] bs = some (.tup [.sl false 5 (encPs (mulP a b)), .int .i64 (mulE a b)], bs) := by
 have h1 := call197 a false bs ha hma
 have h2 := call197 b false bs hb hmb
 rw [call_code F.tb_200 _ _ rfl]
 by_cases va : validP a = 0
 ·by_cases vb : validP b = 0
  ·obtain ⟨ia, la, _⟩ := validP_inv va hma
   obtain ⟨ib, lb, _⟩ := validP_inv vb hmb
   obtain ⟨v, B, hc, hps⟩ := call201 a false bs (by omega) hma
   have h3 := fun ρ => mul_loop b bs lb (fun q hq => by obtain ⟨x1, x2, x3⟩ := ib.bd q hq; exact ⟨x1, ib.nz q hq, x2, x3⟩) _ b [] a 1000 B v ρ rfl hps ia (by omega) rfl
   obtain ⟨id, sz, rfl⟩ := ps_gs hps
   have e1 : mulE a b = rangeP (addAllP a b) := by simp [mulE, va, vb]
   have e2 : mulP a b = if rangeP (addAllP a b) = 0 then addAllP a b else [] := by simp [mulP, e1]
   rw [e1, e2]
   simp [F.f200B, F.f200C, h1, h2, va, vb, hc]
   apply h3 <;> simp
  ·have e1 : mulE a b = validP b := by simp [mulE, va, vb]
   have e2 : mulP a b = [] := by simp [mulP, e1, vb]
   rw [e1, e2]
   simp [F.f200B, F.f200C, h1, h2, va, vb, F.f200R, F.f200K, encPs_nil]
 ·have e1 : mulE a b = validP a := by simp [mulE, va]
  have e2 : mulP a b = [] := by simp [mulP, e1, va]
  rw [e1, e2]
  simp [F.f200B, F.f200C, h1, va, F.f200R, F.f200K, encPs_nil]
end Go.Am
namespace Go.Am
set_option maxRecDepth 8000
@[simp] theorem encTs_g1 (x y : Tm) (a : List Tm) (h : 1 < (encTs (x :: y :: a)).length) : (encTs (x :: y :: a))[1] = encT y := by simp [encTs]
def PAIR : List UInt8 := [112, 97, 105, 114]
def ENC : List UInt8 := [101, 110, 99]
def AENC : List UInt8 := [97, 101, 110, 99]
def PK : List UInt8 := [112, 107]
def SIGN : List UInt8 := [115, 105, 103, 110]
def EXP : List UInt8 := [101, 120, 112]
def FST : List UInt8 := [102, 115, 116]
def SND : List UInt8 := [115, 110, 100]
def DEC : List UInt8 := [100, 101, 99]
def ADEC : List UInt8 := [97, 100, 101, 99]
def OPEN : List UInt8 := [111, 112, 101, 110]
def READ : List UInt8 := [114, 101, 97, 100]
def arOk (n : List UInt8) (m : Nat) : Bool :=
 if n = PAIR ∨ n = ENC ∨ n = AENC ∨ n = SIGN ∨ n = EXP ∨ n = DEC ∨ n = ADEC ∨ n = OPEN then decide (m = 2)
 else if n = PK ∨ n = FST ∨ n = SND ∨ n = READ then decide (m = 1) else true
mutual
def goodT : Tm → Bool
 | .mk k n s ks => (!(k == 3) || ((s == 0) && arOk n ks.length)) && goodL ks
def goodL : List Tm → Bool
 | [] => true
 | t :: ts => goodT t && goodL ts
end
theorem goodT_eq (t : Tm) : goodT t = ((!(t.kind == 3) || ((t.sort == 0) && arOk t.name t.kids.length)) && goodL t.kids) := by cases t; simp [goodT]
theorem goodL_mem : ∀ {l : List Tm}, goodL l = true ↔ ∀ x ∈ l, goodT x = true
 | [] => by simp [goodL]
 | t :: ts => by simp [goodL, goodL_mem (l := ts)]
theorem good_kids {t : Tm} (h : goodT t = true) : goodL t.kids = true := by rw [goodT_eq] at h; simp at h; exact h.2
theorem good_node {t : Tm} (h : goodT t = true) (hk : t.kind = 3) : t.sort = 0 ∧ arOk t.name t.kids.length = true := by
 rw [goodT_eq] at h; simp [hk] at h; exact h.1
theorem good_two {t : Tm} {n : List UInt8} (h : goodT t = true) (hb : isB t n = true) (hn : arOk n t.kids.length = decide (t.kids.length = 2)) : ∃ x y, t.kids = [x, y] := by
 obtain ⟨hk, rfl⟩ := isB_iff.1 hb
 have := (good_node h hk).2
 rw [hn] at this
 simp at this
 match hh : t.kids with
 | [x, y] => exact ⟨x, y, rfl⟩
 | [] => rw [hh] at this; simp at this
 | [_] => rw [hh] at this; simp at this
 | _ :: _ :: _ :: _ => rw [hh] at this; simp at this
def kid (t : Tm) (i : Nat) : Tm := t.kids.getD i zeroT
def pkT (t : Tm) : Tm := .mk 3 PK 0 [t]
theorem good_pk {u : Tm} (h : goodT u = true) (key : Tm) : decide (cmpT u (pkT key) = 0) = (isB u PK && decide (cmpT (kid u 0) key = 0)) := by
 cases hb : isB u PK
 ·have : ¬ cmpT u (pkT key) = 0 := by
   intro e
   have := cmpT_eq0 _ _ e
   subst this
   simp [isB, pkT] at hb
  simp [this]
 ·obtain ⟨hk, hn⟩ := isB_iff.1 hb
  obtain ⟨hs, ha⟩ := good_node h hk
  rw [hn] at ha
  have h1 : u.kids.length = 1 := by simpa [arOk, PK, PAIR, ENC, AENC, SIGN, EXP, DEC, ADEC, OPEN] using ha
  obtain ⟨x, hx⟩ := List.length_eq_one_iff.1 h1
  have hu : u = pkT x := by rw [← Tm.eta u, hk, hn, hs, hx]; rfl
  subst hu
  have : kid (pkT x) 0 = x := rfl
  rw [this]
  have e1 : cmpT (pkT x) (pkT key) = 0 ↔ cmpT x key = 0 := by
   constructor
   ·intro e
    have := cmpT_eq0 _ _ e
    injection this with _ _ _ h4
    injection h4 with h4
    subst h4; exact cmpT_refl _
   ·intro e
    have := cmpT_eq0 _ _ e
    subst this; exact cmpT_refl _
  simp [e1]
def destT (n : List UInt8) (us : List Tm) : Tm :=
 let a := us.getD 0 zeroT
 let key := us.getD 1 zeroT
 let out : Tm := .mk 3 n 0 us
 if n = FST then (if isB a PAIR then kid a 0 else out)
 else if n = SND then (if isB a PAIR then kid a 1 else out)
 else if n = DEC then (if isB a ENC && decide (cmpT (kid a 1) key = 0) then kid a 0 else out)
 else if n = ADEC then (if isB a AENC && decide (cmpT (kid a 1) (pkT key) = 0) then kid a 0 else out)
 else if n = OPEN then (if isB a SIGN && decide (cmpT key (pkT (kid a 1)) = 0) then kid a 0 else out)
 else if n = READ then (if isB a SIGN then kid a 0 else out)
 else out
theorem call177 (x y : Tm) (bs : List (List AV)) (hx : x.mass < big) (hy : y.mass < big) : call F.tb 177 [.agg (encT x), .agg (encT y)] bs = some (.bool (decide (cmpT x y = 0)), bs) := by
 have h := call_Compare x y bs hx hy
 rw [call_code F.tb_177 _ _ rfl]
 simp [F.f177B, F.f177C, F.f177R, F.f177K, h]
def destN (n : List UInt8) : Bool := n == FST || n == SND || n == DEC || n == ADEC || n == OPEN || n == READ
theorem dest_one (n : List UInt8) (a : Tm) (bs : List (List AV)) (hn : n = FST ∨ n = SND ∨ n = READ) (hg : goodT a = true) (hm : a.mass < big) :
  call F.tb 176 [.agg (encT (.mk 3 n 0 [a]))] bs = some (.agg (encT (destT n [a])), bs) := by
 have h1 := fun m => call_this a m bs
 rw [call_code F.tb_176 _ _ rfl]
 rcases hn with rfl | rfl | rfl
 ·cases hb : isB a PAIR
  ·have h2 := h1 PAIR; rw [hb] at h2; simp only [PAIR] at h2
   have e : destT FST [a] = .mk 3 FST 0 [a] := by simp [destT, hb]
   rw [e]
   simp only [FST]
   simp [F.f176B, F.f176C, F.f176R, F.f176K, h2]
  ·have h2 := h1 PAIR; rw [hb] at h2; simp only [PAIR] at h2
   obtain ⟨x, y, hk⟩ := good_two hg hb (by simp [arOk])
   have e : destT FST [a] = x := by simp [destT, hb, kid, hk]
   rw [e]
   simp only [FST]
   simp [F.f176B, F.f176C, F.f176R, F.f176K, h2, hk]
 ·cases hb : isB a PAIR
  ·have h2 := h1 PAIR; rw [hb] at h2; simp only [PAIR] at h2
   have e : destT SND [a] = .mk 3 SND 0 [a] := by simp [destT, hb, SND, FST]
   rw [e]
   simp only [SND]
   simp [F.f176B, F.f176C, F.f176R, F.f176K, h2]
  ·have h2 := h1 PAIR; rw [hb] at h2; simp only [PAIR] at h2
   obtain ⟨x, y, hk⟩ := good_two hg hb (by simp [arOk])
   have e : destT SND [a] = y := by simp [destT, hb, kid, hk, SND, FST]
   rw [e]
   simp only [SND]
   simp [F.f176B, F.f176C, F.f176R, F.f176K, h2, hk]
 ·cases hb : isB a SIGN
  ·have h2 := h1 SIGN; rw [hb] at h2; simp only [SIGN] at h2
   have e : destT READ [a] = .mk 3 READ 0 [a] := by simp [destT, hb, SND, FST, DEC, ADEC, OPEN, READ]
   rw [e]
   simp only [READ]
   simp [F.f176B, F.f176C, F.f176R, F.f176K, h2]
  ·have h2 := h1 SIGN; rw [hb] at h2; simp only [SIGN] at h2
   obtain ⟨x, y, hk⟩ := good_two hg hb (by simp [arOk])
   have e : destT READ [a] = x := by simp [destT, hb, kid, hk, SND, FST, DEC, ADEC, OPEN, READ]
   rw [e]
   simp only [READ]
   simp [F.f176B, F.f176C, F.f176R, F.f176K, h2, hk]
theorem dest_two (n : List UInt8) (a key : Tm) (bs : List (List AV)) (hn : n = DEC ∨ n = ADEC ∨ n = OPEN) (hg : goodT a = true) (hgk : goodT key = true) (hm : a.mass < big - 10) (hmk : key.mass < big - 10) :
  call F.tb 176 [.agg (encT (.mk 3 n 0 [a, key]))] bs = some (.agg (encT (destT n [a, key])), bs) := by
 have h1 := fun t m => call_this t m bs
 rw [call_code F.tb_176 _ _ rfl]
 rcases hn with rfl | rfl | rfl
 ·cases hb : isB a ENC
  ·have h2 := h1 a ENC; rw [hb] at h2; simp only [ENC] at h2
   have e : destT DEC [a, key] = .mk 3 DEC 0 [a, key] := by simp [destT, hb, SND, FST, DEC]
   rw [e]
   simp only [DEC]
   simp [F.f176B, F.f176C, F.f176R, F.f176K, h2]
  ·have h2 := h1 a ENC; rw [hb] at h2; simp only [ENC] at h2
   obtain ⟨x, y, hk⟩ := good_two hg hb (by simp [arOk])
   have hma := mass_eq a
   rw [hk] at hma
   simp only [massL] at hma
   have h3 := call177 y key bs (by omega) (by omega)
   by_cases hc : cmpT y key = 0
   ·have e : destT DEC [a, key] = x := by simp [destT, hb, kid, hk, hc, SND, FST, DEC]
    rw [e]
    simp only [DEC]
    simp [F.f176B, F.f176C, F.f176R, F.f176K, h2, h3, hc, hk]
   ·have e : destT DEC [a, key] = .mk 3 DEC 0 [a, key] := by simp [destT, hb, kid, hk, hc, SND, FST, DEC]
    rw [e]
    simp only [DEC]
    simp [F.f176B, F.f176C, F.f176R, F.f176K, h2, h3, hc, hk]
 ·cases hb : isB a AENC
  ·have h2 := h1 a AENC; rw [hb] at h2; simp only [AENC] at h2
   have e : destT ADEC [a, key] = .mk 3 ADEC 0 [a, key] := by simp [destT, hb, SND, FST, DEC, ADEC]
   rw [e]
   simp only [ADEC]
   simp [F.f176B, F.f176C, F.f176R, F.f176K, h2]
  ·have h2 := h1 a AENC; rw [hb] at h2; simp only [AENC] at h2
   obtain ⟨x, y, hk⟩ := good_two hg hb (by simp [arOk])
   have hma := mass_eq a
   have hgy : goodT y = true := by
    have := good_kids hg; rw [hk] at this; simp [goodL] at this; exact this.2
   rw [hk] at hma
   simp only [massL] at hma
   have hpk := good_pk hgy key
   have h4 := h1 y PK
   have e0 : destT ADEC [a, key] = if isB y PK && decide (cmpT (kid y 0) key = 0) then x else .mk 3 ADEC 0 [a, key] := by
    rw [← hpk]; simp [destT, hb, kid, hk, SND, FST, DEC, ADEC]
   rw [e0]
   cases hbp : isB y PK
   ·rw [hbp] at h4; simp only [PK] at h4
    simp only [ADEC]
    simp [F.f176B, F.f176C, F.f176R, F.f176K, h2, h4, hk]
   ·rw [hbp] at h4; simp only [PK] at h4
    obtain ⟨hyk, hyn⟩ := isB_iff.1 hbp
    have har := (good_node hgy hyk).2
    rw [hyn] at har
    have hl1 : y.kids.length = 1 := by simpa [arOk, PK, PAIR, ENC, AENC, SIGN, EXP, DEC, ADEC, OPEN] using har
    obtain ⟨z, hz⟩ := List.length_eq_one_iff.1 hl1
    have hmy := mass_eq y
    rw [hz] at hmy
    simp only [massL] at hmy
    have h3 := call177 z key bs (by omega) (by omega)
    have hk0 : kid y 0 = z := by simp [kid, hz]
    rw [hk0]
    by_cases hc : cmpT z key = 0
    ·simp only [ADEC]
     simp [F.f176B, F.f176C, F.f176R, F.f176K, h2, h3, h4, hc, hk, hz]
    ·simp only [ADEC]
     simp [F.f176B, F.f176C, F.f176R, F.f176K, h2, h3, h4, hc, hk, hz]
 ·cases hb : isB a SIGN
  ·have h2 := h1 a SIGN; rw [hb] at h2; simp only [SIGN] at h2
   have e : destT OPEN [a, key] = .mk 3 OPEN 0 [a, key] := by simp [destT, hb, SND, FST, DEC, ADEC, OPEN]
   rw [e]
   simp only [OPEN]
   simp [F.f176B, F.f176C, F.f176R, F.f176K, h2]
  ·have h2 := h1 a SIGN; rw [hb] at h2; simp only [SIGN] at h2
   obtain ⟨x, y, hk⟩ := good_two hg hb (by simp [arOk])
   have hma := mass_eq a
   rw [hk] at hma
   simp only [massL] at hma
   have hpk := good_pk hgk y
   have h4 := h1 key PK
   have e0 : destT OPEN [a, key] = if isB key PK && decide (cmpT (kid key 0) y = 0) then x else .mk 3 OPEN 0 [a, key] := by
    rw [← hpk]; simp [destT, hb, kid, hk, SND, FST, DEC, ADEC, OPEN]
   rw [e0]
   cases hbp : isB key PK
   ·rw [hbp] at h4; simp only [PK] at h4
    simp only [OPEN]
    simp [F.f176B, F.f176C, F.f176R, F.f176K, h2, h4, hk]
   ·rw [hbp] at h4; simp only [PK] at h4
    obtain ⟨hyk, hyn⟩ := isB_iff.1 hbp
    have har := (good_node hgk hyk).2
    rw [hyn] at har
    have hl1 : key.kids.length = 1 := by simpa [arOk, PK, PAIR, ENC, AENC, SIGN, EXP, DEC, ADEC, OPEN] using har
    obtain ⟨z, hz⟩ := List.length_eq_one_iff.1 hl1
    have hmy := mass_eq key
    rw [hz] at hmy
    simp only [massL] at hmy
    have h3 := call177 y z bs (by omega) (by omega)
    have hk0 : kid key 0 = z := by simp [kid, hz]
    have hsym : (cmpT z y = 0) = (cmpT y z = 0) := by
     have := cmpT_anti y z
     rw [eq_iff_iff]; omega
    rw [hk0]
    by_cases hc : cmpT y z = 0
    ·simp only [OPEN]
     simp [F.f176B, F.f176C, F.f176R, F.f176K, h2, h3, h4, hc, hk, hz, hsym]
    ·simp only [OPEN]
     simp [F.f176B, F.f176C, F.f176R, F.f176K, h2, h3, h4, hc, hk, hz, hsym]
end Go.Am
namespace Go.Am
set_option maxRecDepth 8000
theorem pkT_mass (t : Tm) : (pkT t).mass = t.mass + 4 := by simp only [pkT, Tm.mass, massL, PK, List.length_cons, List.length_nil]; omega
def DsOk (t : Tm) (bs : List (List AV)) (r : Out) : Prop := ∃ b, r = some (.tup [.agg (encT t), .bool b], bs)
theorem Rdest_one (n : List UInt8) (a : Tm) (bs : List (List AV)) (hn : n = FST ∨ n = SND ∨ n = READ) (hg : goodT a = true) (hm : a.mass < big) :
  DsOk (destT n [a]) bs (call F.tb 243 [.agg (encT (.mk 3 n 0 [a]))] bs) := by
 have h1 := fun m => call_RIs a m bs
 rw [call_code F.tb_243 _ _ rfl]
 rcases hn with rfl | rfl | rfl
 ·cases hb : isB a PAIR
  ·have h2 := h1 PAIR; rw [hb] at h2; simp only [PAIR] at h2
   have e : destT FST [a] = .mk 3 FST 0 [a] := by simp [destT, hb]
   rw [e]
   refine ⟨false, ?_⟩
   simp only [FST]
   simp [F.f243B, F.f243C, F.f243R, F.f243K, h2]
  ·have h2 := h1 PAIR; rw [hb] at h2; simp only [PAIR] at h2
   obtain ⟨x, y, hk⟩ := good_two hg hb (by simp [arOk])
   have e : destT FST [a] = x := by simp [destT, hb, kid, hk]
   rw [e]
   refine ⟨true, ?_⟩
   simp only [FST]
   simp [F.f243B, F.f243C, F.f243R, F.f243K, h2, hk]
 ·cases hb : isB a PAIR
  ·have h2 := h1 PAIR; rw [hb] at h2; simp only [PAIR] at h2
   have e : destT SND [a] = .mk 3 SND 0 [a] := by simp [destT, hb, SND, FST]
   rw [e]
   refine ⟨false, ?_⟩
   simp only [SND]
   simp [F.f243B, F.f243C, F.f243R, F.f243K, h2]
  ·have h2 := h1 PAIR; rw [hb] at h2; simp only [PAIR] at h2
   obtain ⟨x, y, hk⟩ := good_two hg hb (by simp [arOk])
   have e : destT SND [a] = y := by simp [destT, hb, kid, hk, SND, FST]
   rw [e]
   refine ⟨true, ?_⟩
   simp only [SND]
   simp [F.f243B, F.f243C, F.f243R, F.f243K, h2, hk]
 ·cases hb : isB a SIGN
  ·have h2 := h1 SIGN; rw [hb] at h2; simp only [SIGN] at h2
   have e : destT READ [a] = .mk 3 READ 0 [a] := by simp [destT, hb, SND, FST, DEC, ADEC, OPEN, READ]
   rw [e]
   refine ⟨false, ?_⟩
   simp only [READ]
   simp [F.f243B, F.f243C, F.f243R, F.f243K, h2]
  ·have h2 := h1 SIGN; rw [hb] at h2; simp only [SIGN] at h2
   obtain ⟨x, y, hk⟩ := good_two hg hb (by simp [arOk])
   have e : destT READ [a] = x := by simp [destT, hb, kid, hk, SND, FST, DEC, ADEC, OPEN, READ]
   rw [e]
   refine ⟨true, ?_⟩
   simp only [READ]
   simp [F.f243B, F.f243C, F.f243R, F.f243K, h2, hk]
theorem Rdest_two (n : List UInt8) (a key : Tm) (bs : List (List AV)) (hn : n = DEC ∨ n = ADEC ∨ n = OPEN) (hg : goodT a = true) (hm : a.mass < big - 10) (hmk : key.mass < big - 10) :
  DsOk (destT n [a, key]) bs (call F.tb 243 [.agg (encT (.mk 3 n 0 [a, key]))] bs) := by
 have h1 := fun t m => call_RIs t m bs
 rw [call_code F.tb_243 _ _ rfl]
 rcases hn with rfl | rfl | rfl
 ·cases hb : isB a ENC
  ·have h2 := h1 a ENC; rw [hb] at h2; simp only [ENC] at h2
   have e : destT DEC [a, key] = .mk 3 DEC 0 [a, key] := by simp [destT, hb, SND, FST, DEC]
   rw [e]
   refine ⟨false, ?_⟩
   simp only [DEC]
   simp [F.f243B, F.f243C, F.f243R, F.f243K, h2]
  ·have h2 := h1 a ENC; rw [hb] at h2; simp only [ENC] at h2
   obtain ⟨x, y, hk⟩ := good_two hg hb (by simp [arOk])
   have hma := mass_eq a
   rw [hk] at hma
   simp only [massL] at hma
   have h3 := call_RSame y key bs (by omega) (by omega)
   by_cases hc : cmpT y key = 0
   ·have e : destT DEC [a, key] = x := by simp [destT, hb, kid, hk, hc, SND, FST, DEC]
    rw [e]
    refine ⟨true, ?_⟩
    simp only [DEC]
    simp [F.f243B, F.f243C, F.f243R, F.f243K, h2, h3, hc, hk]
   ·have e : destT DEC [a, key] = .mk 3 DEC 0 [a, key] := by simp [destT, hb, kid, hk, hc, SND, FST, DEC]
    rw [e]
    refine ⟨false, ?_⟩
    simp only [DEC]
    simp [F.f243B, F.f243C, F.f243R, F.f243K, h2, h3, hc, hk]
 ·cases hb : isB a AENC
  ·have h2 := h1 a AENC; rw [hb] at h2; simp only [AENC] at h2
   have e : destT ADEC [a, key] = .mk 3 ADEC 0 [a, key] := by simp [destT, hb, SND, FST, DEC, ADEC]
   rw [e]
   refine ⟨false, ?_⟩
   simp only [ADEC]
   simp [F.f243B, F.f243C, F.f243R, F.f243K, h2]
  ·have h2 := h1 a AENC; rw [hb] at h2; simp only [AENC] at h2
   obtain ⟨x, y, hk⟩ := good_two hg hb (by simp [arOk])
   have hma := mass_eq a
   rw [hk] at hma
   simp only [massL] at hma
   have hpm : (pkT key).mass < big := by rw [pkT_mass]; unfold big at *; omega
   have h3 := call_RSame y (pkT key) bs (by omega) hpm
   have h4 := call120 PK [key] false bs (by simp)
   simp only [pkT, PK] at h3 h4
   by_cases hc : cmpT y (pkT key) = 0
   ·have e : destT ADEC [a, key] = x := by simp [destT, hb, kid, hk, hc, SND, FST, DEC, ADEC]
    rw [e]
    refine ⟨true, ?_⟩
    simp only [pkT, PK] at hc
    simp only [ADEC]
    simp [F.f243B, F.f243C, F.f243R, F.f243K, h2, h3, h4, hc, hk, encTs_one]
   ·have e : destT ADEC [a, key] = .mk 3 ADEC 0 [a, key] := by simp [destT, hb, kid, hk, hc, SND, FST, DEC, ADEC]
    rw [e]
    refine ⟨false, ?_⟩
    simp only [pkT, PK] at hc
    simp only [ADEC]
    simp [F.f243B, F.f243C, F.f243R, F.f243K, h2, h3, h4, hc, hk, encTs_one]
 ·cases hb : isB a SIGN
  ·have h2 := h1 a SIGN; rw [hb] at h2; simp only [SIGN] at h2
   have e : destT OPEN [a, key] = .mk 3 OPEN 0 [a, key] := by simp [destT, hb, SND, FST, DEC, ADEC, OPEN]
   rw [e]
   refine ⟨false, ?_⟩
   simp only [OPEN]
   simp [F.f243B, F.f243C, F.f243R, F.f243K, h2]
  ·have h2 := h1 a SIGN; rw [hb] at h2; simp only [SIGN] at h2
   obtain ⟨x, y, hk⟩ := good_two hg hb (by simp [arOk])
   have hma := mass_eq a
   rw [hk] at hma
   simp only [massL] at hma
   have hpm : (pkT y).mass < big := by rw [pkT_mass]; unfold big at *; omega
   have h3 := call_RSame key (pkT y) bs (by omega) hpm
   have h4 := call120 PK [y] false bs (by simp)
   simp only [pkT, PK] at h3 h4
   by_cases hc : cmpT key (pkT y) = 0
   ·have e : destT OPEN [a, key] = x := by simp [destT, hb, kid, hk, hc, SND, FST, DEC, ADEC, OPEN]
    rw [e]
    refine ⟨true, ?_⟩
    simp only [pkT, PK] at hc
    simp only [OPEN]
    simp [F.f243B, F.f243C, F.f243R, F.f243K, h2, h3, h4, hc, hk, encTs_one]
   ·have e : destT OPEN [a, key] = .mk 3 OPEN 0 [a, key] := by simp [destT, hb, kid, hk, hc, SND, FST, DEC, ADEC, OPEN]
    rw [e]
    refine ⟨false, ?_⟩
    simp only [pkT, PK] at hc
    simp only [OPEN]
    simp [F.f243B, F.f243C, F.f243R, F.f243K, h2, h3, h4, hc, hk, encTs_one]
end Go.Am
namespace Go.Am
set_option maxRecDepth 8000
def KM (l : List Pw) (M : Nat) : Prop := ∀ q ∈ l, q.1.mass ≤ M
theorem km_addP {l : List Pw} {t : Tm} {m : Int} {M : Nat} (h : KM l M) (ht : t.mass ≤ M) : KM (addP l t m) M := by
 intro q hq
 rcases addP_mem hq with hq | rfl | ⟨_, _, rfl, _⟩
 ·exact h q hq
 ·exact ht
 ·exact ht
theorem km_colT : ∀ (t : Tm) (l : List Pw) (m : Int) (M : Nat), KM l M → t.mass ≤ M → KM (colT l t m) M := by
 refine tm_ind ?_
 intro k n s ks ih l m M h hm
 have hme := mass_eq (.mk k n s ks)
 simp only [mk_kids, mk_name] at hme
 have hL : ∀ (xs : List Tm) (l : List Pw) (m : Int), (∀ x ∈ xs, x ∈ ks) → KM l M → KM (colL l xs m) M := by
  intro xs
  induction xs with
  | nil => intro l m _ h; simpa [colL] using h
  | cons x xs IH =>
   intro l m hx h
   simp only [colL]
   exact IH _ m (fun y hy => hx y (by simp [hy])) (ih x (hx x (by simp)) l m M h (by have := massL_mem (hx x (by simp)); omega))
 rw [colT_eq]
 split
 ·exact hL ks l _ (fun x hx => hx) h
 ·exact km_addP h hm
theorem km_addAllP : ∀ (b a : List Pw) (M : Nat), KM a M → KM b M → KM (addAllP a b) M
 | [], a, M, h, _ => h
 | q :: b, a, M, h, hb => km_addAllP b _ M (km_addP h (hb q (by simp))) fun x hx => hb x (by simp [hx])
theorem km_ofP (t : Tm) (M : Nat) (h : t.mass ≤ M) : KM (ofP t) M := by
 unfold ofP
 split
 ·exact km_colT t [] 1 M (fun q hq => by simp at hq) h
 ·intro q hq; simp at hq
theorem ofP_len (t : Tm) : (ofP t).length ≤ 200 := by
 unfold ofP
 split
 ·rename_i h
  unfold ofE at h
  split at h
  ·rename_i h1; exact absurd h h1
  ·split at h
   ·split at h
    ·cases h
    ·omega
   ·cases h
 ·simp
theorem rangeP_len {l : List Pw} (h : rangeP l = 0) : l.length ≤ 200 := by
 unfold rangeP at h
 split at h
 ·cases h
 ·split at h
  ·cases h
  ·omega
theorem mulP_len (a b : List Pw) : (mulP a b).length ≤ 200 := by
 unfold mulP
 split
 ·rename_i h
  unfold mulE at h
  split at h
  ·rename_i h1; exact absurd h h1
  ·split at h
   ·rename_i h1; exact absurd h h1
   ·exact rangeP_len h
 ·simp
theorem km_mulP {a b : List Pw} {M : Nat} (ha : KM a M) (hb : KM b M) : KM (mulP a b) M := by
 unfold mulP
 split
 ·exact km_addAllP b a M ha hb
 ·intro q hq; simp at hq
theorem massL_rep (n : Nat) (t : Tm) : massL (List.replicate n t) = n * t.mass := by
 induction n with
 | zero => simp [massL]
 | succ n ih => rw [List.replicate_succ, massL, ih, Nat.succ_mul]; omega
theorem invT_mass (t : Tm) : (invT t).mass = t.mass + 5 := by simp only [invT, Tm.mass, massL, INV, List.length_cons, List.length_nil]; omega
theorem massL_posL : ∀ {l : List Pw} {M : Nat}, KM l M → (∀ q ∈ l, q.2 ≤ 8) → massL (posL l) ≤ l.length * (8 * M)
 | [], M, _, _ => by simp [posL, massL]
 | p :: l, M, h, hb => by
  have h1 := massL_posL (l := l) (M := M) (fun q hq => h q (by simp [hq])) fun q hq => hb q (by simp [hq])
  have h2 := h p (by simp)
  have h3 := hb p (by simp)
  have h4 : p.2.toNat * p.1.mass ≤ 8 * M := Nat.mul_le_mul (by omega) h2
  have e : posL (p :: l) = List.replicate p.2.toNat p.1 ++ posL l := by simp [posL]
  rw [e, massL_append, massL_rep, List.length_cons, Nat.succ_mul]; omega
theorem massL_negL : ∀ {l : List Pw} {M : Nat}, KM l M → (∀ q ∈ l, -8 ≤ q.2) → massL (negL l) ≤ l.length * (8 * (M + 5))
 | [], M, _, _ => by simp [negL, massL]
 | p :: l, M, h, hb => by
  have h1 := massL_negL (l := l) (M := M) (fun q hq => h q (by simp [hq])) fun q hq => hb q (by simp [hq])
  have h2 := h p (by simp)
  have h3 := hb p (by simp)
  have h4 : (-p.2).toNat * (invT p.1).mass ≤ 8 * (M + 5) := Nat.mul_le_mul (by omega) (by rw [invT_mass]; omega)
  have e : negL (p :: l) = List.replicate (-p.2).toNat (invT p.1) ++ negL l := by simp [negL]
  rw [e, massL_append, massL_rep, List.length_cons, Nat.succ_mul]; omega
theorem massL_opsP {l : List Pw} (h : KM l 25000000) (hl : l.length ≤ 200) (hb : ∀ q ∈ l, -8 ≤ q.2 ∧ q.2 ≤ 8) : massL (opsP l) < big - 100 := by
 have h1 := massL_posL h fun q hq => (hb q hq).2
 have h2 := massL_negL h fun q hq => (hb q hq).1
 have h3 : l.length * (8 * 25000000) ≤ 200 * (8 * 25000000) := Nat.mul_le_mul_right _ hl
 have h4 : l.length * (8 * (25000000 + 5)) ≤ 200 * (8 * (25000000 + 5)) := Nat.mul_le_mul_right _ hl
 unfold opsP
 rw [massL_append]
 unfold big
 omega
theorem call196' {l : List Pw} (o : Bool) (bs : List (List AV)) (h : KM l 25000000) (hl : l.length ≤ 200) : call F.tb 196 [.sl o 5 (encPs l)] bs = some (encR (termP l), bs) :=
 call196 l o bs (by omega) (fun q hq => by have := h q hq; unfold big; omega) (massL_opsP h hl)
theorem call258' {l : List Pw} (o : Bool) (bs : List (List AV)) (h : KM l 25000000) (hl : l.length ≤ 200) : call F.tb 258 [.sl o 5 (encPs l)] bs = some (encR (termP l), bs) :=
 call258 l o bs (by omega) (fun q hq => by have := h q hq; unfold big; omega) (massL_opsP h hl)
def finP (b : Tm) (p : List Pw) : Tm × Int := if p = [] then (b, 0) else if (termP p).2 ≠ 0 then (zeroT, (termP p).2) else (.mk 3 EXP 0 [b, (termP p).1], 0)
def powT (b e : Tm) : Tm × Int :=
 if ofE e ≠ 0 then (zeroT, ofE e)
 else if isB b EXP then
  if ofE (kid b 1) ≠ 0 then (zeroT, ofE (kid b 1)) else if mulE (ofP (kid b 1)) (ofP e) ≠ 0 then (zeroT, mulE (ofP (kid b 1)) (ofP e)) else finP (kid b 0) (mulP (ofP (kid b 1)) (ofP e))
 else finP b (ofP e)
def productT (t : Tm) : Tm × Int := if ofE t ≠ 0 then (zeroT, ofE t) else termP (ofP t)
theorem encR_mk (t : Tm) (e : Int) : encR (t, e) = .tup [.agg (encT t), .int .i64 e] := rfl
theorem call252 (t : Tm) (bs : List (List AV)) (hm : t.mass < 20000000) : call F.tb 252 [.agg (encT t)] bs = some (encR (productT t), bs) := by
 have h1 := call253 t bs (by omega)
 have h2 := call258' false bs (km_ofP t 25000000 (by omega)) (ofP_len t)
 rw [call_code F.tb_252 _ _ rfl]
 by_cases c : ofE t = 0
 ·have e : productT t = termP (ofP t) := by simp [productT, c]
  rw [e]
  simp only [encR] at h2 ⊢
  simp [F.f252B, F.f252C, F.f252R, F.f252K, h1, h2, c]
 ·have e : productT t = (zeroT, ofE t) := by simp [productT, c]
  rw [e]
  simp [F.f252B, F.f252C, F.f252R, F.f252K, h1, c, encR_mk, encT_zero]
end Go.Am
namespace Go.Am
set_option maxRecDepth 8000
theorem call199 (b e : Tm) (bs : List (List AV)) (hg : goodT b = true) (hb : b.mass < 20000000) (he : e.mass < 20000000) : call F.tb 199 [.agg (encT b), .agg (encT e)] bs = some (encR (powT b e), bs) := by
 have h1 := call186 e bs (by omega)
 have h2 := call_this b EXP bs
 have ke := km_ofP e 25000000 (by omega)
 have le := ofP_len e
 rw [call_code F.tb_199 _ _ rfl]
 by_cases c1 : ofE e = 0
 ·cases hx : isB b EXP
  ·rw [hx] at h2; simp only [EXP] at h2
   have h4 := call196' false bs ke le
   have e0 : powT b e = finP b (ofP e) := by simp [powT, c1, hx]
   rw [e0]
   generalize ofP e = p at *
   match p with
   | [] =>
    simp only [encPs_nil] at h1
    simp [F.f199B, F.f199C, F.f199R, F.f199K, h1, h2, c1, finP, encR_mk]
   | q :: r =>
    have n0 : ¬ (r.length : Int) + 1 = 0 := by omega
    by_cases c2 : (termP (q :: r)).2 = 0
    ·have h5 := call_app EXP [b, (termP (q :: r)).1] false bs
     simp only [encR, encTs] at h4 h5
     simp only [EXP] at h5
     simp [F.f199B, F.f199C, F.f199R, F.f199K, h1, h2, h4, h5, c1, c2, n0, finP, encR_mk, EXP]
    ·simp only [encR] at h4
     simp [F.f199B, F.f199C, F.f199R, F.f199K, h1, h2, h4, c1, c2, n0, finP, encR_mk, encT_zero]
  ·obtain ⟨x, y, hk⟩ := good_two hg hx (by simp [arOk])
   rw [hx] at h2; simp only [EXP] at h2
   have hmb := mass_eq b
   rw [hk] at hmb
   simp only [massL] at hmb
   have k0 : kid b 0 = x := by simp [kid, hk]
   have k1 : kid b 1 = y := by simp [kid, hk]
   have h3 := call186 y bs (by omega)
   have ky := km_ofP y 25000000 (by omega)
   have ly := ofP_len y
   by_cases c2 : ofE y = 0
   ·have h4 := call200 (ofP y) (ofP e) false false bs (by omega) (by omega) (fun q hq => by have := ky q hq; unfold big; omega) (fun q hq => by have := ke q hq; unfold big; omega)
    by_cases c3 : mulE (ofP y) (ofP e) = 0
    ·have h6 := call196' false bs (km_mulP ky ke) (mulP_len (ofP y) (ofP e))
     have e0 : powT b e = finP x (mulP (ofP y) (ofP e)) := by simp [powT, c1, hx, k0, k1, c2, c3]
     rw [e0]
     generalize mulP (ofP y) (ofP e) = p at *
     match p with
     | [] =>
      simp only [encPs_nil] at h4
      simp [F.f199B, F.f199C, F.f199R, F.f199K, h1, h2, h3, h4, hk, c1, c2, c3, finP, encR_mk]
     | q :: r =>
      have n0 : ¬ (r.length : Int) + 1 = 0 := by omega
      by_cases c4 : (termP (q :: r)).2 = 0
      ·have h5 := call_app EXP [x, (termP (q :: r)).1] false bs
       simp only [encR, encTs] at h6 h5
       simp only [EXP] at h5
       simp [F.f199B, F.f199C, F.f199R, F.f199K, h1, h2, h3, h4, h5, h6, hk, c1, c2, c3, c4, n0, finP, encR_mk, EXP]
      ·simp only [encR] at h6
       simp [F.f199B, F.f199C, F.f199R, F.f199K, h1, h2, h3, h4, h6, hk, c1, c2, c3, c4, n0, finP, encR_mk, encT_zero]
    ·have e0 : powT b e = (zeroT, mulE (ofP y) (ofP e)) := by simp [powT, c1, hx, k1, c2, c3]
     rw [e0]
     simp [F.f199B, F.f199C, F.f199R, F.f199K, h1, h2, h3, h4, hk, c1, c2, c3, encR_mk, encT_zero]
   ·have e0 : powT b e = (zeroT, ofE y) := by simp [powT, c1, hx, k1, c2]
    rw [e0]
    simp [F.f199B, F.f199C, F.f199R, F.f199K, h1, h2, h3, hk, c1, c2, encR_mk, encT_zero]
 ·have e0 : powT b e = (zeroT, ofE e) := by simp [powT, c1]
  rw [e0]
  simp [F.f199B, F.f199C, F.f199R, F.f199K, h1, c1, encR_mk, encT_zero]
theorem call261 (b e : Tm) (bs : List (List AV)) (hg : goodT b = true) (hb : b.mass < 20000000) (he : e.mass < 20000000) : call F.tb 261 [.agg (encT b), .agg (encT e)] bs = some (encR (powT b e), bs) := by
 have h1 := call253 e bs (by omega)
 have h2 := call_RIs b EXP bs
 have ke := km_ofP e 25000000 (by omega)
 have le := ofP_len e
 rw [call_code F.tb_261 _ _ rfl]
 by_cases c1 : ofE e = 0
 ·cases hx : isB b EXP
  ·rw [hx] at h2; simp only [EXP] at h2
   have h4 := call258' false bs ke le
   have e0 : powT b e = finP b (ofP e) := by simp [powT, c1, hx]
   rw [e0]
   generalize ofP e = p at *
   match p with
   | [] =>
    simp only [encPs_nil] at h1
    simp [F.f261B, F.f261C, F.f261R, F.f261K, h1, h2, c1, finP, encR_mk]
   | q :: r =>
    have n0 : ¬ (r.length : Int) + 1 = 0 := by omega
    by_cases c2 : (termP (q :: r)).2 = 0
    ·have h5 := call120 EXP [b, (termP (q :: r)).1] false bs (by simp)
     simp only [encR, encTs] at h4 h5
     simp only [EXP] at h5
     simp [F.f261B, F.f261C, F.f261R, F.f261K, h1, h2, h4, h5, c1, c2, n0, finP, encR_mk, EXP]
    ·simp only [encR] at h4
     simp [F.f261B, F.f261C, F.f261R, F.f261K, h1, h2, h4, c1, c2, n0, finP, encR_mk, encT_zero]
  ·obtain ⟨x, y, hk⟩ := good_two hg hx (by simp [arOk])
   rw [hx] at h2; simp only [EXP] at h2
   have hmb := mass_eq b
   rw [hk] at hmb
   simp only [massL] at hmb
   have k0 : kid b 0 = x := by simp [kid, hk]
   have k1 : kid b 1 = y := by simp [kid, hk]
   have h3 := call253 y bs (by omega)
   have ky := km_ofP y 25000000 (by omega)
   have ly := ofP_len y
   by_cases c2 : ofE y = 0
   ·have h4 := call262 (ofP y) (ofP e) false false bs (by omega) (by omega) (fun q hq => by have := ky q hq; unfold big; omega) (fun q hq => by have := ke q hq; unfold big; omega)
    by_cases c3 : mulE (ofP y) (ofP e) = 0
    ·have h6 := call258' false bs (km_mulP ky ke) (mulP_len (ofP y) (ofP e))
     have e0 : powT b e = finP x (mulP (ofP y) (ofP e)) := by simp [powT, c1, hx, k0, k1, c2, c3]
     rw [e0]
     generalize mulP (ofP y) (ofP e) = p at *
     match p with
     | [] =>
      simp only [encPs_nil] at h4
      simp [F.f261B, F.f261C, F.f261R, F.f261K, h1, h2, h3, h4, hk, c1, c2, c3, finP, encR_mk]
     | q :: r =>
      have n0 : ¬ (r.length : Int) + 1 = 0 := by omega
      by_cases c4 : (termP (q :: r)).2 = 0
      ·have h5 := call120 EXP [x, (termP (q :: r)).1] false bs (by simp)
       simp only [encR, encTs] at h6 h5
       simp only [EXP] at h5
       simp [F.f261B, F.f261C, F.f261R, F.f261K, h1, h2, h3, h4, h5, h6, hk, c1, c2, c3, c4, n0, finP, encR_mk, EXP]
      ·simp only [encR] at h6
       simp [F.f261B, F.f261C, F.f261R, F.f261K, h1, h2, h3, h4, h6, hk, c1, c2, c3, c4, n0, finP, encR_mk, encT_zero]
    ·have e0 : powT b e = (zeroT, mulE (ofP y) (ofP e)) := by simp [powT, c1, hx, k1, c2, c3]
     rw [e0]
     simp [F.f261B, F.f261C, F.f261R, F.f261K, h1, h2, h3, h4, hk, c1, c2, c3, encR_mk, encT_zero]
   ·have e0 : powT b e = (zeroT, ofE y) := by simp [powT, c1, hx, k1, c2]
    rw [e0]
    simp [F.f261B, F.f261C, F.f261R, F.f261K, h1, h2, h3, hk, c1, c2, encR_mk, encT_zero]
 ·have e0 : powT b e = (zeroT, ofE e) := by simp [powT, c1]
  rw [e0]
  simp [F.f261B, F.f261C, F.f261R, F.f261K, h1, c1, encR_mk, encT_zero]
end Go.Am
