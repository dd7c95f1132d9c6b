/-
  Rc31, Rc32, Rc33, Rc34, Rc35, Rc36, Rc37, Rc38, Rc39, Rc40, Rc41, Rc42, Rc43, Rc44, Rc45.
-/
import Derived.Test.YteahheknpdcoeaaGreatDoorG23
set_option linter.unusedVariables false
set_option linter.unusedSimpArgs false
namespace Go.Am
set_option maxRecDepth 8000
def rightTE (x : Tm) : Int := if thV x ≠ 0 then thV x else if varsT x ≠ [] then 13 else if plainB x then 0 else 10
def trmE : List Tm → Int
 | [] => 0
 | x :: r => if rightTE x ≠ 0 then rightTE x else trmE r
def secE : Option Tm → List Tm → Int
 | _, [] => 0
 | prev, x :: r => if validT x ≠ 0 then validT x else if x.kind ≠ 2 ∨ pubT x = true then 1 else if gtO prev x then secE (some x) r else 5
structure Fr where
 s : List Tm
 t : List Tm
def encF (f : Fr) : List AV := [.sl false 4 (encTs f.s), .sl false 4 (encTs f.t)]
def validF (f : Fr) : Int := if 40 < f.s.length ∨ 40 < f.t.length then 3 else if secE none f.s ≠ 0 then secE none f.s else trmE f.t
theorem trm_loop (l : List Tm) (bs : List (List AV)) (hl : l.length < 1000000) (hm : ∀ x ∈ l, x.mass < 1000000) :
  ∀ (post pre : List Tm) (ρ : Nat → AV), l = pre ++ post → ρ 54 = .sl false 4 (encTs l) → ρ 55 = .int .i64 l.length → ρ 56 = .int .i64 pre.length →
  R F.tb (.loop F.f158l1) ρ bs (blockK 2 (seqK F.tb F.f158r0 (finK F.f158 bs))) = some (.int .i64 (trmE post), bs) := by
 intro post
 induction post with
 | nil =>
  intro pre ρ hk h1 h2 h3
  simp only [List.append_nil] at hk
  rw [← hk] at h3
  rw [R_loop' F.f158l1.eq_1]
  simp [h1, h2, h3, F.f158r0, F.f158R, F.f158K, trmE]
 | cons x post IH =>
  intro pre ρ hk h1 h2 h3
  have hg := get_pre hk
  have hll : l.length = pre.length + (post.length + 1) := by rw [hk]; simp
  have hw1 : IntKind.i64.wrap ((pre.length : Int) + 1) = (pre.length : Int) + 1 := wrap64 (by omega) (by omega)
  have hlt : (pre.length : Int) < (l.length : Int) := by omega
  have hxm := hm x (by rw [hk]; simp)
  have hxb : x.mass < big := by unfold big; omega
  have c1 := call_thValid x bs hxb
  have c2 := call_Vars x bs (by omega)
  have c3 := call173 x bs hxb
  have hh := fun ρ => IH (pre ++ [x]) ρ (by rw [hk]; simp)
  rw [R_loop' F.f158l1.eq_1]
  by_cases e1 : thV x = 0
  ·by_cases e2 : varsT x = []
   ·rw [e2] at c2
    simp only [encTs] at c2
    cases e3 : plainB x
    ·simp [h1, h2, h3, hg, hlt, c1, c2, c3, e1, e2, e3, F.f158R, F.f158K, trmE, rightTE]
    ·simp [h1, h2, h3, hg, hlt, hw1, c1, c2, c3, e1, e2, e3, trmE, rightTE]
     apply hh <;> simp [h1, h2]
   ·have hp : 0 < (varsT x).length := List.length_pos_iff.2 e2
    have hp' : (0 : Int) < ((varsT x).length : Int) := by omega
    simp [h1, h2, h3, hg, hlt, c1, c2, e1, e2, hp, F.f158R, F.f158K, trmE, rightTE]
  ·simp [h1, h2, h3, hg, hlt, c1, e1, F.f158R, F.f158K, trmE, rightTE]
def lastT (l : List Tm) : Option Tm := l.getLast?
theorem lastT_nil : lastT [] = none := rfl
theorem lastT_app (l : List Tm) (p : Tm) : lastT (l ++ [p]) = some p := by simp [lastT]
theorem sec_loop (f : Fr) (bs : List (List AV)) (hl : f.s.length < 1000000) (hm : ∀ x ∈ f.s, x.mass < 1000000) (X : Int)
  (hX : ∀ ρ : Nat → AV, ρ 1 = .bx (encF f) → R F.tb F.f158r1 ρ bs (finK F.f158 bs) = some (.int .i64 X, bs)) :
  ∀ (post pre : List Tm) (ρ : Nat → AV), f.s = pre ++ post → ρ 1 = .bx (encF f) → ρ 20 = .sl false 4 (encTs f.s) → ρ 21 = .int .i64 f.s.length → ρ 22 = .int .i64 pre.length →
  R F.tb (.loop F.f158l0) ρ bs (blockK 0 (seqK F.tb F.f158r1 (finK F.f158 bs))) = some (.int .i64 (if secE (lastT pre) post ≠ 0 then secE (lastT pre) post else X), bs) := by
 intro post
 induction post with
 | nil =>
  intro pre ρ hk h1 h20 h21 h22
  simp only [List.append_nil] at hk
  rw [← hk] at h22
  rw [R_loop' F.f158l0.eq_1]
  simp [h1, h20, h21, h22, secE]
  apply hX; simp [h1]
 | cons x post IH =>
  intro pre ρ hk h1 h20 h21 h22
  have hg := get_pre hk
  have hll : f.s.length = pre.length + (post.length + 1) := by rw [hk]; simp
  have hw1 : IntKind.i64.wrap ((pre.length : Int) + 1) = (pre.length : Int) + 1 := wrap64 (by omega) (by omega)
  have hlt : (pre.length : Int) < (f.s.length : Int) := by omega
  have hxm := hm x (by rw [hk]; simp)
  have hxb : x.mass < big := by unfold big; omega
  have c1 := call_Valid x bs hxb
  have c2 := call159 x bs hxm
  have hh := fun ρ => IH (pre ++ [x]) ρ (by rw [hk]; simp)
  rw [lastT_app] at hh
  rw [R_loop' F.f158l0.eq_1]
  by_cases e1 : validT x = 0
  ·by_cases e2 : x.kind = 2
   ·cases e3 : pubT x
    ·rcases List.eq_nil_or_concat pre with rfl | ⟨pre2, q, rfl⟩
     ·have h22' : ρ 22 = .int .i64 0 := h22
      have hg' : f.s[0]? = some x := hg
      have hlt' : 0 < f.s.length := by omega
      have hw0 : IntKind.i64.wrap 1 = 1 := rfl
      clear h22 hg hlt hw1
      simp [-getElem?_pos, h1, h20, h21, h22', hg', hlt', hw0, c1, c2, e1, e2, e3, secE, gtO, lastT_nil]
      simp only [ite_not] at hh
      apply hh <;> simp [h1, h20, h21]
     ·simp only [List.concat_eq_append] at *
      have hg2 : f.s[pre2.length]? = some q := by rw [hk]; simp
      have hq := hm q (by rw [hk]; simp)
      have h4 := call_Compare q x bs (by unfold big; omega) hxb
      have hp0 : (0 : Int) < (pre2.length : Int) + 1 := by omega
      have hp1 : (0 : Int) ≤ (pre2.length : Int) + 1 := by omega
      have hp2 : ((pre2.length : Int) + 1).toNat = pre2.length + 1 := by omega
      have hw2 : IntKind.i64.wrap (pre2.length : Int) = (pre2.length : Int) := wrap64 (by simp at hll; omega) (by simp at hll; omega)
      rw [lastT_app]
      simp only [List.length_append, List.length_singleton, Int.natCast_add, Int.natCast_one] at h22 hg hlt hw1 hh
      by_cases c6 : cmpT q x < 0
      ·have c6' : ¬ 0 ≤ cmpT q x := by omega
       simp [encF, h1, h20, h21, h22, hg, hg2, hlt, hw1, hw2, hp0, hp1, hp2, h4, c1, c2, e1, e2, e3, c6, c6', secE, gtO]
       simp only [ite_not] at hh
       apply hh <;> simp [h1, h20, h21, encF]
      ·have c6' : 0 ≤ cmpT q x := by omega
       simp [encF, h1, h20, h21, h22, hg, hg2, hlt, hw1, hw2, hp0, hp1, hp2, h4, c1, c2, e1, e2, e3, c6, c6', secE, gtO, F.f158R, F.f158K]
    ·simp [h1, h20, h21, h22, hg, hlt, c1, c2, e1, e2, e3, secE, F.f158R, F.f158K]
   ·simp [h1, h20, h21, h22, hg, hlt, c1, e1, e2, secE, F.f158R, F.f158K]
  ·simp [h1, h20, h21, h22, hg, hlt, c1, e1, secE, F.f158R, F.f158K]
structure FOk (f : Fr) : Prop where
 s : ∀ x ∈ f.s, x.mass < 1000000
 t : ∀ x ∈ f.t, x.mass < 1000000
 sl : f.s.length < 1000000
 tl : f.t.length < 1000000
theorem call158 (f : Fr) (bs : List (List AV)) (h : FOk f) : call F.tb 158 [.agg (encF f)] bs = some (.int .i64 (validF f), bs) := by
 have ht := fun ρ => trm_loop f.t bs h.tl h.t f.t [] ρ rfl
 have hX : ∀ ρ : Nat → AV, ρ 1 = .bx (encF f) → R F.tb F.f158r1 ρ bs (finK F.f158 bs) = some (.int .i64 (trmE f.t), bs) := by
  intro ρ h1
  simp [F.f158r1, h1, encF]
  apply ht <;> simp
 have hs := fun ρ => sec_loop f bs h.sl h.s (trmE f.t) hX f.s [] ρ rfl
 rw [lastT_nil] at hs
 rw [call_code F.tb_158 _ _ rfl]
 by_cases c1 : 40 < f.s.length
 ·have c1' : (40 : Int) < (f.s.length : Int) := by omega
  simp [F.f158B, F.f158C, F.f158R, F.f158K, encF, c1, c1', validF]
 ·have c1' : ¬ (40 : Int) < (f.s.length : Int) := by omega
  by_cases c2 : 40 < f.t.length
  ·have c2' : (40 : Int) < (f.t.length : Int) := by omega
   simp [F.f158B, F.f158C, F.f158R, F.f158K, encF, c1, c1', c2, c2', validF]
  ·have c2' : ¬ (40 : Int) < (f.t.length : Int) := by omega
   have e : validF f = if secE none f.s ≠ 0 then secE none f.s else trmE f.t := by simp [validF, c1, c2]
   rw [e]
   generalize (if secE none f.s ≠ 0 then secE none f.s else trmE f.t) = V at *
   simp [F.f158B, F.f158C, encF, c1', c2']
   apply hs <;> simp [encF]
end Go.Am
namespace Go.Am
set_option maxRecDepth 8000
theorem call233 (x : Tm) (bs : List (List AV)) (hm : x.mass < 1000000) : call F.tb 233 [.agg (encT x)] bs = some (.int .i64 (rightTE x), bs) := by
 have c1 := call_R9Valid x bs (by unfold big; omega)
 have c2 := call_Ground x bs (by omega)
 have c3 := call240 x bs hm
 rw [call_code F.tb_233 _ _ rfl]
 by_cases e1 : thV x = 0
 ·by_cases e2 : varsT x = []
  ·cases e3 : plainB x
   ·simp [F.f233B, F.f233C, F.f233R, F.f233K, c1, c2, c3, e1, e2, e3, rightTE]
   ·simp [F.f233B, F.f233C, F.f233R, F.f233K, c1, c2, c3, e1, e2, e3, rightTE]
  ·simp [F.f233B, F.f233C, F.f233R, F.f233K, c1, c2, e1, e2, rightTE]
 ·simp [F.f233B, F.f233C, F.f233R, F.f233K, c1, e1, rightTE]
theorem Rtrm_loop (f : Fr) (bs : List (List AV)) (h : FOk f) : ∀ (post pre : List Tm) (ρ : Nat → AV), f.t = pre ++ post → ρ 1 = .bx (encF f) → ρ 5 = .int .i64 pre.length →
  R F.tb (.loop F.f230l1) ρ bs (blockK 2 (seqK F.tb F.f230r0 (finK F.f230 bs))) = some (.int .i64 (trmE post), bs) := by
 have hl := h.tl
 intro post
 induction post with
 | nil =>
  intro pre ρ hk h1 h5
  simp only [List.append_nil] at hk
  rw [← hk] at h5
  rw [R_loop' F.f230l1.eq_1]
  simp [h1, h5, encF, F.f230r0, F.f230R, F.f230K, trmE]
 | cons x post IH =>
  intro pre ρ hk h1 h5
  have hg := get_pre hk
  have hll : f.t.length = pre.length + (post.length + 1) := by rw [hk]; simp
  have hw1 : IntKind.i64.wrap ((pre.length : Int) + 1) = (pre.length : Int) + 1 := wrap64 (by omega) (by omega)
  have hlt : (pre.length : Int) < (f.t.length : Int) := by omega
  have c1 := call233 x bs (h.t x (by rw [hk]; simp))
  have hh := fun ρ => IH (pre ++ [x]) ρ (by rw [hk]; simp)
  rw [R_loop' F.f230l1.eq_1]
  by_cases e1 : rightTE x = 0
  ·simp [h1, h5, encF, hg, hlt, hw1, c1, e1, trmE]
   apply hh <;> simp [h1, encF]
  ·simp [h1, h5, encF, hg, hlt, c1, e1, F.f230R, F.f230K, trmE]
theorem Rsec_loop (f : Fr) (bs : List (List AV)) (h : FOk f) : ∀ (post pre : List Tm) (ρ : Nat → AV), f.s = pre ++ post → ρ 1 = .bx (encF f) → ρ 3 = .int .i64 pre.length →
  R F.tb (.loop F.f230l0) ρ bs (blockK 0 (seqK F.tb F.f230r1 (finK F.f230 bs))) = some (.int .i64 (if secE (lastT pre) post ≠ 0 then secE (lastT pre) post else trmE f.t), bs) := by
 have hl := h.sl
 have ht := fun ρ => Rtrm_loop f bs h f.t [] ρ rfl
 intro post
 induction post with
 | nil =>
  intro pre ρ hk h1 h3
  simp only [List.append_nil] at hk
  rw [← hk] at h3
  rw [R_loop' F.f230l0.eq_1]
  simp [h1, h3, encF, secE, F.f230r1]
  apply ht <;> simp [h1, encF]
 | cons x post IH =>
  intro pre ρ hk h1 h3
  have hg := get_pre hk
  have hll : f.s.length = pre.length + (post.length + 1) := by rw [hk]; simp
  have hw1 : IntKind.i64.wrap ((pre.length : Int) + 1) = (pre.length : Int) + 1 := wrap64 (by omega) (by omega)
  have hlt : (pre.length : Int) < (f.s.length : Int) := by omega
  have hxm := h.s x (by rw [hk]; simp)
  have hxb : x.mass < big := by unfold big; omega
  have c1 := call_RValid1 x bs hxb
  have c2 := call231 x bs hxm
  have hh := fun ρ => IH (pre ++ [x]) ρ (by rw [hk]; simp)
  rw [lastT_app] at hh
  rw [R_loop' F.f230l0.eq_1]
  by_cases e1 : validT x = 0
  ·by_cases e2 : x.kind = 2
   ·cases e3 : pubT x
    ·rcases List.eq_nil_or_concat pre with rfl | ⟨pre2, q, rfl⟩
     ·have h3' : ρ 3 = .int .i64 0 := h3
      have hg' : f.s[0]? = some x := hg
      have hlt' : 0 < f.s.length := by omega
      have hw0 : IntKind.i64.wrap 1 = 1 := rfl
      clear h3 hg hlt hw1
      simp [-getElem?_pos, some_get, List.getElem?_cons_succ, encF, h1, h3', hg', hlt', hw0, c1, c2, e1, e2, e3, secE, gtO, lastT_nil]
      simp only [ite_not] at hh
      apply hh <;> simp [h1, encF]
     ·simp only [List.concat_eq_append] at *
      have hg2 : f.s[pre2.length]? = some q := by rw [hk]; simp
      have hq := h.s q (by rw [hk]; simp)
      have h4 := call_RCompare q x bs (by unfold big; omega) hxb
      have hp0 : (0 : Int) < (pre2.length : Int) + 1 := by omega
      have hp1 : (0 : Int) ≤ (pre2.length : Int) + 1 := by omega
      have hp2 : ((pre2.length : Int) + 1).toNat = pre2.length + 1 := by omega
      have hw2 : IntKind.i64.wrap (pre2.length : Int) = (pre2.length : Int) := wrap64 (by simp at hll; omega) (by simp at hll; omega)
      rw [lastT_app]
      simp only [List.length_append, List.length_singleton, Int.natCast_add, Int.natCast_one] at h3 hg hlt hw1 hh
      by_cases c6 : cmpT q x < 0
      ·have c6' : ¬ 0 ≤ cmpT q x := by omega
       simp [encF, h1, h3, hg, hg2, hlt, hw1, hw2, hp0, hp1, hp2, h4, c1, c2, e1, e2, e3, c6, c6', secE, gtO]
       simp only [ite_not] at hh
       apply hh <;> simp [h1, encF]
      ·have c6' : 0 ≤ cmpT q x := by omega
       simp [encF, h1, h3, hg, hg2, hlt, hw1, hw2, hp0, hp1, hp2, h4, c1, c2, e1, e2, e3, c6, c6', secE, gtO, F.f230R, F.f230K]
    ·simp [h1, h3, encF, hg, hlt, c1, c2, e1, e2, e3, secE, F.f230R, F.f230K]
   ·simp [h1, h3, encF, hg, hlt, c1, e1, e2, secE, F.f230R, F.f230K]
  ·simp [h1, h3, encF, hg, hlt, c1, e1, secE, F.f230R, F.f230K]
theorem call230 (f : Fr) (bs : List (List AV)) (h : FOk f) : call F.tb 230 [.agg (encF f)] bs = some (.int .i64 (validF f), bs) := by
 have hs := fun ρ => Rsec_loop f bs h f.s [] ρ rfl
 rw [lastT_nil] at hs
 rw [call_code F.tb_230 _ _ rfl]
 by_cases c1 : 40 < f.s.length
 ·have c1' : (40 : Int) < (f.s.length : Int) := by omega
  simp [F.f230B, F.f230C, F.f230R, F.f230K, encF, c1, c1', validF]
 ·have c1' : ¬ (40 : Int) < (f.s.length : Int) := by omega
  by_cases c2 : 40 < f.t.length
  ·have c2' : (40 : Int) < (f.t.length : Int) := by omega
   simp [F.f230B, F.f230C, F.f230R, F.f230K, encF, c1, c1', c2, c2', validF]
  ·have c2' : ¬ (40 : Int) < (f.t.length : Int) := by omega
   have e : validF f = if secE none f.s ≠ 0 then secE none f.s else trmE f.t := by simp [validF, c1, c2]
   rw [e]
   generalize (if secE none f.s ≠ 0 then secE none f.s else trmE f.t) = V at *
   simp [F.f230B, F.f230C, encF, c1', c2']
   apply hs <;> simp [encF]
end Go.Am
namespace Go.Am
set_option maxRecDepth 8000
theorem call213 (x y : Tm) (bs : List (List AV)) (hx : x.mass < big) (hy : y.mass < big) : call F.tb 213 [.agg (encT x), .agg (encT y)] bs = some (.bool (decide (cmpT x y = 0)), bs) := by
 have h := call_Compare x y bs hx hy
 rw [call_code F.tb_213 _ _ rfl]
 simp [F.f213B, F.f213C, F.f213R, F.f213K, h]
theorem call212 (x y : Tm) (g : Nat) (bs : List (List AV)) (hg : bs[g]? = some (encT y)) (hx : x.mass < big) (hy : y.mass < big) : call F.tb 212 [.agg (encT x), .gp g 0] bs = some (.bool (decide (cmpT x y = 0)), bs) := by
 have h := call213 x y bs hx hy
 rw [call_code F.tb_212 _ _ rfl]
 simp [-getElem?_pos, F.f212B, F.f212C, F.f212R, F.f212K, hg, h]
def eqB (y x : Tm) : Bool := decide (cmpT x y = 0)
theorem ixT_loop (l : List Tm) (y : Tm) (g : Nat) (bs : List (List AV)) (hg : bs[g]? = some (encT y)) (hl : l.length < 1000000) (hm : ∀ x ∈ l, x.mass < big) (hy : y.mass < big) :
  ∀ (post pre : List Tm) (o : Bool) (ρ : Nat → AV), l = pre ++ post → pre.any (eqB y) = false → ρ 0 = .sl o 4 (encTs l) → ρ 1 = .fn 212 [.gp g 0] → ρ 7 = .int .i64 l.length → ρ 8 = .int .i64 pre.length →
  IxOk (l.any (eqB y)) bs (R F.tb (.loop F.f215l0) ρ bs (blockK 0 (seqK F.tb F.f215r0 (finK F.f215 bs)))) := by
 intro post
 induction post with
 | nil =>
  intro pre o ρ hk hp h0 h1 h7 h8
  simp only [List.append_nil] at hk
  rw [← hk] at h8 hp
  rw [R_loop' F.f215l0.eq_1]
  refine ⟨-1, ?_, by rw [hp]; simp⟩
  simp [h0, h1, h7, h8, F.f215r0, F.f215R, F.f215K]
 | cons x post IH =>
  intro pre o ρ hk hp h0 h1 h7 h8
  have hgt := get_pre hk
  have hll : l.length = pre.length + (post.length + 1) := by rw [hk]; simp
  have hw1 : IntKind.i64.wrap ((pre.length : Int) + 1) = (pre.length : Int) + 1 := wrap64 (by omega) (by omega)
  have hlt : (pre.length : Int) < (l.length : Int) := by omega
  have hcall := call212 x y g bs hg (hm x (by rw [hk]; simp)) hy
  have ih := fun ρ hpp => IH (pre ++ [x]) o ρ (by rw [hk]; simp) hpp
  rw [R_loop' F.f215l0.eq_1]
  by_cases ho : cmpT x y = 0
  ·have hany : l.any (eqB y) = true := List.any_eq_true.2 ⟨x, by rw [hk]; simp, by simp [eqB, ho]⟩
   refine ⟨pre.length, ?_, by rw [hany]; simp⟩
   simp [h0, h1, h7, h8, hlt, hgt, hcall, ho, F.f215R, F.f215K]
  ·have ih2 := fun ρ => ih ρ (by rw [List.any_append, hp]; simp [eqB, ho])
   simp [h0, h1, h7, h8, hlt, hgt, hw1, hcall, ho, -List.any_eq_false, -List.any_eq_true]
   apply ih2 <;> simp [h0, h1, h7]
theorem call211 (l : List Tm) (y : Tm) (o : Bool) (bs : List (List AV)) (hl : l.length < 1000000) (hm : ∀ x ∈ l, x.mass < big) (hy : y.mass < big) :
  call F.tb 211 [.sl o 4 (encTs l), .agg (encT y)] bs = some (.bool (l.any (eqB y)), bs) := by
 have hg : (bs ++ [encT y])[bs.length]? = some (encT y) := List.getElem?_concat_length
 have h1 := fun ρ => ixT_loop l y bs.length (bs ++ [encT y]) hg hl hm hy l [] false ρ rfl rfl
 have h2 : IxOk (l.any (eqB y)) (bs ++ [encT y]) (call F.tb 215 [.sl false 4 (encTs l), .fn 212 [.gp bs.length 0]] (bs ++ [encT y])) := by
  rw [call_code F.tb_215 _ _ rfl]
  simp [F.f215B, F.f215C, -List.any_eq_false, -List.any_eq_true]
  apply h1 <;> simp
 obtain ⟨i, hi, hb⟩ := h2
 have htk : (bs ++ [encT y]).take (bs.length + 1) = bs ++ [encT y] := List.take_of_length_le (by simp)
 have h3 : call F.tb 214 [.sl false 4 (encTs l), .fn 212 [.gp bs.length 0]] (bs ++ [encT y]) = some (.bool (l.any (eqB y)), bs ++ [encT y]) := by
  rw [call_code F.tb_214 _ _ rfl]
  simp [F.f214B, F.f214C, hi, F.f214R, F.f214K, htk, -List.any_eq_false, -List.any_eq_true]
  cases hx : l.any (eqB y)
  ·rw [hx] at hb; simp at hb; simpa using hb
  ·rw [hx] at hb; simp at hb; simpa using hb
 rw [call_code F.tb_211 _ _ rfl]
 simp [F.f211B, F.f211C, F.f211R, F.f211K, h3, -List.any_eq_false, -List.any_eq_true]
def TS (B0 B : List (List AV)) (v : AV) (l : List Tm) : Prop := ∃ (M : List (List AV)) (id sz : Nat), B = B0 ++ M ∧ v = .gs id 0 sz l.length ∧
 ((sz = 0 ∧ id = 0 ∧ l = []) ∨ (sz = 4 ∧ B0.length ≤ id ∧ l ≠ [] ∧ B[id]? = some (rowT l)))
theorem ts_gs {B0 B : List (List AV)} {v : AV} {l : List Tm} (h : TS B0 B v l) : ∃ id sz, v = .gs id 0 sz l.length := by
 obtain ⟨M, id, sz, _, rfl, _⟩ := h; exact ⟨id, sz, rfl⟩
theorem ts_nil (B0 : List (List AV)) : TS B0 B0 (.gs 0 0 0 0) [] := ⟨[], 0, 0, by simp, rfl, .inl ⟨rfl, rfl, rfl⟩⟩
theorem ixM_loop {B : List (List AV)} {id sz : Nat} (l : List Tm) (y : Tm) (g : Nat) (hb : l ≠ [] → sz = 4 ∧ B[id]? = some (rowT l)) (hg : B[g]? = some (encT y)) (hl : l.length < 1000000) (hm : ∀ x ∈ l, x.mass < big) (hy : y.mass < big) :
  ∀ (post pre : List Tm) (ρ : Nat → AV), l = pre ++ post → pre.any (eqB y) = false → ρ 0 = .gs id 0 sz l.length → ρ 1 = .fn 212 [.gp g 0] → ρ 7 = .int .i64 l.length → ρ 8 = .int .i64 pre.length →
  IxOk (l.any (eqB y)) B (R F.tb (.loop F.f218l0) ρ B (blockK 0 (seqK F.tb F.f218r0 (finK F.f218 B)))) := by
 intro post
 induction post with
 | nil =>
  intro pre ρ hk hp h0 h1 h7 h8
  simp only [List.append_nil] at hk
  rw [← hk] at h8 hp
  rw [R_loop' F.f218l0.eq_1]
  refine ⟨-1, ?_, by rw [hp]; simp⟩
  simp [h0, h1, h7, h8, F.f218r0, F.f218R, F.f218K]
 | cons x post IH =>
  intro pre ρ hk hp h0 h1 h7 h8
  have hgt := get_pre hk
  have hll : l.length = pre.length + (post.length + 1) := by rw [hk]; simp
  have hw1 : IntKind.i64.wrap ((pre.length : Int) + 1) = (pre.length : Int) + 1 := wrap64 (by omega) (by omega)
  have hlt : (pre.length : Int) < (l.length : Int) := by omega
  have hlt' : pre.length < l.length := by omega
  obtain ⟨rfl, hbx⟩ := hb (by intro e; rw [e] at hlt'; simp at hlt')
  have r1 : (((rowT l).map AV.strip).drop (pre.length * 4)).take 4 = encT x := by
   have := row_rd (f := encT) (k := 4) encT_len4 hk []
   rw [List.append_nil] at this
   rw [row_strip encT_strip]; exact this
  have hle : pre.length * 4 + 4 ≤ (rowT l).length := by rw [row_len encT_len4]; omega
  have hcall := call212 x y g B hg (hm x (by rw [hk]; simp)) hy
  have ih := fun ρ hpp => IH (pre ++ [x]) ρ (by rw [hk]; simp) hpp
  generalize rowT l = c at *
  rw [R_loop' F.f218l0.eq_1]
  by_cases ho : cmpT x y = 0
  ·have hany : l.any (eqB y) = true := List.any_eq_true.2 ⟨x, by rw [hk]; simp, by simp [eqB, ho]⟩
   refine ⟨pre.length, ?_, by rw [hany]; simp⟩
   simp [-getElem?_pos, h0, h1, h7, h8, hlt, hlt', hbx, hle, r1, hcall, ho, F.f218R, F.f218K]
  ·have ih2 := fun ρ => ih ρ (by rw [List.any_append, hp]; simp [eqB, ho])
   simp [-getElem?_pos, h0, h1, h7, h8, hlt, hlt', hw1, hbx, hle, r1, hcall, ho, -List.any_eq_false, -List.any_eq_true]
   apply ih2 <;> simp [h0, h1, h7]
theorem call216 {B0 B : List (List AV)} {v : AV} {l : List Tm} (h : TS B0 B v l) (y : Tm) (hl : l.length < 1000000) (hm : ∀ x ∈ l, x.mass < big) (hy : y.mass < big) :
  call F.tb 216 [v, .agg (encT y)] B = some (.bool (l.any (eqB y)), B) := by
 obtain ⟨M, id, sz, rfl, rfl, hc⟩ := h
 have hg : ((B0 ++ M) ++ [encT y])[(B0 ++ M).length]? = some (encT y) := List.getElem?_concat_length
 have hb : l ≠ [] → sz = 4 ∧ ((B0 ++ M) ++ [encT y])[id]? = some (rowT l) := by
  intro hne
  rcases hc with ⟨_, _, rfl⟩ | ⟨h1, _, _, h2⟩
  ·exact absurd rfl hne
  ·refine ⟨h1, ?_⟩
   rw [List.getElem?_append_left (get_lt h2), h2]
 generalize B0 ++ M = B at *
 have h1 := fun ρ => ixM_loop l y B.length hb hg hl hm hy l [] ρ rfl rfl
 have h2 : IxOk (l.any (eqB y)) (B ++ [encT y]) (call F.tb 218 [.gs id 0 sz l.length, .fn 212 [.gp B.length 0]] (B ++ [encT y])) := by
  rw [call_code F.tb_218 _ _ rfl]
  simp [F.f218B, F.f218C, -List.any_eq_false, -List.any_eq_true]
  apply h1 <;> simp
 obtain ⟨i, hi, hb2⟩ := h2
 have htk : (B ++ [encT y]).take (B.length + 1) = B ++ [encT y] := List.take_of_length_le (by simp)
 have h3 : call F.tb 217 [.gs id 0 sz l.length, .fn 212 [.gp B.length 0]] (B ++ [encT y]) = some (.bool (l.any (eqB y)), B ++ [encT y]) := by
  rw [call_code F.tb_217 _ _ rfl]
  simp [F.f217B, F.f217C, hi, F.f217R, F.f217K, htk, -List.any_eq_false, -List.any_eq_true]
  cases hx : l.any (eqB y)
  ·rw [hx] at hb2; simp at hb2; simpa using hb2
  ·rw [hx] at hb2; simp at hb2; simpa using hb2
 rw [call_code F.tb_216 _ _ rfl]
 simp [F.f216B, F.f216C, F.f216R, F.f216K, h3, -List.any_eq_false, -List.any_eq_true]
theorem call208 (t : Tm) (bs : List (List AV)) (hm : t.mass < big) : call F.tb 208 [.agg (encT t)] bs = some (.agg (encT t), bs) := by
 have h := call_At0 t bs hm true
 rw [call_code F.tb_208 _ _ rfl]
 simp [F.f208B, F.f208C, F.f208R, F.f208K, h]
end Go.Am
namespace Go.Am
set_option maxRecDepth 8000
def newB (sec acc : List Tm) (x : Tm) : Bool := !pubT x && !sec.any (eqB x) && !acc.any (eqB x)
def foldF (sec : List Tm) : List Tm → List Tm → List Tm
 | acc, [] => acc
 | acc, x :: r => foldF sec (if newB sec acc x then acc ++ [x] else acc) r
def outsF (sec : List Tm) : List Tm → List Tm → List Tm
 | acc, [] => acc
 | acc, t :: r => outsF sec (foldF sec acc (atomsT t)) r
theorem foldF_len (sec : List Tm) : ∀ (l acc : List Tm), (foldF sec acc l).length ≤ acc.length + l.length
 | [], acc => by simp [foldF]
 | x :: r, acc => by
  have h := foldF_len sec r (if newB sec acc x then acc ++ [x] else acc)
  simp only [foldF, List.length_cons]
  split at h
  ·rename_i c; simp only [c, if_true]; simp only [List.length_append, List.length_singleton] at h; omega
  ·rename_i c; simp only [c]; simp only [Bool.false_eq_true, if_false]; omega
theorem foldF_mem {sec : List Tm} : ∀ {l acc : List Tm} {y : Tm}, y ∈ foldF sec acc l → y ∈ acc ∨ y ∈ l
 | [], acc, y, h => .inl h
 | x :: r, acc, y, h => by
  simp only [foldF] at h
  rcases foldF_mem h with h | h
  ·split at h
   ·rcases List.mem_append.1 h with h | h
    ·exact .inl h
    ·simp at h; exact .inr (by simp [h])
   ·exact .inl h
  ·exact .inr (by simp [h])
theorem ts_app {B0 B : List (List AV)} {v : AV} {l : List Tm} (x : Tm) (o : Bool) (h : TS B0 B v l) (hl : l.length < 1000000) : ∃ v' B', appM 56 4 v (.sl o 4 [encT x]) B = some (v', B') ∧ TS B0 B' v' (l ++ [x]) := by
 obtain ⟨M, id, sz, rfl, rfl, hc⟩ := h
 have hb : (l.length + 1) * 56 ≤ 140737488355328 := lim56 (by omega)
 have hs : srcOf 4 (.sl o 4 [encT x]) (B0 ++ M) = some (1, encT x) := by simp [srcOf]
 rcases hc with ⟨rfl, rfl, rfl⟩ | ⟨rfl, hid, hne0, hbx⟩
 ·refine ⟨.gs (B0 ++ M).length 0 4 1, B0 ++ (M ++ [encT x]), ?_, M ++ [encT x], (B0 ++ M).length, 4, rfl, rfl, .inr ⟨rfl, by simp, by simp, ?_⟩⟩
  ·simp [appM, hs]
  ·rw [← List.append_assoc, List.getElem?_concat_length]; simp [rowT, rowOf]
 ·have hr : (rowT l).length = l.length * 4 := row_len encT_len4 l
  have hrow : rowT (l ++ [x]) = rowT l ++ encT x := by simp [rowT, row_app, row_one]
  have hst : (rowT l).map AV.strip = rowT l := row_strip encT_strip l
  have hne : rowT l ≠ [] := by
   intro e; rw [e] at hr; simp at hr
   exact hne0 (List.eq_nil_of_length_eq_zero (by omega))
  have hroom : ¬ (l.length + 1) * 4 ≤ (rowT l).length := by omega
  refine ⟨.gs (B0 ++ M).length 0 4 (l.length + 1), (B0 ++ M).set id [] ++ [rowT l ++ encT x], ?_, M.set (id - B0.length) [] ++ [rowT l ++ encT x], (B0 ++ M).length, 4, ?_, by simp, .inr ⟨rfl, by simp, by simp, ?_⟩⟩
  ·simp only [appM, hs, Option.bind_some]
   rw [if_pos ⟨by omega, hb⟩, if_neg (by omega), if_neg (by omega), if_pos ⟨trivial, trivial⟩, hbx]
   simp only [Option.bind_some]
   rw [if_pos ⟨hne, by omega⟩, if_neg hroom, List.take_of_length_le (by omega), hst]
  ·rw [set_base hid, List.append_assoc]
  ·have e : (B0 ++ M).length = ((B0 ++ M).set id []).length := by simp
   rw [hrow, e, List.getElem?_concat_length]
theorem free_l0 (f : Fr) (hf : FOk f) (B0 : List (List AV)) (A : List Tm) (hA : ∀ x ∈ A, x.mass < 1000000) (hAl : A.length < 1000000) (c : AC) (K : Kn) (X : Out) :
  ∀ (post pre acc : List Tm) (B : List (List AV)) (v : AV) (o : Bool) (ρ : Nat → AV), A = pre ++ post → TS B0 B v acc → acc.length + post.length < 1000000 → (∀ x ∈ acc, x.mass < 1000000) →
   ρ 1 = .bx (encF f) → ρ 3 = v → ρ 16 = .sl o 4 (encTs A) → ρ 17 = .int .i64 A.length → ρ 18 = .int .i64 pre.length →
   (∀ (ρ' : Nat → AV) (B' : List (List AV)) (v' : AV), TS B0 B' v' (foldF f.s acc post) → ρ' 3 = v' → (∀ j, j < 12 → j ≠ 3 → j ≠ 7 → ρ' j = ρ j) → R F.tb c ρ' B' K = X) →
  R F.tb (.loop F.f209l0) ρ B (blockK 2 (blockK 1 (seqK F.tb c K))) = X := by
 intro post
 induction post with
 | nil =>
  intro pre acc B v o ρ hk hts hal ham h1 h3 h16 h17 h18 h
  simp only [List.append_nil] at hk
  rw [← hk] at h18
  rw [R_loop' F.f209l0.eq_1]
  simp [h1, h16, h17, h18]
  refine h _ B v hts ?_ ?_
  ·simp [h3]
  ·intro j hj h3j h7j
   have : j ≠ 19 := by omega
   simp [this]
 | cons x post IH =>
  intro pre acc B v o ρ hk hts hal ham h1 h3 h16 h17 h18 h
  have hg := get_pre hk
  have hll : A.length = pre.length + (post.length + 1) := by rw [hk]; simp
  have hw1 : IntKind.i64.wrap ((pre.length : Int) + 1) = (pre.length : Int) + 1 := wrap64 (by omega) (by omega)
  have hlt : (pre.length : Int) < (A.length : Int) := by omega
  have hxm := hA x (by rw [hk]; simp)
  have hxb : x.mass < big := by unfold big; omega
  simp only [List.length_cons] at hal
  have c1 := call159 x B hxm
  have c2 := call211 f.s x false B hf.sl (fun y hy => by have := hf.s y hy; unfold big; omega) hxb
  have c3 := call216 hts x (by omega) (fun y hy => by have := ham y hy; unfold big; omega) hxb
  obtain ⟨id, sz, rfl⟩ := ts_gs hts
  have hfr : ∀ (ρ2 : Nat → AV) (j : Nat), j < 12 → j ≠ 3 → j ≠ 7 → (∀ i, ρ2 i = ρ2 i) := fun _ _ _ _ _ _ => rfl
  have hjn : ∀ j : Nat, j < 12 → j ≠ 18 ∧ j ≠ 19 ∧ j ≠ 20 ∧ j ≠ 21 ∧ j ≠ 22 ∧ j ≠ 23 ∧ j ≠ 24 ∧ j ≠ 25 ∧ j ≠ 26 ∧ j ≠ 27 ∧ j ≠ 28 ∧ j ≠ 29 ∧ j ≠ 30 ∧ j ≠ 31 ∧ j ≠ 32 ∧ j ≠ 33 ∧ j ≠ 34 ∧ j ≠ 35 ∧ j ≠ 36 ∧ j ≠ 37 ∧ j ≠ 38 ∧ j ≠ 39 ∧ j ≠ 40 ∧ j ≠ 41 ∧ j ≠ 42 := fun j hj => by omega
  rw [R_loop' F.f209l0.eq_1]
  cases hn : newB f.s acc x
  ·have e : foldF f.s acc (x :: post) = foldF f.s acc post := by simp [foldF, hn]
   have hi := fun ρ2 h2 => IH (pre ++ [x]) acc B _ o ρ2 (by rw [hk]; simp) hts (by omega) ham h2
   have key : ∀ ρ2 : Nat → AV, ρ2 1 = .bx (encF f) → ρ2 3 = .gs id 0 sz acc.length → ρ2 16 = .sl o 4 (encTs A) → ρ2 17 = .int .i64 A.length → ρ2 18 = .int .i64 ((pre ++ [x]).length : Nat) → (∀ j, j < 12 → j ≠ 3 → j ≠ 7 → ρ2 j = ρ j) →
     R F.tb (.loop F.f209l0) ρ2 B (blockK 2 (blockK 1 (seqK F.tb c K))) = X := by
    intro ρ2 a1 a3 a16 a17 a18 aj
    refine hi ρ2 a1 a3 a16 a17 a18 fun ρ' B' v' t1 t2 t3 => h ρ' B' v' (by rw [e]; exact t1) t2 fun j j1 j2 j3 => ?_
    rw [t3 j j1 j2 j3, aj j j1 j2 j3]
   unfold newB at hn
   cases p1 : pubT x
   ·rw [p1] at c1 hn
    cases p2 : f.s.any (eqB x)
    ·rw [p2] at c2 hn
     have p3 : acc.any (eqB x) = true := by simpa using hn
     rw [p3] at c3
     simp [encF, h1, h3, h16, h17, h18, hg, hlt, hw1, c1, c2, c3]
     refine key _ ?_ ?_ ?_ ?_ ?_ ?_
     all_goals first | (intro j j1 j2 j3; have := hjn j j1; simp [this, j3]; done) | simp [encF, h1, h3, h16, h17]
    ·rw [p2] at c2
     simp [encF, h1, h3, h16, h17, h18, hg, hlt, hw1, c1, c2]
     refine key _ ?_ ?_ ?_ ?_ ?_ ?_
     all_goals first | (intro j j1 j2 j3; have := hjn j j1; simp [this, j3]; done) | simp [encF, h1, h3, h16, h17]
   ·rw [p1] at c1
    simp [encF, h1, h3, h16, h17, h18, hg, hlt, hw1, c1]
    refine key _ ?_ ?_ ?_ ?_ ?_ ?_
    all_goals first | (intro j j1 j2 j3; have := hjn j j1; simp [this, j3]; done) | simp [encF, h1, h3, h16, h17]
  ·have e : foldF f.s acc (x :: post) = foldF f.s (acc ++ [x]) post := by simp [foldF, hn]
   obtain ⟨v2, B2, ha, hts2⟩ := ts_app x false hts (by omega)
   have hi := fun ρ2 h2 => IH (pre ++ [x]) (acc ++ [x]) B2 v2 o ρ2 (by rw [hk]; simp) hts2 (by simp; omega) (fun y hy => by
    rcases List.mem_append.1 hy with hy | hy
    ·exact ham y hy
    ·simp at hy; subst hy; exact hxm) h2
   have key : ∀ ρ2 : Nat → AV, ρ2 1 = .bx (encF f) → ρ2 3 = v2 → ρ2 16 = .sl o 4 (encTs A) → ρ2 17 = .int .i64 A.length → ρ2 18 = .int .i64 ((pre ++ [x]).length : Nat) → (∀ j, j < 12 → j ≠ 3 → j ≠ 7 → ρ2 j = ρ j) →
     R F.tb (.loop F.f209l0) ρ2 B2 (blockK 2 (blockK 1 (seqK F.tb c K))) = X := by
    intro ρ2 a1 a3 a16 a17 a18 aj
    refine hi ρ2 a1 a3 a16 a17 a18 fun ρ' B' v' t1 t2 t3 => h ρ' B' v' (by rw [e]; exact t1) t2 fun j j1 j2 j3 => ?_
    rw [t3 j j1 j2 j3, aj j j1 j2 j3]
   obtain ⟨id2, sz2, rfl⟩ := ts_gs hts2
   unfold newB at hn
   simp only [Bool.and_eq_true, Bool.not_eq_true'] at hn
   obtain ⟨⟨p1, p2⟩, p3⟩ := hn
   rw [p1] at c1
   rw [p2] at c2
   rw [p3] at c3
   simp [encF, h1, h3, h16, h17, h18, hg, hlt, hw1, c1, c2, c3, ha]
   refine key _ ?_ ?_ ?_ ?_ ?_ ?_
   all_goals first | (intro j j1 j2 j3; have := hjn j j1; simp [this, j2, j3]; done) | simp [encF, h1, h3, h16, h17]
end Go.Am
namespace Go.Am
set_option maxRecDepth 8000
theorem atomsT_len (t : Tm) : (atomsT t).length ≤ t.nodes := by
 have h1 := setT_len ((allT t).filter (kindB 2))
 have h2 := List.length_filter_le (kindB 2) (allT t)
 rw [allT_len] at h2
 unfold atomsT; omega
theorem mem_atomsT {x t : Tm} : x ∈ atomsT t ↔ x ∈ allT t ∧ x.kind = 2 := by
 unfold atomsT
 rw [mem_setT, List.mem_filter]
 simp [kindB]
theorem atomsT_mass {x t : Tm} (h : x ∈ atomsT t) : x.mass ≤ t.mass := allT_mass t x (mem_atomsT.1 h).1
theorem outsF_len (sec : List Tm) : ∀ (l acc : List Tm), (outsF sec acc l).length ≤ acc.length + nodesL l
 | [], acc => by simp [outsF]
 | t :: r, acc => by
  have h1 := outsF_len sec r (foldF sec acc (atomsT t))
  have h2 := foldF_len sec (atomsT t) acc
  have h3 := atomsT_len t
  simp only [outsF, nodesL]; omega
theorem ts_sort {B0 B : List (List AV)} {v : AV} {l : List Tm} (h : TS B0 B v l) (hl : l.length < 1000000) (hm : ∀ x ∈ l, x.mass < 1000000) :
  ∃ B', call F.tb 170 [v, .fn 30 []] B = some (.tup [], B') ∧ TS B0 B' v (sortT l) := by
 obtain ⟨M, id, sz, rfl, rfl, hc⟩ := h
 rcases hc with ⟨rfl, rfl, rfl⟩ | ⟨rfl, hid, hne, hb⟩
 ·refine ⟨B0 ++ M, ?_, M, 0, 0, rfl, rfl, .inl ⟨rfl, rfl, rfl⟩⟩
  rw [call_orc F.tb_170]; simp [sortO]
 ·have hs := call_sort l (B0 ++ M) id hb (by omega) fun x hx => by have := hm x hx; unfold big; omega
  refine ⟨_, hs, M.set (id - B0.length) (rowT (sortT l)), id, 4, set_base hid _, by rw [sortT_len], .inr ⟨rfl, hid, ?_, ?_⟩⟩
  ·intro e
   obtain ⟨x, hx⟩ := List.exists_mem_of_ne_nil l hne
   have := (mem_sortT (l := l)).2 hx
   rw [e] at this; simp at this
  ·have hlt := get_lt hb
   rw [List.getElem?_set, if_pos rfl, if_pos hlt]
theorem ts_frz {B0 B : List (List AV)} {v : AV} {l : List Tm} (h : TS B0 B v l) (n : Nat) : ∃ M2, ∀ ρ : Nat → AV, ρ n = v → frzAt { env := ρ, bs := B } n 4 = some (.sl true 4 (encTs l), { env := upd ρ n .undef, bs := B0 ++ M2 }) := by
 obtain ⟨M, id, sz, rfl, rfl, hc⟩ := h
 rcases hc with ⟨rfl, rfl, rfl⟩ | ⟨rfl, hid, hne, hb⟩
 ·exact ⟨M, fun ρ hn => by simp [frzAt, hn, encTs]⟩
 ·refine ⟨M.set (id - B0.length) [], fun ρ hn => ?_⟩
  have hz : ¬ l.length = 0 := fun e => hne (List.eq_nil_of_length_eq_zero e)
  have hr : (rowT l).length = l.length * 4 := row_len encT_len4 l
  have hch : chunks (rowT l) 0 4 l.length = encTs l := by
   have := row_chunks (f := encT) (k := 4) encT_len4 encT_strip l []
   rw [List.append_nil, rowT_map] at this; exact this
  simp only [frzAt, hn]
  rw [if_pos ⟨trivial, by omega⟩, if_neg hz, hb]
  simp only [Option.bind_some]
  rw [if_pos (by omega), hch, set_base hid]
  rfl
theorem free_r1 {B0 B : List (List AV)} {v : AV} {l : List Tm} (h : TS B0 B v l) (hl : l.length < 1000000) (hm : ∀ x ∈ l, x.mass < 1000000) (ρ : Nat → AV) (h3 : ρ 3 = v) :
  R F.tb F.f209r1 ρ B (finK F.f209 B0) = some (.sl true 4 (encTs (sortT l)), B0) := by
 obtain ⟨B', hs, hts⟩ := ts_sort h hl hm
 obtain ⟨M2, hf⟩ := ts_frz hts 46
 obtain ⟨id, sz, rfl⟩ := ts_gs h
 have hg := encTs_gp (sortT l)
 rw [← sortT_len l] at hs hf h3
 simp [F.f209r1, h3, hs, hf, F.f209R, F.f209K]
theorem free_l1 (f : Fr) (hf : FOk f) (B0 : List (List AV)) (hM : massL f.t < 1000000) :
  ∀ (post pre acc : List Tm) (B : List (List AV)) (v : AV) (o : Bool) (ρ : Nat → AV), f.t = pre ++ post → TS B0 B v acc → acc.length + nodesL post < 1000000 → (∀ x ∈ acc, x.mass < 1000000) →
   ρ 1 = .bx (encF f) → ρ 3 = v → ρ 9 = .sl o 4 (encTs f.t) → ρ 10 = .int .i64 f.t.length → ρ 11 = .int .i64 pre.length →
  R F.tb (.loop F.f209l1) ρ B (blockK 0 (seqK F.tb F.f209r1 (finK F.f209 B0))) = some (.sl true 4 (encTs (sortT (outsF f.s acc post))), B0) := by
 have htl := hf.tl
 intro post
 induction post with
 | nil =>
  intro pre acc B v o ρ hk hts hal ham h1 h3 h9 h10 h11
  simp only [List.append_nil] at hk
  rw [← hk] at h11
  have hr := free_r1 hts (by simp [nodesL] at hal; omega) ham
  rw [R_loop' F.f209l1.eq_1]
  simp [h1, h9, h10, h11, outsF]
  apply hr; simp [h3]
 | cons x post IH =>
  intro pre acc B v o ρ hk hts hal ham h1 h3 h9 h10 h11
  have hg := get_pre hk
  have hll : f.t.length = pre.length + (post.length + 1) := by rw [hk]; simp
  have hw1 : IntKind.i64.wrap ((pre.length : Int) + 1) = (pre.length : Int) + 1 := wrap64 (by omega) (by omega)
  have hlt : (pre.length : Int) < (f.t.length : Int) := by omega
  have hxm := hf.t x (by rw [hk]; simp)
  have hnm := nodes_le_mass x
  simp only [nodesL] at hal
  have hat := atomsT_len x
  have c1 := call_Atoms x B (by omega)
  have hfl := foldF_len f.s (atomsT x) acc
  have e : outsF f.s acc (x :: post) = outsF f.s (foldF f.s acc (atomsT x)) post := rfl
  rw [e]
  have hAm : ∀ y ∈ atomsT x, y.mass < 1000000 := fun y hy => by have := atomsT_mass hy; omega
  rw [R_loop' F.f209l1.eq_1]
  simp [h1, h9, h10, h11, hg, hlt, c1]
  refine free_l0 f hf B0 (atomsT x) hAm (by omega) _ _ _ (atomsT x) [] acc B v true _ rfl hts (by omega) ham ?_ ?_ ?_ ?_ ?_ ?_
  ·simp [h1]
  ·simp [h3]
  ·simp
  ·simp
  ·simp
  ·intro ρ' B' v' t1 t2 t3
   have g1 : ρ' 1 = _ := t3 1 (by omega) (by omega) (by omega)
   have g9 : ρ' 9 = _ := t3 9 (by omega) (by omega) (by omega)
   have g10 : ρ' 10 = _ := t3 10 (by omega) (by omega) (by omega)
   have g11 : ρ' 11 = _ := t3 11 (by omega) (by omega) (by omega)
   simp [h1, h9, h10, h11] at g1 g9 g10 g11
   have hi := fun ρ2 => IH (pre ++ [x]) (foldF f.s acc (atomsT x)) B' v' o ρ2 (by rw [hk]; simp) t1 (by omega) (fun y hy => by
    rcases foldF_mem hy with hy | hy
    ·exact ham y hy
    ·exact hAm y hy)
   simp [F.f209r0, g11, hw1]
   apply hi <;> simp [g1, t2, g9, g10]
def freeT (f : Fr) : List Tm := sortT (outsF f.s [] f.t)
theorem call209 (f : Fr) (hf : FOk f) (hM : massL f.t < 1000000) (bs : List (List AV)) : call F.tb 209 [.agg (encF f)] bs = some (.sl true 4 (encTs (freeT f)), bs) := by
 have hn := nodesL_le_mass f.t
 have h := fun ρ => free_l1 f hf bs hM f.t [] [] bs (.gs 0 0 0 0) false ρ rfl (ts_nil bs) (by simp; omega) (by simp)
 rw [call_code F.tb_209 _ _ rfl]
 simp [F.f209B, F.f209C, encF]
 apply h <;> simp [encF]
end Go.Am
namespace Go.Am
set_option maxRecDepth 8000
def okFree (sec : List Tm) (x : Tm) : Bool := decide (x.kind = 2) && !pubT x && !hasT sec x
theorem Rfree_loop (f : Fr) (hf : FOk f) (L : List Tm) (bs : List (List AV)) (hL : L.length < 1000000) (hm : ∀ x ∈ L, x.mass < 1000000) :
  ∀ (post pre acc : List Tm) (o : Bool) (ρ : Nat → AV), L = pre ++ post → acc.length + post.length < 1000000 → ρ 1 = .bx (encF f) → ρ 3 = .sl true 4 (encTs acc) → ρ 4 = .sl o 4 (encTs L) → ρ 5 = .int .i64 pre.length →
  R F.tb (.loop F.f264l0) ρ bs (blockK 0 (seqK F.tb F.f264r0 (finK F.f264 bs))) = some (.sl false 4 (encTs (acc ++ post.filter (okFree f.s))), bs) := by
 intro post
 induction post with
 | nil =>
  intro pre acc o ρ hk ha h1 h3 h4 h5
  simp only [List.append_nil] at hk
  rw [← hk] at h5
  rw [R_loop' F.f264l0.eq_1]
  simp [h1, h3, h4, h5, F.f264r0, F.f264R, F.f264K]
 | cons x post IH =>
  intro pre acc o ρ hk ha h1 h3 h4 h5
  have hg := get_pre hk
  have hll : L.length = pre.length + (post.length + 1) := by rw [hk]; simp
  have hw1 : IntKind.i64.wrap ((pre.length : Int) + 1) = (pre.length : Int) + 1 := wrap64 (by omega) (by omega)
  have hlt : (pre.length : Int) < (L.length : Int) := by omega
  have hxm := hm x (by rw [hk]; simp)
  have c1 := call231 x bs hxm
  have hsl := hf.sl
  have c2 := call_Has f.s x false bs (by omega) (fun y hy => by have := hf.s y hy; unfold big; omega) (by unfold big; omega)
  simp only [List.length_cons] at ha
  have hb : (acc.length + 1) * 56 ≤ 140737488355328 := lim56 (by omega)
  have h2 := fun ρ => IH (pre ++ [x]) acc o ρ (by rw [hk]; simp) (by omega)
  have h2' := fun ρ => IH (pre ++ [x]) (acc ++ [x]) o ρ (by rw [hk]; simp) (by simp; omega)
  simp only [List.append_assoc, List.cons_append, List.nil_append] at h2'
  rw [R_loop' F.f264l0.eq_1]
  by_cases e1 : x.kind = 2
  ·cases e2 : pubT x
   ·cases e3 : hasT f.s x
    ·have e : (x :: post).filter (okFree f.s) = x :: post.filter (okFree f.s) := by simp [okFree, e1, e2, e3]
     rw [e]
     generalize post.filter (okFree f.s) = P at *
     simp [encF, h1, h3, h4, h5, hg, hlt, hw1, c1, c2, e1, e2, e3, hb, encTs_one, encTs_append]
     apply h2' <;> simp [h1, encF, h4]
    ·have e : (x :: post).filter (okFree f.s) = post.filter (okFree f.s) := by simp [okFree, e1, e2, e3]
     rw [e]
     generalize post.filter (okFree f.s) = P at *
     simp [encF, h1, h3, h4, h5, hg, hlt, hw1, c1, c2, e1, e2, e3]
     apply h2 <;> simp [h1, h3, encF, h4]
   ·have e : (x :: post).filter (okFree f.s) = post.filter (okFree f.s) := by simp [okFree, e1, e2]
    rw [e]
    generalize post.filter (okFree f.s) = P at *
    simp [encF, h1, h3, h4, h5, hg, hlt, hw1, c1, e1, e2]
    apply h2 <;> simp [h1, h3, encF, h4]
  ·have e : (x :: post).filter (okFree f.s) = post.filter (okFree f.s) := by simp [okFree, e1]
   rw [e]
   generalize post.filter (okFree f.s) = P at *
   simp [encF, h1, h3, h4, h5, hg, hlt, hw1, e1]
   apply h2 <;> simp [h1, h3, encF, h4]
theorem nodup_foldF {sec : List Tm} : ∀ {l acc : List Tm}, acc.Nodup → (foldF sec acc l).Nodup
 | [], acc, h => h
 | x :: r, acc, h => by
  simp only [foldF]
  apply nodup_foldF
  split
  ·rename_i hn
   simp only [newB, Bool.and_eq_true, Bool.not_eq_true'] at hn
   have h3 : x ∉ acc := by
    intro hx
    have : acc.any (eqB x) = true := List.any_eq_true.2 ⟨x, hx, by simp [eqB, cmpT_refl]⟩
    rw [hn.2] at this; cases this
   rw [List.nodup_append]
   exact ⟨h, by simp, fun a ha b hb => by simp at hb; subst hb; intro e; subst e; exact h3 ha⟩
  ·exact h
theorem nodup_outsF {sec : List Tm} : ∀ {l acc : List Tm}, acc.Nodup → (outsF sec acc l).Nodup
 | [], acc, h => h
 | t :: r, acc, h => nodup_outsF (l := r) (nodup_foldF h)
theorem asc_insT {t : Tm} : ∀ {l : List Tm}, Asc l → t ∉ l → Asc (insT t l)
 | [], _, _ => asc_one t
 | x :: xs, h, hn => by
  obtain ⟨h1, h2⟩ := asc_cons.1 h
  simp only [List.mem_cons, not_or] at hn
  simp only [insT]
  split
  ·rename_i c
   refine asc_cons.2 ⟨fun y hy => ?_, asc_insT h2 hn.2⟩
   rcases mem_insT.1 hy with rfl | hy
   ·exact c
   ·exact h1 y hy
  ·rename_i c
   have c2 : cmpT t x < 0 := by
    rcases cmpT_tri t x with h | h | h
    ·exact h
    ·exact absurd h hn.1
    ·exact absurd h c
   refine asc_cons.2 ⟨fun y hy => ?_, h⟩
   rcases List.mem_cons.1 hy with rfl | hy
   ·exact c2
   ·exact lt_trans' c2 (h1 y hy)
theorem asc_sortT : ∀ {l : List Tm}, l.Nodup → Asc (sortT l)
 | [], _ => Asc.nil
 | t :: ts, h => by
  obtain ⟨h1, h2⟩ := List.nodup_cons.1 h
  exact asc_insT (asc_sortT h2) fun hm => h1 (mem_sortT.1 hm)
def fineB (sec : List Tm) (x : Tm) : Prop := pubT x = false ∧ hasT sec x = false
theorem hasT_any (l : List Tm) (x : Tm) : l.any (eqB x) = hasT l x := rfl
theorem mem_foldF {sec : List Tm} : ∀ {l acc : List Tm} {y : Tm}, y ∈ foldF sec acc l ↔ y ∈ acc ∨ (y ∈ l ∧ fineB sec y)
 | [], acc, y => by simp [foldF]
 | x :: r, acc, y => by
  simp only [foldF]
  rw [mem_foldF]
  cases hn : newB sec acc x
  ·simp only [Bool.false_eq_true, if_false, List.mem_cons]
   constructor
   ·rintro (h | h)
    ·exact .inl h
    ·exact .inr ⟨.inr h.1, h.2⟩
   ·rintro (h | ⟨h | h, hf⟩)
    ·exact .inl h
    ·subst h
     left
     simp only [newB, hasT_any, hf.1, hf.2, Bool.not_false, Bool.true_and, Bool.not_eq_false'] at hn
     exact hasT_iff.1 hn
    ·exact .inr ⟨h, hf⟩
  ·simp only [if_true, List.mem_append, List.mem_cons]
   simp only [newB, hasT_any, Bool.and_eq_true, Bool.not_eq_true'] at hn
   constructor
   ·rintro ((h | h) | h)
    ·exact .inl h
    ·simp at h; subst h; exact .inr ⟨.inl rfl, hn.1.1, hn.1.2⟩
    ·exact .inr ⟨.inr h.1, h.2⟩
   ·rintro (h | ⟨h | h, hf⟩)
    ·exact .inl (.inl h)
    ·exact .inl (.inr (by simp [h]))
    ·exact .inr ⟨h, hf⟩
theorem mem_outsF {sec : List Tm} : ∀ {l acc : List Tm} {y : Tm}, y ∈ outsF sec acc l ↔ y ∈ acc ∨ (y ∈ allL l ∧ y.kind = 2 ∧ fineB sec y)
 | [], acc, y => by simp [outsF, allL]
 | t :: r, acc, y => by
  simp only [outsF]
  rw [mem_outsF, mem_foldF, mem_atomsT]
  simp only [allL, List.mem_append]
  constructor
  ·rintro ((h | ⟨⟨h1, h2⟩, h3⟩) | ⟨h1, h2, h3⟩)
   ·exact .inl h
   ·exact .inr ⟨.inl h1, h2, h3⟩
   ·exact .inr ⟨.inr h1, h2, h3⟩
  ·rintro (h | ⟨h1 | h1, h2, h3⟩)
   ·exact .inl (.inl h)
   ·exact .inl (.inr ⟨⟨h1, h2⟩, h3⟩)
   ·exact .inr ⟨h1, h2, h3⟩
theorem free_eq (f : Fr) : (setT (allL f.t)).filter (okFree f.s) = freeT f := by
 refine asc_ext (List.Pairwise.filter _ (asc_setT _)) (asc_sortT (nodup_outsF List.nodup_nil)) fun x => ?_
 rw [List.mem_filter, mem_setT, freeT, mem_sortT, mem_outsF]
 simp only [okFree, fineB, Bool.and_eq_true, decide_eq_true_eq, Bool.not_eq_true', List.not_mem_nil, false_or]
 constructor
 ·rintro ⟨h1, ⟨h2, h3⟩, h4⟩; exact ⟨h1, h2, h3, h4⟩
 ·rintro ⟨h1, h2, h3, h4⟩; exact ⟨h1, ⟨h2, h3⟩, h4⟩
theorem allL_massM {x : Tm} : ∀ {l : List Tm}, x ∈ allL l → x.mass ≤ massL l
 | [], h => by simp [allL] at h
 | t :: ts, h => by
  simp only [allL, List.mem_append] at h
  simp only [massL]
  rcases h with h | h
  ·have := allT_mass t x h; omega
  ·have := allL_massM h; omega
theorem call264 (f : Fr) (hf : FOk f) (hM : massL f.t < 1000000) (bs : List (List AV)) : call F.tb 264 [.agg (encF f)] bs = some (.sl false 4 (encTs (freeT f)), bs) := by
 have hn := nodesL_le_mass f.t
 have htl := hf.tl
 have hs := call_Subterms f.t false bs (by omega) (by omega)
 have hlen := setT_len (allL f.t)
 rw [allL_len] at hlen
 have h := fun o ρ => Rfree_loop f hf (setT (allL f.t)) bs (by omega) (fun x hx => by have := allL_massM (mem_setT.1 hx); omega) (setT (allL f.t)) [] [] o ρ rfl (by simp; omega)
 rw [free_eq, List.nil_append] at h
 rw [call_code F.tb_264 _ _ rfl]
 simp [F.f264B, F.f264C, encF, hs]
 refine h false _ ?_ ?_ ?_ ?_ <;> simp [encF, encTs]
end Go.Am
namespace Go.Am
set_option maxRecDepth 8000
theorem encF_take (f : Fr) : (encF f).take 2 = encF f := rfl
theorem encF_strip (f : Fr) : (encF f).map AV.strip = encF f := rfl
theorem encF_len (f : Fr) : (encF f).length = 2 := rfl
def givT (f : Fr) : List Tm := if validF f = 0 then f.t ++ freeT f else []
theorem freeT_len (f : Fr) : (freeT f).length ≤ nodesL f.t := by
 unfold freeT
 rw [sortT_len]
 have := outsF_len f.s f.t []
 simpa using this
theorem giv_loop (f : Fr) (hf : FOk f) (hM : massL f.t < 1000000) (bs : List (List AV)) :
  ∀ (post pre : List Tm) (ρ : Nat → AV), f.t = pre ++ post → ρ 1 = .bx (encF f) → ρ 3 = .int .i64 0 → ρ 5 = .sl true 4 (encTs pre) → ρ 14 = .sl false 4 (encTs f.t) → ρ 15 = .int .i64 f.t.length → ρ 16 = .int .i64 pre.length →
  R F.tb (.loop F.f157l0) ρ bs (blockK 0 (seqK F.tb F.f157r0 (finK F.f157 bs))) = some (.tup [.sl false 4 (encTs (f.t ++ freeT f)), .int .i64 0], bs) := by
 have htl := hf.tl
 have hn := nodesL_le_mass f.t
 have hfl := freeT_len f
 intro post
 induction post with
 | nil =>
  intro pre ρ hk h1 h3 h5 h14 h15 h16
  simp only [List.append_nil] at hk
  rw [← hk] at h16 h5
  have hc := call209 f hf hM bs
  have hb : (f.t.length + (freeT f).length) * 56 ≤ 140737488355328 := lim56 (by omega)
  rw [R_loop' F.f157l0.eq_1]
  simp [h1, h3, h5, h14, h15, h16, F.f157r0, encF_take, encF_strip, encF_len, hc, hb, encTs_append, F.f157R, F.f157K]
 | cons x post IH =>
  intro pre ρ hk h1 h3 h5 h14 h15 h16
  have hg := get_pre hk
  have hll : f.t.length = pre.length + (post.length + 1) := by rw [hk]; simp
  have hw1 : IntKind.i64.wrap ((pre.length : Int) + 1) = (pre.length : Int) + 1 := wrap64 (by omega) (by omega)
  have hlt : (pre.length : Int) < (f.t.length : Int) := by omega
  have hxm := hf.t x (by rw [hk]; simp)
  have hc := call208 x bs (by unfold big; omega)
  have hb : (pre.length + 1) * 56 ≤ 140737488355328 := lim56 (by omega)
  have hi := fun ρ => IH (pre ++ [x]) ρ (by rw [hk]; simp)
  rw [R_loop' F.f157l0.eq_1]
  simp [h1, h3, h5, h14, h15, h16, hg, hlt, hw1, hc, hb, encTs_one, encTs_append]
  apply hi <;> simp [h1, h3, h14, h15]
theorem call157 (f : Fr) (hf : FOk f) (hM : massL f.t < 1000000) (bs : List (List AV)) : call F.tb 157 [.agg (encF f)] bs = some (.tup [.sl false 4 (encTs (givT f)), .int .i64 (validF f)], bs) := by
 have h1 := call158 f bs hf
 have h := fun ρ => giv_loop f hf hM bs f.t [] ρ rfl
 rw [call_code F.tb_157 _ _ rfl]
 by_cases c : validF f = 0
 ·have e : givT f = f.t ++ freeT f := by simp [givT, c]
  rw [e, c]
  rw [c] at h1
  generalize f.t ++ freeT f = L at *
  simp [F.f157B, F.f157C, encF_take, encF_strip, encF_len, h1]
  simp [encF]
  apply h <;> simp [encF, encTs]
 ·have e : givT f = [] := by simp [givT, c]
  rw [e]
  simp [F.f157B, F.f157C, F.f157R, F.f157K, encF_take, encF_strip, encF_len, h1, c, encTs]
theorem call229 (f : Fr) (hf : FOk f) (hM : massL f.t < 1000000) (bs : List (List AV)) : call F.tb 229 [.agg (encF f)] bs = some (.tup [.sl false 4 (encTs (givT f)), .int .i64 (validF f)], bs) := by
 have h1 := call230 f bs hf
 have h2 := call264 f hf hM bs
 have htl := hf.tl
 have hn := nodesL_le_mass f.t
 have hfl := freeT_len f
 have hb0 : f.t.length * 56 ≤ 140737488355328 := lim56 (by omega)
 have hb : (f.t.length + (freeT f).length) * 56 ≤ 140737488355328 := lim56 (by clear hb0; omega)
 rw [call_code F.tb_229 _ _ rfl]
 by_cases c : validF f = 0
 ·have e : givT f = f.t ++ freeT f := by simp [givT, c]
  rw [e, c]
  rw [c] at h1
  simp [F.f229B, F.f229C, F.f229R, F.f229K, encF_take, encF_strip, encF_len, h1, h2]
  simp [encF] at h2 ⊢
  simp [h2, hb0, hb, encTs_append, F.f229R, F.f229K]
 ·have e : givT f = [] := by simp [givT, c]
  rw [e]
  simp [F.f229B, F.f229C, F.f229R, F.f229K, encF_take, encF_strip, encF_len, h1, c, encTs]
def fewF (f : Fr) : Bool := few f.s 45 120 && few f.t 45 200
theorem call228 (f : Fr) (bs : List (List AV)) : call F.tb 228 [.agg (encF f)] bs = some (.bool (fewF f), bs) := by
 have h1 : call F.tb 101 [.sl false 4 (encTs f.s), .int .i64 45, .int .i64 120] bs = some (.bool (few f.s 45 120), bs) := call_few f.s false 45 120 bs (by omega) (by omega) (by omega)
 have h2 : call F.tb 101 [.sl false 4 (encTs f.t), .int .i64 45, .int .i64 200] bs = some (.bool (few f.t 45 200), bs) := call_few f.t false 45 200 bs (by omega) (by omega) (by omega)
 rw [call_code F.tb_228 _ _ rfl]
 cases c1 : few f.s 45 120
 ·rw [c1] at h1
  simp [F.f228B, F.f228C, F.f228R, F.f228K, encF, h1, fewF, c1]
 ·rw [c1] at h1
  simp [F.f228B, F.f228C, F.f228R, F.f228K, encF, h1, h2, fewF, c1]
theorem few_fok {f : Fr} (h : fewF f = true) : FOk f ∧ massL f.t < 1000000 := by
 simp only [fewF, Bool.and_eq_true] at h
 obtain ⟨a1, a2, _⟩ := few_mass (by omega) h.1
 obtain ⟨b1, b2, _⟩ := few_mass (by omega) h.2
 exact ⟨⟨fun x hx => by have := massL_mem hx; omega, fun x hx => by have := massL_mem hx; omega, by omega, by omega⟩, by omega⟩
theorem massL_le {l : List Tm} {M : Nat} (h : ∀ x ∈ l, x.mass ≤ M) : massL l ≤ l.length * M := by
 induction l with
 | nil => simp [massL]
 | cons x xs ih =>
  have h1 := ih fun y hy => h y (by simp [hy])
  have h2 := h x (by simp)
  simp only [massL, List.length_cons, Nat.succ_mul]; omega
theorem giv_mass {f : Fr} (hf : FOk f) (hM : massL f.t < 10000) (ht : f.t.length < 10000) : massL (givT f) < big ∧ (givT f).length < 4611686018427387904 := by
 have hn := nodesL_le_mass f.t
 have hfl := freeT_len f
 unfold givT
 split
 ·have h1 : massL (freeT f) ≤ (freeT f).length * 1000000 := massL_le fun x hx => by
   unfold freeT at hx
   rw [mem_sortT, mem_outsF] at hx
   simp at hx
   have := allL_massM hx.1; omega
  rw [massL_append, List.length_append]
  have h2 : (freeT f).length * 1000000 ≤ 10000 * 1000000 := Nat.mul_le_mul_right _ (by omega)
  unfold big
  exact ⟨by omega, by omega⟩
 ·simp [massL, big]
theorem law_RecipeValid (f : Fr) (h0 : call F.tb 151 [] [] = some (.bool true, [])) : call F.tb 150 [.agg (encF f)] [] = some (.bool true, []) := by
 have h1 := call228 f []
 rw [call_code F.tb_150 _ _ rfl]
 cases hw : fewF f
 ·rw [hw] at h1
  simp [F.f150B, F.f150C, F.f150R, F.f150K, encF_take, encF_strip, encF_len, h0, h1]
 ·rw [hw] at h1
  obtain ⟨hf, hM⟩ := few_fok hw
  simp only [fewF, Bool.and_eq_true] at hw
  obtain ⟨b1, b2, _⟩ := few_mass (by omega) hw.2
  have h2 := call157 f hf hM []
  have h3 := call229 f hf hM []
  have h4 := call158 f [] hf
  have h5 := call230 f [] hf
  obtain ⟨g1, g2⟩ := giv_mass hf (by omega) (by omega)
  have h6 := call_Lists_refl (givT f) [] false false g1 g2
  generalize givT f = G at *
  generalize validF f = V at *
  simp [F.f150B, F.f150C, F.f150R, F.f150K, encF_take, encF_strip, encF_len, h0, h1, h2, h3, h4, h5, h6]
end Go.Am
namespace Go.Am
set_option maxRecDepth 8000
def hndT (i : Nat) : Tm := .mk 1 (119 :: decN i) 0 []
end Go.Am
namespace Go.Am
set_option maxRecDepth 8000
end Go.Am
namespace Go.Am
set_option maxRecDepth 8000
def hbs : Nat → List Tm → List (List AV)
 | _, [] => []
 | k, t :: ts => (encT (hndT k) ++ encT t) :: hbs (k + 1) ts
end Go.Am
namespace Go.Am
set_option maxRecDepth 8000
end Go.Am
namespace Go.Am
set_option maxRecDepth 8000
end Go.Am
namespace Go.Am
set_option maxRecDepth 8000
end Go.Am
namespace Go.Am
set_option maxRecDepth 8000
end Go.Am
namespace Go.Am
set_option maxRecDepth 8000
end Go.Am
