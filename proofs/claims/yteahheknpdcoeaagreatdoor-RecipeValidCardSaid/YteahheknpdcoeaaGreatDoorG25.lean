/-
  SeatRead.
-/
import Derived.Test.YteahheknpdcoeaaGreatDoorG11
import Derived.Test.YteahheknpdcoeaaGreatDoorG24
import Derived.Test.YteahheknpdcoeaaGreatDoorChecked
set_option linter.unusedVariables false
set_option linter.unusedSimpArgs false
namespace Go.Proofs.YteahheknpdcoeaaGreatDoor
open Go.Am
def tset : List TypeId := [3, 9, 4, 5, 41, 44, 40, 33, 22, 24, 43]
theorem tset_ok : okSet Tryz.prog tset = true := by kernel_rfl
theorem list_map {α : Type} {f : α → List AV} : ∀ {xs : List (List AV)}, (∀ x ∈ xs, ∃ a, x = f a) → ∃ l : List α, xs = l.map f
 | [], _ => ⟨[], rfl⟩
 | x :: xs, h => by
  obtain ⟨a, ha⟩ := h x (by simp)
  obtain ⟨l, hl⟩ := list_map (xs := xs) fun y hy => h y (by simp [hy])
  exact ⟨a :: l, by simp [ha, hl]⟩
theorem shp_int {n : Nat} {avs : List AV} (h : Shp Tryz.prog n 3 avs) : ∃ i, avs = [.int .i64 i] := by
 cases n with
 | zero => simp [Shp] at h
 | succ n =>
  simp only [Shp, Tryz.underlying3] at h
  obtain ⟨i, h1, _⟩ := h
  exact ⟨i, h1⟩
theorem shp_str {n : Nat} {avs : List AV} (h : Shp Tryz.prog n 9 avs) : ∃ s : List UInt8, avs = [.str s] ∧ s.length ≤ reachBytes := by
 cases n with
 | zero => simp [Shp] at h
 | succ n =>
  simp only [Shp, Tryz.underlying9] at h
  exact h
theorem cells33 : Tryz.prog.cellsOf 33 = 4 := by kernel_rfl
theorem bytes33 : Tryz.prog.bytesOf 33 = 56 := by kernel_rfl
theorem shp_term : ∀ (n : Nat) (avs : List AV), Shp Tryz.prog n 33 avs → ∃ t : Tm, avs = encT t := by
 intro n
 induction n using Nat.strongRecOn with
 | ind n ih =>
  intro avs h
  cases n with
  | zero => simp [Shp] at h
  | succ n =>
   simp only [Shp, Tryz.underlying33, ShpF] at h
   obtain ⟨p1, q1, rfl, h1, p2, q2, rfl, h2, p3, q3, rfl, h3, p4, q4, rfl, h4, rfl⟩ := h
   obtain ⟨k, rfl⟩ := shp_int h1
   obtain ⟨s, rfl, _⟩ := shp_str h2
   obtain ⟨so, rfl⟩ := shp_int h3
   cases n with
   | zero => simp [Shp] at h4
   | succ n =>
    simp only [Shp, Tryz.underlying22] at h4
    obtain ⟨xs, rfl, _, hx⟩ := h4
    obtain ⟨l, rfl⟩ := list_map (f := encT) (xs := xs) fun x hxx => ih n (by omega) x (hx x hxx)
    exact ⟨.mk k s so l, by simp [encT, encTs_map, cells33]⟩
theorem shp_terms {n : Nat} {avs : List AV} (h : Shp Tryz.prog n 22 avs) : ∃ l : List Tm, avs = [.sl false 4 (encTs l)] ∧ l.length * 56 ≤ reachBytes := by
 cases n with
 | zero => simp [Shp] at h
 | succ n =>
  simp only [Shp, Tryz.underlying22] at h
  obtain ⟨xs, rfl, hb, hx⟩ := h
  obtain ⟨l, rfl⟩ := list_map (f := encT) (xs := xs) fun x hxx => shp_term n x (hx x hxx)
  rw [bytes33] at hb
  exact ⟨l, by rw [encTs_map, cells33], by simpa using hb⟩
theorem shp_frame {n : Nat} {avs : List AV} (h : Shp Tryz.prog n 24 avs) : ∃ f : Fr, avs = encF f := by
 cases n with
 | zero => simp [Shp] at h
 | succ n =>
  simp only [Shp, Tryz.underlying24, ShpF] at h
  obtain ⟨p1, q1, rfl, h1, p2, q2, rfl, h2, rfl⟩ := h
  obtain ⟨a, rfl, _⟩ := shp_terms h1
  obtain ⟨b, rfl, _⟩ := shp_terms h2
  exact ⟨⟨a, b⟩, by simp [encF]⟩
section
open Go.RowKit Go.ChangeShapes Go.WideShapes
variable {P : Program} {num : Nat → Option Nat} {W : World} {H : Type} {enc : TypeId × Value → H} {S : List TypeId} {base b0 : Nat} {spare : Nat → Bool} {held : Bool} {r : Reach}
end
end Go.Proofs.YteahheknpdcoeaaGreatDoor
