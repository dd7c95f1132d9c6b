/-
  The seat's types: what memory reads as, in the machine's words.
-/
import Derived.Test.YtdabongfphoilaaGreatDoorMachG
import Derived.Test.YtdabongfphoilaaGreatDoorPureD
import Derived.Test.YtdabongfphoilaaGreatDoorChecked
set_option linter.unusedVariables false
set_option linter.unusedSimpArgs false

namespace Go.Proofs.YtdabongfphoilaaGreatDoor
open Go.Am

def tset : List TypeId := [3, 9, 38, 34, 67, 22, 72, 23, 25]
theorem tset_ok : okSet Tryz.prog tset = true := by kernel_rfl

theorem shp_int {n : Nat} {avs : List AV} (h : Shp Tryz.prog n 3 avs) : ∃ i, avs = [.int .i64 i] := by
  cases n with
  | zero => simp [Shp] at h
  | succ n =>
    simp only [Shp, Tryz.underlying3] at h
    obtain ⟨i, h1, _⟩ := h
    exact ⟨i, h1⟩
theorem shp_str {n : Nat} {avs : List AV} (h : Shp Tryz.prog n 9 avs) : ∃ s : List UInt8, avs = [.str s] ∧ s.length ≤ reachBytes := by
  cases n with
  | zero => simp [Shp] at h
  | succ n =>
    simp only [Shp, Tryz.underlying9] at h
    exact h

theorem list_map {α : Type} {f : α → List AV} : ∀ {xs : List (List AV)}, (∀ x ∈ xs, ∃ a, x = f a) → ∃ l : List α, xs = l.map f
  | [], _ => ⟨[], rfl⟩
  | x :: xs, h => by
    obtain ⟨a, ha⟩ := h x (by simp)
    obtain ⟨l, hl⟩ := list_map (xs := xs) fun y hy => h y (by simp [hy])
    exact ⟨a :: l, by simp [ha, hl]⟩

theorem cells38 : Tryz.prog.cellsOf 38 = 4 := by kernel_rfl
theorem cells67 : Tryz.prog.cellsOf 67 = 6 := by kernel_rfl
theorem cells72 : Tryz.prog.cellsOf 72 = 2 := by kernel_rfl
theorem bytes67 : Tryz.prog.bytesOf 67 = 72 := by kernel_rfl
theorem bytes72 : Tryz.prog.bytesOf 72 = 16 := by kernel_rfl

theorem shp_term : ∀ (n : Nat) (avs : List AV), Shp Tryz.prog n 38 avs → ∃ t : Tm, avs = encT t := by
  intro n
  induction n using Nat.strongRecOn with
  | ind n ih =>
    intro avs h
    cases n with
    | zero => simp [Shp] at h
    | succ n =>
      simp only [Shp, Tryz.underlying38, ShpF] at h
      obtain ⟨p1, q1, rfl, h1, p2, q2, rfl, h2, p3, q3, rfl, h3, p4, q4, rfl, h4, rfl⟩ := h
      obtain ⟨k, rfl⟩ := shp_int h1
      obtain ⟨s, rfl, _⟩ := shp_str h2
      obtain ⟨so, rfl⟩ := shp_int h3
      cases n with
      | zero => simp [Shp] at h4
      | succ n =>
        simp only [Shp, Tryz.underlying34] at h4
        obtain ⟨xs, rfl, _, hx⟩ := h4
        obtain ⟨l, rfl⟩ := list_map (f := encT) (xs := xs) fun x hxx => ih n (by omega) x (hx x hxx)
        exact ⟨.mk k s so l, by simp [encT, encTs_map, cells38]⟩

theorem shp_epoch {n : Nat} {avs : List AV} (h : Shp Tryz.prog n 67 avs) : ∃ e : Ep, avs = encE e := by
  cases n with
  | zero => simp [Shp] at h
  | succ n =>
    simp only [Shp, Tryz.underlying67, ShpF] at h
    obtain ⟨p1, q1, rfl, h1, p2, q2, rfl, h2, p3, q3, rfl, h3, rfl⟩ := h
    obtain ⟨k, rfl⟩ := shp_int h1
    obtain ⟨e, rfl⟩ := shp_int h2
    obtain ⟨t, rfl⟩ := shp_term n _ h3
    exact ⟨⟨k, e, t⟩, by simp [encE]⟩

theorem shp_used {n : Nat} {avs : List AV} (h : Shp Tryz.prog n 72 avs) : ∃ e : Us, avs = encU e := by
  cases n with
  | zero => simp [Shp] at h
  | succ n =>
    simp only [Shp, Tryz.underlying72, ShpF] at h
    obtain ⟨p1, q1, rfl, h1, p2, q2, rfl, h2, rfl⟩ := h
    obtain ⟨k, rfl⟩ := shp_int h1
    obtain ⟨e, rfl⟩ := shp_int h2
    exact ⟨⟨k, e⟩, by simp [encU]⟩

theorem shp_srv {n : Nat} {avs : List AV} (h : Shp Tryz.prog n 25 avs) : ∃ s : Srv, avs = encS s ∧ s.room := by
  cases n with
  | zero => simp [Shp] at h
  | succ n =>
    simp only [Shp, Tryz.underlying25, ShpF] at h
    obtain ⟨p1, q1, rfl, h1, p2, q2, rfl, h2, p3, q3, rfl, h3, p4, q4, rfl, h4, p5, q5, rfl, h5, p6, q6, rfl, h6, p7, q7, rfl, h7, rfl⟩ := h
    obtain ⟨name, rfl, hn⟩ := shp_str h1
    obtain ⟨epoch, rfl⟩ := shp_int h2
    obtain ⟨next, rfl⟩ := shp_int h4
    obtain ⟨window, rfl⟩ := shp_int h6
    obtain ⟨now, rfl⟩ := shp_int h7
    cases n with
    | zero => simp [Shp] at h3
    | succ n =>
      simp only [Shp, Tryz.underlying22, Tryz.underlying23] at h3 h5
      obtain ⟨xs, rfl, hxb, hx⟩ := h3
      obtain ⟨ys, rfl, hyb, hy⟩ := h5
      obtain ⟨ks, rfl⟩ := list_map (f := encE) (xs := xs) fun x hxx => shp_epoch (hx x hxx)
      obtain ⟨us, rfl⟩ := list_map (f := encU) (xs := ys) fun x hxx => shp_used (hy x hxx)
      rw [bytes67] at hxb
      rw [bytes72] at hyb
      unfold reachBytes at *
      simp only [List.length_map] at hxb hyb
      exact ⟨⟨name, epoch, ks, next, us, window, now⟩, by simp [encS, cells67, cells72], ⟨by simp only; omega, by simp only; omega, by simp only; omega⟩⟩
end Go.Proofs.YtdabongfphoilaaGreatDoor
