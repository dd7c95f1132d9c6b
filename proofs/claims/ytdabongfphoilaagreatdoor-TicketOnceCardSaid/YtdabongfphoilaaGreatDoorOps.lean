/-
  The seat's types, further: lists of calls.
-/
import Derived.Test.YtdabongfphoilaaGreatDoorRead
import Derived.Test.YtdabongfphoilaaGreatDoorPureJ
set_option linter.unusedVariables false
set_option linter.unusedSimpArgs false

namespace Go.Proofs.YtdabongfphoilaaGreatDoor
open Go.Am Go.RowKit Go.ChangeShapes Go.WideShapes

section
variable {P : Program} {num : Nat → Option Nat} {W : World} {H : Type} {enc : TypeId × Value → H} {S : List TypeId} {base b0 : Nat} {spare : Nat → Bool} {held : Bool} {r : Reach}

theorem arg_slice (hS : okSet P S = true) {t e : TypeId} (ht : t ∈ S) (hu : P.underlying t = some (.slice e)) {v : Value} {d : DataW H} {p : List MemPlace} (hv : Value.okWide P W r b0 t v)
    (h : DataW.Trod enc P W base spare held t v d p) (hw : ∀ n ∈ d.weights P t, n ≤ reachBytes) : ∃ n xs, (∀ x ∈ xs, Shp P n e x) ∧ xs.length * P.bytesOf e ≤ reachBytes ∧ RepV num [] W (mW W) (.sl false (P.cellsOf e) xs) v := by
  obtain ⟨a, len, cap, rfl⟩ := okWide_slice hu hv
  obtain ⟨fuel, hf⟩ := h
  obtain ⟨avs, h1, h2, h3, h4⟩ := trod_shape (num := num) (β := []) hS fuel t _ _ ht hf hw
  cases fuel with
  | zero => simp [Shp] at h1
  | succ n =>
    simp only [Shp, hu] at h1
    obtain ⟨xs, rfl, hb, hx⟩ := h1
    refine ⟨n, xs, hx, hb, ?_⟩
    simp only [RepC] at h4
    obtain ⟨⟨u, h5, h6⟩, _⟩ := h4
    simp [Value.cells] at h5
    subst h5
    exact h6.2
end

def tset2 : List TypeId := [5, 58, 53]
theorem tset2_ok : okSet Tryz.prog tset2 = true := by kernel_rfl
theorem cells58 : Tryz.prog.cellsOf 58 = 3 := by kernel_rfl
theorem bytes58 : Tryz.prog.bytesOf 58 = 3 := by kernel_rfl

theorem wf_u8 {i : Int} (h : (Lit.int .u8 i).wf = true) : ∃ n : Nat, i = n ∧ n < 256 := by
  simp only [Lit.wf] at h
  have h2 : IntKind.u8.min ≤ i ∧ i ≤ IntKind.u8.max := by simpa using h
  have h3 : IntKind.u8.min = 0 := rfl
  have h4 : IntKind.u8.max = 255 := rfl
  exact ⟨i.toNat, by omega, by omega⟩

theorem shp_u8 {n : Nat} {avs : List AV} (h : Shp Tryz.prog n 5 avs) : ∃ i : Nat, avs = [.int .u8 (i : Int)] ∧ i < 256 := by
  cases n with
  | zero => simp [Shp] at h
  | succ n =>
    simp only [Shp, Tryz.underlying5] at h
    obtain ⟨i, rfl, hw⟩ := h
    obtain ⟨k, rfl, hk⟩ := wf_u8 hw
    exact ⟨k, rfl, hk⟩

theorem shp_op {n : Nat} {avs : List AV} (h : Shp Tryz.prog n 58 avs) : ∃ o : OpU, avs = encO o ∧ o.ok := by
  cases n with
  | zero => simp [Shp] at h
  | succ n =>
    simp only [Shp, Tryz.underlying58, ShpF] at h
    obtain ⟨p1, q1, rfl, h1, p2, q2, rfl, h2, p3, q3, rfl, h3, rfl⟩ := h
    obtain ⟨a, rfl, ha⟩ := shp_u8 h1
    obtain ⟨b, rfl, hb⟩ := shp_u8 h2
    obtain ⟨c, rfl, hc⟩ := shp_u8 h3
    exact ⟨⟨a, b, c⟩, by simp [encO], ha, hb, hc⟩

theorem list_map2 {α : Type} {f : α → List AV} {q : α → Prop} : ∀ {xs : List (List AV)}, (∀ x ∈ xs, ∃ a, x = f a ∧ q a) → ∃ l : List α, xs = l.map f ∧ ∀ a ∈ l, q a
  | [], _ => ⟨[], rfl, by simp⟩
  | x :: xs, h => by
    obtain ⟨a, ha, hq⟩ := h x (by simp)
    obtain ⟨l, hl, hql⟩ := list_map2 (xs := xs) fun y hy => h y (by simp [hy])
    refine ⟨a :: l, by simp [ha, hl], fun b hb => ?_⟩
    rcases List.mem_cons.1 hb with rfl | hb
    · exact hq
    · exact hql b hb
end Go.Proofs.YtdabongfphoilaaGreatDoor
