/-
  The seat's listed variables: what the rows' list gives, and a world in which they lie so.
-/
import Derived.Test.YtdabongfphoilaaGreatDoorMachG
import Derived.Test.YtdabongfphoilaaGreatDoorCards
import Derived.Test.YtdabongfphoilaaGreatDoorTie
import Derived.Stop.LaidErr
import Derived.LaidMore
import Derived.Deep.DeepHandedRow
set_option linter.unusedVariables false
set_option linter.unusedSimpArgs false

namespace Go.Proofs.YtdabongfphoilaaGreatDoor
open Go.Am Go.RowKit Go.ChangeShapes Go.WideShapes

set_option maxRecDepth 100000
abbrev laidL : List (String × DataW Unit) := [("math/bits.deBruijn32tab", Rows.laid_math_bits_deBruijn32tab), ("math/bits.deBruijn64tab", Rows.laid_math_bits_deBruijn64tab), ("internal/strconv.uint64pow10", Rows.laid_internal_strconv_uint64pow10), ("strconv.ErrRange", Rows.laid_strconv_ErrRange), ("strconv.ErrSyntax", Rows.laid_strconv_ErrSyntax)]

theorem own : ownKnob Tryz.prog.godebug = none := by kernel_rfl
theorem gPow : Tryz.prog.globalNamed "internal/strconv.uint64pow10" = some 1 := by kernel_rfl
theorem gSyn : Tryz.prog.globalNamed "strconv.ErrSyntax" = some 2 := by kernel_rfl
theorem gRng : Tryz.prog.globalNamed "strconv.ErrRange" = some 3 := by kernel_rfl
theorem tPow : (Tryz.prog.globals[1]?).map (·.type) = some 160 := by kernel_rfl
theorem tSyn : (Tryz.prog.globals[2]?).map (·.type) = some 121 := by kernel_rfl
theorem tRng : (Tryz.prog.globals[3]?).map (·.type) = some 121 := by kernel_rfl
theorem cells176 : Tryz.prog.cellsOf 176 = 1 := by kernel_rfl
theorem cells9 : Tryz.prog.cellsOf 9 = 1 := by kernel_rfl
theorem cells160 : Tryz.prog.cellsOf 160 = 20 := by kernel_rfl
theorem star : "*" ++ "errors.errorString" = "*errors.errorString" := by decide
theorem rowErr (u : TypeId) (h : Tryz.prog.typeName? 3 u = some "*errors.errorString") : u = 174 :=
  typeName_ptr_named (nm := "errors.errorString") (by rw [star]; kernel_rfl) (by kernel_rfl) (by decide) u (by rw [star]; exact h)

/-- What the rows' list gives. -/
theorem laid_glob {W : World} (h : laidMet Tryz.prog laidL W) : laidG Tryz.prog W := by
  have h3 := h.tail.tail
  have h4 := h3.tail
  obtain ⟨a0, s0, hv0, -, -, -⟩ := laid_sentinel h4 gRng tRng Tryz.underlying121 rowErr Tryz.underlying174 Tryz.underlying176 rfl rfl Tryz.underlying9 cells176 cells9
  obtain ⟨a1, s1, hv1, -, -, -⟩ := laid_sentinel h4.tail gSyn tSyn Tryz.underlying121 rowErr Tryz.underlying174 Tryz.underlying176 rfl rfl Tryz.underlying9 cells176 cells9
  exact ⟨Lib.tabIs_of_head (k := .u64) (zs := Lib.pow10Tab) gPow tPow Tryz.underlying160 Tryz.underlying147 (by kernel_rfl) cells160 h3, ⟨_, _, hv1⟩, ⟨_, _, hv0⟩⟩

theorem door_met (os : Os) (args : Array Value) : laidMet Tryz.prog laidL ((World.doorLaid Tryz.prog 2000 os).forCall (fun _ _ => 0) ⟨#[], args, []⟩).memory :=
  laidMet_of_run' 8 (by kernel_rfl) (by kernel_rfl)
end Go.Proofs.YtdabongfphoilaaGreatDoor
