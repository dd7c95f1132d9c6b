/-
  SeatLaid.
-/
import Derived.Test.YteahheknpdcoeaaGreatDoorG10
import Derived.Test.YteahheknpdcoeaaGreatDoorCards
import Derived.Test.YteahheknpdcoeaaGreatDoorTie
import Derived.Stop.LaidErr
import Derived.LaidMore
import Derived.Lay
import Derived.Deep.DeepHandedRow
set_option linter.unusedVariables false
set_option linter.unusedSimpArgs false
namespace Go.Proofs.YteahheknpdcoeaaGreatDoor
open Go.Am Go.RowKit Go.ChangeShapes Go.WideShapes
set_option maxRecDepth 100000
abbrev laidL : List (String × DataW Unit) := [("math/bits.deBruijn32tab",Rows.laid_math_bits_deBruijn32tab),("math/bits.deBruijn64tab",Rows.laid_math_bits_deBruijn64tab),("internal/strconv.uint64pow10",Rows.laid_internal_strconv_uint64pow10),("unicode/utf8.acceptRanges",Rows.laid_unicode_utf8_acceptRanges),("unicode/utf8.first",Rows.laid_unicode_utf8_first)]
theorem own : ownKnob Tryz.prog.godebug = none := by kernel_rfl
theorem gPow : Tryz.prog.globalNamed "internal/strconv.uint64pow10" = some 4 := by kernel_rfl
theorem tPow : (Tryz.prog.globals[4]?).map (·.type) = some 302 := by kernel_rfl
theorem cells302 : Tryz.prog.cellsOf 302 = 20 := by kernel_rfl
theorem gSyn : Tryz.prog.globalNamed "strconv.ErrSyntax" = none := by kernel_rfl
theorem gRng : Tryz.prog.globalNamed "strconv.ErrRange" = none := by kernel_rfl
theorem laid_glob {W : World} (h : laidMet Tryz.prog laidL W) : laidG Tryz.prog W :=
 ⟨Lib.tabIs_of_head (k := .u64) (zs := Lib.pow10Tab) gPow tPow Tryz.underlying302 Tryz.underlying211 (by kernel_rfl) cells302 h.tail.tail,fun e => absurd gSyn e,fun e => absurd gRng e⟩
theorem door_met (os : Os) (args : Array Value) : laidMet Tryz.prog laidL ((World.laidAll Tryz.prog os laidL).forCall (fun _ _ => 0) ⟨#[],args,[]⟩).memory :=
 laidMet_laidAll args (by kernel_rfl) (by kernel_rfl)
theorem kids : Kids Tryz.prog (· < Tryz.prog.types.size) := kids_rows (by kernel_rfl) (by kernel_rfl)
theorem full : ∀ t e,t < Tryz.prog.types.size → Tryz.prog.underlying t = some (.slice e) → 0 < Tryz.prog.cellsOf e := slices_full_of Tryz.prog (by kernel_rfl)
end Go.Proofs.YteahheknpdcoeaaGreatDoor
