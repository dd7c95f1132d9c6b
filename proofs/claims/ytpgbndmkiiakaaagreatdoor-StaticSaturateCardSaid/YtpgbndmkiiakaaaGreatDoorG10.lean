/-
  SeatLaid.
-/
import Derived.Test.YtpgbndmkiiakaaaGreatDoorG09
import Derived.Test.YtpgbndmkiiakaaaGreatDoorCards
import Derived.Test.YtpgbndmkiiakaaaGreatDoorTie
import Derived.Stop.LaidErr
import Derived.LaidMore
import Derived.Lay
import Derived.Deep.DeepHandedRow
set_option linter.unusedVariables false
set_option linter.unusedSimpArgs false
namespace Go.Proofs.YtpgbndmkiiakaaaGreatDoor
open Go.Am Go.RowKit Go.ChangeShapes Go.WideShapes
set_option maxRecDepth 100000
abbrev N5:List (String×DataW Unit):=[("math/bits.deBruijn32tab",Rows.laid_math_bits_deBruijn32tab),("math/bits.deBruijn64tab",Rows.laid_math_bits_deBruijn64tab),("internal/strconv.uint64pow10",Rows.laid_internal_strconv_uint64pow10),("unicode/utf8.acceptRanges",Rows.laid_unicode_utf8_acceptRanges),("unicode/utf8.first",Rows.laid_unicode_utf8_first)]
theorem own:ownKnob Tryz.prog.godebug=none:=by kernel_rfl
theorem Ql5:Tryz.prog.globalNamed "internal/strconv.uint64pow10" =some 1:=by kernel_rfl
theorem Qmd: (Tryz.prog.globals[1]?).map (·.type)=some 231:=by kernel_rfl
theorem QcV:Tryz.prog.cellsOf 231=20:=by kernel_rfl
theorem Ql7:Tryz.prog.globalNamed "strconv.ErrSyntax" =none:=by kernel_rfl
theorem Ql6:Tryz.prog.globalNamed "strconv.ErrRange" =none:=by kernel_rfl
theorem QbG {W:World} (h:laidMet Tryz.prog N5 W):LF Tryz.prog W:=
 ⟨Lib.tabIs_of_head (k:= .u64) (zs:=Lib.pow10Tab) Ql5 Qmd Tryz.underlying231 Tryz.underlying149 (by kernel_rfl) QcV h.tail.tail,fun e=>absurd Ql7 e,fun e=>absurd Ql6 e⟩
theorem Qdc (os:Os) (args:Array Value):laidMet Tryz.prog N5 ((World.laidAll Tryz.prog os N5).forCall (fun _ _=>0) ⟨#[],args,[]⟩).memory:=
 laidMet_laidAll args (by kernel_rfl) (by kernel_rfl)
theorem kids:Kids Tryz.prog (· < Tryz.prog.types.size):=kids_rows (by kernel_rfl) (by kernel_rfl)
theorem full: ∀t e,t < Tryz.prog.types.size→Tryz.prog.underlying t=some (.slice e)→0 < Tryz.prog.cellsOf e:=slices_full_of Tryz.prog (by kernel_rfl)
end Go.Proofs.YtpgbndmkiiakaaaGreatDoor
