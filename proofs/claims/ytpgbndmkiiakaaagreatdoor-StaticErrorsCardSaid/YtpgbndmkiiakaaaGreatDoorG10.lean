/-
  SeatLaid.
-/
import Derived.Test.YtpgbndmkiiakaaaGreatDoorG09
import Derived.Test.YtpgbndmkiiakaaaGreatDoorCards
import Derived.Test.YtpgbndmkiiakaaaGreatDoorTie
import Derived.Stop.LaidErr
import Derived.LaidMore
import Derived.Lay
import Derived.Deep.DeepHandedRow
set_option linter.unusedVariables false
set_option linter.unusedSimpArgs false
namespace Go.Proofs.YtpgbndmkiiakaaaGreatDoor
open Go.Am Go.RowKit Go.ChangeShapes Go.WideShapes
set_option maxRecDepth 100000
abbrev LD:List (String×DataW Unit):=[("math/bits.deBruijn32tab",Rows.laid_math_bits_deBruijn32tab),("math/bits.deBruijn64tab",Rows.laid_math_bits_deBruijn64tab),("internal/strconv.uint64pow10",Rows.laid_internal_strconv_uint64pow10),("unicode/utf8.acceptRanges",Rows.laid_unicode_utf8_acceptRanges),("unicode/utf8.first",Rows.laid_unicode_utf8_first)]
theorem own:ownKnob Tryz.prog.godebug=none:=by kernel_rfl
theorem QoO:Tryz.prog.globalNamed "internal/strconv.uint64pow10" =some 1:=by kernel_rfl
theorem QoW: (Tryz.prog.globals[1]?).map (·.type)=some 231:=by kernel_rfl
theorem Qfh:Tryz.prog.cellsOf 231=20:=by kernel_rfl
theorem QoQ:Tryz.prog.globalNamed "strconv.ErrSyntax" =none:=by kernel_rfl
theorem QoP:Tryz.prog.globalNamed "strconv.ErrRange" =none:=by kernel_rfl
theorem QdU {W:World} (h:laidMet Tryz.prog LD W):Jj Tryz.prog W:=
 ⟨Lib.tabIs_of_head (k:= .u64) (zs:=Lib.pow10Tab) QoO QoW Tryz.underlying231 Tryz.underlying149 (by kernel_rfl) Qfh h.tail.tail,fun e=>absurd QoQ e,fun e=>absurd QoP e⟩
theorem QfA (os:Os) (args:Array Value):laidMet Tryz.prog LD ((World.laidAll Tryz.prog os LD).forCall (fun _ _=>0) ⟨#[],args,[]⟩).memory:=
 laidMet_laidAll args (by kernel_rfl) (by kernel_rfl)
theorem kids:Kids Tryz.prog (· < Tryz.prog.types.size):=kids_rows (by kernel_rfl) (by kernel_rfl)
theorem full: ∀t e,t < Tryz.prog.types.size→Tryz.prog.underlying t=some (.slice e)→0 < Tryz.prog.cellsOf e:=slices_full_of Tryz.prog (by kernel_rfl)
end Go.Proofs.YtpgbndmkiiakaaaGreatDoor
