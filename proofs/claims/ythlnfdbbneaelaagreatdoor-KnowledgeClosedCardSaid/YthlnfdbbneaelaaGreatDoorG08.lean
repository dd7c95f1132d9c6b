/-
  SeatLaid.
-/
import Derived.Test.YthlnfdbbneaelaaGreatDoorG07
import Derived.Stop.LaidErr
import Derived.Test.YthlnfdbbneaelaaGreatDoorCards
import Derived.Test.YthlnfdbbneaelaaGreatDoorTie
import Derived.LaidMore
import Derived.Lay
import Derived.Deep.DeepHandedRow
set_option linter.all false
namespace Go.Proofs.YthlnfdbbneaelaaGreatDoor
open Go.Am Go.RowKit Go.ChangeShapes Go.WideShapes
set_option maxRecDepth 100000
abbrev D9:List (String×DataW Unit):=[("unicode/utf8.acceptRanges",Rows.laid_unicode_utf8_acceptRanges),("unicode/utf8.first",Rows.laid_unicode_utf8_first)]
theorem own:ownKnob Tryz.prog.godebug=none:=by kernel_rfl
theorem Qlt (os:Os) (args:Array Value):laidMet Tryz.prog D9 ((World.laidAll Tryz.prog os D9).forCall (fun _ _=>0) ⟨#[],args,[]⟩).memory:=
 laidMet_laidAll args (by kernel_rfl) (by kernel_rfl)
theorem kids:Kids Tryz.prog (· < Tryz.prog.types.size):=kids_rows (by kernel_rfl) (by kernel_rfl)
theorem full: ∀t e,t < Tryz.prog.types.size→Tryz.prog.underlying t=some (.slice e)→0 < Tryz.prog.cellsOf e:=slices_full_of Tryz.prog (by kernel_rfl)
end Go.Proofs.YthlnfdbbneaelaaGreatDoor
