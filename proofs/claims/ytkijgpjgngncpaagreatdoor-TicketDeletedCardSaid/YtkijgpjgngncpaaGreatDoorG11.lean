/-
  SeatLaid.
-/
import Derived.Test.YtkijgpjgngncpaaGreatDoorG10
import Derived.Test.YtkijgpjgngncpaaGreatDoorCards
import Derived.Test.YtkijgpjgngncpaaGreatDoorTie
import Derived.Stop.LaidErr
import Derived.LaidMore
import Derived.Lay
import Derived.Deep.DeepHandedRow
set_option linter.all false
namespace Go.Proofs.YtkijgpjgngncpaaGreatDoor
open Go.Am Go.RowKit Go.ChangeShapes Go.WideShapes
set_option maxRecDepth 100000
abbrev OE:List (String×DataW Unit):=[("math/bits.deBruijn32tab",Rows.laid_math_bits_deBruijn32tab),("math/bits.deBruijn64tab",Rows.laid_math_bits_deBruijn64tab),("internal/strconv.uint64pow10",Rows.laid_internal_strconv_uint64pow10),("unicode/utf8.acceptRanges",Rows.laid_unicode_utf8_acceptRanges),("strconv.ErrRange",Rows.laid_strconv_ErrRange),("strconv.ErrSyntax",Rows.laid_strconv_ErrSyntax),("unicode/utf8.first",Rows.laid_unicode_utf8_first)]
theorem own:ownKnob Tryz.prog.godebug=none:=by kernel_rfl
theorem Qgg:Tryz.prog.globalNamed "internal/strconv.uint64pow10" =some 1:=by kernel_rfl
theorem Qgu: (Tryz.prog.globals[1]?).map (·.type)=some 250:=by kernel_rfl
theorem Bu:Tryz.prog.cellsOf 250=20:=by kernel_rfl
theorem Qgi:Tryz.prog.globalNamed "strconv.ErrSyntax" =some 2:=by kernel_rfl
theorem Qgh:Tryz.prog.globalNamed "strconv.ErrRange" =some 3:=by kernel_rfl
theorem Qgw: (Tryz.prog.globals[2]?).map (·.type)=some 181:=by kernel_rfl
theorem Qgv: (Tryz.prog.globals[3]?).map (·.type)=some 181:=by kernel_rfl
theorem EL:Tryz.prog.cellsOf 291=1:=by kernel_rfl
theorem EM:Tryz.prog.cellsOf 9=1:=by kernel_rfl
theorem QeV: "*" ++ "errors.errorString" = "*errors.errorString" :=by decide
theorem DY (u:TypeId) (h:Tryz.prog.typeName? 3 u=some "*errors.errorString"):u=289:=
 typeName_ptr_named (nm:= "errors.errorString") (by rw[QeV];kernel_rfl) (by kernel_rfl) (by decide) u (by rw[QeV];exact h)
theorem Du {W:World} (h:laidMet Tryz.prog OE W):N7 Tryz.prog W:=by
 have h3:=h.tail.tail;have hr:=h.tail.tail.tail.tail;have hs:=h.tail.tail.tail.tail.tail;obtain⟨a0,s0,hv0,-,-,-⟩:=laid_sentinel hr Qgh Qgv Tryz.underlying181 DY Tryz.underlying289 Tryz.underlying291 rfl rfl Tryz.underlying9 EL EM;obtain⟨a1,s1,hv1,-,-,-⟩:=laid_sentinel hs Qgi Qgw Tryz.underlying181 DY Tryz.underlying289 Tryz.underlying291 rfl rfl Tryz.underlying9 EL EM;exact⟨Lib.tabIs_of_head (k:= .u64) (zs:=Lib.pow10Tab) Qgg Qgu Tryz.underlying250 Tryz.underlying152 (by kernel_rfl) Bu h3,fun _=>⟨_,_,hv1⟩,fun _=>⟨_,_,hv0⟩⟩
theorem BO (os:Os) (args:Array Value):laidMet Tryz.prog OE ((World.laidAll Tryz.prog os OE).forCall (fun _ _=>0) ⟨#[],args,[]⟩).memory:=
 laidMet_laidAll args (by kernel_rfl) (by kernel_rfl)
theorem kids:Kids Tryz.prog (· < Tryz.prog.types.size):=kids_rows (by kernel_rfl) (by kernel_rfl)
theorem full: ∀t e,t < Tryz.prog.types.size→Tryz.prog.underlying t=some (.slice e)→0 < Tryz.prog.cellsOf e:=slices_full_of Tryz.prog (by kernel_rfl)
end Go.Proofs.YtkijgpjgngncpaaGreatDoor
