/-
  SeatLaid.
-/
import Derived.Test.YthpfccfeelhpeaaGreatDoorG10
import Derived.Shelf.Vars
import Derived.Test.YthpfccfeelhpeaaGreatDoorCards
import Derived.Test.YthpfccfeelhpeaaGreatDoorTie
import Derived.Stop.LaidErr
import Derived.LaidMore
import Derived.Lay
import Derived.Deep.DeepHandedRow
set_option linter.all false
namespace Go.Proofs.YthpfccfeelhpeaaGreatDoor
open Go.Am Go.RowKit Go.ChangeShapes Go.WideShapes
set_option maxRecDepth 100000
abbrev TK:List (String×DataW Unit):=[("math/bits.deBruijn32tab",Rows.laid_math_bits_deBruijn32tab),("math/bits.deBruijn64tab",Rows.laid_math_bits_deBruijn64tab),("internal/strconv.uint64pow10",Rows.laid_internal_strconv_uint64pow10),("unicode/utf8.acceptRanges",Rows.laid_unicode_utf8_acceptRanges),("strconv.ErrRange",Rows.laid_strconv_ErrRange),("strconv.ErrSyntax",Rows.laid_strconv_ErrSyntax),("sealring/term.words",Rows.laid_sealring_term_words),("unicode/utf8.first",Rows.laid_unicode_utf8_first)]
theorem own:ownKnob Tryz.prog.godebug=none:=by kernel_rfl
theorem Qee:Tryz.prog.globalNamed "internal/strconv.uint64pow10" =some 4:=by kernel_rfl
theorem QeG: (Tryz.prog.globals[4]?).map (·.type)=some 300:=by kernel_rfl
theorem FD:Tryz.prog.cellsOf 300=20:=by kernel_rfl
theorem Qeg:Tryz.prog.globalNamed "strconv.ErrSyntax" =some 2:=by kernel_rfl
theorem Qef:Tryz.prog.globalNamed "strconv.ErrRange" =some 3:=by kernel_rfl
theorem QeI: (Tryz.prog.globals[2]?).map (·.type)=some 54:=by kernel_rfl
theorem QeH: (Tryz.prog.globals[3]?).map (·.type)=some 54:=by kernel_rfl
theorem H6:Tryz.prog.cellsOf 309=1:=by kernel_rfl
theorem H7:Tryz.prog.cellsOf 9=1:=by kernel_rfl
theorem Qcn: "*" ++ "errors.errorString" = "*errors.errorString" :=by decide
theorem GL (u:TypeId) (h:Tryz.prog.typeName? 3 u=some "*errors.errorString"):u=307:=
 typeName_ptr_named (nm:= "errors.errorString") (by rw[Qcn];kernel_rfl) (by kernel_rfl) (by decide) u (by rw[Qcn];exact h)
theorem Gy {W:World} (h:laidMet Tryz.prog TK W):UL Tryz.prog W:=by
 have h3:=h.tail.tail;have hr:=h.tail.tail.tail.tail;have hs:=h.tail.tail.tail.tail.tail;obtain⟨a0,s0,hv0,-,-,-⟩:=laid_sentinel hr Qef QeH Tryz.underlying54 GL Tryz.underlying307 Tryz.underlying309 rfl rfl Tryz.underlying9 H6 H7;obtain⟨a1,s1,hv1,-,-,-⟩:=laid_sentinel hs Qeg QeI Tryz.underlying54 GL Tryz.underlying307 Tryz.underlying309 rfl rfl Tryz.underlying9 H6 H7;exact⟨Lib.tabIs_of_head (k:= .u64) (zs:=Lib.pow10Tab) Qee QeG Tryz.underlying300 Tryz.underlying134 (by kernel_rfl) FD h3,fun _=>⟨_,_,hv1⟩,fun _=>⟨_,_,hv0⟩⟩
theorem Qeh:Tryz.prog.globalNamed "sealring/term.words" =some 1:=by kernel_rfl
theorem QeJ: (Tryz.prog.globals[1]?).map (·.type)=some 61:=by kernel_rfl
theorem Qbm:Tryz.prog.cellsOf 9=1:=by kernel_rfl
theorem Jz [Dr] {W:World} (h:laidMet Tryz.prog TK W) (hS:W.ShapedOpen Tryz.prog): (ZW Tryz.prog 1 0).G W (mW W):=
 ⟨Gy h,cell_of_shapedOpen_int (t:=3) (zero:= #[.int .i64 0]) hS (of_decide_eq_true (by kernel_rfl)) (by kernel_rfl) rfl (by kernel_rfl) (by kernel_rfl) Tryz.underlying3,
  Gz (ss:=[[97,110,121],[97,103,101,110,116],[110,111,110,99,101],[107,101,121],[100,97,116,97],[116,97,103]]) h.tail.tail.tail.tail.tail.tail Qeh QeJ Tryz.underlying61 Tryz.underlying9 Qbm⟩
theorem FL (os:Os) (args:Array Value):laidMet Tryz.prog TK ((World.laidAll Tryz.prog os TK).forCall (fun _ _=>0) ⟨#[],args,[]⟩).memory:=
 laidMet_laidAll args (by kernel_rfl) (by kernel_rfl)
theorem kids:Kids Tryz.prog (· < Tryz.prog.types.size):=kids_rows (by kernel_rfl) (by kernel_rfl)
theorem full: ∀t e,t < Tryz.prog.types.size→Tryz.prog.underlying t=some (.slice e)→0 < Tryz.prog.cellsOf e:=slices_full_of Tryz.prog (by kernel_rfl)
end Go.Proofs.YthpfccfeelhpeaaGreatDoor
