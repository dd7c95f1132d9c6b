/-
  SeatLaid.
-/
import Derived.Test.YtmlbinmlblbfgaaGreatDoorG10
import Derived.Shelf.Vars
import Derived.Test.YtmlbinmlblbfgaaGreatDoorCards
import Derived.Test.YtmlbinmlblbfgaaGreatDoorTie
import Derived.Stop.LaidErr
import Derived.LaidMore
import Derived.Lay
import Derived.Deep.DeepHandedRow
set_option linter.all false
namespace Go.Proofs.YtmlbinmlblbfgaaGreatDoor
open Go.Am Go.RowKit Go.ChangeShapes Go.WideShapes
set_option maxRecDepth 100000
abbrev U0:List (String×DataW Unit):=[("math/bits.deBruijn32tab",Rows.laid_math_bits_deBruijn32tab),("math/bits.deBruijn64tab",Rows.laid_math_bits_deBruijn64tab),("internal/strconv.uint64pow10",Rows.laid_internal_strconv_uint64pow10),("unicode/utf8.acceptRanges",Rows.laid_unicode_utf8_acceptRanges),("strconv.ErrRange",Rows.laid_strconv_ErrRange),("strconv.ErrSyntax",Rows.laid_strconv_ErrSyntax),("sealring/term.words",Rows.laid_sealring_term_words),("unicode/utf8.first",Rows.laid_unicode_utf8_first)]
theorem own:ownKnob Tryz.prog.godebug=none:=by kernel_rfl
theorem Qj7:Tryz.prog.globalNamed "internal/strconv.uint64pow10" =some 4:=by kernel_rfl
theorem QkA: (Tryz.prog.globals[4]?).map (·.type)=some 300:=by kernel_rfl
theorem Aw:Tryz.prog.cellsOf 300=20:=by kernel_rfl
theorem Qj9:Tryz.prog.globalNamed "strconv.ErrSyntax" =some 2:=by kernel_rfl
theorem Qj8:Tryz.prog.globalNamed "strconv.ErrRange" =some 3:=by kernel_rfl
theorem QkC: (Tryz.prog.globals[2]?).map (·.type)=some 52:=by kernel_rfl
theorem QkB: (Tryz.prog.globals[3]?).map (·.type)=some 52:=by kernel_rfl
theorem Cz:Tryz.prog.cellsOf 309=1:=by kernel_rfl
theorem CA:Tryz.prog.cellsOf 9=1:=by kernel_rfl
theorem Qib: "*" ++ "errors.errorString" = "*errors.errorString" :=by decide
theorem Br (u:TypeId) (h:Tryz.prog.typeName? 3 u=some "*errors.errorString"):u=307:=
 typeName_ptr_named (nm:= "errors.errorString") (by rw[Qib];kernel_rfl) (by kernel_rfl) (by decide) u (by rw[Qib];exact h)
theorem C0 {W:World} (h:laidMet Tryz.prog U0 W):So Tryz.prog W:=by
 have h3:=h.tail.tail;have hr:=h.tail.tail.tail.tail;have hs:=h.tail.tail.tail.tail.tail;obtain⟨a0,s0,hv0,-,-,-⟩:=laid_sentinel hr Qj8 QkB Tryz.underlying52 Br Tryz.underlying307 Tryz.underlying309 rfl rfl Tryz.underlying9 Cz CA;obtain⟨a1,s1,hv1,-,-,-⟩:=laid_sentinel hs Qj9 QkC Tryz.underlying52 Br Tryz.underlying307 Tryz.underlying309 rfl rfl Tryz.underlying9 Cz CA;exact⟨Lib.tabIs_of_head (k:= .u64) (zs:=Lib.pow10Tab) Qj7 QkA Tryz.underlying300 Tryz.underlying183 (by kernel_rfl) Aw h3,fun _=>⟨_,_,hv1⟩,fun _=>⟨_,_,hv0⟩⟩
theorem Qka:Tryz.prog.globalNamed "sealring/term.words" =some 1:=by kernel_rfl
theorem QkD: (Tryz.prog.globals[1]?).map (·.type)=some 59:=by kernel_rfl
theorem Qg2:Tryz.prog.cellsOf 9=1:=by kernel_rfl
theorem NK [Dr] {W:World} (h:laidMet Tryz.prog U0 W) (hS:W.ShapedOpen Tryz.prog): (Yo Tryz.prog 1 0).G W (mW W):=
 ⟨C0 h,cell_of_shapedOpen_int (t:=3) (zero:= #[.int .i64 0]) hS (of_decide_eq_true (by kernel_rfl)) (by kernel_rfl) rfl (by kernel_rfl) (by kernel_rfl) Tryz.underlying3,
  C1 (ss:=[[97,110,121],[97,103,101,110,116],[110,111,110,99,101],[107,101,121],[100,97,116,97],[116,97,103]]) h.tail.tail.tail.tail.tail.tail Qka QkD Tryz.underlying59 Tryz.underlying9 Qg2⟩
theorem Ig (os:Os) (args:Array Value):laidMet Tryz.prog U0 ((World.laidAll Tryz.prog os U0).forCall (fun _ _=>0) ⟨#[],args,[]⟩).memory:=
 laidMet_laidAll args (by kernel_rfl) (by kernel_rfl)
theorem kids:Kids Tryz.prog (· < Tryz.prog.types.size):=kids_rows (by kernel_rfl) (by kernel_rfl)
theorem full: ∀t e,t < Tryz.prog.types.size→Tryz.prog.underlying t=some (.slice e)→0 < Tryz.prog.cellsOf e:=slices_full_of Tryz.prog (by kernel_rfl)
end Go.Proofs.YtmlbinmlblbfgaaGreatDoor
