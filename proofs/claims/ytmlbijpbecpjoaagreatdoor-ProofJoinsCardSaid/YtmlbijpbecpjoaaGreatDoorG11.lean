/-
  SeatLaid.
-/
import Derived.Test.YtmlbijpbecpjoaaGreatDoorG10
import Derived.Shelf.Vars
import Derived.Test.YtmlbijpbecpjoaaGreatDoorCards
import Derived.Test.YtmlbijpbecpjoaaGreatDoorTie
import Derived.Stop.LaidErr
import Derived.LaidMore
import Derived.Lay
import Derived.Deep.DeepHandedRow
set_option linter.all false
namespace Go.Proofs.YtmlbijpbecpjoaaGreatDoor
open Go.Am Go.RowKit Go.ChangeShapes Go.WideShapes
set_option maxRecDepth 100000
abbrev Nx:List (String×DataW Unit):=[("math/bits.deBruijn32tab",Rows.laid_math_bits_deBruijn32tab),("math/bits.deBruijn64tab",Rows.laid_math_bits_deBruijn64tab),("internal/strconv.uint64pow10",Rows.laid_internal_strconv_uint64pow10),("unicode/utf8.acceptRanges",Rows.laid_unicode_utf8_acceptRanges),("strconv.ErrRange",Rows.laid_strconv_ErrRange),("strconv.ErrSyntax",Rows.laid_strconv_ErrSyntax),("sealring/term.words",Rows.laid_sealring_term_words),("unicode/utf8.first",Rows.laid_unicode_utf8_first)]
theorem own:ownKnob Tryz.prog.godebug=none:=by kernel_rfl
theorem Qp3:Tryz.prog.globalNamed "internal/strconv.uint64pow10" =some 6:=by kernel_rfl
theorem Qqm: (Tryz.prog.globals[6]?).map (·.type)=some 340:=by kernel_rfl
theorem QeM:Tryz.prog.cellsOf 340=20:=by kernel_rfl
theorem Qp5:Tryz.prog.globalNamed "strconv.ErrSyntax" =some 2:=by kernel_rfl
theorem Qp4:Tryz.prog.globalNamed "strconv.ErrRange" =some 3:=by kernel_rfl
theorem Qqo: (Tryz.prog.globals[2]?).map (·.type)=some 98:=by kernel_rfl
theorem Qqn: (Tryz.prog.globals[3]?).map (·.type)=some 98:=by kernel_rfl
theorem QcP:Tryz.prog.cellsOf 322=1:=by kernel_rfl
theorem QcQ:Tryz.prog.cellsOf 9=1:=by kernel_rfl
theorem QnR: "*" ++ "errors.errorString" = "*errors.errorString" :=by decide
theorem QdB (u:TypeId) (h:Tryz.prog.typeName? 3 u=some "*errors.errorString"):u=320:=
 typeName_ptr_named (nm:= "errors.errorString") (by rw[QnR];kernel_rfl) (by kernel_rfl) (by decide) u (by rw[QnR];exact h)
theorem Qdj {W:World} (h:laidMet Tryz.prog Nx W):Oa Tryz.prog W:=by
 have h3:=h.tail.tail;have hr:=h.tail.tail.tail.tail;have hs:=h.tail.tail.tail.tail.tail;obtain⟨a0,s0,hv0,-,-,-⟩:=laid_sentinel hr Qp4 Qqn Tryz.underlying98 QdB Tryz.underlying320 Tryz.underlying322 rfl rfl Tryz.underlying9 QcP QcQ;obtain⟨a1,s1,hv1,-,-,-⟩:=laid_sentinel hs Qp5 Qqo Tryz.underlying98 QdB Tryz.underlying320 Tryz.underlying322 rfl rfl Tryz.underlying9 QcP QcQ;exact⟨Lib.tabIs_of_head (k:= .u64) (zs:=Lib.pow10Tab) Qp3 Qqm Tryz.underlying340 Tryz.underlying192 (by kernel_rfl) QeM h3,fun _=>⟨_,_,hv1⟩,fun _=>⟨_,_,hv0⟩⟩
theorem Qp6:Tryz.prog.globalNamed "sealring/term.words" =some 1:=by kernel_rfl
theorem Qqp: (Tryz.prog.globals[1]?).map (·.type)=some 60:=by kernel_rfl
theorem QmL:Tryz.prog.cellsOf 9=1:=by kernel_rfl
theorem A9 [Dr] {W:World} (h:laidMet Tryz.prog Nx W) (hS:W.ShapedOpen Tryz.prog): (Xh Tryz.prog 1 0).G W (mW W):=
 ⟨Qdj h,cell_of_shapedOpen_int (t:=3) (zero:= #[.int .i64 0]) hS (of_decide_eq_true (by kernel_rfl)) (by kernel_rfl) rfl (by kernel_rfl) (by kernel_rfl) Tryz.underlying3,
  Qdk (ss:=[[97,110,121],[97,103,101,110,116],[110,111,110,99,101],[107,101,121],[100,97,116,97],[116,97,103]]) h.tail.tail.tail.tail.tail.tail Qp6 Qqp Tryz.underlying60 Tryz.underlying9 QmL⟩
theorem Qe1 (os:Os) (args:Array Value):laidMet Tryz.prog Nx ((World.laidAll Tryz.prog os Nx).forCall (fun _ _=>0) ⟨#[],args,[]⟩).memory:=
 laidMet_laidAll args (by kernel_rfl) (by kernel_rfl)
theorem kids:Kids Tryz.prog (· < Tryz.prog.types.size):=kids_rows (by kernel_rfl) (by kernel_rfl)
theorem full: ∀t e,t < Tryz.prog.types.size→Tryz.prog.underlying t=some (.slice e)→0 < Tryz.prog.cellsOf e:=slices_full_of Tryz.prog (by kernel_rfl)
end Go.Proofs.YtmlbijpbecpjoaaGreatDoor
