/-
  SeatLaid.
-/
import Derived.Test.YtjkjecpalfmohaaGreatDoorG10
import Derived.Shelf.Vars
import Derived.Test.YtjkjecpalfmohaaGreatDoorCards
import Derived.Test.YtjkjecpalfmohaaGreatDoorTie
import Derived.Stop.LaidErr
import Derived.LaidMore
import Derived.Lay
import Derived.Deep.DeepHandedRow
set_option linter.all false
namespace Go.Proofs.YtjkjecpalfmohaaGreatDoor
open Go.Am Go.RowKit Go.ChangeShapes Go.WideShapes
set_option maxRecDepth 100000
abbrev Me:List (String×DataW Unit):=[("math/bits.deBruijn32tab",Rows.laid_math_bits_deBruijn32tab),("math/bits.deBruijn64tab",Rows.laid_math_bits_deBruijn64tab),("internal/strconv.uint64pow10",Rows.laid_internal_strconv_uint64pow10),("unicode/utf8.acceptRanges",Rows.laid_unicode_utf8_acceptRanges),("strconv.ErrRange",Rows.laid_strconv_ErrRange),("strconv.ErrSyntax",Rows.laid_strconv_ErrSyntax),("sealring/term.words",Rows.laid_sealring_term_words),("unicode/utf8.first",Rows.laid_unicode_utf8_first)]
theorem own:ownKnob Tryz.prog.godebug=none:=by kernel_rfl
theorem Qsi:Tryz.prog.globalNamed "internal/strconv.uint64pow10" =some 6:=by kernel_rfl
theorem QsC: (Tryz.prog.globals[6]?).map (·.type)=some 337:=by kernel_rfl
theorem Qgf:Tryz.prog.cellsOf 337=20:=by kernel_rfl
theorem Qsk:Tryz.prog.globalNamed "strconv.ErrSyntax" =some 2:=by kernel_rfl
theorem Qsj:Tryz.prog.globalNamed "strconv.ErrRange" =some 3:=by kernel_rfl
theorem QsE: (Tryz.prog.globals[2]?).map (·.type)=some 105:=by kernel_rfl
theorem QsD: (Tryz.prog.globals[3]?).map (·.type)=some 105:=by kernel_rfl
theorem Qd5:Tryz.prog.cellsOf 320=1:=by kernel_rfl
theorem Qd6:Tryz.prog.cellsOf 9=1:=by kernel_rfl
theorem QpR: "*" ++ "errors.errorString" = "*errors.errorString" :=by decide
theorem QeX (u:TypeId) (h:Tryz.prog.typeName? 3 u=some "*errors.errorString"):u=318:=
 typeName_ptr_named (nm:= "errors.errorString") (by rw[QpR];kernel_rfl) (by kernel_rfl) (by decide) u (by rw[QpR];exact h)
theorem QeF {W:World} (h:laidMet Tryz.prog Me W):OK Tryz.prog W:=by
 have h3:=h.tail.tail;have hr:=h.tail.tail.tail.tail;have hs:=h.tail.tail.tail.tail.tail;obtain⟨a0,s0,hv0,-,-,-⟩:=laid_sentinel hr Qsj QsD Tryz.underlying105 QeX Tryz.underlying318 Tryz.underlying320 rfl rfl Tryz.underlying9 Qd5 Qd6;obtain⟨a1,s1,hv1,-,-,-⟩:=laid_sentinel hs Qsk QsE Tryz.underlying105 QeX Tryz.underlying318 Tryz.underlying320 rfl rfl Tryz.underlying9 Qd5 Qd6;exact⟨Lib.tabIs_of_head (k:= .u64) (zs:=Lib.pow10Tab) Qsi QsC Tryz.underlying337 Tryz.underlying192 (by kernel_rfl) Qgf h3,fun _=>⟨_,_,hv1⟩,fun _=>⟨_,_,hv0⟩⟩
theorem Qsl:Tryz.prog.globalNamed "sealring/term.words" =some 1:=by kernel_rfl
theorem QsF: (Tryz.prog.globals[1]?).map (·.type)=some 63:=by kernel_rfl
theorem QoE:Tryz.prog.cellsOf 9=1:=by kernel_rfl
theorem Qbl [Dr] {W:World} (h:laidMet Tryz.prog Me W) (hS:W.ShapedOpen Tryz.prog): (XQ Tryz.prog 1 0).G W (mW W):=
 ⟨QeF h,cell_of_shapedOpen_int (t:=3) (zero:= #[.int .i64 0]) hS (of_decide_eq_true (by kernel_rfl)) (by kernel_rfl) rfl (by kernel_rfl) (by kernel_rfl) Tryz.underlying3,
  QeG (ss:=[[97,110,121],[97,103,101,110,116],[110,111,110,99,101],[107,101,121],[100,97,116,97],[116,97,103]]) h.tail.tail.tail.tail.tail.tail Qsl QsF Tryz.underlying63 Tryz.underlying9 QoE⟩
theorem Qgu (os:Os) (args:Array Value):laidMet Tryz.prog Me ((World.laidAll Tryz.prog os Me).forCall (fun _ _=>0) ⟨#[],args,[]⟩).memory:=
 laidMet_laidAll args (by kernel_rfl) (by kernel_rfl)
theorem kids:Kids Tryz.prog (· < Tryz.prog.types.size):=kids_rows (by kernel_rfl) (by kernel_rfl)
theorem full: ∀t e,t < Tryz.prog.types.size→Tryz.prog.underlying t=some (.slice e)→0 < Tryz.prog.cellsOf e:=slices_full_of Tryz.prog (by kernel_rfl)
end Go.Proofs.YtjkjecpalfmohaaGreatDoor
