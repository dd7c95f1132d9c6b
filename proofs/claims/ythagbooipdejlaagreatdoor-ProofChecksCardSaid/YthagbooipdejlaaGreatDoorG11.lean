/-
  SeatLaid.
-/
import Derived.Test.YthagbooipdejlaaGreatDoorG10
import Derived.Shelf.Vars
import Derived.Test.YthagbooipdejlaaGreatDoorCards
import Derived.Test.YthagbooipdejlaaGreatDoorTie
import Derived.Stop.LaidErr
import Derived.LaidMore
import Derived.Lay
import Derived.Deep.DeepHandedRow
set_option linter.all false
namespace Go.Proofs.YthagbooipdejlaaGreatDoor
open Go.Am Go.RowKit Go.ChangeShapes Go.WideShapes
set_option maxRecDepth 100000
abbrev NF:List (String×DataW Unit):=[("math/bits.deBruijn32tab",Rows.laid_math_bits_deBruijn32tab),("math/bits.deBruijn64tab",Rows.laid_math_bits_deBruijn64tab),("internal/strconv.uint64pow10",Rows.laid_internal_strconv_uint64pow10),("unicode/utf8.acceptRanges",Rows.laid_unicode_utf8_acceptRanges),("strconv.ErrRange",Rows.laid_strconv_ErrRange),("strconv.ErrSyntax",Rows.laid_strconv_ErrSyntax),("sealring/term.words",Rows.laid_sealring_term_words),("unicode/utf8.first",Rows.laid_unicode_utf8_first)]
theorem own:ownKnob Tryz.prog.godebug=none:=by kernel_rfl
theorem Qq6:Tryz.prog.globalNamed "internal/strconv.uint64pow10" =some 6:=by kernel_rfl
theorem Qrp: (Tryz.prog.globals[6]?).map (·.type)=some 337:=by kernel_rfl
theorem Qfl:Tryz.prog.cellsOf 337=20:=by kernel_rfl
theorem Qq8:Tryz.prog.globalNamed "strconv.ErrSyntax" =some 2:=by kernel_rfl
theorem Qq7:Tryz.prog.globalNamed "strconv.ErrRange" =some 3:=by kernel_rfl
theorem Qrr: (Tryz.prog.globals[2]?).map (·.type)=some 100:=by kernel_rfl
theorem Qrq: (Tryz.prog.globals[3]?).map (·.type)=some 100:=by kernel_rfl
theorem Qdm:Tryz.prog.cellsOf 320=1:=by kernel_rfl
theorem Qdn:Tryz.prog.cellsOf 9=1:=by kernel_rfl
theorem QoQ: "*" ++ "errors.errorString" = "*errors.errorString" :=by decide
theorem Qeb (u:TypeId) (h:Tryz.prog.typeName? 3 u=some "*errors.errorString"):u=318:=
 typeName_ptr_named (nm:= "errors.errorString") (by rw[QoQ];kernel_rfl) (by kernel_rfl) (by decide) u (by rw[QoQ];exact h)
theorem QdU {W:World} (h:laidMet Tryz.prog NF W):Oc Tryz.prog W:=by
 have h3:=h.tail.tail;have hr:=h.tail.tail.tail.tail;have hs:=h.tail.tail.tail.tail.tail;obtain⟨a0,s0,hv0,-,-,-⟩:=laid_sentinel hr Qq7 Qrq Tryz.underlying100 Qeb Tryz.underlying318 Tryz.underlying320 rfl rfl Tryz.underlying9 Qdm Qdn;obtain⟨a1,s1,hv1,-,-,-⟩:=laid_sentinel hs Qq8 Qrr Tryz.underlying100 Qeb Tryz.underlying318 Tryz.underlying320 rfl rfl Tryz.underlying9 Qdm Qdn;exact⟨Lib.tabIs_of_head (k:= .u64) (zs:=Lib.pow10Tab) Qq6 Qrp Tryz.underlying337 Tryz.underlying192 (by kernel_rfl) Qfl h3,fun _=>⟨_,_,hv1⟩,fun _=>⟨_,_,hv0⟩⟩
theorem Qq9:Tryz.prog.globalNamed "sealring/term.words" =some 1:=by kernel_rfl
theorem Qrs: (Tryz.prog.globals[1]?).map (·.type)=some 57:=by kernel_rfl
theorem QnE:Tryz.prog.cellsOf 9=1:=by kernel_rfl
theorem QaG [Dr] {W:World} (h:laidMet Tryz.prog NF W) (hS:W.ShapedOpen Tryz.prog): (XE Tryz.prog 1 0).G W (mW W):=
 ⟨QdU h,cell_of_shapedOpen_int (t:=3) (zero:= #[.int .i64 0]) hS (of_decide_eq_true (by kernel_rfl)) (by kernel_rfl) rfl (by kernel_rfl) (by kernel_rfl) Tryz.underlying3,
  QdV (ss:=[[97,110,121],[97,103,101,110,116],[110,111,110,99,101],[107,101,121],[100,97,116,97],[116,97,103]]) h.tail.tail.tail.tail.tail.tail Qq9 Qrs Tryz.underlying57 Tryz.underlying9 QnE⟩
theorem QfA (os:Os) (args:Array Value):laidMet Tryz.prog NF ((World.laidAll Tryz.prog os NF).forCall (fun _ _=>0) ⟨#[],args,[]⟩).memory:=
 laidMet_laidAll args (by kernel_rfl) (by kernel_rfl)
theorem kids:Kids Tryz.prog (· < Tryz.prog.types.size):=kids_rows (by kernel_rfl) (by kernel_rfl)
theorem full: ∀t e,t < Tryz.prog.types.size→Tryz.prog.underlying t=some (.slice e)→0 < Tryz.prog.cellsOf e:=slices_full_of Tryz.prog (by kernel_rfl)
end Go.Proofs.YthagbooipdejlaaGreatDoor
