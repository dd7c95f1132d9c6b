/-
  SeatCc.
-/
import Derived.Shelf.Strings.Builder1
import Derived.Test.YthagbooipdejlaaGreatDoorProg
set_option linter.all false
namespace Go.Am
open Go.Shelf Go.RowKit Go.Lib Go.Proofs
theorem Qdl: (Tryz.prog.info? 106).map (·.size)=some 2:=by kernel_rfl
theorem QnB:liesAt Tryz.prog Tryz.prog.depth 106 (2 / Tryz.prog.cellsOf 106) 0 106 1=true:=by kernel_rfl
set_option maxHeartbeats 1000000 in
set_option maxRecDepth 100000 in
theorem QiT (b:Nat) (w:World) (h0:w.cell? ⟨b,0,none⟩=some (.pointer (some ⟨b,0,none⟩))):
  Calls Tryz.prog 156 #[.pointer (some ⟨b,0,none⟩)] w fun e w'=>e= .returned (.tuple #[])∧w'=w:=by
 obtain⟨j,hj,hjs⟩:=Option.map_eq_some_iff.1 Qdl;have mixed:Tryz.prog.follows .mixedOrders=true:=by kernel_rfl
 have t106:=Tryz.underlying106;have a106:=Tryz.isAgg106;have z106:=Tryz.sizeOf106;have v106:=Tryz.zeroValue106;have u106:=run_underlying Tryz.underlying106
 have t103:=Tryz.underlying103;have a103:=Tryz.isAgg103;have z103:=Tryz.sizeOf103;have v103:=Tryz.zeroValue103;have u103:=run_underlying Tryz.underlying103
 have t4:=Tryz.underlying4;have a4:=Tryz.isAgg4;have z4:=Tryz.sizeOf4;have v4:=Tryz.zeroValue4;have u4:=run_underlying Tryz.underlying4
 have t228:=Tryz.underlying228;have a228:=Tryz.isAgg228;have z228:=Tryz.sizeOf228;have v228:=Tryz.zeroValue228;have u228:=run_underlying Tryz.underlying228
 go_enter Tryz.func156,Tryz.ntmps156
 go_wp2
 rw[Lib.run_neq_ptr_same w _ t103 hj]
 go_wp2
 go_end0
 exact⟨rfl,rfl⟩
set_option maxHeartbeats 1000000 in
set_option maxRecDepth 100000 in
theorem Qfk (b:Nat) (w:World) (h0:w.cell? ⟨b,0,none⟩=some (.pointer none)) (hsh:w.shape? b=some (106,2)) (hfz:w.frozen? ⟨b,0,none⟩=false):
  Calls Tryz.prog 156 #[.pointer (some ⟨b,0,none⟩)] w fun e w'=>e= .returned (.tuple #[])∧w'=w.setCell ⟨b,0,none⟩ (.pointer (some ⟨b,0,none⟩)):=by
 obtain⟨j,hj,hjs⟩:=Option.map_eq_some_iff.1 Qdl;have mixed:Tryz.prog.follows .mixedOrders=true:=by kernel_rfl
 have t106:=Tryz.underlying106;have a106:=Tryz.isAgg106;have z106:=Tryz.sizeOf106;have v106:=Tryz.zeroValue106;have u106:=run_underlying Tryz.underlying106
 have t103:=Tryz.underlying103;have a103:=Tryz.isAgg103;have z103:=Tryz.sizeOf103;have v103:=Tryz.zeroValue103;have u103:=run_underlying Tryz.underlying103
 have t4:=Tryz.underlying4;have a4:=Tryz.isAgg4;have z4:=Tryz.sizeOf4;have v4:=Tryz.zeroValue4;have u4:=run_underlying Tryz.underlying4
 have t228:=Tryz.underlying228;have a228:=Tryz.isAgg228;have z228:=Tryz.sizeOf228;have v228:=Tryz.zeroValue228;have u228:=run_underlying Tryz.underlying228
 go_enter Tryz.func156,Tryz.ntmps156
 go_wp2
 rw[Lib.run_to_unsafe w ⟨b,0,none⟩ t103 t228 hj (by rw[hjs];decide) hsh (Nat.zero_lt_succ 1)];simp only[Result.andThen];rw[Oper.upon_value]
 go_wp2
 rw[run_callFunc_extern Tryz.func247 (by kernel_rfl) (by kernel_rfl) (by kernel_rfl) (e:=Extern.AbiNoEscape.same) (by kernel_rfl)];rw[Lib.run_noEscape];simp only[Result.andThen];rw[Oper.upon_value]
 go_wp2
 rw[Lib.run_from_unsafe w ⟨b,0,none⟩ t228 t103 hj hsh QnB];simp only[Result.andThen];rw[Oper.upon_value]
 go_wp2
 go_end0
 exact⟨rfl,rfl⟩
end Go.Am
