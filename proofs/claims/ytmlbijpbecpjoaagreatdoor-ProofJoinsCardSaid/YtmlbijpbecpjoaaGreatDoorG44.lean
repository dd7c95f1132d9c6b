/-
  SeatCc.
-/
import Derived.Shelf.Strings.Builder1
import Derived.Test.YtmlbijpbecpjoaaGreatDoorProg
set_option linter.all false
namespace Go.Am
open Go.Shelf Go.RowKit Go.Lib Go.Proofs
theorem QcO: (Tryz.prog.info? 104).map (·.size)=some 2:=by kernel_rfl
theorem QmI:liesAt Tryz.prog Tryz.prog.depth 104 (2 / Tryz.prog.cellsOf 104) 0 104 1=true:=by kernel_rfl
set_option maxHeartbeats 1000000 in
set_option maxRecDepth 100000 in
theorem QhY (b:Nat) (w:World) (h0:w.cell? ⟨b,0,none⟩=some (.pointer (some ⟨b,0,none⟩))):
  Calls Tryz.prog 145 #[.pointer (some ⟨b,0,none⟩)] w fun e w'=>e= .returned (.tuple #[])∧w'=w:=by
 obtain⟨j,hj,hjs⟩:=Option.map_eq_some_iff.1 QcO;have mixed:Tryz.prog.follows .mixedOrders=true:=by kernel_rfl
 have t104:=Tryz.underlying104;have a104:=Tryz.isAgg104;have z104:=Tryz.sizeOf104;have v104:=Tryz.zeroValue104;have u104:=run_underlying Tryz.underlying104
 have t101:=Tryz.underlying101;have a101:=Tryz.isAgg101;have z101:=Tryz.sizeOf101;have v101:=Tryz.zeroValue101;have u101:=run_underlying Tryz.underlying101
 have t4:=Tryz.underlying4;have a4:=Tryz.isAgg4;have z4:=Tryz.sizeOf4;have v4:=Tryz.zeroValue4;have u4:=run_underlying Tryz.underlying4
 have t226:=Tryz.underlying226;have a226:=Tryz.isAgg226;have z226:=Tryz.sizeOf226;have v226:=Tryz.zeroValue226;have u226:=run_underlying Tryz.underlying226
 go_enter Tryz.func145,Tryz.ntmps145
 go_wp2
 rw[Lib.run_neq_ptr_same w _ t101 hj]
 go_wp2
 go_end0
 exact⟨rfl,rfl⟩
set_option maxHeartbeats 1000000 in
set_option maxRecDepth 100000 in
theorem QeL (b:Nat) (w:World) (h0:w.cell? ⟨b,0,none⟩=some (.pointer none)) (hsh:w.shape? b=some (104,2)) (hfz:w.frozen? ⟨b,0,none⟩=false):
  Calls Tryz.prog 145 #[.pointer (some ⟨b,0,none⟩)] w fun e w'=>e= .returned (.tuple #[])∧w'=w.setCell ⟨b,0,none⟩ (.pointer (some ⟨b,0,none⟩)):=by
 obtain⟨j,hj,hjs⟩:=Option.map_eq_some_iff.1 QcO;have mixed:Tryz.prog.follows .mixedOrders=true:=by kernel_rfl
 have t104:=Tryz.underlying104;have a104:=Tryz.isAgg104;have z104:=Tryz.sizeOf104;have v104:=Tryz.zeroValue104;have u104:=run_underlying Tryz.underlying104
 have t101:=Tryz.underlying101;have a101:=Tryz.isAgg101;have z101:=Tryz.sizeOf101;have v101:=Tryz.zeroValue101;have u101:=run_underlying Tryz.underlying101
 have t4:=Tryz.underlying4;have a4:=Tryz.isAgg4;have z4:=Tryz.sizeOf4;have v4:=Tryz.zeroValue4;have u4:=run_underlying Tryz.underlying4
 have t226:=Tryz.underlying226;have a226:=Tryz.isAgg226;have z226:=Tryz.sizeOf226;have v226:=Tryz.zeroValue226;have u226:=run_underlying Tryz.underlying226
 go_enter Tryz.func145,Tryz.ntmps145
 go_wp2
 rw[Lib.run_to_unsafe w ⟨b,0,none⟩ t101 t226 hj (by rw[hjs];decide) hsh (Nat.zero_lt_succ 1)];simp only[Result.andThen];rw[Oper.upon_value]
 go_wp2
 rw[run_callFunc_extern Tryz.func231 (by kernel_rfl) (by kernel_rfl) (by kernel_rfl) (e:=Extern.AbiNoEscape.same) (by kernel_rfl)];rw[Lib.run_noEscape];simp only[Result.andThen];rw[Oper.upon_value]
 go_wp2
 rw[Lib.run_from_unsafe w ⟨b,0,none⟩ t226 t101 hj hsh QmI];simp only[Result.andThen];rw[Oper.upon_value]
 go_wp2
 go_end0
 exact⟨rfl,rfl⟩
end Go.Am
