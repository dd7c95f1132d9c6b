/-
  SeatCc.
-/
import Derived.Shelf.Strings.Builder1
import Derived.Test.YtjkjecpalfmohaaGreatDoorProg
set_option linter.all false
namespace Go.Am
open Go.Shelf Go.RowKit Go.Lib Go.Proofs
theorem Qd4: (Tryz.prog.info? 111).map (·.size)=some 2:=by kernel_rfl
theorem QoB:liesAt Tryz.prog Tryz.prog.depth 111 (2 / Tryz.prog.cellsOf 111) 0 111 1=true:=by kernel_rfl
set_option maxHeartbeats 1000000 in
set_option maxRecDepth 100000 in
theorem QjO (b:Nat) (w:World) (h0:w.cell? ⟨b,0,none⟩=some (.pointer (some ⟨b,0,none⟩))):
  Calls Tryz.prog 155 #[.pointer (some ⟨b,0,none⟩)] w fun e w'=>e= .returned (.tuple #[])∧w'=w:=by
 obtain⟨j,hj,hjs⟩:=Option.map_eq_some_iff.1 Qd4;have mixed:Tryz.prog.follows .mixedOrders=true:=by kernel_rfl
 have t111:=Tryz.underlying111;have a111:=Tryz.isAgg111;have z111:=Tryz.sizeOf111;have v111:=Tryz.zeroValue111;have u111:=run_underlying Tryz.underlying111
 have t108:=Tryz.underlying108;have a108:=Tryz.isAgg108;have z108:=Tryz.sizeOf108;have v108:=Tryz.zeroValue108;have u108:=run_underlying Tryz.underlying108
 have t4:=Tryz.underlying4;have a4:=Tryz.isAgg4;have z4:=Tryz.sizeOf4;have v4:=Tryz.zeroValue4;have u4:=run_underlying Tryz.underlying4
 have t228:=Tryz.underlying228;have a228:=Tryz.isAgg228;have z228:=Tryz.sizeOf228;have v228:=Tryz.zeroValue228;have u228:=run_underlying Tryz.underlying228
 go_enter Tryz.func155,Tryz.ntmps155
 go_wp2
 rw[Lib.run_neq_ptr_same w _ t108 hj]
 go_wp2
 go_end0
 exact⟨rfl,rfl⟩
set_option maxHeartbeats 1000000 in
set_option maxRecDepth 100000 in
theorem Qge (b:Nat) (w:World) (h0:w.cell? ⟨b,0,none⟩=some (.pointer none)) (hsh:w.shape? b=some (111,2)) (hfz:w.frozen? ⟨b,0,none⟩=false):
  Calls Tryz.prog 155 #[.pointer (some ⟨b,0,none⟩)] w fun e w'=>e= .returned (.tuple #[])∧w'=w.setCell ⟨b,0,none⟩ (.pointer (some ⟨b,0,none⟩)):=by
 obtain⟨j,hj,hjs⟩:=Option.map_eq_some_iff.1 Qd4;have mixed:Tryz.prog.follows .mixedOrders=true:=by kernel_rfl
 have t111:=Tryz.underlying111;have a111:=Tryz.isAgg111;have z111:=Tryz.sizeOf111;have v111:=Tryz.zeroValue111;have u111:=run_underlying Tryz.underlying111
 have t108:=Tryz.underlying108;have a108:=Tryz.isAgg108;have z108:=Tryz.sizeOf108;have v108:=Tryz.zeroValue108;have u108:=run_underlying Tryz.underlying108
 have t4:=Tryz.underlying4;have a4:=Tryz.isAgg4;have z4:=Tryz.sizeOf4;have v4:=Tryz.zeroValue4;have u4:=run_underlying Tryz.underlying4
 have t228:=Tryz.underlying228;have a228:=Tryz.isAgg228;have z228:=Tryz.sizeOf228;have v228:=Tryz.zeroValue228;have u228:=run_underlying Tryz.underlying228
 go_enter Tryz.func155,Tryz.ntmps155
 go_wp2
 rw[Lib.run_to_unsafe w ⟨b,0,none⟩ t108 t228 hj (by rw[hjs];decide) hsh (Nat.zero_lt_succ 1)];simp only[Result.andThen];rw[Oper.upon_value]
 go_wp2
 rw[run_callFunc_extern Tryz.func241 (by kernel_rfl) (by kernel_rfl) (by kernel_rfl) (e:=Extern.AbiNoEscape.same) (by kernel_rfl)];rw[Lib.run_noEscape];simp only[Result.andThen];rw[Oper.upon_value]
 go_wp2
 rw[Lib.run_from_unsafe w ⟨b,0,none⟩ t228 t108 hj hsh QoB];simp only[Result.andThen];rw[Oper.upon_value]
 go_wp2
 go_end0
 exact⟨rfl,rfl⟩
end Go.Am
