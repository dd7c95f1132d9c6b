/-
  SeatCc.
-/
import Derived.Shelf.Strings.Builder1
import Derived.Test.YtmlbinmlblbfgaaGreatDoorProg
set_option linter.all false
namespace Go.Am
open Go.Shelf Go.RowKit Go.Lib Go.Proofs
theorem Cy: (Tryz.prog.info? 48).map (·.size)=some 2:=by kernel_rfl
theorem QgZ:liesAt Tryz.prog Tryz.prog.depth 48 (2 / Tryz.prog.cellsOf 48) 0 48 1=true:=by kernel_rfl
set_option maxHeartbeats 1000000 in
set_option maxRecDepth 100000 in
theorem Qci (b:Nat) (w:World) (h0:w.cell? ⟨b,0,none⟩=some (.pointer (some ⟨b,0,none⟩))):
  Calls Tryz.prog 54 #[.pointer (some ⟨b,0,none⟩)] w fun e w'=>e= .returned (.tuple #[])∧w'=w:=by
 obtain⟨j,hj,hjs⟩:=Option.map_eq_some_iff.1 Cy;have mixed:Tryz.prog.follows .mixedOrders=true:=by kernel_rfl
 have t48:=Tryz.underlying48;have a48:=Tryz.isAgg48;have z48:=Tryz.sizeOf48;have v48:=Tryz.zeroValue48;have u48:=run_underlying Tryz.underlying48
 have t45:=Tryz.underlying45;have a45:=Tryz.isAgg45;have z45:=Tryz.sizeOf45;have v45:=Tryz.zeroValue45;have u45:=run_underlying Tryz.underlying45
 have t4:=Tryz.underlying4;have a4:=Tryz.isAgg4;have z4:=Tryz.sizeOf4;have v4:=Tryz.zeroValue4;have u4:=run_underlying Tryz.underlying4
 have t126:=Tryz.underlying126;have a126:=Tryz.isAgg126;have z126:=Tryz.sizeOf126;have v126:=Tryz.zeroValue126;have u126:=run_underlying Tryz.underlying126
 go_enter Tryz.func54,Tryz.ntmps54
 go_wp2
 rw[Lib.run_neq_ptr_same w _ t45 hj]
 go_wp2
 go_end0
 exact⟨rfl,rfl⟩
set_option maxHeartbeats 1000000 in
set_option maxRecDepth 100000 in
theorem Av (b:Nat) (w:World) (h0:w.cell? ⟨b,0,none⟩=some (.pointer none)) (hsh:w.shape? b=some (48,2)) (hfz:w.frozen? ⟨b,0,none⟩=false):
  Calls Tryz.prog 54 #[.pointer (some ⟨b,0,none⟩)] w fun e w'=>e= .returned (.tuple #[])∧w'=w.setCell ⟨b,0,none⟩ (.pointer (some ⟨b,0,none⟩)):=by
 obtain⟨j,hj,hjs⟩:=Option.map_eq_some_iff.1 Cy;have mixed:Tryz.prog.follows .mixedOrders=true:=by kernel_rfl
 have t48:=Tryz.underlying48;have a48:=Tryz.isAgg48;have z48:=Tryz.sizeOf48;have v48:=Tryz.zeroValue48;have u48:=run_underlying Tryz.underlying48
 have t45:=Tryz.underlying45;have a45:=Tryz.isAgg45;have z45:=Tryz.sizeOf45;have v45:=Tryz.zeroValue45;have u45:=run_underlying Tryz.underlying45
 have t4:=Tryz.underlying4;have a4:=Tryz.isAgg4;have z4:=Tryz.sizeOf4;have v4:=Tryz.zeroValue4;have u4:=run_underlying Tryz.underlying4
 have t126:=Tryz.underlying126;have a126:=Tryz.isAgg126;have z126:=Tryz.sizeOf126;have v126:=Tryz.zeroValue126;have u126:=run_underlying Tryz.underlying126
 go_enter Tryz.func54,Tryz.ntmps54
 go_wp2
 rw[Lib.run_to_unsafe w ⟨b,0,none⟩ t45 t126 hj (by rw[hjs];decide) hsh (Nat.zero_lt_succ 1)];simp only[Result.andThen];rw[Oper.upon_value]
 go_wp2
 rw[run_callFunc_extern Tryz.func98 (by kernel_rfl) (by kernel_rfl) (by kernel_rfl) (e:=Extern.AbiNoEscape.same) (by kernel_rfl)];rw[Lib.run_noEscape];simp only[Result.andThen];rw[Oper.upon_value]
 go_wp2
 rw[Lib.run_from_unsafe w ⟨b,0,none⟩ t126 t45 hj hsh QgZ];simp only[Result.andThen];rw[Oper.upon_value]
 go_wp2
 go_end0
 exact⟨rfl,rfl⟩
end Go.Am
