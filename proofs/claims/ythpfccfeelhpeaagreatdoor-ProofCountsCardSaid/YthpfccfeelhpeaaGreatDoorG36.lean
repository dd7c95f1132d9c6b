/-
  SeatCc.
-/
import Derived.Shelf.Strings.Builder1
import Derived.Test.YthpfccfeelhpeaaGreatDoorProg
set_option linter.all false
namespace Go.Am
open Go.Shelf Go.RowKit Go.Lib Go.Proofs
theorem H5: (Tryz.prog.info? 50).map (·.size)=some 2:=by kernel_rfl
theorem Qbj:liesAt Tryz.prog Tryz.prog.depth 50 (2 / Tryz.prog.cellsOf 50) 0 50 1=true:=by kernel_rfl
set_option maxHeartbeats 1000000 in
set_option maxRecDepth 100000 in
theorem DC (b:Nat) (w:World) (h0:w.cell? ⟨b,0,none⟩=some (.pointer (some ⟨b,0,none⟩))):
  Calls Tryz.prog 59 #[.pointer (some ⟨b,0,none⟩)] w fun e w'=>e= .returned (.tuple #[])∧w'=w:=by
 obtain⟨j,hj,hjs⟩:=Option.map_eq_some_iff.1 H5;have mixed:Tryz.prog.follows .mixedOrders=true:=by kernel_rfl
 have t50:=Tryz.underlying50;have a50:=Tryz.isAgg50;have z50:=Tryz.sizeOf50;have v50:=Tryz.zeroValue50;have u50:=run_underlying Tryz.underlying50
 have t47:=Tryz.underlying47;have a47:=Tryz.isAgg47;have z47:=Tryz.sizeOf47;have v47:=Tryz.zeroValue47;have u47:=run_underlying Tryz.underlying47
 have t4:=Tryz.underlying4;have a4:=Tryz.isAgg4;have z4:=Tryz.sizeOf4;have v4:=Tryz.zeroValue4;have u4:=run_underlying Tryz.underlying4
 have t138:=Tryz.underlying138;have a138:=Tryz.isAgg138;have z138:=Tryz.sizeOf138;have v138:=Tryz.zeroValue138;have u138:=run_underlying Tryz.underlying138
 go_enter Tryz.func59,Tryz.ntmps59
 go_wp2
 rw[Lib.run_neq_ptr_same w _ t47 hj]
 go_wp2
 go_end0
 exact⟨rfl,rfl⟩
set_option maxHeartbeats 1000000 in
set_option maxRecDepth 100000 in
theorem FC (b:Nat) (w:World) (h0:w.cell? ⟨b,0,none⟩=some (.pointer none)) (hsh:w.shape? b=some (50,2)) (hfz:w.frozen? ⟨b,0,none⟩=false):
  Calls Tryz.prog 59 #[.pointer (some ⟨b,0,none⟩)] w fun e w'=>e= .returned (.tuple #[])∧w'=w.setCell ⟨b,0,none⟩ (.pointer (some ⟨b,0,none⟩)):=by
 obtain⟨j,hj,hjs⟩:=Option.map_eq_some_iff.1 H5;have mixed:Tryz.prog.follows .mixedOrders=true:=by kernel_rfl
 have t50:=Tryz.underlying50;have a50:=Tryz.isAgg50;have z50:=Tryz.sizeOf50;have v50:=Tryz.zeroValue50;have u50:=run_underlying Tryz.underlying50
 have t47:=Tryz.underlying47;have a47:=Tryz.isAgg47;have z47:=Tryz.sizeOf47;have v47:=Tryz.zeroValue47;have u47:=run_underlying Tryz.underlying47
 have t4:=Tryz.underlying4;have a4:=Tryz.isAgg4;have z4:=Tryz.sizeOf4;have v4:=Tryz.zeroValue4;have u4:=run_underlying Tryz.underlying4
 have t138:=Tryz.underlying138;have a138:=Tryz.isAgg138;have z138:=Tryz.sizeOf138;have v138:=Tryz.zeroValue138;have u138:=run_underlying Tryz.underlying138
 go_enter Tryz.func59,Tryz.ntmps59
 go_wp2
 rw[Lib.run_to_unsafe w ⟨b,0,none⟩ t47 t138 hj (by rw[hjs];decide) hsh (Nat.zero_lt_succ 1)];simp only[Result.andThen];rw[Oper.upon_value]
 go_wp2
 rw[run_callFunc_extern Tryz.func112 (by kernel_rfl) (by kernel_rfl) (by kernel_rfl) (e:=Extern.AbiNoEscape.same) (by kernel_rfl)];rw[Lib.run_noEscape];simp only[Result.andThen];rw[Oper.upon_value]
 go_wp2
 rw[Lib.run_from_unsafe w ⟨b,0,none⟩ t138 t47 hj hsh Qbj];simp only[Result.andThen];rw[Oper.upon_value]
 go_wp2
 go_end0
 exact⟨rfl,rfl⟩
end Go.Am
