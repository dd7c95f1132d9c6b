/-
  TicketDeleted is true of every window and list of calls: the row, and its tied card.
  Conditions: none beyond the given row's own cells.
-/
import Derived.Test.YtkijgpjgngncpaaGreatDoorG11
import Derived.Test.YtkijgpjgngncpaaGreatDoorG26
import Derived.Test.YtkijgpjgngncpaaGreatDoorG27
import Derived.Test.YtkijgpjgngncpaaGreatDoorCheck
set_option linter.all false
namespace Go.Proofs.YtkijgpjgngncpaaGreatDoor
open Go.Am Go.RowKit Go.ChangeShapes Go.WideShapes
open Go.ChangeMaps (open_string shut_string)
attribute [local instance] Go.Am.Chk.drF
set_option maxRecDepth 100000 in
theorem ticketDeleted_contract (H : Type) (enc : TypeId × Value → H) (W : World) (base : Nat) (args : Array Value) (ds gs : List (DataW H)) (before : List MemPlace)
  (hval : ∀ (j : Nat) t v,Tryz.f3.params[j]? = some t → args[j]? = some v → Value.okWide Tryz.prog W .any base t v)
  (hW : DataW.Whole enc Tryz.prog Tryz.f3.params.toList Rows.ticketDeletedSpec.vars false W args.toList ds gs before)
  (hsz : (DataW.weightsEach Tryz.prog (Tryz.f3.params.toList ++ Rows.ticketDeletedSpec.plain.varTypes Tryz.prog) (ds ++ gs)).all (· ≤ reachBytes) = true)
  (hL : laidMetH Tryz.prog Rows.ticketDeletedRow.laid W) :
  Calls Tryz.prog 3 args W fun e W' => ∃ v,e = .returned v ∧ Rows.ticketDeletedSpec.post enc Tryz.prog Tryz.f3 false true false false W args v W' := by
 have hW' := hW;have hlt : ∀ p ∈ before,p.block < W.heap.size := fun p hp => hW.lt p hp;obtain ⟨p,q,hA0,hV,rfl,hfz,hnd⟩ := hW;have hA : DataW.TrodAll enc Tryz.prog W 0 (fun _ => true) true Tryz.f3.params.toList args.toList ds p := hA0;obtain ⟨rfl,rfl⟩ := trodVars_none hV;rw [Tryz.params3] at hA hval hsz;obtain ⟨v0,v1,d0,d1,p0,p1,rfl,rfl,hpp,h0,h1⟩ := trodAll_two hA;simp only [List.append_nil] at hW' hlt hsz;have hG := Du (show laidMet Tryz.prog OE W from hL);obtain ⟨y0,rfl,rfl,rfl,hwf0⟩ := open_int Tryz.underlying5 (hval 0 5 v0 rfl rfl) h0;obtain ⟨a0,rfl,b0⟩ := QaN hwf0;have hwt1 : ∀ n ∈ d1.weights Tryz.prog 22,n ≤ reachBytes := fun n hn => by
  have := List.all_eq_true.1 hsz n (DataW.weights_mem_each (j := 1) (t := 22) (d := d1) rfl rfl n hn);simpa using this
 obtain ⟨n1,xs1,k1,r1⟩ := Ej (num := Chk.num) Qdn (t := 22) (by decide) Tryz.underlying22 (hval 1 22 v1 rfl rfl) h1 hwt1;obtain ⟨a1,ha1,b1,c1⟩ := Qde k1;rw [show AV.sl false _ xs1 = _ from List.head_eq_of_cons_eq ha1] at r1;unfold reachBytes at *;have hc := OK a0 a1 false b0 (by omega) c1;refine (Dw Chk.fits (show Chk.num 734 = some 3 from rfl) hG rfl rfl (fun i c hi => ?_) hc).mono fun e W' ⟨he,hb⟩ => ?_
 ·match i,hi with
  | 0,hi => injection hi with hi; subst hi; exact ⟨.int .u8 a0,rfl,by simp only [Qc]⟩
  | 1,hi => injection hi with hi; subst hi; exact ⟨_,rfl,r1⟩
 ·subst he;refine ⟨_,rfl,Go.Am.post_of_below (pa := p) (pv := []) hW' (fun _ _ _ => trodAll_mk1 (shut_bool Tryz.underlying4 _)) (fun sp hsp => ?_) (fun _ _ => rfl) (by simp) hb (ok_one (by kernel_rfl) rfl (okWide_bool_mk Tryz.underlying4 _))⟩;exact Pr kids full hb (by rw [Tryz.params3]; decide) hA0 hlt hsp
abbrev ticketDeletedArgs : Array Value := #[.int .u8 0,.slice none 0 0]
theorem ticketDeleted_reads (os : Os) {H : Type} (enc : TypeId × Value → H) : ∃ places,DataW.whole enc Tryz.prog ((World.laidAll Tryz.prog os OE).forCall (fun _ _ => 0) ⟨#[],ticketDeletedArgs,[]⟩).memory Tryz.f3.params.toList Rows.ticketDeletedSpec.vars false ticketDeletedArgs.toList 8 =
  some ([.lit (.int .u8 0),.nil],[],places) := ⟨[],by kernel_rfl⟩
set_option maxRecDepth 100000 in
theorem ticketDeleted_lifted (os : Os) (started : os.Started) (H : Type) (enc : TypeId × Value → H) (F : Stop.Interp) :
  ReturnsInHanded {} Tryz.checked os 3 .any ((OpenSpec.ofChange Rows.ticketDeletedSpec).preRow enc Tryz.prog Tryz.f3 Rows.ticketDeletedRow.domain false Rows.ticketDeletedRow.laid) (((OpenSpec.ofChange Rows.ticketDeletedSpec).at F).post enc Tryz.prog Tryz.f3 false true false false) := by
 obtain ⟨places,hx⟩ := ticketDeleted_reads os enc;refine returnsInHanded_of_row (C := Tryz.checked) (s := OpenSpec.ofChange Rows.ticketDeletedSpec) own started (by kernel_rfl) Tryz.func3
  (witness_row_at (enc := enc) (C := Tryz.checked) false (World.laidAll Tryz.prog os OE) ticketDeletedArgs (World.laidAll_os _ _ _) (by kernel_rfl) (by kernel_rfl) (by kernel_rfl)
   (OpenSpec.preRow_of_cond 8 hx (by kernel_rfl) (fun k hk => by cases hk) (by kernel_rfl) (BO os _))) ?_
 intro W base args ds gs before hval hW _ _ hsz hL _ _;exact ticketDeleted_contract H enc W base args ds gs before hval hW hsz hL
theorem ticketDeleted_named : Tryz.pinned.checked.prog.funcNamed Rows.ticketDeletedRow.func = some 3 := by kernel_rfl
theorem ticketDeleted_closed : joinedFacts Tryz.pinned.checked.prog 3 Tryz.f3 (OpenSpec.ofChange Rows.ticketDeletedSpec).bare Rows.ticketDeletedRow = true := by kernel_rfl
theorem ticketDeleted_inst : Tryz.f3.isInstance Tryz.pinned.checked.prog Rows.ticketDeletedRow.origin Rows.ticketDeletedRow.targs := of_decide_eq_true (by kernel_rfl)
theorem ticketDeleted_wrap : Tryz.f3.isWrapper Tryz.pinned.checked.prog Rows.ticketDeletedRow.wrapper Rows.ticketDeletedRow.mainSum := by unfold Func.isWrapper; first | (rw [if_pos (by decide +kernel)]; kernel_rfl) | (rw [if_neg (by decide +kernel)]; exact ⟨rfl,rfl⟩)
theorem ticketDeleted_said : Rows.TicketDeletedSaid :=
 OpenClaim.holds_of_cond 3 Tryz.f3 rfl rfl rfl rfl rfl rfl rfl ⟨rfl,rfl,rfl,rfl,rfl⟩ rfl rfl rfl rfl rfl ticketDeleted_named Tryz.func3 ticketDeleted_closed ticketDeleted_inst ticketDeleted_wrap
  (fun os started H enc _ F => by rw [OpenClaim.pre_eq_preRow]; exact ticketDeleted_lifted os started H enc F)
theorem ticketDeleted_plain (f : FuncId) (fn : Func) (hf : Tryz.pinned.checked.prog.funcNamed "sealring/sealringlaw54.TicketDeleted" = some f) (hfn : Tryz.pinned.checked.prog.funcs[f]? = some fn) :
  true = Tryz.pinned.checked.prog.looks [] ∧ ∀ (j : Nat) t,fn.params[j]? = some t → Tryz.pinned.checked.prog.wantsStandIn t = false := by
 obtain rfl : f = 3 := Option.some.inj ((show Tryz.prog.funcNamed "sealring/sealringlaw54.TicketDeleted" = some 3 by kernel_rfl).symm.trans hf) |>.symm;obtain rfl : fn = Tryz.f3 := (Option.some.inj (Tryz.func3.symm.trans hfn)).symm;refine ⟨by kernel_rfl,fun j t ht => ?_⟩;rw [Tryz.params3] at ht;have hm : t ∈ [5,22] := by simpa using Array.mem_of_getElem? ht
 have hall : ([5,22].all fun u => !Tryz.prog.wantsStandIn u) = true := by kernel_rfl
 exact (show Tryz.prog.wantsStandIn t = false by simpa using List.all_eq_true.1 hall t hm)
theorem ticketDeleted_card : Rows.TicketDeletedCardSaid :=
 Claim7.holds_tied_plain_at .later [] _ _ _ _ ticketDeleted_said (fun _ h => by cases h) (by kernel_rfl) (fun _ h => by cases h) ticketDeleted_row_tie rfl ⟨rfl,rfl⟩ (by kernel_rfl) rfl ticketDeleted_plain (by kernel_rfl)
#print axioms ticketDeleted_card
end Go.Proofs.YtkijgpjgngncpaaGreatDoor
