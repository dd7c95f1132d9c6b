/-
  ProofCounts is true of every list of steps: the row, and its tied card.
  Conditions: none beyond the given row's own cells.
-/
import Derived.Test.YthpfccfeelhpeaaGreatDoorG11
import Derived.Test.YthpfccfeelhpeaaGreatDoorG17
import Derived.Test.YthpfccfeelhpeaaGreatDoorG18
import Derived.Test.YthpfccfeelhpeaaGreatDoorG35
import Derived.Deep.DeepWitnessRowRef
import Derived.Test.YthpfccfeelhpeaaGreatDoorCheck
set_option linter.all false
namespace Go.Proofs.YthpfccfeelhpeaaGreatDoor
open Go.Am Go.RowKit Go.ChangeShapes Go.WideShapes
open Go.ChangeMaps (open_string shut_string)
attribute [local instance] Go.Am.Chk.drF
set_option maxRecDepth 100000 in
theorem proofCounts_contract (H : Type) (enc : TypeId × Value → H) (W : World) (base : Nat) (args : Array Value) (ds gs : List (DataW H)) (before : List MemPlace)
  (hval : ∀ (j : Nat) t v,Tryz.f3.params[j]? = some t → args[j]? = some v → Value.okWide Tryz.prog W .any base t v)
  (hW : DataW.Whole enc Tryz.prog Tryz.f3.params.toList Rows.proofCountsSpec.vars false W args.toList ds gs before)
  (hsz : (DataW.weightsEach Tryz.prog (Tryz.f3.params.toList ++ Rows.proofCountsSpec.plain.varTypes Tryz.prog) (ds ++ gs)).all (· ≤ reachBytes) = true)
  (hL : laidMetH Tryz.prog Rows.proofCountsRow.laid W) (hSh : W.ShapedOpen Tryz.prog) :
  Calls Tryz.prog 3 args W fun e W' => ∃ v,e = .returned v ∧ Rows.proofCountsSpec.post enc Tryz.prog Tryz.f3 false true false false W args v W' := by
 have hW' := hW;have hlt : ∀ p ∈ before,p.block < W.heap.size := fun p hp => hW.lt p hp;obtain ⟨p,q,hA0,hV,rfl,hfz,hnd⟩ := hW;have hA : DataW.TrodAll enc Tryz.prog W 0 (fun _ => true) true Tryz.f3.params.toList args.toList ds p := hA0;obtain ⟨rfl,rfl⟩ := trodVars_none hV;rw [Tryz.params3] at hA hval hsz;obtain ⟨v0,d0,rfl,rfl,h0⟩ := trodAll_one hA;simp only [List.append_nil] at hW' hlt hsz;have hG := Jz (show laidMet Tryz.prog TK W from hL) hSh;have hwt0 : ∀ n ∈ d0.weights Tryz.prog 22,n ≤ reachBytes := fun n hn => by
  have := List.all_eq_true.1 hsz n (DataW.weights_mem_each (j := 0) (t := 22) (d := d0) rfl rfl n hn);simpa using this
 obtain ⟨n0,xs0,k0,r0⟩ := H3 (num := Chk.num) CX (t := 22) (by decide) Tryz.underlying22 (hval 0 22 v0 rfl rfl) h0 hwt0;obtain ⟨a0,ha0,b0,c0⟩ := EN k0;rw [show AV.sl false _ xs0 = _ from List.head_eq_of_cons_eq ha0] at r0;unfold reachBytes at *;have hc := Pj a0 Ic (by omega);refine (JA Chk.fits (show Chk.num 632 = some 3 from rfl) hG rfl rfl (fun i c hi => ?_) hc).mono fun e W' ⟨he,hb⟩ => ?_
 ·match i,hi with
  | 0,hi => injection hi with hi; subst hi; exact ⟨_,rfl,r0⟩
 ·subst he;refine ⟨_,rfl,Go.Am.post_of_below (pa := p) (pv := []) hW' (fun _ _ _ => trodAll_mk1 (shut_bool Tryz.underlying4 _)) (fun sp hsp => ?_) (fun _ _ => rfl) (by simp) hb (ok_one (by kernel_rfl) rfl (okWide_bool_mk Tryz.underlying4 _))⟩;exact T2 kids full hb (by rw [Tryz.params3]; decide) hA0 hlt hsp
abbrev proofCountsArgs : Array Value := #[.slice none 0 0]
theorem proofCounts_reads (os : Os) {H : Type} (enc : TypeId × Value → H) : ∃ places,DataW.whole enc Tryz.prog ((World.laidAll Tryz.prog os TK).forCall (fun _ _ => 0) ⟨#[],proofCountsArgs,[]⟩).memory Tryz.f3.params.toList Rows.proofCountsSpec.vars false proofCountsArgs.toList 8 =
  some ([.nil],[],places) := ⟨[],by kernel_rfl⟩
set_option maxRecDepth 100000 in
theorem proofCounts_lifted (os : Os) (started : os.Started) (H : Type) (enc : TypeId × Value → H) (F : Stop.Interp) :
  ReturnsInHanded {} Tryz.checked os 3 .any ((OpenSpec.ofChange Rows.proofCountsSpec).preRow enc Tryz.prog Tryz.f3 Rows.proofCountsRow.domain false Rows.proofCountsRow.laid) (((OpenSpec.ofChange Rows.proofCountsSpec).at F).post enc Tryz.prog Tryz.f3 false true false false) := by
 obtain ⟨places,hx⟩ := proofCounts_reads os enc;refine returnsInHanded_of_row (C := Tryz.checked) (s := OpenSpec.ofChange Rows.proofCountsSpec) own started (by kernel_rfl) Tryz.func3
  (witness_row_atRef (enc := enc) (C := Tryz.checked) false (World.laidAll Tryz.prog os TK) proofCountsArgs (World.laidAll_os _ _ _) (by kernel_rfl) (by kernel_rfl) (by kernel_rfl)
   (OpenSpec.preRow_of_cond 8 hx (by kernel_rfl) (fun k hk => by cases hk) (by kernel_rfl) (FL os _))) ?_
 intro W base args ds gs before hval hW _ _ hsz hL hSh _;exact proofCounts_contract H enc W base args ds gs before hval hW hsz hL hSh
theorem proofCounts_named : Tryz.pinned.checked.prog.funcNamed Rows.proofCountsRow.func = some 3 := by kernel_rfl
theorem proofCounts_j0 : (Rows.proofCountsRow.wf (OpenSpec.ofChange (OpenSpec.ofChange Rows.proofCountsSpec).bare)) = true := by kernel_rfl
theorem proofCounts_j1 : (laidOutB Tryz.pinned.checked.prog) = true := by kernel_rfl
theorem proofCounts_j2 : (mapsRowed Tryz.pinned.checked.prog) = true := by kernel_rfl
theorem proofCounts_j3 : (Tryz.f3.params.all (Tryz.pinned.checked.prog.readableRec ·)) = true := by kernel_rfl
theorem proofCounts_j4 : (namedTie Tryz.pinned.checked.prog Rows.proofCountsRow.named (OpenSpec.ofChange Rows.proofCountsSpec).bare.vars) = true := by kernel_rfl
theorem proofCounts_j5 : (Rows.proofCountsRow.stops == []) = true := by kernel_rfl
theorem proofCounts_j6 : (Tryz.pinned.checked.prog.stops == []) = true := by kernel_rfl
theorem proofCounts_j7 : (Rows.proofCountsRow.knobs == []) = true := by kernel_rfl
theorem proofCounts_j8 : (Tryz.pinned.checked.prog.stopKnobs == []) = true := by kernel_rfl
theorem proofCounts_j9 : (Rows.proofCountsRow.inPlace == Tryz.pinned.checked.prog.inPlace 3) = true := by kernel_rfl
theorem proofCounts_j10 : (Rows.proofCountsRow.unfollowed == Tryz.pinned.checked.prog.unfollowed 3) = true := by kernel_rfl
theorem proofCounts_j11 : (Rows.proofCountsRow.recurses == Tryz.pinned.checked.prog.recurses 3) = true := by kernel_rfl
theorem proofCounts_j12 : (Rows.proofCountsRow.named == Tryz.pinned.checked.prog.varsNamed 3) = true := by kernel_rfl
theorem proofCounts_closed : joinedFacts Tryz.pinned.checked.prog 3 Tryz.f3 (OpenSpec.ofChange Rows.proofCountsSpec).bare Rows.proofCountsRow = true := Gx proofCounts_j0 proofCounts_j1 proofCounts_j2 proofCounts_j3 proofCounts_j4 proofCounts_j5 proofCounts_j6 proofCounts_j7 proofCounts_j8 proofCounts_j9 proofCounts_j10 proofCounts_j11 proofCounts_j12 (by kernel_rfl) (by kernel_rfl) (by kernel_rfl) (by kernel_rfl) (by kernel_rfl) (by kernel_rfl) (by kernel_rfl) (by kernel_rfl) (by kernel_rfl) (by kernel_rfl) (by kernel_rfl) (by kernel_rfl) (by kernel_rfl) (by kernel_rfl) (by kernel_rfl) (by kernel_rfl) (by kernel_rfl) (by kernel_rfl) (by kernel_rfl)
theorem proofCounts_inst : Tryz.f3.isInstance Tryz.pinned.checked.prog Rows.proofCountsRow.origin Rows.proofCountsRow.targs := of_decide_eq_true (by kernel_rfl)
theorem proofCounts_wrap : Tryz.f3.isWrapper Tryz.pinned.checked.prog Rows.proofCountsRow.wrapper Rows.proofCountsRow.mainSum := by unfold Func.isWrapper; first | (rw [if_pos (by decide +kernel)]; kernel_rfl) | (rw [if_neg (by decide +kernel)]; exact ⟨rfl,rfl⟩)
theorem proofCounts_said : Rows.ProofCountsSaid :=
 OpenClaim.holds_of_cond 3 Tryz.f3 rfl rfl rfl rfl rfl rfl rfl ⟨rfl,rfl,rfl,rfl,rfl⟩ rfl rfl rfl rfl rfl proofCounts_named Tryz.func3 proofCounts_closed proofCounts_inst proofCounts_wrap
  (fun os started H enc _ F => by rw [OpenClaim.pre_eq_preRow]; exact proofCounts_lifted os started H enc F)
theorem proofCounts_plain (f : FuncId) (fn : Func) (hf : Tryz.pinned.checked.prog.funcNamed "sealring/sealringlaw11.ProofCounts" = some f) (hfn : Tryz.pinned.checked.prog.funcs[f]? = some fn) :
  true = Tryz.pinned.checked.prog.looks [] ∧ ∀ (j : Nat) t,fn.params[j]? = some t → Tryz.pinned.checked.prog.wantsStandIn t = false := by
 obtain rfl : f = 3 := Option.some.inj ((show Tryz.prog.funcNamed "sealring/sealringlaw11.ProofCounts" = some 3 by kernel_rfl).symm.trans hf) |>.symm;obtain rfl : fn = Tryz.f3 := (Option.some.inj (Tryz.func3.symm.trans hfn)).symm;refine ⟨by kernel_rfl,fun j t ht => ?_⟩;rw [Tryz.params3] at ht;have hm : t ∈ [22] := by simpa using Array.mem_of_getElem? ht
 have hall : ([22].all fun u => !Tryz.prog.wantsStandIn u) = true := by kernel_rfl
 exact (show Tryz.prog.wantsStandIn t = false by simpa using List.all_eq_true.1 hall t hm)
theorem proofCounts_card : Rows.ProofCountsCardSaid :=
 Claim7.holds_tied_plain_at .later [] _ _ _ _ proofCounts_said (fun _ h => by cases h) (by kernel_rfl) (fun _ h => by cases h) proofCounts_row_tie rfl ⟨rfl,rfl⟩ (by kernel_rfl) rfl proofCounts_plain (by kernel_rfl)
#print axioms proofCounts_card
end Go.Proofs.YthpfccfeelhpeaaGreatDoor
