/-
  ProofFormats is true of every list of steps: the row, and its tied card.
  Conditions: none beyond the given row's own cells.
-/
import Derived.Test.YtmlbinmlblbfgaaGreatDoorG11
import Derived.Test.YtmlbinmlblbfgaaGreatDoorG18
import Derived.Test.YtmlbinmlblbfgaaGreatDoorG21
import Derived.Test.YtmlbinmlblbfgaaGreatDoorG39
import Derived.Deep.DeepWitnessRowRef
import Derived.Test.YtmlbinmlblbfgaaGreatDoorCheck
set_option linter.all false
namespace Go.Proofs.YtmlbinmlblbfgaaGreatDoor
open Go.Am Go.RowKit Go.ChangeShapes Go.WideShapes
open Go.ChangeMaps (open_string shut_string)
attribute [local instance] Go.Am.Chk.drF
set_option maxRecDepth 100000 in
theorem proofFormats_contract (H : Type) (enc : TypeId × Value → H) (W : World) (base : Nat) (args : Array Value) (ds gs : List (DataW H)) (before : List MemPlace)
  (hval : ∀ (j : Nat) t v,Tryz.f3.params[j]? = some t → args[j]? = some v → Value.okWide Tryz.prog W .any base t v)
  (hW : DataW.Whole enc Tryz.prog Tryz.f3.params.toList Rows.proofFormatsSpec.vars false W args.toList ds gs before)
  (hsz : (DataW.weightsEach Tryz.prog (Tryz.f3.params.toList ++ Rows.proofFormatsSpec.plain.varTypes Tryz.prog) (ds ++ gs)).all (· ≤ reachBytes) = true)
  (hL : laidMetH Tryz.prog Rows.proofFormatsRow.laid W) (hSh : W.ShapedOpen Tryz.prog) :
  Calls Tryz.prog 3 args W fun e W' => ∃ v,e = .returned v ∧ Rows.proofFormatsSpec.post enc Tryz.prog Tryz.f3 false true false false W args v W' := by
 have hW' := hW;have hlt : ∀ p ∈ before,p.block < W.heap.size := fun p hp => hW.lt p hp;obtain ⟨p,q,hA0,hV,rfl,hfz,hnd⟩ := hW;have hA : DataW.TrodAll enc Tryz.prog W 0 (fun _ => true) true Tryz.f3.params.toList args.toList ds p := hA0;obtain ⟨rfl,rfl⟩ := trodVars_none hV;rw [Tryz.params3] at hA hval hsz;obtain ⟨v0,d0,rfl,rfl,h0⟩ := trodAll_one hA;simp only [List.append_nil] at hW' hlt hsz;have hG := NK (show laidMet Tryz.prog U0 W from hL) hSh;have hwt0 : ∀ n ∈ d0.weights Tryz.prog 22,n ≤ reachBytes := fun n hn => by
  have := List.all_eq_true.1 hsz n (DataW.weights_mem_each (j := 0) (t := 22) (d := d0) rfl rfl n hn);simpa using this
 obtain ⟨n0,xs0,k0,r0⟩ := Cx (num := Chk.num) QdP (t := 22) (by decide) Tryz.underlying22 (hval 0 22 v0 rfl rfl) h0 hwt0;obtain ⟨a0,ha0,b0,c0⟩ := Qa2 k0;rw [show AV.sl false _ xs0 = _ from List.head_eq_of_cons_eq ha0] at r0;unfold reachBytes at *;have hc := OL a0 MJ (by omega) (fun d hd => ⟨by have := (c0 d hd).1; omega,by have := (c0 d hd).2; omega⟩);refine (NM Chk.fits (show Chk.num 716 = some 3 from rfl) hG rfl rfl (fun i c hi => ?_) hc).mono fun e W' ⟨he,hb⟩ => ?_
 ·match i,hi with
  | 0,hi => injection hi with hi; subst hi; exact ⟨_,rfl,r0⟩
 ·subst he;refine ⟨_,rfl,Go.Am.post_of_below (pa := p) (pv := []) hW' (fun _ _ _ => trodAll_mk1 (shut_bool Tryz.underlying4 _)) (fun sp hsp => ?_) (fun _ _ => rfl) (by simp) hb (ok_one (by kernel_rfl) rfl (okWide_bool_mk Tryz.underlying4 _))⟩;exact Tt kids full hb (by rw [Tryz.params3]; decide) hA0 hlt hsp
abbrev proofFormatsArgs : Array Value := #[.slice none 0 0]
theorem proofFormats_reads (os : Os) {H : Type} (enc : TypeId × Value → H) : ∃ places,DataW.whole enc Tryz.prog ((World.laidAll Tryz.prog os U0).forCall (fun _ _ => 0) ⟨#[],proofFormatsArgs,[]⟩).memory Tryz.f3.params.toList Rows.proofFormatsSpec.vars false proofFormatsArgs.toList 8 =
  some ([.nil],[],places) := ⟨[],by kernel_rfl⟩
set_option maxRecDepth 100000 in
theorem proofFormats_lifted (os : Os) (started : os.Started) (H : Type) (enc : TypeId × Value → H) (F : Stop.Interp) :
  ReturnsInHanded {} Tryz.checked os 3 .any ((OpenSpec.ofChange Rows.proofFormatsSpec).preRow enc Tryz.prog Tryz.f3 Rows.proofFormatsRow.domain false Rows.proofFormatsRow.laid) (((OpenSpec.ofChange Rows.proofFormatsSpec).at F).post enc Tryz.prog Tryz.f3 false true false false) := by
 obtain ⟨places,hx⟩ := proofFormats_reads os enc;refine returnsInHanded_of_row (C := Tryz.checked) (s := OpenSpec.ofChange Rows.proofFormatsSpec) own started (by kernel_rfl) Tryz.func3
  (witness_row_atRef (enc := enc) (C := Tryz.checked) false (World.laidAll Tryz.prog os U0) proofFormatsArgs (World.laidAll_os _ _ _) (by kernel_rfl) (by kernel_rfl) (by kernel_rfl)
   (OpenSpec.preRow_of_cond 8 hx (by kernel_rfl) (fun k hk => by cases hk) (by kernel_rfl) (Ig os _))) ?_
 intro W base args ds gs before hval hW _ _ hsz hL hSh _;exact proofFormats_contract H enc W base args ds gs before hval hW hsz hL hSh
theorem proofFormats_named : Tryz.pinned.checked.prog.funcNamed Rows.proofFormatsRow.func = some 3 := by kernel_rfl
theorem proofFormats_j0 : (Rows.proofFormatsRow.wf (OpenSpec.ofChange (OpenSpec.ofChange Rows.proofFormatsSpec).bare)) = true := by kernel_rfl
theorem proofFormats_j1 : (laidOutB Tryz.pinned.checked.prog) = true := by kernel_rfl
theorem proofFormats_j2 : (mapsRowed Tryz.pinned.checked.prog) = true := by kernel_rfl
theorem proofFormats_j3 : (Tryz.f3.params.all (Tryz.pinned.checked.prog.readableRec ·)) = true := by kernel_rfl
theorem proofFormats_j4 : (namedTie Tryz.pinned.checked.prog Rows.proofFormatsRow.named (OpenSpec.ofChange Rows.proofFormatsSpec).bare.vars) = true := by kernel_rfl
theorem proofFormats_j5 : (Rows.proofFormatsRow.stops == []) = true := by kernel_rfl
theorem proofFormats_j6 : (Tryz.pinned.checked.prog.stops == []) = true := by kernel_rfl
theorem proofFormats_j7 : (Rows.proofFormatsRow.knobs == []) = true := by kernel_rfl
theorem proofFormats_j8 : (Tryz.pinned.checked.prog.stopKnobs == []) = true := by kernel_rfl
theorem proofFormats_j9 : (Rows.proofFormatsRow.inPlace == Tryz.pinned.checked.prog.inPlace 3) = true := by kernel_rfl
theorem proofFormats_j10 : (Rows.proofFormatsRow.unfollowed == Tryz.pinned.checked.prog.unfollowed 3) = true := by kernel_rfl
theorem proofFormats_j11 : (Rows.proofFormatsRow.recurses == Tryz.pinned.checked.prog.recurses 3) = true := by kernel_rfl
theorem proofFormats_j12 : (Rows.proofFormatsRow.named == Tryz.pinned.checked.prog.varsNamed 3) = true := by kernel_rfl
theorem proofFormats_closed : joinedFacts Tryz.pinned.checked.prog 3 Tryz.f3 (OpenSpec.ofChange Rows.proofFormatsSpec).bare Rows.proofFormatsRow = true := M9 proofFormats_j0 proofFormats_j1 proofFormats_j2 proofFormats_j3 proofFormats_j4 proofFormats_j5 proofFormats_j6 proofFormats_j7 proofFormats_j8 proofFormats_j9 proofFormats_j10 proofFormats_j11 proofFormats_j12 (by kernel_rfl) (by kernel_rfl) (by kernel_rfl) (by kernel_rfl) (by kernel_rfl) (by kernel_rfl) (by kernel_rfl) (by kernel_rfl) (by kernel_rfl) (by kernel_rfl) (by kernel_rfl) (by kernel_rfl) (by kernel_rfl) (by kernel_rfl) (by kernel_rfl) (by kernel_rfl) (by kernel_rfl) (by kernel_rfl) (by kernel_rfl)
theorem proofFormats_inst : Tryz.f3.isInstance Tryz.pinned.checked.prog Rows.proofFormatsRow.origin Rows.proofFormatsRow.targs := of_decide_eq_true (by kernel_rfl)
theorem proofFormats_wrap : Tryz.f3.isWrapper Tryz.pinned.checked.prog Rows.proofFormatsRow.wrapper Rows.proofFormatsRow.mainSum := by unfold Func.isWrapper; first | (rw [if_pos (by decide +kernel)]; kernel_rfl) | (rw [if_neg (by decide +kernel)]; exact ⟨rfl,rfl⟩)
theorem proofFormats_said : Rows.ProofFormatsSaid :=
 OpenClaim.holds_of_cond 3 Tryz.f3 rfl rfl rfl rfl rfl rfl rfl ⟨rfl,rfl,rfl,rfl,rfl⟩ rfl rfl rfl rfl rfl proofFormats_named Tryz.func3 proofFormats_closed proofFormats_inst proofFormats_wrap
  (fun os started H enc _ F => by rw [OpenClaim.pre_eq_preRow]; exact proofFormats_lifted os started H enc F)
theorem proofFormats_plain (f : FuncId) (fn : Func) (hf : Tryz.pinned.checked.prog.funcNamed "sealring/sealringlaw11.ProofFormats" = some f) (hfn : Tryz.pinned.checked.prog.funcs[f]? = some fn) :
  true = Tryz.pinned.checked.prog.looks [] ∧ ∀ (j : Nat) t,fn.params[j]? = some t → Tryz.pinned.checked.prog.wantsStandIn t = false := by
 obtain rfl : f = 3 := Option.some.inj ((show Tryz.prog.funcNamed "sealring/sealringlaw11.ProofFormats" = some 3 by kernel_rfl).symm.trans hf) |>.symm;obtain rfl : fn = Tryz.f3 := (Option.some.inj (Tryz.func3.symm.trans hfn)).symm;refine ⟨by kernel_rfl,fun j t ht => ?_⟩;rw [Tryz.params3] at ht;have hm : t ∈ [22] := by simpa using Array.mem_of_getElem? ht
 have hall : ([22].all fun u => !Tryz.prog.wantsStandIn u) = true := by kernel_rfl
 exact (show Tryz.prog.wantsStandIn t = false by simpa using List.all_eq_true.1 hall t hm)
theorem proofFormats_cw : Rows.proofFormatsRow.wfByText (OpenSpec.ofChange Rows.proofFormatsSpec) = true := by kernel_rfl
theorem proofFormats_cg : false = Rows.proofFormatsRow.goesBy Tryz.pinned.checked.prog := M5 (by kernel_rfl) rfl
theorem proofFormats_card : Rows.ProofFormatsCardSaid :=
 Claim7.holds_tied_plain_at .later [] _ _ _ _ proofFormats_said (fun _ h => by cases h) proofFormats_cw (fun _ h => by cases h) proofFormats_row_tie rfl ⟨rfl,rfl⟩ (by kernel_rfl) rfl proofFormats_plain proofFormats_cg
#print axioms proofFormats_card
end Go.Proofs.YtmlbinmlblbfgaaGreatDoor
