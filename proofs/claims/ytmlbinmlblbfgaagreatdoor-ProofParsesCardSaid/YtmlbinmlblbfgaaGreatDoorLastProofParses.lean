/-
  ProofParses is true of every string: the row, and its tied card.
  Conditions: none beyond the given row's own cells.
-/
import Derived.Test.YtmlbinmlblbfgaaGreatDoorG11
import Derived.Test.YtmlbinmlblbfgaaGreatDoorG18
import Derived.Test.YtmlbinmlblbfgaaGreatDoorG21
import Derived.Test.YtmlbinmlblbfgaaGreatDoorG39
import Derived.Deep.DeepWitnessRowRef
import Derived.Test.YtmlbinmlblbfgaaGreatDoorCheck
set_option linter.all false
namespace Go.Proofs.YtmlbinmlblbfgaaGreatDoor
open Go.Am Go.RowKit Go.ChangeShapes Go.WideShapes
open Go.ChangeMaps (open_string shut_string)
attribute [local instance] Go.Am.Chk.drF
set_option maxRecDepth 100000 in
theorem proofParses_contract (H : Type) (enc : TypeId × Value → H) (W : World) (base : Nat) (args : Array Value) (ds gs : List (DataW H)) (before : List MemPlace)
  (hval : ∀ (j : Nat) t v,Tryz.f4.params[j]? = some t → args[j]? = some v → Value.okWide Tryz.prog W .any base t v)
  (hW : DataW.Whole enc Tryz.prog Tryz.f4.params.toList Rows.proofParsesSpec.vars false W args.toList ds gs before)
  (hsz : (DataW.weightsEach Tryz.prog (Tryz.f4.params.toList ++ Rows.proofParsesSpec.plain.varTypes Tryz.prog) (ds ++ gs)).all (· ≤ reachBytes) = true)
  (hL : laidMetH Tryz.prog Rows.proofParsesRow.laid W) (hSh : W.ShapedOpen Tryz.prog) :
  Calls Tryz.prog 4 args W fun e W' => ∃ v,e = .returned v ∧ Rows.proofParsesSpec.post enc Tryz.prog Tryz.f4 false true false false W args v W' := by
 have hW' := hW;have hlt : ∀ p ∈ before,p.block < W.heap.size := fun p hp => hW.lt p hp;obtain ⟨p,q,hA0,hV,rfl,hfz,hnd⟩ := hW;have hA : DataW.TrodAll enc Tryz.prog W 0 (fun _ => true) true Tryz.f4.params.toList args.toList ds p := hA0;obtain ⟨rfl,rfl⟩ := trodVars_none hV;rw [Tryz.params4] at hA hval hsz;obtain ⟨v0,d0,rfl,rfl,h0⟩ := trodAll_one hA;simp only [List.append_nil] at hW' hlt hsz;have hG := NK (show laidMet Tryz.prog U0 W from hL) hSh;obtain ⟨s0,rfl,rfl,rfl,_⟩ := open_string Tryz.underlying9 (hval 0 9 v0 rfl rfl) h0;have b0 := sized_string hsz (j := 0) (t := 9) rfl rfl;unfold reachBytes at *;have hc := NL s0.data.toList MJ;refine (NM Chk.fits (show Chk.num 721 = some 4 from rfl) hG rfl rfl (fun i c hi => ?_) hc).mono fun e W' ⟨he,hb⟩ => ?_
 ·match i,hi with
  | 0,hi => injection hi with hi; subst hi; exact ⟨_,rfl,by simp only [Qa]; simp⟩
 ·subst he;refine ⟨_,rfl,Go.Am.post_of_below (pa := []) (pv := []) hW' (fun _ _ _ => trodAll_mk1 (shut_bool Tryz.underlying4 _)) (fun sp hsp => ?_) (fun _ _ => rfl) (by simp) hb (ok_one (by kernel_rfl) rfl (okWide_bool_mk Tryz.underlying4 _))⟩;exact Tt kids full hb (by rw [Tryz.params4]; decide) hA0 hlt hsp
abbrev proofParsesArgs : Array Value := #[.string ⟨#[]⟩]
theorem proofParses_reads (os : Os) {H : Type} (enc : TypeId × Value → H) : ∃ places,DataW.whole enc Tryz.prog ((World.laidAll Tryz.prog os U0).forCall (fun _ _ => 0) ⟨#[],proofParsesArgs,[]⟩).memory Tryz.f4.params.toList Rows.proofParsesSpec.vars false proofParsesArgs.toList 8 =
  some ([.lit (.string [])],[],places) := ⟨[],by kernel_rfl⟩
set_option maxRecDepth 100000 in
theorem proofParses_lifted (os : Os) (started : os.Started) (H : Type) (enc : TypeId × Value → H) (F : Stop.Interp) :
  ReturnsInHanded {} Tryz.checked os 4 .any ((OpenSpec.ofChange Rows.proofParsesSpec).preRow enc Tryz.prog Tryz.f4 Rows.proofParsesRow.domain false Rows.proofParsesRow.laid) (((OpenSpec.ofChange Rows.proofParsesSpec).at F).post enc Tryz.prog Tryz.f4 false true false false) := by
 obtain ⟨places,hx⟩ := proofParses_reads os enc;refine returnsInHanded_of_row (C := Tryz.checked) (s := OpenSpec.ofChange Rows.proofParsesSpec) own started (by kernel_rfl) Tryz.func4
  (witness_row_atRef (enc := enc) (C := Tryz.checked) false (World.laidAll Tryz.prog os U0) proofParsesArgs (World.laidAll_os _ _ _) (by kernel_rfl) (by kernel_rfl) (by kernel_rfl)
   (OpenSpec.preRow_of_cond 8 hx (by kernel_rfl) (fun k hk => by cases hk) (by kernel_rfl) (Ig os _))) ?_
 intro W base args ds gs before hval hW _ _ hsz hL hSh _;exact proofParses_contract H enc W base args ds gs before hval hW hsz hL hSh
theorem proofParses_named : Tryz.pinned.checked.prog.funcNamed Rows.proofParsesRow.func = some 4 := by kernel_rfl
theorem proofParses_j0 : (Rows.proofParsesRow.wf (OpenSpec.ofChange (OpenSpec.ofChange Rows.proofParsesSpec).bare)) = true := by kernel_rfl
theorem proofParses_j1 : (laidOutB Tryz.pinned.checked.prog) = true := by kernel_rfl
theorem proofParses_j2 : (mapsRowed Tryz.pinned.checked.prog) = true := by kernel_rfl
theorem proofParses_j3 : (Tryz.f4.params.all (Tryz.pinned.checked.prog.readableRec ·)) = true := by kernel_rfl
theorem proofParses_j4 : (namedTie Tryz.pinned.checked.prog Rows.proofParsesRow.named (OpenSpec.ofChange Rows.proofParsesSpec).bare.vars) = true := by kernel_rfl
theorem proofParses_j5 : (Rows.proofParsesRow.stops == []) = true := by kernel_rfl
theorem proofParses_j6 : (Tryz.pinned.checked.prog.stops == []) = true := by kernel_rfl
theorem proofParses_j7 : (Rows.proofParsesRow.knobs == []) = true := by kernel_rfl
theorem proofParses_j8 : (Tryz.pinned.checked.prog.stopKnobs == []) = true := by kernel_rfl
theorem proofParses_j9 : (Rows.proofParsesRow.inPlace == Tryz.pinned.checked.prog.inPlace 4) = true := by kernel_rfl
theorem proofParses_j10 : (Rows.proofParsesRow.unfollowed == Tryz.pinned.checked.prog.unfollowed 4) = true := by kernel_rfl
theorem proofParses_j11 : (Rows.proofParsesRow.recurses == Tryz.pinned.checked.prog.recurses 4) = true := by kernel_rfl
theorem proofParses_j12 : (Rows.proofParsesRow.named == Tryz.pinned.checked.prog.varsNamed 4) = true := by kernel_rfl
theorem proofParses_closed : joinedFacts Tryz.pinned.checked.prog 4 Tryz.f4 (OpenSpec.ofChange Rows.proofParsesSpec).bare Rows.proofParsesRow = true := M9 proofParses_j0 proofParses_j1 proofParses_j2 proofParses_j3 proofParses_j4 proofParses_j5 proofParses_j6 proofParses_j7 proofParses_j8 proofParses_j9 proofParses_j10 proofParses_j11 proofParses_j12 (by kernel_rfl) (by kernel_rfl) (by kernel_rfl) (by kernel_rfl) (by kernel_rfl) (by kernel_rfl) (by kernel_rfl) (by kernel_rfl) (by kernel_rfl) (by kernel_rfl) (by kernel_rfl) (by kernel_rfl) (by kernel_rfl) (by kernel_rfl) (by kernel_rfl) (by kernel_rfl) (by kernel_rfl) (by kernel_rfl) (by kernel_rfl)
theorem proofParses_inst : Tryz.f4.isInstance Tryz.pinned.checked.prog Rows.proofParsesRow.origin Rows.proofParsesRow.targs := of_decide_eq_true (by kernel_rfl)
theorem proofParses_wrap : Tryz.f4.isWrapper Tryz.pinned.checked.prog Rows.proofParsesRow.wrapper Rows.proofParsesRow.mainSum := by unfold Func.isWrapper; first | (rw [if_pos (by decide +kernel)]; kernel_rfl) | (rw [if_neg (by decide +kernel)]; exact ⟨rfl,rfl⟩)
theorem proofParses_said : Rows.ProofParsesSaid :=
 OpenClaim.holds_of_cond 4 Tryz.f4 rfl rfl rfl rfl rfl rfl rfl ⟨rfl,rfl,rfl,rfl,rfl⟩ rfl rfl rfl rfl rfl proofParses_named Tryz.func4 proofParses_closed proofParses_inst proofParses_wrap
  (fun os started H enc _ F => by rw [OpenClaim.pre_eq_preRow]; exact proofParses_lifted os started H enc F)
theorem proofParses_plain (f : FuncId) (fn : Func) (hf : Tryz.pinned.checked.prog.funcNamed "sealring/sealringlaw11.ProofParses" = some f) (hfn : Tryz.pinned.checked.prog.funcs[f]? = some fn) :
  true = Tryz.pinned.checked.prog.looks [] ∧ ∀ (j : Nat) t,fn.params[j]? = some t → Tryz.pinned.checked.prog.wantsStandIn t = false := by
 obtain rfl : f = 4 := Option.some.inj ((show Tryz.prog.funcNamed "sealring/sealringlaw11.ProofParses" = some 4 by kernel_rfl).symm.trans hf) |>.symm;obtain rfl : fn = Tryz.f4 := (Option.some.inj (Tryz.func4.symm.trans hfn)).symm;refine ⟨by kernel_rfl,fun j t ht => ?_⟩;rw [Tryz.params4] at ht;have hm : t ∈ [9] := by simpa using Array.mem_of_getElem? ht
 have hall : ([9].all fun u => !Tryz.prog.wantsStandIn u) = true := by kernel_rfl
 exact (show Tryz.prog.wantsStandIn t = false by simpa using List.all_eq_true.1 hall t hm)
theorem proofParses_cw : Rows.proofParsesRow.wfByText (OpenSpec.ofChange Rows.proofParsesSpec) = true := by kernel_rfl
theorem proofParses_cg : false = Rows.proofParsesRow.goesBy Tryz.pinned.checked.prog := M5 (by kernel_rfl) rfl
theorem proofParses_card : Rows.ProofParsesCardSaid :=
 Claim7.holds_tied_plain_at .later [] _ _ _ _ proofParses_said (fun _ h => by cases h) proofParses_cw (fun _ h => by cases h) proofParses_row_tie rfl ⟨rfl,rfl⟩ (by kernel_rfl) rfl proofParses_plain proofParses_cg
#print axioms proofParses_card
end Go.Proofs.YtmlbinmlblbfgaaGreatDoor
