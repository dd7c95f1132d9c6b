/-
  ProofTrims is true of every list of terms and list of steps: the row, and its tied card.
  Conditions: none beyond the given row's own cells.
-/
import Derived.Test.YtjkjecpalfmohaaGreatDoorG11
import Derived.Test.YtjkjecpalfmohaaGreatDoorG24
import Derived.Test.YtjkjecpalfmohaaGreatDoorG26
import Derived.Test.YtjkjecpalfmohaaGreatDoorG43
import Derived.Deep.DeepWitnessRowRef
import Derived.Test.YtjkjecpalfmohaaGreatDoorCheck
set_option linter.all false
namespace Go.Proofs.YtjkjecpalfmohaaGreatDoor
open Go.Am Go.RowKit Go.ChangeShapes Go.WideShapes
open Go.ChangeMaps (open_string shut_string)
attribute [local instance] Go.Am.Chk.drF
set_option maxRecDepth 100000 in
theorem proofTrims_contract (H : Type) (enc : TypeId × Value → H) (W : World) (base : Nat) (args : Array Value) (ds gs : List (DataW H)) (before : List MemPlace)
  (hval : ∀ (j : Nat) t v,Tryz.f3.params[j]? = some t → args[j]? = some v → Value.okWide Tryz.prog W .any base t v)
  (hW : DataW.Whole enc Tryz.prog Tryz.f3.params.toList Rows.proofTrimsSpec.vars false W args.toList ds gs before)
  (hsz : (DataW.weightsEach Tryz.prog (Tryz.f3.params.toList ++ Rows.proofTrimsSpec.plain.varTypes Tryz.prog) (ds ++ gs)).all (· ≤ reachBytes) = true)
  (hL : laidMetH Tryz.prog Rows.proofTrimsRow.laid W) (hSh : W.ShapedOpen Tryz.prog) :
  Calls Tryz.prog 3 args W fun e W' => ∃ v,e = .returned v ∧ Rows.proofTrimsSpec.post enc Tryz.prog Tryz.f3 false true false false W args v W' := by
 have hW' := hW;have hlt : ∀ p ∈ before,p.block < W.heap.size := fun p hp => hW.lt p hp;obtain ⟨p,q,hA0,hV,rfl,hfz,hnd⟩ := hW;have hA : DataW.TrodAll enc Tryz.prog W 0 (fun _ => true) true Tryz.f3.params.toList args.toList ds p := hA0;obtain ⟨rfl,rfl⟩ := trodVars_none hV;rw [Tryz.params3] at hA hval hsz;obtain ⟨v0,v1,d0,d1,p0,p1,rfl,rfl,hpp,h0,h1⟩ := trodAll_two hA;simp only [List.append_nil] at hW' hlt hsz;have hG := Qbl (show laidMet Tryz.prog Me W from hL) hSh;have hwt0 : ∀ n ∈ d0.weights Tryz.prog 22,n ≤ reachBytes := fun n hn => by
  have := List.all_eq_true.1 hsz n (DataW.weights_mem_each (j := 0) (t := 22) (d := d0) rfl rfl n hn);simpa using this
 obtain ⟨n0,xs0,k0,r0⟩ := Hz (num := Chk.num) Qaf (t := 22) (by decide) Tryz.underlying22 (hval 0 22 v0 rfl rfl) h0 hwt0;obtain ⟨a0,ha0,b0⟩ := Qfs k0;rw [show AV.sl false _ xs0 = _ from List.head_eq_of_cons_eq ha0] at r0;have hwt1 : ∀ n ∈ d1.weights Tryz.prog 23,n ≤ reachBytes := fun n hn => by
  have := List.all_eq_true.1 hsz n (DataW.weights_mem_each (j := 1) (t := 23) (d := d1) rfl rfl n hn);simpa using this
 obtain ⟨n1,xs1,k1,r1⟩ := Hz (num := Chk.num) Qaf (t := 23) (by decide) Tryz.underlying23 (hval 1 23 v1 rfl rfl) h1 hwt1;obtain ⟨a1,ha1,b1,c1⟩ := QhH k1;rw [show AV.sl false _ xs1 = _ from List.head_eq_of_cons_eq ha1] at r1;unfold reachBytes at *;have hc := Hk a0 a1 Qb8 (by omega) (fun d hd => ⟨by have := (c1 d hd).1; omega,by have := (c1 d hd).2; omega⟩);refine (Qbm Chk.fits (show Chk.num 708 = some 3 from rfl) hG rfl rfl (fun i c hi => ?_) hc).mono fun e W' ⟨he,hb⟩ => ?_
 ·match i,hi with
  | 0,hi => injection hi with hi; subst hi; exact ⟨_,rfl,r0⟩
  | 1,hi => injection hi with hi; subst hi; exact ⟨_,rfl,r1⟩
 ·subst he;refine ⟨_,rfl,Go.Am.post_of_below (pa := p) (pv := []) hW' (fun _ _ _ => trodAll_mk1 (shut_bool Tryz.underlying4 _)) (fun sp hsp => ?_) (fun _ _ => rfl) (by simp) hb (ok_one (by kernel_rfl) rfl (okWide_bool_mk Tryz.underlying4 _))⟩;exact ML kids full hb (by rw [Tryz.params3]; decide) hA0 hlt hsp
abbrev proofTrimsArgs : Array Value := #[.slice none 0 0,.slice none 0 0]
theorem proofTrims_reads (os : Os) {H : Type} (enc : TypeId × Value → H) : ∃ places,DataW.whole enc Tryz.prog ((World.laidAll Tryz.prog os Me).forCall (fun _ _ => 0) ⟨#[],proofTrimsArgs,[]⟩).memory Tryz.f3.params.toList Rows.proofTrimsSpec.vars false proofTrimsArgs.toList 8 =
  some ([.nil,.nil],[],places) := ⟨[],by kernel_rfl⟩
set_option maxRecDepth 100000 in
theorem proofTrims_lifted (os : Os) (started : os.Started) (H : Type) (enc : TypeId × Value → H) (F : Stop.Interp) :
  ReturnsInHanded {} Tryz.checked os 3 .any ((OpenSpec.ofChange Rows.proofTrimsSpec).preRow enc Tryz.prog Tryz.f3 Rows.proofTrimsRow.domain false Rows.proofTrimsRow.laid) (((OpenSpec.ofChange Rows.proofTrimsSpec).at F).post enc Tryz.prog Tryz.f3 false true false false) := by
 obtain ⟨places,hx⟩ := proofTrims_reads os enc;refine returnsInHanded_of_row (C := Tryz.checked) (s := OpenSpec.ofChange Rows.proofTrimsSpec) own started (by kernel_rfl) Tryz.func3
  (witness_row_atRef (enc := enc) (C := Tryz.checked) false (World.laidAll Tryz.prog os Me) proofTrimsArgs (World.laidAll_os _ _ _) (by kernel_rfl) (by kernel_rfl) (by kernel_rfl)
   (OpenSpec.preRow_of_cond 8 hx (by kernel_rfl) (fun k hk => by cases hk) (by kernel_rfl) (Qgu os _))) ?_
 intro W base args ds gs before hval hW _ _ hsz hL hSh _;exact proofTrims_contract H enc W base args ds gs before hval hW hsz hL hSh
theorem proofTrims_named : Tryz.pinned.checked.prog.funcNamed Rows.proofTrimsRow.func = some 3 := by kernel_rfl
theorem proofTrims_j0 : (Rows.proofTrimsRow.wf (OpenSpec.ofChange (OpenSpec.ofChange Rows.proofTrimsSpec).bare)) = true := by kernel_rfl
theorem proofTrims_j1 : (laidOutB Tryz.pinned.checked.prog) = true := by kernel_rfl
theorem proofTrims_j2 : (mapsRowed Tryz.pinned.checked.prog) = true := by kernel_rfl
theorem proofTrims_j3 : (Tryz.f3.params.all (Tryz.pinned.checked.prog.readableRec ·)) = true := by kernel_rfl
theorem proofTrims_j4 : (namedTie Tryz.pinned.checked.prog Rows.proofTrimsRow.named (OpenSpec.ofChange Rows.proofTrimsSpec).bare.vars) = true := by kernel_rfl
theorem proofTrims_j5 : (Rows.proofTrimsRow.stops == []) = true := by kernel_rfl
theorem proofTrims_j6 : (Tryz.pinned.checked.prog.stops == []) = true := by kernel_rfl
theorem proofTrims_j7 : (Rows.proofTrimsRow.knobs == []) = true := by kernel_rfl
theorem proofTrims_j8 : (Tryz.pinned.checked.prog.stopKnobs == []) = true := by kernel_rfl
theorem proofTrims_j9 : (Rows.proofTrimsRow.inPlace == Tryz.pinned.checked.prog.inPlace 3) = true := by kernel_rfl
theorem proofTrims_j10 : (Rows.proofTrimsRow.unfollowed == Tryz.pinned.checked.prog.unfollowed 3) = true := by kernel_rfl
theorem proofTrims_j11 : (Rows.proofTrimsRow.recurses == Tryz.pinned.checked.prog.recurses 3) = true := by kernel_rfl
theorem proofTrims_j12 : (Rows.proofTrimsRow.named == Tryz.pinned.checked.prog.varsNamed 3) = true := by kernel_rfl
theorem proofTrims_closed : joinedFacts Tryz.pinned.checked.prog 3 Tryz.f3 (OpenSpec.ofChange Rows.proofTrimsSpec).bare Rows.proofTrimsRow = true := QeD proofTrims_j0 proofTrims_j1 proofTrims_j2 proofTrims_j3 proofTrims_j4 proofTrims_j5 proofTrims_j6 proofTrims_j7 proofTrims_j8 proofTrims_j9 proofTrims_j10 proofTrims_j11 proofTrims_j12 (by kernel_rfl) (by kernel_rfl) (by kernel_rfl) (by kernel_rfl) (by kernel_rfl) (by kernel_rfl) (by kernel_rfl) (by kernel_rfl) (by kernel_rfl) (by kernel_rfl) (by kernel_rfl) (by kernel_rfl) (by kernel_rfl) (by kernel_rfl) (by kernel_rfl) (by kernel_rfl) (by kernel_rfl) (by kernel_rfl) (by kernel_rfl)
theorem proofTrims_inst : Tryz.f3.isInstance Tryz.pinned.checked.prog Rows.proofTrimsRow.origin Rows.proofTrimsRow.targs := of_decide_eq_true (by kernel_rfl)
theorem proofTrims_wrap : Tryz.f3.isWrapper Tryz.pinned.checked.prog Rows.proofTrimsRow.wrapper Rows.proofTrimsRow.mainSum := by unfold Func.isWrapper; first | (rw [if_pos (by decide +kernel)]; kernel_rfl) | (rw [if_neg (by decide +kernel)]; exact ⟨rfl,rfl⟩)
theorem proofTrims_said : Rows.ProofTrimsSaid :=
 OpenClaim.holds_of_cond 3 Tryz.f3 rfl rfl rfl rfl rfl rfl rfl ⟨rfl,rfl,rfl,rfl,rfl⟩ rfl rfl rfl rfl rfl proofTrims_named Tryz.func3 proofTrims_closed proofTrims_inst proofTrims_wrap
  (fun os started H enc _ F => by rw [OpenClaim.pre_eq_preRow]; exact proofTrims_lifted os started H enc F)
theorem proofTrims_plain (f : FuncId) (fn : Func) (hf : Tryz.pinned.checked.prog.funcNamed "sealring/sealringlaw11.ProofTrims" = some f) (hfn : Tryz.pinned.checked.prog.funcs[f]? = some fn) :
  true = Tryz.pinned.checked.prog.looks [] ∧ ∀ (j : Nat) t,fn.params[j]? = some t → Tryz.pinned.checked.prog.wantsStandIn t = false := by
 obtain rfl : f = 3 := Option.some.inj ((show Tryz.prog.funcNamed "sealring/sealringlaw11.ProofTrims" = some 3 by kernel_rfl).symm.trans hf) |>.symm;obtain rfl : fn = Tryz.f3 := (Option.some.inj (Tryz.func3.symm.trans hfn)).symm;refine ⟨by kernel_rfl,fun j t ht => ?_⟩;rw [Tryz.params3] at ht;have hm : t ∈ [22,23] := by simpa using Array.mem_of_getElem? ht
 have hall : ([22,23].all fun u => !Tryz.prog.wantsStandIn u) = true := by kernel_rfl
 exact (show Tryz.prog.wantsStandIn t = false by simpa using List.all_eq_true.1 hall t hm)
theorem proofTrims_cw : Rows.proofTrimsRow.wfByText (OpenSpec.ofChange Rows.proofTrimsSpec) = true := by kernel_rfl
theorem proofTrims_cg : false = Rows.proofTrimsRow.goesBy Tryz.pinned.checked.prog := Qes (by kernel_rfl) rfl
theorem proofTrims_card : Rows.ProofTrimsCardSaid :=
 Claim7.holds_tied_plain_at .later [] _ _ _ _ proofTrims_said (fun _ h => by cases h) proofTrims_cw (fun _ h => by cases h) proofTrims_row_tie rfl ⟨rfl,rfl⟩ (by kernel_rfl) rfl proofTrims_plain proofTrims_cg
#print axioms proofTrims_card
end Go.Proofs.YtjkjecpalfmohaaGreatDoor
