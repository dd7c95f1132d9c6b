/-
  ProofJoins is true of every list of terms and two lists of steps: the row, and its tied card.
  Conditions: none beyond the given row's own cells.
-/
import Derived.Test.YtmlbijpbecpjoaaGreatDoorG11
import Derived.Test.YtmlbijpbecpjoaaGreatDoorG24
import Derived.Test.YtmlbijpbecpjoaaGreatDoorG25
import Derived.Test.YtmlbijpbecpjoaaGreatDoorG43
import Derived.Deep.DeepWitnessRowRef
import Derived.Test.YtmlbijpbecpjoaaGreatDoorCheck
set_option linter.all false
namespace Go.Proofs.YtmlbijpbecpjoaaGreatDoor
open Go.Am Go.RowKit Go.ChangeShapes Go.WideShapes
open Go.ChangeMaps (open_string shut_string)
attribute [local instance] Go.Am.Chk.drF
set_option maxRecDepth 100000 in
theorem proofJoins_contract (H : Type) (enc : TypeId × Value → H) (W : World) (base : Nat) (args : Array Value) (ds gs : List (DataW H)) (before : List MemPlace)
  (hval : ∀ (j : Nat) t v,Tryz.f3.params[j]? = some t → args[j]? = some v → Value.okWide Tryz.prog W .any base t v)
  (hW : DataW.Whole enc Tryz.prog Tryz.f3.params.toList Rows.proofJoinsSpec.vars false W args.toList ds gs before)
  (hsz : (DataW.weightsEach Tryz.prog (Tryz.f3.params.toList ++ Rows.proofJoinsSpec.plain.varTypes Tryz.prog) (ds ++ gs)).all (· ≤ reachBytes) = true)
  (hL : laidMetH Tryz.prog Rows.proofJoinsRow.laid W) (hSh : W.ShapedOpen Tryz.prog) :
  Calls Tryz.prog 3 args W fun e W' => ∃ v,e = .returned v ∧ Rows.proofJoinsSpec.post enc Tryz.prog Tryz.f3 false true false false W args v W' := by
 have hW' := hW;have hlt : ∀ p ∈ before,p.block < W.heap.size := fun p hp => hW.lt p hp;obtain ⟨p,q,hA0,hV,rfl,hfz,hnd⟩ := hW;have hA : DataW.TrodAll enc Tryz.prog W 0 (fun _ => true) true Tryz.f3.params.toList args.toList ds p := hA0;obtain ⟨rfl,rfl⟩ := trodVars_none hV;rw [Tryz.params3] at hA hval hsz;obtain ⟨v0,v1,d0,d1,p0,p1,rfl,rfl,hpp,h0,h1⟩ := trodAll_two hA;simp only [List.append_nil] at hW' hlt hsz;have hG := A9 (show laidMet Tryz.prog Nx W from hL) hSh;have hwt0 : ∀ n ∈ d0.weights Tryz.prog 22,n ≤ reachBytes := fun n hn => by
  have := List.all_eq_true.1 hsz n (DataW.weights_mem_each (j := 0) (t := 22) (d := d0) rfl rfl n hn);simpa using this
 obtain ⟨n0,xs0,k0,r0⟩ := QcG (num := Chk.num) BP (t := 22) (by decide) Tryz.underlying22 (hval 0 22 v0 rfl rfl) h0 hwt0;obtain ⟨a0,ha0,b0⟩ := Qd5 k0;rw [show AV.sl false _ xs0 = _ from List.head_eq_of_cons_eq ha0] at r0;have hwt1 : ∀ n ∈ d1.weights Tryz.prog 25,n ≤ reachBytes := fun n hn => by
  have := List.all_eq_true.1 hsz n (DataW.weights_mem_each (j := 1) (t := 25) (d := d1) rfl rfl n hn);simpa using this
 obtain ⟨n1,avs1,k1,r1⟩ := An (num := Chk.num) BP (t := 25) (by decide) Tryz.underlying25 (hval 1 25 v1 rfl rfl) h1 hwt1;obtain ⟨a1,b1,rfl,c1,e1,f1,g1⟩ := Qju k1;unfold reachBytes at *;have hc := Il a0 a1 b1 QaS (by omega) (by omega) (fun d hd => ⟨by have := (f1 d hd).1; omega,by have := (f1 d hd).2; omega⟩) (fun d hd => ⟨by have := (g1 d hd).1; omega,by have := (g1 d hd).2; omega⟩);refine (Qaa Chk.fits (show Chk.num 711 = some 3 from rfl) hG rfl rfl (fun i c hi => ?_) hc).mono fun e W' ⟨he,hb⟩ => ?_
 ·match i,hi with
  | 0,hi => injection hi with hi; subst hi; exact ⟨_,rfl,r0⟩
  | 1,hi => injection hi with hi; subst hi; exact ⟨_,rfl,r1⟩
 ·subst he;refine ⟨_,rfl,Go.Am.post_of_below (pa := p) (pv := []) hW' (fun _ _ _ => trodAll_mk1 (shut_bool Tryz.underlying4 _)) (fun sp hsp => ?_) (fun _ _ => rfl) (by simp) hb (ok_one (by kernel_rfl) rfl (okWide_bool_mk Tryz.underlying4 _))⟩;exact N3 kids full hb (by rw [Tryz.params3]; decide) hA0 hlt hsp
abbrev proofJoinsArgs : Array Value := #[.slice none 0 0,.agg #[.slice none 0 0,.slice none 0 0]]
theorem proofJoins_reads (os : Os) {H : Type} (enc : TypeId × Value → H) : ∃ places,DataW.whole enc Tryz.prog ((World.laidAll Tryz.prog os Nx).forCall (fun _ _ => 0) ⟨#[],proofJoinsArgs,[]⟩).memory Tryz.f3.params.toList Rows.proofJoinsSpec.vars false proofJoinsArgs.toList 8 =
  some ([.nil,.agg [.nil,.nil]],[],places) := ⟨[],by kernel_rfl⟩
set_option maxRecDepth 100000 in
theorem proofJoins_lifted (os : Os) (started : os.Started) (H : Type) (enc : TypeId × Value → H) (F : Stop.Interp) :
  ReturnsInHanded {} Tryz.checked os 3 .any ((OpenSpec.ofChange Rows.proofJoinsSpec).preRow enc Tryz.prog Tryz.f3 Rows.proofJoinsRow.domain false Rows.proofJoinsRow.laid) (((OpenSpec.ofChange Rows.proofJoinsSpec).at F).post enc Tryz.prog Tryz.f3 false true false false) := by
 obtain ⟨places,hx⟩ := proofJoins_reads os enc;refine returnsInHanded_of_row (C := Tryz.checked) (s := OpenSpec.ofChange Rows.proofJoinsSpec) own started (by kernel_rfl) Tryz.func3
  (witness_row_atRef (enc := enc) (C := Tryz.checked) false (World.laidAll Tryz.prog os Nx) proofJoinsArgs (World.laidAll_os _ _ _) (by kernel_rfl) (by kernel_rfl) (by kernel_rfl)
   (OpenSpec.preRow_of_cond 8 hx (by kernel_rfl) (fun k hk => by cases hk) (by kernel_rfl) (Qe1 os _))) ?_
 intro W base args ds gs before hval hW _ _ hsz hL hSh _;exact proofJoins_contract H enc W base args ds gs before hval hW hsz hL hSh
theorem proofJoins_named : Tryz.pinned.checked.prog.funcNamed Rows.proofJoinsRow.func = some 3 := by kernel_rfl
theorem proofJoins_j0 : (Rows.proofJoinsRow.wf (OpenSpec.ofChange (OpenSpec.ofChange Rows.proofJoinsSpec).bare)) = true := by kernel_rfl
theorem proofJoins_j1 : (laidOutB Tryz.pinned.checked.prog) = true := by kernel_rfl
theorem proofJoins_j2 : (mapsRowed Tryz.pinned.checked.prog) = true := by kernel_rfl
theorem proofJoins_j3 : (Tryz.f3.params.all (Tryz.pinned.checked.prog.readableRec ·)) = true := by kernel_rfl
theorem proofJoins_j4 : (namedTie Tryz.pinned.checked.prog Rows.proofJoinsRow.named (OpenSpec.ofChange Rows.proofJoinsSpec).bare.vars) = true := by kernel_rfl
theorem proofJoins_j5 : (Rows.proofJoinsRow.stops == []) = true := by kernel_rfl
theorem proofJoins_j6 : (Tryz.pinned.checked.prog.stops == []) = true := by kernel_rfl
theorem proofJoins_j7 : (Rows.proofJoinsRow.knobs == []) = true := by kernel_rfl
theorem proofJoins_j8 : (Tryz.pinned.checked.prog.stopKnobs == []) = true := by kernel_rfl
theorem proofJoins_j9 : (Rows.proofJoinsRow.inPlace == Tryz.pinned.checked.prog.inPlace 3) = true := by kernel_rfl
theorem proofJoins_j10 : (Rows.proofJoinsRow.unfollowed == Tryz.pinned.checked.prog.unfollowed 3) = true := by kernel_rfl
theorem proofJoins_j11 : (Rows.proofJoinsRow.recurses == Tryz.pinned.checked.prog.recurses 3) = true := by kernel_rfl
theorem proofJoins_j12 : (Rows.proofJoinsRow.named == Tryz.pinned.checked.prog.varsNamed 3) = true := by kernel_rfl
theorem proofJoins_closed : joinedFacts Tryz.pinned.checked.prog 3 Tryz.f3 (OpenSpec.ofChange Rows.proofJoinsSpec).bare Rows.proofJoinsRow = true := Qdh proofJoins_j0 proofJoins_j1 proofJoins_j2 proofJoins_j3 proofJoins_j4 proofJoins_j5 proofJoins_j6 proofJoins_j7 proofJoins_j8 proofJoins_j9 proofJoins_j10 proofJoins_j11 proofJoins_j12 (by kernel_rfl) (by kernel_rfl) (by kernel_rfl) (by kernel_rfl) (by kernel_rfl) (by kernel_rfl) (by kernel_rfl) (by kernel_rfl) (by kernel_rfl) (by kernel_rfl) (by kernel_rfl) (by kernel_rfl) (by kernel_rfl) (by kernel_rfl) (by kernel_rfl) (by kernel_rfl) (by kernel_rfl) (by kernel_rfl) (by kernel_rfl)
theorem proofJoins_inst : Tryz.f3.isInstance Tryz.pinned.checked.prog Rows.proofJoinsRow.origin Rows.proofJoinsRow.targs := of_decide_eq_true (by kernel_rfl)
theorem proofJoins_wrap : Tryz.f3.isWrapper Tryz.pinned.checked.prog Rows.proofJoinsRow.wrapper Rows.proofJoinsRow.mainSum := by unfold Func.isWrapper; first | (rw [if_pos (by decide +kernel)]; kernel_rfl) | (rw [if_neg (by decide +kernel)]; exact ⟨rfl,rfl⟩)
theorem proofJoins_said : Rows.ProofJoinsSaid :=
 OpenClaim.holds_of_cond 3 Tryz.f3 rfl rfl rfl rfl rfl rfl rfl ⟨rfl,rfl,rfl,rfl,rfl⟩ rfl rfl rfl rfl rfl proofJoins_named Tryz.func3 proofJoins_closed proofJoins_inst proofJoins_wrap
  (fun os started H enc _ F => by rw [OpenClaim.pre_eq_preRow]; exact proofJoins_lifted os started H enc F)
theorem proofJoins_plain (f : FuncId) (fn : Func) (hf : Tryz.pinned.checked.prog.funcNamed "sealring/sealringlaw11.ProofJoins" = some f) (hfn : Tryz.pinned.checked.prog.funcs[f]? = some fn) :
  true = Tryz.pinned.checked.prog.looks [] ∧ ∀ (j : Nat) t,fn.params[j]? = some t → Tryz.pinned.checked.prog.wantsStandIn t = false := by
 obtain rfl : f = 3 := Option.some.inj ((show Tryz.prog.funcNamed "sealring/sealringlaw11.ProofJoins" = some 3 by kernel_rfl).symm.trans hf) |>.symm;obtain rfl : fn = Tryz.f3 := (Option.some.inj (Tryz.func3.symm.trans hfn)).symm;refine ⟨by kernel_rfl,fun j t ht => ?_⟩;rw [Tryz.params3] at ht;have hm : t ∈ [22,25] := by simpa using Array.mem_of_getElem? ht
 have hall : ([22,25].all fun u => !Tryz.prog.wantsStandIn u) = true := by kernel_rfl
 exact (show Tryz.prog.wantsStandIn t = false by simpa using List.all_eq_true.1 hall t hm)
theorem proofJoins_cw : Rows.proofJoinsRow.wfByText (OpenSpec.ofChange Rows.proofJoinsSpec) = true := by kernel_rfl
theorem proofJoins_cg : false = Rows.proofJoinsRow.goesBy Tryz.pinned.checked.prog := Qc7 (by kernel_rfl) rfl
theorem proofJoins_card : Rows.ProofJoinsCardSaid :=
 Claim7.holds_tied_plain_at .later [] _ _ _ _ proofJoins_said (fun _ h => by cases h) proofJoins_cw (fun _ h => by cases h) proofJoins_row_tie rfl ⟨rfl,rfl⟩ (by kernel_rfl) rfl proofJoins_plain proofJoins_cg
#print axioms proofJoins_card
end Go.Proofs.YtmlbijpbecpjoaaGreatDoor
