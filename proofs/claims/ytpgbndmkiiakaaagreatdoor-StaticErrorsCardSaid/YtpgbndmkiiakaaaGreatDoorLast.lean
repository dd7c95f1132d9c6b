/-
  StaticErrors is true of any two frames and any term: the row, and its tied card.
  Conditions: none beyond the given row's own cells.
-/
import Derived.Test.YtpgbndmkiiakaaaGreatDoorG10
import Derived.Test.YtpgbndmkiiakaaaGreatDoorG22
import Derived.Test.YtpgbndmkiiakaaaGreatDoorG26
import Derived.Test.YtpgbndmkiiakaaaGreatDoorG45
import Derived.Test.YtpgbndmkiiakaaaGreatDoorCheck
set_option linter.unusedVariables false
set_option linter.unusedSimpArgs false
namespace Go.Proofs.YtpgbndmkiiakaaaGreatDoor
open Go.Am Go.RowKit Go.ChangeShapes Go.WideShapes
open Go.ChangeMaps (open_string shut_string)
attribute [local instance] Go.Am.Chk.drF
set_option maxRecDepth 100000 in
theorem staticErrors_contract (H : Type) (enc : TypeId × Value → H) (W : World) (base : Nat) (args : Array Value) (ds gs : List (DataW H)) (before : List MemPlace)
  (hval : ∀ (j : Nat) t v,Tryz.f4.params[j]? = some t → args[j]? = some v → Value.okWide Tryz.prog W .any base t v)
  (hW : DataW.Whole enc Tryz.prog Tryz.f4.params.toList Rows.staticErrorsSpec.vars false W args.toList ds gs before)
  (hsz : (DataW.weightsEach Tryz.prog (Tryz.f4.params.toList ++ Rows.staticErrorsSpec.plain.varTypes Tryz.prog) (ds ++ gs)).all (· ≤ reachBytes) = true)
  (hL : laidMetH Tryz.prog Rows.staticErrorsRow.laid W) :
  Calls Tryz.prog 4 args W fun e W' => ∃ v,e = .returned v ∧ Rows.staticErrorsSpec.post enc Tryz.prog Tryz.f4 false true false false W args v W' := by
 have hW' := hW;have hlt : ∀ p ∈ before,p.block < W.heap.size := fun p hp => hW.lt p hp;obtain ⟨p,q,hA0,hV,rfl,hfz,hnd⟩ := hW;have hA : DataW.TrodAll enc Tryz.prog W 0 (fun _ => true) true Tryz.f4.params.toList args.toList ds p := hA0;obtain ⟨rfl,rfl⟩ := trodVars_none hV;rw [Tryz.params4] at hA hval hsz;obtain ⟨v0,v1,v2,d0,d1,d2,p0,p1,p2,rfl,rfl,hpp,h0,h1,h2⟩ := trodAll_three hA;simp only [List.append_nil] at hW' hlt hsz;have hG := QdU (show laidMet Tryz.prog LD W from hL);have hwt0 : ∀ n ∈ d0.weights Tryz.prog 24,n ≤ reachBytes := fun n hn => by
  have := List.all_eq_true.1 hsz n (DataW.weights_mem_each (j := 0) (t := 24) (d := d0) rfl rfl n hn);simpa using this
 obtain ⟨n0,avs0,k0,r0⟩ := Nf (num := Chk.num) IU (t := 24) (by decide) Tryz.underlying24 (hval 0 24 v0 rfl rfl) h0 hwt0;obtain ⟨a0,rfl⟩ := HF k0;have hwt1 : ∀ n ∈ d1.weights Tryz.prog 24,n ≤ reachBytes := fun n hn => by
  have := List.all_eq_true.1 hsz n (DataW.weights_mem_each (j := 1) (t := 24) (d := d1) rfl rfl n hn);simpa using this
 obtain ⟨n1,avs1,k1,r1⟩ := Nf (num := Chk.num) IU (t := 24) (by decide) Tryz.underlying24 (hval 1 24 v1 rfl rfl) h1 hwt1;obtain ⟨a1,rfl⟩ := HF k1;have hwt2 : ∀ n ∈ d2.weights Tryz.prog 26,n ≤ reachBytes := fun n hn => by
  have := List.all_eq_true.1 hsz n (DataW.weights_mem_each (j := 2) (t := 26) (d := d2) rfl rfl n hn);simpa using this
 obtain ⟨n2,avs2,k2,r2⟩ := Nf (num := Chk.num) IU (t := 26) (by decide) Tryz.underlying26 (hval 2 26 v2 rfl rfl) h2 hwt2;obtain ⟨a2,rfl⟩ := Dt n2 _ k2;have hc := Kp a0 a1 a2 Qbh;refine (QdX Chk.fits (show Chk.num 445 = some 4 from rfl) hG rfl rfl (fun i c hi => ?_) hc).mono fun e W' ⟨he,hb⟩ => ?_
 ·match i,hi with
  | 0,hi => injection hi with hi; subst hi; exact ⟨_,rfl,r0⟩
  | 1,hi => injection hi with hi; subst hi; exact ⟨_,rfl,r1⟩
  | 2,hi => injection hi with hi; subst hi; exact ⟨_,rfl,r2⟩
 ·subst he;refine ⟨_,rfl,Go.Am.post_of_below (pa := p) (pv := []) hW' (fun _ _ _ => trodAll_mk1 (shut_bool Tryz.underlying4 _)) (fun sp hsp => ?_) (fun _ _ => rfl) (by simp) hb (ok_one (by kernel_rfl) rfl (okWide_bool_mk Tryz.underlying4 _))⟩;exact N1 kids full hb (by rw [Tryz.params4]; decide) hA0 hlt hsp
abbrev staticErrorsArgs : Array Value := #[.agg #[.slice none 0 0,.slice none 0 0],.agg #[.slice none 0 0,.slice none 0 0],.agg #[.int .i64 0,.string ⟨#[]⟩,.int .i64 0,.slice none 0 0]]
theorem staticErrors_reads (os : Os) {H : Type} (enc : TypeId × Value → H) : ∃ places,DataW.whole enc Tryz.prog ((World.laidAll Tryz.prog os LD).forCall (fun _ _ => 0) ⟨#[],staticErrorsArgs,[]⟩).memory Tryz.f4.params.toList Rows.staticErrorsSpec.vars false staticErrorsArgs.toList 8 =
  some ([.agg [.nil,.nil],.agg [.nil,.nil],.agg [.lit (.int .i64 0),.lit (.string []),.lit (.int .i64 0),.nil]],[],places) := ⟨[],by kernel_rfl⟩
set_option maxRecDepth 100000 in
theorem staticErrors_lifted (os : Os) (started : os.Started) (H : Type) (enc : TypeId × Value → H) (F : Stop.Interp) :
  ReturnsInHanded {} Tryz.checked os 4 .any ((OpenSpec.ofChange Rows.staticErrorsSpec).preRow enc Tryz.prog Tryz.f4 Rows.staticErrorsRow.domain false Rows.staticErrorsRow.laid) (((OpenSpec.ofChange Rows.staticErrorsSpec).at F).post enc Tryz.prog Tryz.f4 false true false false) := by
 obtain ⟨places,hx⟩ := staticErrors_reads os enc;refine returnsInHanded_of_row (C := Tryz.checked) (s := OpenSpec.ofChange Rows.staticErrorsSpec) own started (by kernel_rfl) Tryz.func4
  (witness_row_at (enc := enc) (C := Tryz.checked) false (World.laidAll Tryz.prog os LD) staticErrorsArgs (World.laidAll_os _ _ _) (by kernel_rfl) (by kernel_rfl) (by kernel_rfl)
   (OpenSpec.preRow_of_cond 8 hx (by kernel_rfl) (fun k hk => by cases hk) (by kernel_rfl) (QfA os _))) ?_
 intro W base args ds gs before hval hW _ _ hsz hL _ _;exact staticErrors_contract H enc W base args ds gs before hval hW hsz hL
theorem staticErrors_named : Tryz.pinned.checked.prog.funcNamed Rows.staticErrorsRow.func = some 4 := by kernel_rfl
theorem staticErrors_closed : joinedFacts Tryz.pinned.checked.prog 4 Tryz.f4 (OpenSpec.ofChange Rows.staticErrorsSpec).bare Rows.staticErrorsRow = true := by kernel_rfl
theorem staticErrors_inst : Tryz.f4.isInstance Tryz.pinned.checked.prog Rows.staticErrorsRow.origin Rows.staticErrorsRow.targs := of_decide_eq_true (by kernel_rfl)
theorem staticErrors_wrap : Tryz.f4.isWrapper Tryz.pinned.checked.prog Rows.staticErrorsRow.wrapper Rows.staticErrorsRow.mainSum := by unfold Func.isWrapper; first | (rw [if_pos (by decide +kernel)]; kernel_rfl) | (rw [if_neg (by decide +kernel)]; exact ⟨rfl,rfl⟩)
theorem staticErrors_said : Rows.StaticErrorsSaid :=
 OpenClaim.holds_of_cond 4 Tryz.f4 rfl rfl rfl rfl rfl rfl rfl ⟨rfl,rfl,rfl,rfl,rfl⟩ rfl rfl rfl rfl rfl staticErrors_named Tryz.func4 staticErrors_closed staticErrors_inst staticErrors_wrap
  (fun os started H enc _ F => by rw [OpenClaim.pre_eq_preRow]; exact staticErrors_lifted os started H enc F)
theorem staticErrors_plain (f : FuncId) (fn : Func) (hf : Tryz.pinned.checked.prog.funcNamed "sealring/sealringlaw14.StaticErrors" = some f) (hfn : Tryz.pinned.checked.prog.funcs[f]? = some fn) :
  false = Tryz.pinned.checked.prog.looks [] ∧ ∀ (j : Nat) t,fn.params[j]? = some t → Tryz.pinned.checked.prog.wantsStandIn t = false := by
 obtain rfl : f = 4 := Option.some.inj ((show Tryz.prog.funcNamed "sealring/sealringlaw14.StaticErrors" = some 4 by kernel_rfl).symm.trans hf) |>.symm;obtain rfl : fn = Tryz.f4 := (Option.some.inj (Tryz.func4.symm.trans hfn)).symm;refine ⟨by kernel_rfl,fun j t ht => ?_⟩;rw [Tryz.params4] at ht;have hm : t ∈ [24,24,26] := by simpa using Array.mem_of_getElem? ht
 have hall : ([24,24,26].all fun u => !Tryz.prog.wantsStandIn u) = true := by kernel_rfl
 exact (show Tryz.prog.wantsStandIn t = false by simpa using List.all_eq_true.1 hall t hm)
theorem staticErrors_card : Rows.StaticErrorsCardSaid :=
 Claim7.holds_tied_plain_at .later [] _ _ _ _ staticErrors_said (fun _ h => by cases h) (by kernel_rfl) (fun _ h => by cases h) staticErrors_row_tie rfl ⟨rfl,rfl⟩ (by kernel_rfl) rfl staticErrors_plain (by kernel_rfl)
#print axioms staticErrors_card
end Go.Proofs.YtpgbndmkiiakaaaGreatDoor
