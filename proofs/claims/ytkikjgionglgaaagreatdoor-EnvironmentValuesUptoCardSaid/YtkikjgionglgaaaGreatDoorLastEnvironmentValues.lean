/-
  EnvironmentValues is true of every environment of bulk at most 1048576, and every sort: the row, and its tied card.
  Conditions: none beyond the given row's own cells.
-/
import Derived.Test.YtkikjgionglgaaaGreatDoorG10
import Derived.Test.YtkikjgionglgaaaGreatDoorG22
import Derived.Test.YtkikjgionglgaaaGreatDoorG21
import Derived.Test.YtkikjgionglgaaaGreatDoorG38
import Derived.Test.YtkikjgionglgaaaGreatDoorG39
import Derived.Test.YtkikjgionglgaaaGreatDoorCheck
set_option linter.unusedVariables false
set_option linter.unusedSimpArgs false
namespace Go.Proofs.YtkikjgionglgaaaGreatDoor
open Go.Am Go.RowKit Go.ChangeShapes Go.WideShapes
open Go.ChangeMaps (open_string shut_string)
attribute [local instance] Go.Am.Chk.drF
set_option maxRecDepth 100000 in
theorem environmentValues_contract (H : Type) (enc : TypeId × Value → H) (W : World) (base : Nat) (args : Array Value) (ds gs : List (DataW H)) (before : List MemPlace)
  (hval : ∀ (j : Nat) t v,Tryz.f4.params[j]? = some t → args[j]? = some v → Value.okWide Tryz.prog W .any base t v)
  (hW : DataW.Whole enc Tryz.prog Tryz.f4.params.toList Rows.environmentValuesSpec.vars false W args.toList ds gs before)
  (hsz : Rows.uptoSmall H (ds ++ gs) = true)
  (hL : laidMetH Tryz.prog Rows.environmentValuesUptoRow.laid W) :
  Calls Tryz.prog 4 args W fun e W' => ∃ v,e = .returned v ∧ Rows.environmentValuesSpec.post enc Tryz.prog Tryz.f4 false true false false W args v W' := by
 have hW' := hW;have hlt : ∀ p ∈ before,p.block < W.heap.size := fun p hp => hW.lt p hp;obtain ⟨p,q,hA0,hV,rfl,hfz,hnd⟩ := hW;have hA : DataW.TrodAll enc Tryz.prog W 0 (fun _ => true) true Tryz.f4.params.toList args.toList ds p := hA0;obtain ⟨rfl,rfl⟩ := trodVars_none hV;rw [Tryz.params4] at hA hval;obtain ⟨v0,v1,d0,d1,p0,p1,rfl,rfl,hpp,h0,h1⟩ := trodAll_two hA;simp only [List.append_nil] at hW' hlt hsz;have hwt0 := VB hsz (i := 0) (d := d0) rfl (t := 29) (by decide);obtain ⟨n0,avs0,k0,r0⟩ := Ur (num := Chk.num) Wy (t := 29) (by decide) Tryz.underlying29 (hval 0 29 v0 rfl rfl) h0 hwt0;obtain ⟨a0,b0,g0,rfl,c0,e0⟩ := GA k0;obtain ⟨a1,rfl,rfl,rfl,_⟩ := open_int Tryz.underlying3 (hval 1 3 v1 rfl rfl) h1;unfold upB at *;have hc := Rl a0 b0 g0 a1 R9 (by omega) (by omega);refine (RL Chk.fits (show Chk.num 584 = some 4 from rfl) rfl rfl (fun i c hi => ?_) hc).mono fun e W' ⟨he,hb⟩ => ?_
 ·match i,hi with
  | 0,hi => injection hi with hi; subst hi; exact ⟨_,rfl,r0⟩
  | 1,hi => injection hi with hi; subst hi; exact ⟨.int .i64 a1,rfl,by simp only [Qd]⟩
 ·subst he;refine ⟨_,rfl,Go.Am.post_of_below (pa := p) (pv := []) hW' (fun _ _ _ => trodAll_mk1 (shut_bool Tryz.underlying4 _)) (fun sp hsp => ?_) (fun _ _ => rfl) (by simp) hb (ok_one (by kernel_rfl) rfl (okWide_bool_mk Tryz.underlying4 _))⟩;exact W6 kids full hb (by rw [Tryz.params4]; decide) hA0 hlt hsp
abbrev environmentValuesArgs : Array Value := #[.agg #[.slice none 0 0,.slice none 0 0,.slice none 0 0],.int .i64 0]
theorem environmentValues_reads (os : Os) {H : Type} (enc : TypeId × Value → H) : ∃ places,DataW.whole enc Tryz.prog ((World.laidAll Tryz.prog os Tq).forCall (fun _ _ => 0) ⟨#[],environmentValuesArgs,[]⟩).memory Tryz.f4.params.toList Rows.environmentValuesSpec.vars false environmentValuesArgs.toList 8 =
  some ([.agg [.agg [.nil,.nil],.nil],.lit (.int .i64 0)],[],places) := ⟨[],by kernel_rfl⟩
set_option maxRecDepth 100000 in
theorem environmentValues_lifted (os : Os) (started : os.Started) (H : Type) (enc : TypeId × Value → H) (F : Stop.Interp) :
  ReturnsInHanded {} Tryz.checked os 4 .any ((Rows.OpenSpec.upto Rows.environmentValuesSpec).preRow enc Tryz.prog Tryz.f4 Rows.environmentValuesUptoRow.domain false Rows.environmentValuesUptoRow.laid) (((Rows.OpenSpec.upto Rows.environmentValuesSpec).at F).post enc Tryz.prog Tryz.f4 false true false false) := by
 obtain ⟨places,hx⟩ := environmentValues_reads os enc;refine returnsInHanded_of_row (C := Tryz.checked) (s := Rows.OpenSpec.upto Rows.environmentValuesSpec) own started (by kernel_rfl) Tryz.func4
  (witness_row_at (enc := enc) (C := Tryz.checked) false (World.laidAll Tryz.prog os Tq) environmentValuesArgs (World.laidAll_os _ _ _) (by kernel_rfl) (by kernel_rfl) (by kernel_rfl)
   (OpenSpec.preRow_of_cond 8 hx (by kernel_rfl) (fun k hk => by injection hk with hk; subst hk; rfl) (by kernel_rfl) (OX os _))) ?_
 intro W base args ds gs before hval hW _ hsz _ hL _ _;exact environmentValues_contract H enc W base args ds gs before hval hW (hsz _ rfl) hL
theorem environmentValues_named : Tryz.pinned.checked.prog.funcNamed Rows.environmentValuesUptoRow.func = some 4 := by kernel_rfl
theorem environmentValues_closed : joinedFacts Tryz.pinned.checked.prog 4 Tryz.f4 (Rows.OpenSpec.upto Rows.environmentValuesSpec).bare Rows.environmentValuesUptoRow = true := by kernel_rfl
theorem environmentValues_inst : Tryz.f4.isInstance Tryz.pinned.checked.prog Rows.environmentValuesUptoRow.origin Rows.environmentValuesUptoRow.targs := of_decide_eq_true (by kernel_rfl)
theorem environmentValues_wrap : Tryz.f4.isWrapper Tryz.pinned.checked.prog Rows.environmentValuesUptoRow.wrapper Rows.environmentValuesUptoRow.mainSum := by unfold Func.isWrapper; first | (rw [if_pos (by decide +kernel)]; kernel_rfl) | (rw [if_neg (by decide +kernel)]; exact ⟨rfl,rfl⟩)
theorem environmentValues_said : Rows.EnvironmentValuesUptoSaid :=
 OpenClaim.holds_of_cond 4 Tryz.f4 rfl rfl rfl rfl rfl rfl rfl ⟨rfl,rfl,rfl,rfl,rfl⟩ rfl rfl rfl rfl rfl environmentValues_named Tryz.func4 environmentValues_closed environmentValues_inst environmentValues_wrap
  (fun os started H enc _ F => by rw [OpenClaim.pre_eq_preRow]; exact environmentValues_lifted os started H enc F)
theorem environmentValues_plain (f : FuncId) (fn : Func) (hf : Tryz.pinned.checked.prog.funcNamed "sealring/sealringlaw32.EnvironmentValues" = some f) (hfn : Tryz.pinned.checked.prog.funcs[f]? = some fn) :
  false = Tryz.pinned.checked.prog.looks [] ∧ ∀ (j : Nat) t,fn.params[j]? = some t → Tryz.pinned.checked.prog.wantsStandIn t = false := by
 obtain rfl : f = 4 := Option.some.inj ((show Tryz.prog.funcNamed "sealring/sealringlaw32.EnvironmentValues" = some 4 by kernel_rfl).symm.trans hf) |>.symm;obtain rfl : fn = Tryz.f4 := (Option.some.inj (Tryz.func4.symm.trans hfn)).symm;refine ⟨by kernel_rfl,fun j t ht => ?_⟩;rw [Tryz.params4] at ht;have hm : t ∈ [29,3] := by simpa using Array.mem_of_getElem? ht
 have hall : ([29,3].all fun u => !Tryz.prog.wantsStandIn u) = true := by kernel_rfl
 exact (show Tryz.prog.wantsStandIn t = false by simpa using List.all_eq_true.1 hall t hm)
theorem environmentValues_card : Rows.EnvironmentValuesUptoCardSaid :=
 Claim7.holds_tied_plain_at .later [] _ _ _ _ environmentValues_said (fun _ h => by cases h) (by kernel_rfl) (fun _ h => by cases h) environmentValuesUpto_row_tie rfl ⟨rfl,rfl⟩ (by kernel_rfl) rfl environmentValues_plain (by kernel_rfl)
#print axioms environmentValues_card
end Go.Proofs.YtkikjgionglgaaaGreatDoor
