/-
  EnvironmentHears is true of every environment, term and list of terms of together bulk at most 1048576: the row, and its tied card.
  Conditions: none beyond the given row's own cells.
-/
import Derived.Test.YtkikjgionglgaaaGreatDoorG10
import Derived.Test.YtkikjgionglgaaaGreatDoorG22
import Derived.Test.YtkikjgionglgaaaGreatDoorG21
import Derived.Test.YtkikjgionglgaaaGreatDoorG38
import Derived.Test.YtkikjgionglgaaaGreatDoorG39
import Derived.Test.YtkikjgionglgaaaGreatDoorCheck
set_option linter.unusedVariables false
set_option linter.unusedSimpArgs false
namespace Go.Proofs.YtkikjgionglgaaaGreatDoor
open Go.Am Go.RowKit Go.ChangeShapes Go.WideShapes
open Go.ChangeMaps (open_string shut_string)
attribute [local instance] Go.Am.Chk.drF
set_option maxRecDepth 100000 in
theorem environmentHears_contract (H : Type) (enc : TypeId × Value → H) (W : World) (base : Nat) (args : Array Value) (ds gs : List (DataW H)) (before : List MemPlace)
  (hval : ∀ (j : Nat) t v,Tryz.f5.params[j]? = some t → args[j]? = some v → Value.okWide Tryz.prog W .any base t v)
  (hW : DataW.Whole enc Tryz.prog Tryz.f5.params.toList Rows.environmentHearsSpec.vars false W args.toList ds gs before)
  (hsz : Rows.uptoSmall H (ds ++ gs) = true)
  (hL : laidMetH Tryz.prog Rows.environmentHearsUptoRow.laid W) :
  Calls Tryz.prog 5 args W fun e W' => ∃ v,e = .returned v ∧ Rows.environmentHearsSpec.post enc Tryz.prog Tryz.f5 false true false false W args v W' := by
 have hW' := hW;have hlt : ∀ p ∈ before,p.block < W.heap.size := fun p hp => hW.lt p hp;obtain ⟨p,q,hA0,hV,rfl,hfz,hnd⟩ := hW;have hA : DataW.TrodAll enc Tryz.prog W 0 (fun _ => true) true Tryz.f5.params.toList args.toList ds p := hA0;obtain ⟨rfl,rfl⟩ := trodVars_none hV;rw [Tryz.params5] at hA hval;obtain ⟨v0,v1,v2,d0,d1,d2,p0,p1,p2,rfl,rfl,hpp,h0,h1,h2⟩ := trodAll_three hA;simp only [List.append_nil] at hW' hlt hsz;have hwt0 := VB hsz (i := 0) (d := d0) rfl (t := 29) (by decide);obtain ⟨n0,avs0,k0,r0⟩ := Ur (num := Chk.num) Wy (t := 29) (by decide) Tryz.underlying29 (hval 0 29 v0 rfl rfl) h0 hwt0;obtain ⟨a0,b0,g0,rfl,c0,e0⟩ := GA k0;have hwt1 := VB hsz (i := 1) (d := d1) rfl (t := 40) (by decide);obtain ⟨n1,avs1,k1,r1⟩ := Ur (num := Chk.num) Wy (t := 40) (by decide) Tryz.underlying40 (hval 1 40 v1 rfl rfl) h1 hwt1;obtain ⟨a1,rfl⟩ := II n1 _ k1;have hwt2 := VB hsz (i := 2) (d := d2) rfl (t := 27) (by decide);obtain ⟨n2,xs2,k2,r2⟩ := D8 (num := Chk.num) Wy (t := 27) (by decide) Tryz.underlying27 (hval 2 27 v2 rfl rfl) h2 hwt2;obtain ⟨a2,ha2,b2⟩ := M9 k2;rw [show AV.sl false _ xs2 = _ from List.head_eq_of_cons_eq ha2] at r2;unfold upB at *;have hc := RK a0 b0 g0 a1 a2 R9 (by omega) (by omega);refine (RL Chk.fits (show Chk.num 589 = some 5 from rfl) rfl rfl (fun i c hi => ?_) hc).mono fun e W' ⟨he,hb⟩ => ?_
 ·match i,hi with
  | 0,hi => injection hi with hi; subst hi; exact ⟨_,rfl,r0⟩
  | 1,hi => injection hi with hi; subst hi; exact ⟨_,rfl,r1⟩
  | 2,hi => injection hi with hi; subst hi; exact ⟨_,rfl,r2⟩
 ·subst he;refine ⟨_,rfl,Go.Am.post_of_below (pa := p) (pv := []) hW' (fun _ _ _ => trodAll_mk1 (shut_bool Tryz.underlying4 _)) (fun sp hsp => ?_) (fun _ _ => rfl) (by simp) hb (ok_one (by kernel_rfl) rfl (okWide_bool_mk Tryz.underlying4 _))⟩;exact W6 kids full hb (by rw [Tryz.params5]; decide) hA0 hlt hsp
abbrev environmentHearsArgs : Array Value := #[.agg #[.slice none 0 0,.slice none 0 0,.slice none 0 0],.agg #[.int .i64 0,.string ⟨#[]⟩,.int .i64 0,.slice none 0 0],.slice none 0 0]
theorem environmentHears_reads (os : Os) {H : Type} (enc : TypeId × Value → H) : ∃ places,DataW.whole enc Tryz.prog ((World.laidAll Tryz.prog os Tq).forCall (fun _ _ => 0) ⟨#[],environmentHearsArgs,[]⟩).memory Tryz.f5.params.toList Rows.environmentHearsSpec.vars false environmentHearsArgs.toList 8 =
  some ([.agg [.agg [.nil,.nil],.nil],.agg [.lit (.int .i64 0),.lit (.string []),.lit (.int .i64 0),.nil],.nil],[],places) := ⟨[],by kernel_rfl⟩
set_option maxRecDepth 100000 in
theorem environmentHears_lifted (os : Os) (started : os.Started) (H : Type) (enc : TypeId × Value → H) (F : Stop.Interp) :
  ReturnsInHanded {} Tryz.checked os 5 .any ((Rows.OpenSpec.upto Rows.environmentHearsSpec).preRow enc Tryz.prog Tryz.f5 Rows.environmentHearsUptoRow.domain false Rows.environmentHearsUptoRow.laid) (((Rows.OpenSpec.upto Rows.environmentHearsSpec).at F).post enc Tryz.prog Tryz.f5 false true false false) := by
 obtain ⟨places,hx⟩ := environmentHears_reads os enc;refine returnsInHanded_of_row (C := Tryz.checked) (s := Rows.OpenSpec.upto Rows.environmentHearsSpec) own started (by kernel_rfl) Tryz.func5
  (witness_row_at (enc := enc) (C := Tryz.checked) false (World.laidAll Tryz.prog os Tq) environmentHearsArgs (World.laidAll_os _ _ _) (by kernel_rfl) (by kernel_rfl) (by kernel_rfl)
   (OpenSpec.preRow_of_cond 8 hx (by kernel_rfl) (fun k hk => by injection hk with hk; subst hk; rfl) (by kernel_rfl) (OX os _))) ?_
 intro W base args ds gs before hval hW _ hsz _ hL _ _;exact environmentHears_contract H enc W base args ds gs before hval hW (hsz _ rfl) hL
theorem environmentHears_named : Tryz.pinned.checked.prog.funcNamed Rows.environmentHearsUptoRow.func = some 5 := by kernel_rfl
theorem environmentHears_closed : joinedFacts Tryz.pinned.checked.prog 5 Tryz.f5 (Rows.OpenSpec.upto Rows.environmentHearsSpec).bare Rows.environmentHearsUptoRow = true := by kernel_rfl
theorem environmentHears_inst : Tryz.f5.isInstance Tryz.pinned.checked.prog Rows.environmentHearsUptoRow.origin Rows.environmentHearsUptoRow.targs := of_decide_eq_true (by kernel_rfl)
theorem environmentHears_wrap : Tryz.f5.isWrapper Tryz.pinned.checked.prog Rows.environmentHearsUptoRow.wrapper Rows.environmentHearsUptoRow.mainSum := by unfold Func.isWrapper; first | (rw [if_pos (by decide +kernel)]; kernel_rfl) | (rw [if_neg (by decide +kernel)]; exact ⟨rfl,rfl⟩)
theorem environmentHears_said : Rows.EnvironmentHearsUptoSaid :=
 OpenClaim.holds_of_cond 5 Tryz.f5 rfl rfl rfl rfl rfl rfl rfl ⟨rfl,rfl,rfl,rfl,rfl⟩ rfl rfl rfl rfl rfl environmentHears_named Tryz.func5 environmentHears_closed environmentHears_inst environmentHears_wrap
  (fun os started H enc _ F => by rw [OpenClaim.pre_eq_preRow]; exact environmentHears_lifted os started H enc F)
theorem environmentHears_plain (f : FuncId) (fn : Func) (hf : Tryz.pinned.checked.prog.funcNamed "sealring/sealringlaw32.EnvironmentHears" = some f) (hfn : Tryz.pinned.checked.prog.funcs[f]? = some fn) :
  false = Tryz.pinned.checked.prog.looks [] ∧ ∀ (j : Nat) t,fn.params[j]? = some t → Tryz.pinned.checked.prog.wantsStandIn t = false := by
 obtain rfl : f = 5 := Option.some.inj ((show Tryz.prog.funcNamed "sealring/sealringlaw32.EnvironmentHears" = some 5 by kernel_rfl).symm.trans hf) |>.symm;obtain rfl : fn = Tryz.f5 := (Option.some.inj (Tryz.func5.symm.trans hfn)).symm;refine ⟨by kernel_rfl,fun j t ht => ?_⟩;rw [Tryz.params5] at ht;have hm : t ∈ [29,40,27] := by simpa using Array.mem_of_getElem? ht
 have hall : ([29,40,27].all fun u => !Tryz.prog.wantsStandIn u) = true := by kernel_rfl
 exact (show Tryz.prog.wantsStandIn t = false by simpa using List.all_eq_true.1 hall t hm)
theorem environmentHears_card : Rows.EnvironmentHearsUptoCardSaid :=
 Claim7.holds_tied_plain_at .later [] _ _ _ _ environmentHears_said (fun _ h => by cases h) (by kernel_rfl) (fun _ h => by cases h) environmentHearsUpto_row_tie rfl ⟨rfl,rfl⟩ (by kernel_rfl) rfl environmentHears_plain (by kernel_rfl)
#print axioms environmentHears_card
end Go.Proofs.YtkikjgionglgaaaGreatDoor
