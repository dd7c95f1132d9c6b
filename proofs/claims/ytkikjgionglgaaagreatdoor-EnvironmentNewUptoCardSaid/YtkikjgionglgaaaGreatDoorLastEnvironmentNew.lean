/-
  EnvironmentNew is true of every cast of bulk at most 1048576: the row, and its tied card.
  Conditions: none beyond the given row's own cells.
-/
import Derived.Test.YtkikjgionglgaaaGreatDoorG10
import Derived.Test.YtkikjgionglgaaaGreatDoorG22
import Derived.Test.YtkikjgionglgaaaGreatDoorG20
import Derived.Test.YtkikjgionglgaaaGreatDoorG38
import Derived.Test.YtkikjgionglgaaaGreatDoorG39
import Derived.Test.YtkikjgionglgaaaGreatDoorCheck
set_option linter.unusedVariables false
set_option linter.unusedSimpArgs false
namespace Go.Proofs.YtkikjgionglgaaaGreatDoor
open Go.Am Go.RowKit Go.ChangeShapes Go.WideShapes
open Go.ChangeMaps (open_string shut_string)
attribute [local instance] Go.Am.Chk.drF
set_option maxRecDepth 100000 in
theorem environmentNew_contract (H : Type) (enc : TypeId × Value → H) (W : World) (base : Nat) (args : Array Value) (ds gs : List (DataW H)) (before : List MemPlace)
  (hval : ∀ (j : Nat) t v,Tryz.f3.params[j]? = some t → args[j]? = some v → Value.okWide Tryz.prog W .any base t v)
  (hW : DataW.Whole enc Tryz.prog Tryz.f3.params.toList Rows.environmentNewSpec.vars false W args.toList ds gs before)
  (hsz : Rows.uptoSmall H (ds ++ gs) = true)
  (hL : laidMetH Tryz.prog Rows.environmentNewUptoRow.laid W) :
  Calls Tryz.prog 3 args W fun e W' => ∃ v,e = .returned v ∧ Rows.environmentNewSpec.post enc Tryz.prog Tryz.f3 false true false false W args v W' := by
 have hW' := hW;have hlt : ∀ p ∈ before,p.block < W.heap.size := fun p hp => hW.lt p hp;obtain ⟨p,q,hA0,hV,rfl,hfz,hnd⟩ := hW;have hA : DataW.TrodAll enc Tryz.prog W 0 (fun _ => true) true Tryz.f3.params.toList args.toList ds p := hA0;obtain ⟨rfl,rfl⟩ := trodVars_none hV;rw [Tryz.params3] at hA hval;obtain ⟨v0,d0,rfl,rfl,h0⟩ := trodAll_one hA;simp only [List.append_nil] at hW' hlt hsz;have hwt0 := VB hsz (i := 0) (d := d0) rfl (t := 24) (by decide);obtain ⟨n0,avs0,k0,r0⟩ := Ur (num := Chk.num) Wy (t := 24) (by decide) Tryz.underlying24 (hval 0 24 v0 rfl rfl) h0 hwt0;obtain ⟨a0,b0,rfl,c0,e0⟩ := IG k0;unfold upB at *;have hc := PL a0 b0 R9 (by omega) (by omega);refine (RL Chk.fits (show Chk.num 476 = some 3 from rfl) rfl rfl (fun i c hi => ?_) hc).mono fun e W' ⟨he,hb⟩ => ?_
 ·match i,hi with
  | 0,hi => injection hi with hi; subst hi; exact ⟨_,rfl,r0⟩
 ·subst he;refine ⟨_,rfl,Go.Am.post_of_below (pa := p) (pv := []) hW' (fun _ _ _ => trodAll_mk1 (shut_bool Tryz.underlying4 _)) (fun sp hsp => ?_) (fun _ _ => rfl) (by simp) hb (ok_one (by kernel_rfl) rfl (okWide_bool_mk Tryz.underlying4 _))⟩;exact W6 kids full hb (by rw [Tryz.params3]; decide) hA0 hlt hsp
abbrev environmentNewArgs : Array Value := #[.agg #[.slice none 0 0,.slice none 0 0]]
theorem environmentNew_reads (os : Os) {H : Type} (enc : TypeId × Value → H) : ∃ places,DataW.whole enc Tryz.prog ((World.laidAll Tryz.prog os Tq).forCall (fun _ _ => 0) ⟨#[],environmentNewArgs,[]⟩).memory Tryz.f3.params.toList Rows.environmentNewSpec.vars false environmentNewArgs.toList 8 =
  some ([.agg [.nil,.nil]],[],places) := ⟨[],by kernel_rfl⟩
set_option maxRecDepth 100000 in
theorem environmentNew_lifted (os : Os) (started : os.Started) (H : Type) (enc : TypeId × Value → H) (F : Stop.Interp) :
  ReturnsInHanded {} Tryz.checked os 3 .any ((Rows.OpenSpec.upto Rows.environmentNewSpec).preRow enc Tryz.prog Tryz.f3 Rows.environmentNewUptoRow.domain false Rows.environmentNewUptoRow.laid) (((Rows.OpenSpec.upto Rows.environmentNewSpec).at F).post enc Tryz.prog Tryz.f3 false true false false) := by
 obtain ⟨places,hx⟩ := environmentNew_reads os enc;refine returnsInHanded_of_row (C := Tryz.checked) (s := Rows.OpenSpec.upto Rows.environmentNewSpec) own started (by kernel_rfl) Tryz.func3
  (witness_row_at (enc := enc) (C := Tryz.checked) false (World.laidAll Tryz.prog os Tq) environmentNewArgs (World.laidAll_os _ _ _) (by kernel_rfl) (by kernel_rfl) (by kernel_rfl)
   (OpenSpec.preRow_of_cond 8 hx (by kernel_rfl) (fun k hk => by injection hk with hk; subst hk; rfl) (by kernel_rfl) (OX os _))) ?_
 intro W base args ds gs before hval hW _ hsz _ hL _ _;exact environmentNew_contract H enc W base args ds gs before hval hW (hsz _ rfl) hL
theorem environmentNew_named : Tryz.pinned.checked.prog.funcNamed Rows.environmentNewUptoRow.func = some 3 := by kernel_rfl
theorem environmentNew_closed : joinedFacts Tryz.pinned.checked.prog 3 Tryz.f3 (Rows.OpenSpec.upto Rows.environmentNewSpec).bare Rows.environmentNewUptoRow = true := by kernel_rfl
theorem environmentNew_inst : Tryz.f3.isInstance Tryz.pinned.checked.prog Rows.environmentNewUptoRow.origin Rows.environmentNewUptoRow.targs := of_decide_eq_true (by kernel_rfl)
theorem environmentNew_wrap : Tryz.f3.isWrapper Tryz.pinned.checked.prog Rows.environmentNewUptoRow.wrapper Rows.environmentNewUptoRow.mainSum := by unfold Func.isWrapper; first | (rw [if_pos (by decide +kernel)]; kernel_rfl) | (rw [if_neg (by decide +kernel)]; exact ⟨rfl,rfl⟩)
theorem environmentNew_said : Rows.EnvironmentNewUptoSaid :=
 OpenClaim.holds_of_cond 3 Tryz.f3 rfl rfl rfl rfl rfl rfl rfl ⟨rfl,rfl,rfl,rfl,rfl⟩ rfl rfl rfl rfl rfl environmentNew_named Tryz.func3 environmentNew_closed environmentNew_inst environmentNew_wrap
  (fun os started H enc _ F => by rw [OpenClaim.pre_eq_preRow]; exact environmentNew_lifted os started H enc F)
theorem environmentNew_plain (f : FuncId) (fn : Func) (hf : Tryz.pinned.checked.prog.funcNamed "sealring/sealringlaw32.EnvironmentNew" = some f) (hfn : Tryz.pinned.checked.prog.funcs[f]? = some fn) :
  false = Tryz.pinned.checked.prog.looks [] ∧ ∀ (j : Nat) t,fn.params[j]? = some t → Tryz.pinned.checked.prog.wantsStandIn t = false := by
 obtain rfl : f = 3 := Option.some.inj ((show Tryz.prog.funcNamed "sealring/sealringlaw32.EnvironmentNew" = some 3 by kernel_rfl).symm.trans hf) |>.symm;obtain rfl : fn = Tryz.f3 := (Option.some.inj (Tryz.func3.symm.trans hfn)).symm;refine ⟨by kernel_rfl,fun j t ht => ?_⟩;rw [Tryz.params3] at ht;have hm : t ∈ [24] := by simpa using Array.mem_of_getElem? ht
 have hall : ([24].all fun u => !Tryz.prog.wantsStandIn u) = true := by kernel_rfl
 exact (show Tryz.prog.wantsStandIn t = false by simpa using List.all_eq_true.1 hall t hm)
theorem environmentNew_card : Rows.EnvironmentNewUptoCardSaid :=
 Claim7.holds_tied_plain_at .later [] _ _ _ _ environmentNew_said (fun _ h => by cases h) (by kernel_rfl) (fun _ h => by cases h) environmentNewUpto_row_tie rfl ⟨rfl,rfl⟩ (by kernel_rfl) rfl environmentNew_plain (by kernel_rfl)
#print axioms environmentNew_card
end Go.Proofs.YtkikjgionglgaaaGreatDoor
