/-
  StaticSaturate is true of every frame: the row, and its tied card.
  Conditions: none beyond the given row's own cells.
-/
import Derived.Test.YtpgbndmkiiakaaaGreatDoorG10
import Derived.Test.YtpgbndmkiiakaaaGreatDoorG23
import Derived.Test.YtpgbndmkiiakaaaGreatDoorG26
import Derived.Test.YtpgbndmkiiakaaaGreatDoorG44
import Derived.Test.YtpgbndmkiiakaaaGreatDoorCheck
set_option linter.unusedVariables false
set_option linter.unusedSimpArgs false
namespace Go.Proofs.YtpgbndmkiiakaaaGreatDoor
open Go.Am Go.RowKit Go.ChangeShapes Go.WideShapes
open Go.ChangeMaps (open_string shut_string)
attribute [local instance] Go.Am.Chk.drF
set_option maxRecDepth 100000 in
theorem staticSaturate_contract (H : Type) (enc : TypeId × Value → H) (W : World) (base : Nat) (args : Array Value) (ds gs : List (DataW H)) (before : List MemPlace)
  (hval : ∀ (j : Nat) t v,Tryz.f6.params[j]? = some t → args[j]? = some v → Value.okWide Tryz.prog W .any base t v)
  (hW : DataW.Whole enc Tryz.prog Tryz.f6.params.toList Rows.staticSaturateSpec.vars false W args.toList ds gs before)
  (hsz : (DataW.weightsEach Tryz.prog (Tryz.f6.params.toList ++ Rows.staticSaturateSpec.plain.varTypes Tryz.prog) (ds ++ gs)).all (· ≤ reachBytes) = true)
  (hL : laidMetH Tryz.prog Rows.staticSaturateRow.laid W) :
  Calls Tryz.prog 6 args W fun e W' => ∃ v,e = .returned v ∧ Rows.staticSaturateSpec.post enc Tryz.prog Tryz.f6 false true false false W args v W' := by
 have hW' := hW
 have hlt : ∀ p ∈ before,p.block < W.heap.size := fun p hp => hW.lt p hp
 obtain ⟨p,q,hA0,hV,rfl,hfz,hnd⟩ := hW
 have hA : DataW.TrodAll enc Tryz.prog W 0 (fun _ => true) true Tryz.f6.params.toList args.toList ds p := hA0
 obtain ⟨rfl,rfl⟩ := trodVars_none hV
 rw [Tryz.params6] at hA hval hsz
 obtain ⟨v0,d0,rfl,rfl,h0⟩ := trodAll_one hA
 simp only [List.append_nil] at hW' hlt hsz
 have hG := QbG (show laidMet Tryz.prog N5 W from hL)
 have hwt0 : ∀ n ∈ d0.weights Tryz.prog 24,n ≤ reachBytes := fun n hn => by
  have := List.all_eq_true.1 hsz n (DataW.weights_mem_each (j := 0) (t := 24) (d := d0) rfl rfl n hn)
  simpa using this
 obtain ⟨n0,avs0,k0,r0⟩ := Cu (num := Chk.num) Qh5 (t := 24) (by decide) Tryz.underlying24 (hval 0 24 v0 rfl rfl) h0 hwt0
 obtain ⟨a0,rfl⟩ := Qck k0
 have hc := Ns a0 BZ
 refine (QbJ Chk.fits (show Chk.num 470 = some 6 from rfl) hG rfl rfl (fun i c hi => ?_) hc).mono fun e W' ⟨he,hb⟩ => ?_
 ·match i,hi with
  | 0,hi => injection hi with hi; subst hi; exact ⟨_,rfl,r0⟩
 ·subst he
  refine ⟨_,rfl,Go.Am.post_of_below (pa := p) (pv := []) hW' (fun _ _ _ => trodAll_mk1 (shut_bool Tryz.underlying4 _)) (fun sp hsp => ?_) (fun _ _ => rfl) (by simp) hb (ok_one (by kernel_rfl) rfl (okWide_bool_mk Tryz.underlying4 _))⟩
  exact OP kids full hb (by rw [Tryz.params6]; decide) hA0 hlt hsp
abbrev staticSaturateArgs : Array Value := #[.agg #[.slice none 0 0,.slice none 0 0]]
theorem staticSaturate_reads (os : Os) {H : Type} (enc : TypeId × Value → H) : ∃ places,DataW.whole enc Tryz.prog ((World.laidAll Tryz.prog os N5).forCall (fun _ _ => 0) ⟨#[],staticSaturateArgs,[]⟩).memory Tryz.f6.params.toList Rows.staticSaturateSpec.vars false staticSaturateArgs.toList 8 =
  some ([.agg [.nil,.nil]],[],places) := ⟨[],by kernel_rfl⟩
set_option maxRecDepth 100000 in
theorem staticSaturate_lifted (os : Os) (started : os.Started) (H : Type) (enc : TypeId × Value → H) (F : Stop.Interp) :
  ReturnsInHanded {} Tryz.checked os 6 .any ((OpenSpec.ofChange Rows.staticSaturateSpec).preRow enc Tryz.prog Tryz.f6 Rows.staticSaturateRow.domain false Rows.staticSaturateRow.laid) (((OpenSpec.ofChange Rows.staticSaturateSpec).at F).post enc Tryz.prog Tryz.f6 false true false false) := by
 obtain ⟨places,hx⟩ := staticSaturate_reads os enc
 refine returnsInHanded_of_row (C := Tryz.checked) (s := OpenSpec.ofChange Rows.staticSaturateSpec) own started (by kernel_rfl) Tryz.func6
  (witness_row_at (enc := enc) (C := Tryz.checked) false (World.laidAll Tryz.prog os N5) staticSaturateArgs (World.laidAll_os _ _ _) (by kernel_rfl) (by kernel_rfl) (by kernel_rfl)
   (OpenSpec.preRow_of_cond 8 hx (by kernel_rfl) (fun k hk => by cases hk) (by kernel_rfl) (Qdc os _))) ?_
 intro W base args ds gs before hval hW _ _ hsz hL _ _
 exact staticSaturate_contract H enc W base args ds gs before hval hW hsz hL
theorem staticSaturate_named : Tryz.pinned.checked.prog.funcNamed Rows.staticSaturateRow.func = some 6 := by kernel_rfl
theorem staticSaturate_closed : joinedFacts Tryz.pinned.checked.prog 6 Tryz.f6 (OpenSpec.ofChange Rows.staticSaturateSpec).bare Rows.staticSaturateRow = true := by kernel_rfl
theorem staticSaturate_inst : Tryz.f6.isInstance Tryz.pinned.checked.prog Rows.staticSaturateRow.origin Rows.staticSaturateRow.targs := of_decide_eq_true (by kernel_rfl)
theorem staticSaturate_wrap : Tryz.f6.isWrapper Tryz.pinned.checked.prog Rows.staticSaturateRow.wrapper Rows.staticSaturateRow.mainSum := by unfold Func.isWrapper; first | (rw [if_pos (by decide +kernel)]; kernel_rfl) | (rw [if_neg (by decide +kernel)]; exact ⟨rfl,rfl⟩)
theorem staticSaturate_said : Rows.StaticSaturateSaid :=
 OpenClaim.holds_of_cond 6 Tryz.f6 rfl rfl rfl rfl rfl rfl rfl ⟨rfl,rfl,rfl,rfl,rfl⟩ rfl rfl rfl rfl rfl staticSaturate_named Tryz.func6 staticSaturate_closed staticSaturate_inst staticSaturate_wrap
  (fun os started H enc _ F => by rw [OpenClaim.pre_eq_preRow]; exact staticSaturate_lifted os started H enc F)
theorem staticSaturate_plain (f : FuncId) (fn : Func) (hf : Tryz.pinned.checked.prog.funcNamed "sealring/sealringlaw14.StaticSaturate" = some f) (hfn : Tryz.pinned.checked.prog.funcs[f]? = some fn) :
  false = Tryz.pinned.checked.prog.looks [] ∧ ∀ (j : Nat) t,fn.params[j]? = some t → Tryz.pinned.checked.prog.wantsStandIn t = false := by
 obtain rfl : f = 6 := Option.some.inj ((show Tryz.prog.funcNamed "sealring/sealringlaw14.StaticSaturate" = some 6 by kernel_rfl).symm.trans hf) |>.symm
 obtain rfl : fn = Tryz.f6 := (Option.some.inj (Tryz.func6.symm.trans hfn)).symm
 refine ⟨by kernel_rfl,fun j t ht => ?_⟩
 rw [Tryz.params6] at ht
 have hm : t ∈ [24] := by simpa using Array.mem_of_getElem? ht
 have hall : ([24].all fun u => !Tryz.prog.wantsStandIn u) = true := by kernel_rfl
 exact (show Tryz.prog.wantsStandIn t = false by simpa using List.all_eq_true.1 hall t hm)
theorem staticSaturate_card : Rows.StaticSaturateCardSaid :=
 Claim7.holds_tied_plain_at .later [] _ _ _ _ staticSaturate_said (fun _ h => by cases h) (by kernel_rfl) (fun _ h => by cases h) staticSaturate_row_tie rfl ⟨rfl,rfl⟩ (by kernel_rfl) rfl staticSaturate_plain (by kernel_rfl)
#print axioms staticSaturate_card
end Go.Proofs.YtpgbndmkiiakaaaGreatDoor
