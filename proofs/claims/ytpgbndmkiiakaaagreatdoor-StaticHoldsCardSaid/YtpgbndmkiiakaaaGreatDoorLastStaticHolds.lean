/-
  StaticHolds is true of every frame and test: the row, and its tied card.
  Conditions: none beyond the given row's own cells.
-/
import Derived.Test.YtpgbndmkiiakaaaGreatDoorG10
import Derived.Test.YtpgbndmkiiakaaaGreatDoorG23
import Derived.Test.YtpgbndmkiiakaaaGreatDoorG22
import Derived.Test.YtpgbndmkiiakaaaGreatDoorG42
import Derived.Test.YtpgbndmkiiakaaaGreatDoorCheck
set_option linter.unusedVariables false
set_option linter.unusedSimpArgs false
namespace Go.Proofs.YtpgbndmkiiakaaaGreatDoor
open Go.Am Go.RowKit Go.ChangeShapes Go.WideShapes
open Go.ChangeMaps (open_string shut_string)
attribute [local instance] Go.Am.Chk.drF
set_option maxRecDepth 100000 in
theorem staticHolds_contract (H : Type) (enc : TypeId × Value → H) (W : World) (base : Nat) (args : Array Value) (ds gs : List (DataW H)) (before : List MemPlace)
  (hval : ∀ (j : Nat) t v,Tryz.f3.params[j]? = some t → args[j]? = some v → Value.okWide Tryz.prog W .any base t v)
  (hW : DataW.Whole enc Tryz.prog Tryz.f3.params.toList Rows.staticHoldsSpec.vars false W args.toList ds gs before)
  (hsz : (DataW.weightsEach Tryz.prog (Tryz.f3.params.toList ++ Rows.staticHoldsSpec.plain.varTypes Tryz.prog) (ds ++ gs)).all (· ≤ reachBytes) = true)
  (hL : laidMetH Tryz.prog Rows.staticHoldsRow.laid W) :
  Calls Tryz.prog 3 args W fun e W' => ∃ v,e = .returned v ∧ Rows.staticHoldsSpec.post enc Tryz.prog Tryz.f3 false true false false W args v W' := by
 have hW' := hW
 have hlt : ∀ p ∈ before,p.block < W.heap.size := fun p hp => hW.lt p hp
 obtain ⟨p,q,hA0,hV,rfl,hfz,hnd⟩ := hW
 have hA : DataW.TrodAll enc Tryz.prog W 0 (fun _ => true) true Tryz.f3.params.toList args.toList ds p := hA0
 obtain ⟨rfl,rfl⟩ := trodVars_none hV
 rw [Tryz.params3] at hA hval hsz
 obtain ⟨v0,v1,d0,d1,p0,p1,rfl,rfl,hpp,h0,h1⟩ := trodAll_two hA
 simp only [List.append_nil] at hW' hlt hsz
 have hG := KA (show laidMet Tryz.prog Uy W from hL)
 have hwt0 : ∀ n ∈ d0.weights Tryz.prog 24,n ≤ reachBytes := fun n hn => by
  have := List.all_eq_true.1 hsz n (DataW.weights_mem_each (j := 0) (t := 24) (d := d0) rfl rfl n hn)
  simpa using this
 obtain ⟨n0,avs0,k0,r0⟩ := Us (num := Chk.num) O4 (t := 24) (by decide) Tryz.underlying24 (hval 0 24 v0 rfl rfl) h0 hwt0
 obtain ⟨a0,rfl⟩ := QaJ k0
 have hwt1 : ∀ n ∈ d1.weights Tryz.prog 28,n ≤ reachBytes := fun n hn => by
  have := List.all_eq_true.1 hsz n (DataW.weights_mem_each (j := 1) (t := 28) (d := d1) rfl rfl n hn)
  simpa using this
 obtain ⟨n1,avs1,k1,r1⟩ := Us (num := Chk.num) O4 (t := 28) (by decide) Tryz.underlying28 (hval 1 28 v1 rfl rfl) h1 hwt1
 obtain ⟨a1,rfl⟩ := Gl k1
 have hc := MA a0 a1 L6
 refine (KC Chk.fits (show Chk.num 397 = some 3 from rfl) hG rfl rfl (fun i c hi => ?_) hc).mono fun e W' ⟨he,hb⟩ => ?_
 ·match i,hi with
  | 0,hi => injection hi with hi; subst hi; exact ⟨_,rfl,r0⟩
  | 1,hi => injection hi with hi; subst hi; exact ⟨_,rfl,r1⟩
 ·subst he
  refine ⟨_,rfl,Go.Am.post_of_below (pa := p) (pv := []) hW' (fun _ _ _ => trodAll_mk1 (shut_bool Tryz.underlying4 _)) (fun sp hsp => ?_) (fun _ _ => rfl) (by simp) hb (ok_one (by kernel_rfl) rfl (okWide_bool_mk Tryz.underlying4 _))⟩
  exact Un kids full hb (by rw [Tryz.params3]; decide) hA0 hlt hsp
abbrev staticHoldsArgs : Array Value := #[.agg #[.slice none 0 0,.slice none 0 0],.agg #[.int .i64 0,.string ⟨#[]⟩,.int .i64 0,.slice none 0 0,.int .i64 0,.string ⟨#[]⟩,.int .i64 0,.slice none 0 0,.bool false]]
theorem staticHolds_reads (os : Os) {H : Type} (enc : TypeId × Value → H) : ∃ places,DataW.whole enc Tryz.prog ((World.laidAll Tryz.prog os Uy).forCall (fun _ _ => 0) ⟨#[],staticHoldsArgs,[]⟩).memory Tryz.f3.params.toList Rows.staticHoldsSpec.vars false staticHoldsArgs.toList 8 =
  some ([.agg [.nil,.nil],.agg [.agg [.lit (.int .i64 0),.lit (.string []),.lit (.int .i64 0),.nil],.agg [.lit (.int .i64 0),.lit (.string []),.lit (.int .i64 0),.nil],.lit (.bool false)]],[],places) := ⟨[],by kernel_rfl⟩
set_option maxRecDepth 100000 in
theorem staticHolds_lifted (os : Os) (started : os.Started) (H : Type) (enc : TypeId × Value → H) (F : Stop.Interp) :
  ReturnsInHanded {} Tryz.checked os 3 .any ((OpenSpec.ofChange Rows.staticHoldsSpec).preRow enc Tryz.prog Tryz.f3 Rows.staticHoldsRow.domain false Rows.staticHoldsRow.laid) (((OpenSpec.ofChange Rows.staticHoldsSpec).at F).post enc Tryz.prog Tryz.f3 false true false false) := by
 obtain ⟨places,hx⟩ := staticHolds_reads os enc
 refine returnsInHanded_of_row (C := Tryz.checked) (s := OpenSpec.ofChange Rows.staticHoldsSpec) own started (by kernel_rfl) Tryz.func3
  (witness_row_at (enc := enc) (C := Tryz.checked) false (World.laidAll Tryz.prog os Uy) staticHoldsArgs (World.laidAll_os _ _ _) (by kernel_rfl) (by kernel_rfl) (by kernel_rfl)
   (OpenSpec.preRow_of_cond 8 hx (by kernel_rfl) (fun k hk => by cases hk) (by kernel_rfl) (Hv os _))) ?_
 intro W base args ds gs before hval hW _ _ hsz hL _ _
 exact staticHolds_contract H enc W base args ds gs before hval hW hsz hL
theorem staticHolds_named : Tryz.pinned.checked.prog.funcNamed Rows.staticHoldsRow.func = some 3 := by kernel_rfl
theorem staticHolds_closed : joinedFacts Tryz.pinned.checked.prog 3 Tryz.f3 (OpenSpec.ofChange Rows.staticHoldsSpec).bare Rows.staticHoldsRow = true := by kernel_rfl
theorem staticHolds_inst : Tryz.f3.isInstance Tryz.pinned.checked.prog Rows.staticHoldsRow.origin Rows.staticHoldsRow.targs := of_decide_eq_true (by kernel_rfl)
theorem staticHolds_wrap : Tryz.f3.isWrapper Tryz.pinned.checked.prog Rows.staticHoldsRow.wrapper Rows.staticHoldsRow.mainSum := by unfold Func.isWrapper; first | (rw [if_pos (by decide +kernel)]; kernel_rfl) | (rw [if_neg (by decide +kernel)]; exact ⟨rfl,rfl⟩)
theorem staticHolds_said : Rows.StaticHoldsSaid :=
 OpenClaim.holds_of_cond 3 Tryz.f3 rfl rfl rfl rfl rfl rfl rfl ⟨rfl,rfl,rfl,rfl,rfl⟩ rfl rfl rfl rfl rfl staticHolds_named Tryz.func3 staticHolds_closed staticHolds_inst staticHolds_wrap
  (fun os started H enc _ F => by rw [OpenClaim.pre_eq_preRow]; exact staticHolds_lifted os started H enc F)
theorem staticHolds_plain (f : FuncId) (fn : Func) (hf : Tryz.pinned.checked.prog.funcNamed "sealring/sealringlaw14.StaticHolds" = some f) (hfn : Tryz.pinned.checked.prog.funcs[f]? = some fn) :
  false = Tryz.pinned.checked.prog.looks [] ∧ ∀ (j : Nat) t,fn.params[j]? = some t → Tryz.pinned.checked.prog.wantsStandIn t = false := by
 obtain rfl : f = 3 := Option.some.inj ((show Tryz.prog.funcNamed "sealring/sealringlaw14.StaticHolds" = some 3 by kernel_rfl).symm.trans hf) |>.symm
 obtain rfl : fn = Tryz.f3 := (Option.some.inj (Tryz.func3.symm.trans hfn)).symm
 refine ⟨by kernel_rfl,fun j t ht => ?_⟩
 rw [Tryz.params3] at ht
 have hm : t ∈ [24,28] := by simpa using Array.mem_of_getElem? ht
 have hall : ([24,28].all fun u => !Tryz.prog.wantsStandIn u) = true := by kernel_rfl
 exact (show Tryz.prog.wantsStandIn t = false by simpa using List.all_eq_true.1 hall t hm)
theorem staticHolds_card : Rows.StaticHoldsCardSaid :=
 Claim7.holds_tied_plain_at .later [] _ _ _ _ staticHolds_said (fun _ h => by cases h) (by kernel_rfl) (fun _ h => by cases h) staticHolds_row_tie rfl ⟨rfl,rfl⟩ (by kernel_rfl) rfl staticHolds_plain (by kernel_rfl)
#print axioms staticHolds_card
end Go.Proofs.YtpgbndmkiiakaaaGreatDoor
