/-
  EnvironmentMay is true of every environment, term and list of steps of together bulk at most 1048576: the row, and its tied card.
  Conditions: none beyond the given row's own cells.
-/
import Derived.Test.YtpdmcibimbjknaaGreatDoorG10
import Derived.Test.YtpdmcibimbjknaaGreatDoorG24
import Derived.Test.YtpdmcibimbjknaaGreatDoorG23
import Derived.Test.YtpdmcibimbjknaaGreatDoorG40
import Derived.Test.YtpdmcibimbjknaaGreatDoorG41
import Derived.Test.YtpdmcibimbjknaaGreatDoorCheck
set_option linter.unusedVariables false
set_option linter.unusedSimpArgs false
namespace Go.Proofs.YtpdmcibimbjknaaGreatDoor
open Go.Am Go.RowKit Go.ChangeShapes Go.WideShapes
open Go.ChangeMaps (open_string shut_string)
attribute [local instance] Go.Am.Chk.drF
set_option maxRecDepth 100000 in
theorem environmentMay_contract (H : Type) (enc : TypeId × Value → H) (W : World) (base : Nat) (args : Array Value) (ds gs : List (DataW H)) (before : List MemPlace)
  (hval : ∀ (j : Nat) t v,Tryz.f3.params[j]? = some t → args[j]? = some v → Value.okWide Tryz.prog W .any base t v)
  (hW : DataW.Whole enc Tryz.prog Tryz.f3.params.toList Rows.environmentMaySpec.vars false W args.toList ds gs before)
  (hsz : Rows.uptoSmall H (ds ++ gs) = true)
  (hL : laidMetH Tryz.prog Rows.environmentMayUptoRow.laid W) :
  Calls Tryz.prog 3 args W fun e W' => ∃ v,e = .returned v ∧ Rows.environmentMaySpec.post enc Tryz.prog Tryz.f3 false true false false W args v W' := by
 have hW' := hW;have hlt : ∀ p ∈ before,p.block < W.heap.size := fun p hp => hW.lt p hp;obtain ⟨p,q,hA0,hV,rfl,hfz,hnd⟩ := hW;have hA : DataW.TrodAll enc Tryz.prog W 0 (fun _ => true) true Tryz.f3.params.toList args.toList ds p := hA0;obtain ⟨rfl,rfl⟩ := trodVars_none hV;rw [Tryz.params3] at hA hval;obtain ⟨v0,v1,v2,d0,d1,d2,p0,p1,p2,rfl,rfl,hpp,h0,h1,h2⟩ := trodAll_three hA;simp only [List.append_nil] at hW' hlt hsz;have hwt0 := Pa hsz (i := 0) (d := d0) rfl (t := 27) (by decide);obtain ⟨n0,avs0,k0,r0⟩ := N2 (num := Chk.num) VS (t := 27) (by decide) Tryz.underlying27 (hval 0 27 v0 rfl rfl) h0 hwt0;obtain ⟨a0,b0,g0,rfl,c0,e0⟩ := QeV k0;have hwt1 := Pa hsz (i := 1) (d := d1) rfl (t := 29) (by decide);obtain ⟨n1,avs1,k1,r1⟩ := N2 (num := Chk.num) VS (t := 29) (by decide) Tryz.underlying29 (hval 1 29 v1 rfl rfl) h1 hwt1;obtain ⟨a1,rfl⟩ := NU n1 _ k1;have hwt2 := Pa hsz (i := 2) (d := d2) rfl (t := 30) (by decide);obtain ⟨n2,xs2,k2,r2⟩ := Bc (num := Chk.num) VS (t := 30) (by decide) Tryz.underlying30 (hval 2 30 v2 rfl rfl) h2 hwt2;obtain ⟨a2,ha2⟩ := QbB k2;rw [show AV.sl false _ xs2 = _ from List.head_eq_of_cons_eq ha2] at r2;unfold upB at *;have hc := Oq a0 b0 g0 a1 a2 Dq (by omega) (by omega);refine (EF Chk.fits (show Chk.num 594 = some 3 from rfl) rfl rfl (fun i c hi => ?_) hc).mono fun e W' ⟨he,hb⟩ => ?_
 ·match i,hi with
  | 0,hi => injection hi with hi; subst hi; exact ⟨_,rfl,r0⟩
  | 1,hi => injection hi with hi; subst hi; exact ⟨_,rfl,r1⟩
  | 2,hi => injection hi with hi; subst hi; exact ⟨_,rfl,r2⟩
 ·subst he;refine ⟨_,rfl,Go.Am.post_of_below (pa := p) (pv := []) hW' (fun _ _ _ => trodAll_mk1 (shut_bool Tryz.underlying4 _)) (fun sp hsp => ?_) (fun _ _ => rfl) (by simp) hb (ok_one (by kernel_rfl) rfl (okWide_bool_mk Tryz.underlying4 _))⟩;exact PN kids full hb (by rw [Tryz.params3]; decide) hA0 hlt hsp
abbrev environmentMayArgs : Array Value := #[.agg #[.slice none 0 0,.slice none 0 0,.slice none 0 0],.agg #[.int .i64 0,.string ⟨#[]⟩,.int .i64 0,.slice none 0 0],.slice none 0 0]
theorem environmentMay_reads (os : Os) {H : Type} (enc : TypeId × Value → H) : ∃ places,DataW.whole enc Tryz.prog ((World.laidAll Tryz.prog os Ku).forCall (fun _ _ => 0) ⟨#[],environmentMayArgs,[]⟩).memory Tryz.f3.params.toList Rows.environmentMaySpec.vars false environmentMayArgs.toList 8 =
  some ([.agg [.agg [.nil,.nil],.nil],.agg [.lit (.int .i64 0),.lit (.string []),.lit (.int .i64 0),.nil],.nil],[],places) := ⟨[],by kernel_rfl⟩
set_option maxRecDepth 100000 in
theorem environmentMay_lifted (os : Os) (started : os.Started) (H : Type) (enc : TypeId × Value → H) (F : Stop.Interp) :
  ReturnsInHanded {} Tryz.checked os 3 .any ((Rows.OpenSpec.upto Rows.environmentMaySpec).preRow enc Tryz.prog Tryz.f3 Rows.environmentMayUptoRow.domain false Rows.environmentMayUptoRow.laid) (((Rows.OpenSpec.upto Rows.environmentMaySpec).at F).post enc Tryz.prog Tryz.f3 false true false false) := by
 obtain ⟨places,hx⟩ := environmentMay_reads os enc;refine returnsInHanded_of_row (C := Tryz.checked) (s := Rows.OpenSpec.upto Rows.environmentMaySpec) own started (by kernel_rfl) Tryz.func3
  (witness_row_at (enc := enc) (C := Tryz.checked) false (World.laidAll Tryz.prog os Ku) environmentMayArgs (World.laidAll_os _ _ _) (by kernel_rfl) (by kernel_rfl) (by kernel_rfl)
   (OpenSpec.preRow_of_cond 8 hx (by kernel_rfl) (fun k hk => by injection hk with hk; subst hk; rfl) (by kernel_rfl) (Qay os _))) ?_
 intro W base args ds gs before hval hW _ hsz _ hL _ _;exact environmentMay_contract H enc W base args ds gs before hval hW (hsz _ rfl) hL
theorem environmentMay_named : Tryz.pinned.checked.prog.funcNamed Rows.environmentMayUptoRow.func = some 3 := by kernel_rfl
theorem environmentMay_closed : joinedFacts Tryz.pinned.checked.prog 3 Tryz.f3 (Rows.OpenSpec.upto Rows.environmentMaySpec).bare Rows.environmentMayUptoRow = true := by kernel_rfl
theorem environmentMay_inst : Tryz.f3.isInstance Tryz.pinned.checked.prog Rows.environmentMayUptoRow.origin Rows.environmentMayUptoRow.targs := of_decide_eq_true (by kernel_rfl)
theorem environmentMay_wrap : Tryz.f3.isWrapper Tryz.pinned.checked.prog Rows.environmentMayUptoRow.wrapper Rows.environmentMayUptoRow.mainSum := by unfold Func.isWrapper; first | (rw [if_pos (by decide +kernel)]; kernel_rfl) | (rw [if_neg (by decide +kernel)]; exact ⟨rfl,rfl⟩)
theorem environmentMay_said : Rows.EnvironmentMayUptoSaid :=
 OpenClaim.holds_of_cond 3 Tryz.f3 rfl rfl rfl rfl rfl rfl rfl ⟨rfl,rfl,rfl,rfl,rfl⟩ rfl rfl rfl rfl rfl environmentMay_named Tryz.func3 environmentMay_closed environmentMay_inst environmentMay_wrap
  (fun os started H enc _ F => by rw [OpenClaim.pre_eq_preRow]; exact environmentMay_lifted os started H enc F)
theorem environmentMay_plain (f : FuncId) (fn : Func) (hf : Tryz.pinned.checked.prog.funcNamed "sealring/sealringlaw32.EnvironmentMay" = some f) (hfn : Tryz.pinned.checked.prog.funcs[f]? = some fn) :
  false = Tryz.pinned.checked.prog.looks [] ∧ ∀ (j : Nat) t,fn.params[j]? = some t → Tryz.pinned.checked.prog.wantsStandIn t = false := by
 obtain rfl : f = 3 := Option.some.inj ((show Tryz.prog.funcNamed "sealring/sealringlaw32.EnvironmentMay" = some 3 by kernel_rfl).symm.trans hf) |>.symm;obtain rfl : fn = Tryz.f3 := (Option.some.inj (Tryz.func3.symm.trans hfn)).symm;refine ⟨by kernel_rfl,fun j t ht => ?_⟩;rw [Tryz.params3] at ht;have hm : t ∈ [27,29,30] := by simpa using Array.mem_of_getElem? ht
 have hall : ([27,29,30].all fun u => !Tryz.prog.wantsStandIn u) = true := by kernel_rfl
 exact (show Tryz.prog.wantsStandIn t = false by simpa using List.all_eq_true.1 hall t hm)
theorem environmentMay_card : Rows.EnvironmentMayUptoCardSaid :=
 Claim7.holds_tied_plain_at .later [] _ _ _ _ environmentMay_said (fun _ h => by cases h) (by kernel_rfl) (fun _ h => by cases h) environmentMayUpto_row_tie rfl ⟨rfl,rfl⟩ (by kernel_rfl) rfl environmentMay_plain (by kernel_rfl)
#print axioms environmentMay_card
end Go.Proofs.YtpdmcibimbjknaaGreatDoor
