/-
  StaticCheck is true of every draft and test: the row, and its tied card.
  Conditions: none beyond the given row's own cells.
-/
import Derived.Test.YtpgbndmkiiakaaaGreatDoorG10
import Derived.Test.YtpgbndmkiiakaaaGreatDoorG23
import Derived.Test.YtpgbndmkiiakaaaGreatDoorG22
import Derived.Test.YtpgbndmkiiakaaaGreatDoorG42
import Derived.Test.YtpgbndmkiiakaaaGreatDoorCheck
set_option linter.unusedVariables false
set_option linter.unusedSimpArgs false
namespace Go.Proofs.YtpgbndmkiiakaaaGreatDoor
open Go.Am Go.RowKit Go.ChangeShapes Go.WideShapes
open Go.ChangeMaps (open_string shut_string)
attribute [local instance] Go.Am.Chk.drF
set_option maxRecDepth 100000 in
theorem staticCheck_contract (H : Type) (enc : TypeId × Value → H) (W : World) (base : Nat) (args : Array Value) (ds gs : List (DataW H)) (before : List MemPlace)
  (hval : ∀ (j : Nat) t v,Tryz.f5.params[j]? = some t → args[j]? = some v → Value.okWide Tryz.prog W .any base t v)
  (hW : DataW.Whole enc Tryz.prog Tryz.f5.params.toList Rows.staticCheckSpec.vars false W args.toList ds gs before)
  (hsz : (DataW.weightsEach Tryz.prog (Tryz.f5.params.toList ++ Rows.staticCheckSpec.plain.varTypes Tryz.prog) (ds ++ gs)).all (· ≤ reachBytes) = true)
  (hL : laidMetH Tryz.prog Rows.staticCheckRow.laid W) :
  Calls Tryz.prog 5 args W fun e W' => ∃ v,e = .returned v ∧ Rows.staticCheckSpec.post enc Tryz.prog Tryz.f5 false true false false W args v W' := by
 have hW' := hW
 have hlt : ∀ p ∈ before,p.block < W.heap.size := fun p hp => hW.lt p hp
 obtain ⟨p,q,hA0,hV,rfl,hfz,hnd⟩ := hW
 have hA : DataW.TrodAll enc Tryz.prog W 0 (fun _ => true) true Tryz.f5.params.toList args.toList ds p := hA0
 obtain ⟨rfl,rfl⟩ := trodVars_none hV
 rw [Tryz.params5] at hA hval hsz
 obtain ⟨v0,v1,d0,d1,p0,p1,rfl,rfl,hpp,h0,h1⟩ := trodAll_two hA
 simp only [List.append_nil] at hW' hlt hsz
 have hG := KA (show laidMet Tryz.prog Uy W from hL)
 have hwt0 : ∀ n ∈ d0.weights Tryz.prog 46,n ≤ reachBytes := fun n hn => by
  have := List.all_eq_true.1 hsz n (DataW.weights_mem_each (j := 0) (t := 46) (d := d0) rfl rfl n hn)
  simpa using this
 obtain ⟨n0,avs0,k0,r0⟩ := Us (num := Chk.num) O4 (t := 46) (by decide) Tryz.underlying46 (hval 0 46 v0 rfl rfl) h0 hwt0
 obtain ⟨a0,rfl,b0,c0,e0,f0,g0⟩ := Cd k0
 have hwt1 : ∀ n ∈ d1.weights Tryz.prog 28,n ≤ reachBytes := fun n hn => by
  have := List.all_eq_true.1 hsz n (DataW.weights_mem_each (j := 1) (t := 28) (d := d1) rfl rfl n hn)
  simpa using this
 obtain ⟨n1,avs1,k1,r1⟩ := Us (num := Chk.num) O4 (t := 28) (by decide) Tryz.underlying28 (hval 1 28 v1 rfl rfl) h1 hwt1
 obtain ⟨a1,rfl⟩ := Gl k1
 unfold reachBytes at *
 have hc := Mz a0 ⟨e0,f0,g0,by omega,by omega⟩ a1 L6
 refine (KC Chk.fits (show Chk.num 465 = some 5 from rfl) hG rfl rfl (fun i c hi => ?_) hc).mono fun e W' ⟨he,hb⟩ => ?_
 ·match i,hi with
  | 0,hi => injection hi with hi; subst hi; exact ⟨_,rfl,r0⟩
  | 1,hi => injection hi with hi; subst hi; exact ⟨_,rfl,r1⟩
 ·subst he
  refine ⟨_,rfl,Go.Am.post_of_below (pa := p) (pv := []) hW' (fun _ _ _ => trodAll_mk1 (shut_bool Tryz.underlying4 _)) (fun sp hsp => ?_) (fun _ _ => rfl) (by simp) hb (ok_one (by kernel_rfl) rfl (okWide_bool_mk Tryz.underlying4 _))⟩
  exact Un kids full hb (by rw [Tryz.params5]; decide) hA0 hlt hsp
abbrev staticCheckArgs : Array Value := #[.agg #[.slice none 0 0,.slice none 0 0,.int .u8 0],.agg #[.int .i64 0,.string ⟨#[]⟩,.int .i64 0,.slice none 0 0,.int .i64 0,.string ⟨#[]⟩,.int .i64 0,.slice none 0 0,.bool false]]
theorem staticCheck_reads (os : Os) {H : Type} (enc : TypeId × Value → H) : ∃ places,DataW.whole enc Tryz.prog ((World.laidAll Tryz.prog os Uy).forCall (fun _ _ => 0) ⟨#[],staticCheckArgs,[]⟩).memory Tryz.f5.params.toList Rows.staticCheckSpec.vars false staticCheckArgs.toList 8 =
  some ([.agg [.nil,.nil,.lit (.int .u8 0)],.agg [.agg [.lit (.int .i64 0),.lit (.string []),.lit (.int .i64 0),.nil],.agg [.lit (.int .i64 0),.lit (.string []),.lit (.int .i64 0),.nil],.lit (.bool false)]],[],places) := ⟨[],by kernel_rfl⟩
set_option maxRecDepth 100000 in
theorem staticCheck_lifted (os : Os) (started : os.Started) (H : Type) (enc : TypeId × Value → H) (F : Stop.Interp) :
  ReturnsInHanded {} Tryz.checked os 5 .any ((OpenSpec.ofChange Rows.staticCheckSpec).preRow enc Tryz.prog Tryz.f5 Rows.staticCheckRow.domain false Rows.staticCheckRow.laid) (((OpenSpec.ofChange Rows.staticCheckSpec).at F).post enc Tryz.prog Tryz.f5 false true false false) := by
 obtain ⟨places,hx⟩ := staticCheck_reads os enc
 refine returnsInHanded_of_row (C := Tryz.checked) (s := OpenSpec.ofChange Rows.staticCheckSpec) own started (by kernel_rfl) Tryz.func5
  (witness_row_at (enc := enc) (C := Tryz.checked) false (World.laidAll Tryz.prog os Uy) staticCheckArgs (World.laidAll_os _ _ _) (by kernel_rfl) (by kernel_rfl) (by kernel_rfl)
   (OpenSpec.preRow_of_cond 8 hx (by kernel_rfl) (fun k hk => by cases hk) (by kernel_rfl) (Hv os _))) ?_
 intro W base args ds gs before hval hW _ _ hsz hL _ _
 exact staticCheck_contract H enc W base args ds gs before hval hW hsz hL
theorem staticCheck_named : Tryz.pinned.checked.prog.funcNamed Rows.staticCheckRow.func = some 5 := by kernel_rfl
theorem staticCheck_closed : joinedFacts Tryz.pinned.checked.prog 5 Tryz.f5 (OpenSpec.ofChange Rows.staticCheckSpec).bare Rows.staticCheckRow = true := by kernel_rfl
theorem staticCheck_inst : Tryz.f5.isInstance Tryz.pinned.checked.prog Rows.staticCheckRow.origin Rows.staticCheckRow.targs := of_decide_eq_true (by kernel_rfl)
theorem staticCheck_wrap : Tryz.f5.isWrapper Tryz.pinned.checked.prog Rows.staticCheckRow.wrapper Rows.staticCheckRow.mainSum := by unfold Func.isWrapper; first | (rw [if_pos (by decide +kernel)]; kernel_rfl) | (rw [if_neg (by decide +kernel)]; exact ⟨rfl,rfl⟩)
theorem staticCheck_said : Rows.StaticCheckSaid :=
 OpenClaim.holds_of_cond 5 Tryz.f5 rfl rfl rfl rfl rfl rfl rfl ⟨rfl,rfl,rfl,rfl,rfl⟩ rfl rfl rfl rfl rfl staticCheck_named Tryz.func5 staticCheck_closed staticCheck_inst staticCheck_wrap
  (fun os started H enc _ F => by rw [OpenClaim.pre_eq_preRow]; exact staticCheck_lifted os started H enc F)
theorem staticCheck_plain (f : FuncId) (fn : Func) (hf : Tryz.pinned.checked.prog.funcNamed "sealring/sealringlaw14.StaticCheck" = some f) (hfn : Tryz.pinned.checked.prog.funcs[f]? = some fn) :
  false = Tryz.pinned.checked.prog.looks [] ∧ ∀ (j : Nat) t,fn.params[j]? = some t → Tryz.pinned.checked.prog.wantsStandIn t = false := by
 obtain rfl : f = 5 := Option.some.inj ((show Tryz.prog.funcNamed "sealring/sealringlaw14.StaticCheck" = some 5 by kernel_rfl).symm.trans hf) |>.symm
 obtain rfl : fn = Tryz.f5 := (Option.some.inj (Tryz.func5.symm.trans hfn)).symm
 refine ⟨by kernel_rfl,fun j t ht => ?_⟩
 rw [Tryz.params5] at ht
 have hm : t ∈ [46,28] := by simpa using Array.mem_of_getElem? ht
 have hall : ([46,28].all fun u => !Tryz.prog.wantsStandIn u) = true := by kernel_rfl
 exact (show Tryz.prog.wantsStandIn t = false by simpa using List.all_eq_true.1 hall t hm)
theorem staticCheck_card : Rows.StaticCheckCardSaid :=
 Claim7.holds_tied_plain_at .later [] _ _ _ _ staticCheck_said (fun _ h => by cases h) (by kernel_rfl) (fun _ h => by cases h) staticCheck_row_tie rfl ⟨rfl,rfl⟩ (by kernel_rfl) rfl staticCheck_plain (by kernel_rfl)
#print axioms staticCheck_card
end Go.Proofs.YtpgbndmkiiakaaaGreatDoor
