/-
  RecipeExtend is true of every draft, term and description: the row, and its tied card.
  Conditions: none beyond the given row's own cells.
-/
import Derived.Test.YteahheknpdcoeaaGreatDoorG11
import Derived.Test.YteahheknpdcoeaaGreatDoorG25
import Derived.Test.YteahheknpdcoeaaGreatDoorG30
import Derived.Test.YteahheknpdcoeaaGreatDoorG26
import Derived.Test.YteahheknpdcoeaaGreatDoorCheck
set_option linter.unusedVariables false
set_option linter.unusedSimpArgs false
namespace Go.Proofs.YteahheknpdcoeaaGreatDoor
open Go.Am Go.RowKit Go.ChangeShapes Go.WideShapes
open Go.ChangeMaps (open_string shut_string)
attribute [local instance] Go.Am.Chk.drF
set_option maxRecDepth 100000 in
theorem recipeExtend_contract (H : Type) (enc : TypeId × Value → H) (W : World) (base : Nat) (args : Array Value) (ds gs : List (DataW H)) (before : List MemPlace)
  (hval : ∀ (j : Nat) t v,Tryz.f7.params[j]? = some t → args[j]? = some v → Value.okWide Tryz.prog W .any base t v)
  (hW : DataW.Whole enc Tryz.prog Tryz.f7.params.toList Rows.recipeExtendSpec.vars false W args.toList ds gs before)
  (hsz : (DataW.weightsEach Tryz.prog (Tryz.f7.params.toList ++ Rows.recipeExtendSpec.plain.varTypes Tryz.prog) (ds ++ gs)).all (· ≤ reachBytes) = true)
  (hL : laidMetH Tryz.prog Rows.recipeExtendRow.laid W) :
  Calls Tryz.prog 7 args W fun e W' => ∃ v,e = .returned v ∧ Rows.recipeExtendSpec.post enc Tryz.prog Tryz.f7 false true false false W args v W' := by
 have hW' := hW
 have hlt : ∀ p ∈ before,p.block < W.heap.size := fun p hp => hW.lt p hp
 obtain ⟨p,q,hA0,hV,rfl,hfz,hnd⟩ := hW
 have hA : DataW.TrodAll enc Tryz.prog W 0 (fun _ => true) true Tryz.f7.params.toList args.toList ds p := hA0
 obtain ⟨rfl,rfl⟩ := trodVars_none hV
 rw [Tryz.params7] at hA hval hsz
 obtain ⟨v0,v1,v2,d0,d1,d2,p0,p1,p2,rfl,rfl,hpp,h0,h1,h2⟩ := trodAll_three hA
 simp only [List.append_nil] at hW' hlt hsz
 have hG := laid_glob (show laidMet Tryz.prog laidL W from hL)
 have hwt0 : ∀ n ∈ d0.weights Tryz.prog 43,n ≤ reachBytes := fun n hn => by
  have := List.all_eq_true.1 hsz n (DataW.weights_mem_each (j := 0) (t := 43) (d := d0) rfl rfl n hn)
  simpa using this
 obtain ⟨n0,avs0,k0,r0⟩ := arg_struct (num := Chk.num) tset_ok (t := 43) (by decide) Tryz.underlying43 (hval 0 43 v0 rfl rfl) h0 hwt0
 obtain ⟨a0,rfl,b0,c0,e0⟩ := shp_draft k0
 have hwt1 : ∀ n ∈ d1.weights Tryz.prog 33,n ≤ reachBytes := fun n hn => by
  have := List.all_eq_true.1 hsz n (DataW.weights_mem_each (j := 1) (t := 33) (d := d1) rfl rfl n hn)
  simpa using this
 obtain ⟨n1,avs1,k1,r1⟩ := arg_struct (num := Chk.num) tset_ok (t := 33) (by decide) Tryz.underlying33 (hval 1 33 v1 rfl rfl) h1 hwt1
 obtain ⟨a1,rfl⟩ := shp_term n1 _ k1
 have hwt2 : ∀ n ∈ d2.weights Tryz.prog 44,n ≤ reachBytes := fun n hn => by
  have := List.all_eq_true.1 hsz n (DataW.weights_mem_each (j := 2) (t := 44) (d := d2) rfl rfl n hn)
  simpa using this
 obtain ⟨n2,xs2,k2,r2⟩ := arg_slice (num := Chk.num) tset_ok (t := 44) (by decide) Tryz.underlying44 (hval 2 44 v2 rfl rfl) h2 hwt2
 obtain ⟨a2,ha2,b2,c2⟩ := shp_bytes k2
 rw [show AV.sl false _ xs2 = _ from List.head_eq_of_cons_eq ha2] at r2
 unfold reachBytes at *
 have hc := law_RecipeExtend a0 ⟨c0,e0,by omega⟩ a1 a2 (by omega) c2 call_awake
 refine (law_calls Chk.fits (show Chk.num 279 = some 7 from rfl) hG rfl rfl (fun i c hi => ?_) hc).mono fun e W' ⟨he,hb⟩ => ?_
 ·match i,hi with
  | 0,hi => injection hi with hi; subst hi; exact ⟨_,rfl,r0⟩
  | 1,hi => injection hi with hi; subst hi; exact ⟨_,rfl,r1⟩
  | 2,hi => injection hi with hi; subst hi; exact ⟨_,rfl,r2⟩
 ·subst he
  refine ⟨_,rfl,Go.Am.post_of_below (pa := p) (pv := []) hW' (fun _ _ _ => trodAll_mk1 (shut_bool Tryz.underlying4 _)) (fun sp hsp => ?_) (fun _ _ => rfl) (by simp) hb (ok_one (by kernel_rfl) rfl (okWide_bool_mk Tryz.underlying4 _))⟩
  exact trodAll_below kids full hb (by rw [Tryz.params7]; decide) hA0 hlt hsp
abbrev recipeExtendArgs : Array Value := #[.agg #[.slice none 0 0,.bool false,.int .u16 0],.agg #[.int .i64 0,.string ⟨#[]⟩,.int .i64 0,.slice none 0 0],.slice none 0 0]
theorem recipeExtend_reads (os : Os) {H : Type} (enc : TypeId × Value → H) : ∃ places,DataW.whole enc Tryz.prog ((World.laidAll Tryz.prog os laidL).forCall (fun _ _ => 0) ⟨#[],recipeExtendArgs,[]⟩).memory Tryz.f7.params.toList Rows.recipeExtendSpec.vars false recipeExtendArgs.toList 8 =
  some ([.agg [.nil,.lit (.bool false),.lit (.int .u16 0)],.agg [.lit (.int .i64 0),.lit (.string []),.lit (.int .i64 0),.nil],.nil],[],places) := ⟨[],by kernel_rfl⟩
set_option maxRecDepth 100000 in
theorem recipeExtend_lifted (os : Os) (started : os.Started) (H : Type) (enc : TypeId × Value → H) (F : Stop.Interp) :
  ReturnsInHanded {} Tryz.checked os 7 .any ((OpenSpec.ofChange Rows.recipeExtendSpec).preRow enc Tryz.prog Tryz.f7 Rows.recipeExtendRow.domain false Rows.recipeExtendRow.laid) (((OpenSpec.ofChange Rows.recipeExtendSpec).at F).post enc Tryz.prog Tryz.f7 false true false false) := by
 obtain ⟨places,hx⟩ := recipeExtend_reads os enc
 refine returnsInHanded_of_row (C := Tryz.checked) (s := OpenSpec.ofChange Rows.recipeExtendSpec) own started (by kernel_rfl) Tryz.func7
  (witness_row_at (enc := enc) (C := Tryz.checked) false (World.laidAll Tryz.prog os laidL) recipeExtendArgs (World.laidAll_os _ _ _) (by kernel_rfl) (by kernel_rfl) (by kernel_rfl)
   (OpenSpec.preRow_of_cond 8 hx (by kernel_rfl) (fun k hk => by cases hk) (by kernel_rfl) (door_met os _))) ?_
 intro W base args ds gs before hval hW _ _ hsz hL _ _
 exact recipeExtend_contract H enc W base args ds gs before hval hW hsz hL
theorem recipeExtend_named : Tryz.pinned.checked.prog.funcNamed Rows.recipeExtendRow.func = some 7 := by kernel_rfl
theorem recipeExtend_closed : joinedFacts Tryz.pinned.checked.prog 7 Tryz.f7 (OpenSpec.ofChange Rows.recipeExtendSpec).bare Rows.recipeExtendRow = true := by kernel_rfl
theorem recipeExtend_inst : Tryz.f7.isInstance Tryz.pinned.checked.prog Rows.recipeExtendRow.origin Rows.recipeExtendRow.targs := of_decide_eq_true (by kernel_rfl)
theorem recipeExtend_wrap : Tryz.f7.isWrapper Tryz.pinned.checked.prog Rows.recipeExtendRow.wrapper Rows.recipeExtendRow.mainSum := by unfold Func.isWrapper; first | (rw [if_pos (by decide +kernel)]; kernel_rfl) | (rw [if_neg (by decide +kernel)]; exact ⟨rfl,rfl⟩)
theorem recipeExtend_said : Rows.RecipeExtendSaid :=
 OpenClaim.holds_of_cond 7 Tryz.f7 rfl rfl rfl rfl rfl rfl rfl ⟨rfl,rfl,rfl,rfl,rfl⟩ rfl rfl rfl rfl rfl recipeExtend_named Tryz.func7 recipeExtend_closed recipeExtend_inst recipeExtend_wrap
  (fun os started H enc _ F => by rw [OpenClaim.pre_eq_preRow]; exact recipeExtend_lifted os started H enc F)
theorem recipeExtend_plain (f : FuncId) (fn : Func) (hf : Tryz.pinned.checked.prog.funcNamed "sealring/sealringlaw13.RecipeExtend" = some f) (hfn : Tryz.pinned.checked.prog.funcs[f]? = some fn) :
  false = Tryz.pinned.checked.prog.looks [] ∧ ∀ (j : Nat) t,fn.params[j]? = some t → Tryz.pinned.checked.prog.wantsStandIn t = false := by
 obtain rfl : f = 7 := Option.some.inj ((show Tryz.prog.funcNamed "sealring/sealringlaw13.RecipeExtend" = some 7 by kernel_rfl).symm.trans hf) |>.symm
 obtain rfl : fn = Tryz.f7 := (Option.some.inj (Tryz.func7.symm.trans hfn)).symm
 refine ⟨by kernel_rfl,fun j t ht => ?_⟩
 rw [Tryz.params7] at ht
 have hm : t ∈ [43,33,44] := by simpa using Array.mem_of_getElem? ht
 have hall : ([43,33,44].all fun u => !Tryz.prog.wantsStandIn u) = true := by kernel_rfl
 exact (show Tryz.prog.wantsStandIn t = false by simpa using List.all_eq_true.1 hall t hm)
theorem recipeExtend_card : Rows.RecipeExtendCardSaid :=
 Claim7.holds_tied_plain_at .later [] _ _ _ _ recipeExtend_said (fun _ h => by cases h) (by kernel_rfl) (fun _ h => by cases h) recipeExtend_row_tie rfl ⟨rfl,rfl⟩ (by kernel_rfl) rfl recipeExtend_plain (by kernel_rfl)
#print axioms recipeExtend_card
end Go.Proofs.YteahheknpdcoeaaGreatDoor
