/-
  RecipeEqual is true of every frame and two recipes: the row, and its tied card.
  Conditions: none beyond the given row's own cells.
-/
import Derived.Test.YteahheknpdcoeaaGreatDoorG11
import Derived.Test.YteahheknpdcoeaaGreatDoorG25
import Derived.Test.YteahheknpdcoeaaGreatDoorG24
import Derived.Test.YteahheknpdcoeaaGreatDoorG26
import Derived.Test.YteahheknpdcoeaaGreatDoorCheck
set_option linter.unusedVariables false
set_option linter.unusedSimpArgs false
namespace Go.Proofs.YteahheknpdcoeaaGreatDoor
open Go.Am Go.RowKit Go.ChangeShapes Go.WideShapes
open Go.ChangeMaps (open_string shut_string)
attribute [local instance] Go.Am.Chk.drF
set_option maxRecDepth 100000 in
theorem recipeEqual_contract (H : Type) (enc : TypeId × Value → H) (W : World) (base : Nat) (args : Array Value) (ds gs : List (DataW H)) (before : List MemPlace)
  (hval : ∀ (j : Nat) t v,Tryz.f6.params[j]? = some t → args[j]? = some v → Value.okWide Tryz.prog W .any base t v)
  (hW : DataW.Whole enc Tryz.prog Tryz.f6.params.toList Rows.recipeEqualSpec.vars false W args.toList ds gs before)
  (hsz : (DataW.weightsEach Tryz.prog (Tryz.f6.params.toList ++ Rows.recipeEqualSpec.plain.varTypes Tryz.prog) (ds ++ gs)).all (· ≤ reachBytes) = true)
  (hL : laidMetH Tryz.prog Rows.recipeEqualRow.laid W) :
  Calls Tryz.prog 6 args W fun e W' => ∃ v,e = .returned v ∧ Rows.recipeEqualSpec.post enc Tryz.prog Tryz.f6 false true false false W args v W' := by
 have hW' := hW
 have hlt : ∀ p ∈ before,p.block < W.heap.size := fun p hp => hW.lt p hp
 obtain ⟨p,q,hA0,hV,rfl,hfz,hnd⟩ := hW
 have hA : DataW.TrodAll enc Tryz.prog W 0 (fun _ => true) true Tryz.f6.params.toList args.toList ds p := hA0
 obtain ⟨rfl,rfl⟩ := trodVars_none hV
 rw [Tryz.params6] at hA hval hsz
 obtain ⟨v0,v1,v2,d0,d1,d2,p0,p1,p2,rfl,rfl,hpp,h0,h1,h2⟩ := trodAll_three hA
 simp only [List.append_nil] at hW' hlt hsz
 have hG := laid_glob (show laidMet Tryz.prog laidL W from hL)
 have hwt0 : ∀ n ∈ d0.weights Tryz.prog 24,n ≤ reachBytes := fun n hn => by
  have := List.all_eq_true.1 hsz n (DataW.weights_mem_each (j := 0) (t := 24) (d := d0) rfl rfl n hn)
  simpa using this
 obtain ⟨n0,avs0,k0,r0⟩ := arg_struct (num := Chk.num) tset_ok (t := 24) (by decide) Tryz.underlying24 (hval 0 24 v0 rfl rfl) h0 hwt0
 obtain ⟨a0,rfl⟩ := shp_frame k0
 have hwt1 : ∀ n ∈ d1.weights Tryz.prog 33,n ≤ reachBytes := fun n hn => by
  have := List.all_eq_true.1 hsz n (DataW.weights_mem_each (j := 1) (t := 33) (d := d1) rfl rfl n hn)
  simpa using this
 obtain ⟨n1,avs1,k1,r1⟩ := arg_struct (num := Chk.num) tset_ok (t := 33) (by decide) Tryz.underlying33 (hval 1 33 v1 rfl rfl) h1 hwt1
 obtain ⟨a1,rfl⟩ := shp_term n1 _ k1
 have hwt2 : ∀ n ∈ d2.weights Tryz.prog 33,n ≤ reachBytes := fun n hn => by
  have := List.all_eq_true.1 hsz n (DataW.weights_mem_each (j := 2) (t := 33) (d := d2) rfl rfl n hn)
  simpa using this
 obtain ⟨n2,avs2,k2,r2⟩ := arg_struct (num := Chk.num) tset_ok (t := 33) (by decide) Tryz.underlying33 (hval 2 33 v2 rfl rfl) h2 hwt2
 obtain ⟨a2,rfl⟩ := shp_term n2 _ k2
 have hc := law_RecipeEqual a0 a1 a2 call_awake
 refine (law_calls Chk.fits (show Chk.num 276 = some 6 from rfl) hG rfl rfl (fun i c hi => ?_) hc).mono fun e W' ⟨he,hb⟩ => ?_
 ·match i,hi with
  | 0,hi => injection hi with hi; subst hi; exact ⟨_,rfl,r0⟩
  | 1,hi => injection hi with hi; subst hi; exact ⟨_,rfl,r1⟩
  | 2,hi => injection hi with hi; subst hi; exact ⟨_,rfl,r2⟩
 ·subst he
  refine ⟨_,rfl,Go.Am.post_of_below (pa := p) (pv := []) hW' (fun _ _ _ => trodAll_mk1 (shut_bool Tryz.underlying4 _)) (fun sp hsp => ?_) (fun _ _ => rfl) (by simp) hb (ok_one (by kernel_rfl) rfl (okWide_bool_mk Tryz.underlying4 _))⟩
  exact trodAll_below kids full hb (by rw [Tryz.params6]; decide) hA0 hlt hsp
abbrev recipeEqualArgs : Array Value := #[.agg #[.slice none 0 0,.slice none 0 0],.agg #[.int .i64 0,.string ⟨#[]⟩,.int .i64 0,.slice none 0 0],.agg #[.int .i64 0,.string ⟨#[]⟩,.int .i64 0,.slice none 0 0]]
theorem recipeEqual_reads (os : Os) {H : Type} (enc : TypeId × Value → H) : ∃ places,DataW.whole enc Tryz.prog ((World.laidAll Tryz.prog os laidL).forCall (fun _ _ => 0) ⟨#[],recipeEqualArgs,[]⟩).memory Tryz.f6.params.toList Rows.recipeEqualSpec.vars false recipeEqualArgs.toList 8 =
  some ([.agg [.nil,.nil],.agg [.lit (.int .i64 0),.lit (.string []),.lit (.int .i64 0),.nil],.agg [.lit (.int .i64 0),.lit (.string []),.lit (.int .i64 0),.nil]],[],places) := ⟨[],by kernel_rfl⟩
set_option maxRecDepth 100000 in
theorem recipeEqual_lifted (os : Os) (started : os.Started) (H : Type) (enc : TypeId × Value → H) (F : Stop.Interp) :
  ReturnsInHanded {} Tryz.checked os 6 .any ((OpenSpec.ofChange Rows.recipeEqualSpec).preRow enc Tryz.prog Tryz.f6 Rows.recipeEqualRow.domain false Rows.recipeEqualRow.laid) (((OpenSpec.ofChange Rows.recipeEqualSpec).at F).post enc Tryz.prog Tryz.f6 false true false false) := by
 obtain ⟨places,hx⟩ := recipeEqual_reads os enc
 refine returnsInHanded_of_row (C := Tryz.checked) (s := OpenSpec.ofChange Rows.recipeEqualSpec) own started (by kernel_rfl) Tryz.func6
  (witness_row_at (enc := enc) (C := Tryz.checked) false (World.laidAll Tryz.prog os laidL) recipeEqualArgs (World.laidAll_os _ _ _) (by kernel_rfl) (by kernel_rfl) (by kernel_rfl)
   (OpenSpec.preRow_of_cond 8 hx (by kernel_rfl) (fun k hk => by cases hk) (by kernel_rfl) (door_met os _))) ?_
 intro W base args ds gs before hval hW _ _ hsz hL _ _
 exact recipeEqual_contract H enc W base args ds gs before hval hW hsz hL
theorem recipeEqual_named : Tryz.pinned.checked.prog.funcNamed Rows.recipeEqualRow.func = some 6 := by kernel_rfl
theorem recipeEqual_closed : joinedFacts Tryz.pinned.checked.prog 6 Tryz.f6 (OpenSpec.ofChange Rows.recipeEqualSpec).bare Rows.recipeEqualRow = true := by kernel_rfl
theorem recipeEqual_inst : Tryz.f6.isInstance Tryz.pinned.checked.prog Rows.recipeEqualRow.origin Rows.recipeEqualRow.targs := of_decide_eq_true (by kernel_rfl)
theorem recipeEqual_wrap : Tryz.f6.isWrapper Tryz.pinned.checked.prog Rows.recipeEqualRow.wrapper Rows.recipeEqualRow.mainSum := by unfold Func.isWrapper; first | (rw [if_pos (by decide +kernel)]; kernel_rfl) | (rw [if_neg (by decide +kernel)]; exact ⟨rfl,rfl⟩)
theorem recipeEqual_said : Rows.RecipeEqualSaid :=
 OpenClaim.holds_of_cond 6 Tryz.f6 rfl rfl rfl rfl rfl rfl rfl ⟨rfl,rfl,rfl,rfl,rfl⟩ rfl rfl rfl rfl rfl recipeEqual_named Tryz.func6 recipeEqual_closed recipeEqual_inst recipeEqual_wrap
  (fun os started H enc _ F => by rw [OpenClaim.pre_eq_preRow]; exact recipeEqual_lifted os started H enc F)
theorem recipeEqual_plain (f : FuncId) (fn : Func) (hf : Tryz.pinned.checked.prog.funcNamed "sealring/sealringlaw13.RecipeEqual" = some f) (hfn : Tryz.pinned.checked.prog.funcs[f]? = some fn) :
  false = Tryz.pinned.checked.prog.looks [] ∧ ∀ (j : Nat) t,fn.params[j]? = some t → Tryz.pinned.checked.prog.wantsStandIn t = false := by
 obtain rfl : f = 6 := Option.some.inj ((show Tryz.prog.funcNamed "sealring/sealringlaw13.RecipeEqual" = some 6 by kernel_rfl).symm.trans hf) |>.symm
 obtain rfl : fn = Tryz.f6 := (Option.some.inj (Tryz.func6.symm.trans hfn)).symm
 refine ⟨by kernel_rfl,fun j t ht => ?_⟩
 rw [Tryz.params6] at ht
 have hm : t ∈ [24,33,33] := by simpa using Array.mem_of_getElem? ht
 have hall : ([24,33,33].all fun u => !Tryz.prog.wantsStandIn u) = true := by kernel_rfl
 exact (show Tryz.prog.wantsStandIn t = false by simpa using List.all_eq_true.1 hall t hm)
theorem recipeEqual_card : Rows.RecipeEqualCardSaid :=
 Claim7.holds_tied_plain_at .later [] _ _ _ _ recipeEqual_said (fun _ h => by cases h) (by kernel_rfl) (fun _ h => by cases h) recipeEqual_row_tie rfl ⟨rfl,rfl⟩ (by kernel_rfl) rfl recipeEqual_plain (by kernel_rfl)
#print axioms recipeEqual_card
end Go.Proofs.YteahheknpdcoeaaGreatDoor
