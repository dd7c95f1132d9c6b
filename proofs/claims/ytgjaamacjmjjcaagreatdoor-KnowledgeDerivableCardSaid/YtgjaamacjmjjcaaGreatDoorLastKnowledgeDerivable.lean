/-
  KnowledgeDerivable is true of every list of terms and term: the row, and its tied card.
  Conditions: none beyond the given row's own cells.
-/
import Derived.Test.YtgjaamacjmjjcaaGreatDoorG08
import Derived.Test.YtgjaamacjmjjcaaGreatDoorG17
import Derived.Test.YtgjaamacjmjjcaaGreatDoorG27
import Derived.Test.YtgjaamacjmjjcaaGreatDoorG36
import Derived.Test.YtgjaamacjmjjcaaGreatDoorCheck
set_option linter.all false
namespace Go.Proofs.YtgjaamacjmjjcaaGreatDoor
open Go.Am Go.RowKit Go.ChangeShapes Go.WideShapes
open Go.ChangeMaps (open_string shut_string)
attribute [local instance] Go.Am.Chk.drF
set_option maxRecDepth 100000 in
theorem knowledgeDerivable_contract (H : Type) (enc : TypeId × Value → H) (W : World) (base : Nat) (args : Array Value) (ds gs : List (DataW H)) (before : List MemPlace)
  (hval : ∀ (j : Nat) t v,Tryz.f3.params[j]? = some t → args[j]? = some v → Value.okWide Tryz.prog W .any base t v)
  (hW : DataW.Whole enc Tryz.prog Tryz.f3.params.toList Rows.knowledgeDerivableSpec.vars false W args.toList ds gs before)
  (hsz : (DataW.weightsEach Tryz.prog (Tryz.f3.params.toList ++ Rows.knowledgeDerivableSpec.plain.varTypes Tryz.prog) (ds ++ gs)).all (· ≤ reachBytes) = true)
  (hL : laidMetH Tryz.prog Rows.knowledgeDerivableRow.laid W) :
  Calls Tryz.prog 3 args W fun e W' => ∃ v,e = .returned v ∧ Rows.knowledgeDerivableSpec.post enc Tryz.prog Tryz.f3 false true false false W args v W' := by
 have hW' := hW;have hlt : ∀ p ∈ before,p.block < W.heap.size := fun p hp => hW.lt p hp;obtain ⟨p,q,hA0,hV,rfl,hfz,hnd⟩ := hW;have hA : DataW.TrodAll enc Tryz.prog W 0 (fun _ => true) true Tryz.f3.params.toList args.toList ds p := hA0;obtain ⟨rfl,rfl⟩ := trodVars_none hV;rw [Tryz.params3] at hA hval hsz;obtain ⟨v0,v1,d0,d1,p0,p1,rfl,rfl,hpp,h0,h1⟩ := trodAll_two hA;simp only [List.append_nil] at hW' hlt hsz;have hwt0 : ∀ n ∈ d0.weights Tryz.prog 22,n ≤ reachBytes := fun n hn => by
  have := List.all_eq_true.1 hsz n (DataW.weights_mem_each (j := 0) (t := 22) (d := d0) rfl rfl n hn);simpa using this
 obtain ⟨n0,xs0,k0,r0⟩ := TB (num := Chk.num) Sk (t := 22) (by decide) Tryz.underlying22 (hval 0 22 v0 rfl rfl) h0 hwt0;obtain ⟨a0,ha0,b0⟩ := Pp k0;rw [show AV.sl false _ xs0 = _ from List.head_eq_of_cons_eq ha0] at r0;have hwt1 : ∀ n ∈ d1.weights Tryz.prog 24,n ≤ reachBytes := fun n hn => by
  have := List.all_eq_true.1 hsz n (DataW.weights_mem_each (j := 1) (t := 24) (d := d1) rfl rfl n hn);simpa using this
 obtain ⟨n1,avs1,k1,r1⟩ := Fc (num := Chk.num) Sk (t := 24) (by decide) Tryz.underlying24 (hval 1 24 v1 rfl rfl) h1 hwt1;obtain ⟨a1,rfl⟩ := Gp n1 _ k1;unfold reachBytes at *;have hc := Lu a0 a1 O0 (by omega);refine (P5 Chk.fits (show Chk.num 616 = some 3 from rfl) rfl rfl (fun i c hi => ?_) hc).mono fun e W' ⟨he,hb⟩ => ?_
 ·match i,hi with
  | 0,hi => injection hi with hi; subst hi; exact ⟨_,rfl,r0⟩
  | 1,hi => injection hi with hi; subst hi; exact ⟨_,rfl,r1⟩
 ·subst he;refine ⟨_,rfl,Go.Am.post_of_below (pa := p) (pv := []) hW' (fun _ _ _ => trodAll_mk1 (shut_bool Tryz.underlying4 _)) (fun sp hsp => ?_) (fun _ _ => rfl) (by simp) hb (ok_one (by kernel_rfl) rfl (okWide_bool_mk Tryz.underlying4 _))⟩;exact UO kids full hb (by rw [Tryz.params3]; decide) hA0 hlt hsp
abbrev knowledgeDerivableArgs : Array Value := #[.slice none 0 0,.agg #[.int .i64 0,.string ⟨#[]⟩,.int .i64 0,.slice none 0 0]]
theorem knowledgeDerivable_reads (os : Os) {H : Type} (enc : TypeId × Value → H) : ∃ places,DataW.whole enc Tryz.prog ((World.laidAll Tryz.prog os RA).forCall (fun _ _ => 0) ⟨#[],knowledgeDerivableArgs,[]⟩).memory Tryz.f3.params.toList Rows.knowledgeDerivableSpec.vars false knowledgeDerivableArgs.toList 8 =
  some ([.nil,.agg [.lit (.int .i64 0),.lit (.string []),.lit (.int .i64 0),.nil]],[],places) := ⟨[],by kernel_rfl⟩
set_option maxRecDepth 100000 in
theorem knowledgeDerivable_lifted (os : Os) (started : os.Started) (H : Type) (enc : TypeId × Value → H) (F : Stop.Interp) :
  ReturnsInHanded {} Tryz.checked os 3 .any ((OpenSpec.ofChange Rows.knowledgeDerivableSpec).preRow enc Tryz.prog Tryz.f3 Rows.knowledgeDerivableRow.domain false Rows.knowledgeDerivableRow.laid) (((OpenSpec.ofChange Rows.knowledgeDerivableSpec).at F).post enc Tryz.prog Tryz.f3 false true false false) := by
 obtain ⟨places,hx⟩ := knowledgeDerivable_reads os enc;refine returnsInHanded_of_row (C := Tryz.checked) (s := OpenSpec.ofChange Rows.knowledgeDerivableSpec) own started (by kernel_rfl) Tryz.func3
  (witness_row_at (enc := enc) (C := Tryz.checked) false (World.laidAll Tryz.prog os RA) knowledgeDerivableArgs (World.laidAll_os _ _ _) (by kernel_rfl) (by kernel_rfl) (by kernel_rfl)
   (OpenSpec.preRow_of_cond 8 hx (by kernel_rfl) (fun k hk => by cases hk) (by kernel_rfl) (Mv os _))) ?_
 intro W base args ds gs before hval hW _ _ hsz hL _ _;exact knowledgeDerivable_contract H enc W base args ds gs before hval hW hsz hL
theorem knowledgeDerivable_named : Tryz.pinned.checked.prog.funcNamed Rows.knowledgeDerivableRow.func = some 3 := by kernel_rfl
theorem knowledgeDerivable_closed : joinedFacts Tryz.pinned.checked.prog 3 Tryz.f3 (OpenSpec.ofChange Rows.knowledgeDerivableSpec).bare Rows.knowledgeDerivableRow = true := by kernel_rfl
theorem knowledgeDerivable_inst : Tryz.f3.isInstance Tryz.pinned.checked.prog Rows.knowledgeDerivableRow.origin Rows.knowledgeDerivableRow.targs := of_decide_eq_true (by kernel_rfl)
theorem knowledgeDerivable_wrap : Tryz.f3.isWrapper Tryz.pinned.checked.prog Rows.knowledgeDerivableRow.wrapper Rows.knowledgeDerivableRow.mainSum := by unfold Func.isWrapper; first | (rw [if_pos (by decide +kernel)]; kernel_rfl) | (rw [if_neg (by decide +kernel)]; exact ⟨rfl,rfl⟩)
theorem knowledgeDerivable_said : Rows.KnowledgeDerivableSaid :=
 OpenClaim.holds_of_cond 3 Tryz.f3 rfl rfl rfl rfl rfl rfl rfl ⟨rfl,rfl,rfl,rfl,rfl⟩ rfl rfl rfl rfl rfl knowledgeDerivable_named Tryz.func3 knowledgeDerivable_closed knowledgeDerivable_inst knowledgeDerivable_wrap
  (fun os started H enc _ F => by rw [OpenClaim.pre_eq_preRow]; exact knowledgeDerivable_lifted os started H enc F)
theorem knowledgeDerivable_plain (f : FuncId) (fn : Func) (hf : Tryz.pinned.checked.prog.funcNamed "sealring/sealringlaw10.KnowledgeDerivable" = some f) (hfn : Tryz.pinned.checked.prog.funcs[f]? = some fn) :
  false = Tryz.pinned.checked.prog.looks [] ∧ ∀ (j : Nat) t,fn.params[j]? = some t → Tryz.pinned.checked.prog.wantsStandIn t = false := by
 obtain rfl : f = 3 := Option.some.inj ((show Tryz.prog.funcNamed "sealring/sealringlaw10.KnowledgeDerivable" = some 3 by kernel_rfl).symm.trans hf) |>.symm;obtain rfl : fn = Tryz.f3 := (Option.some.inj (Tryz.func3.symm.trans hfn)).symm;refine ⟨by kernel_rfl,fun j t ht => ?_⟩;rw [Tryz.params3] at ht;have hm : t ∈ [22,24] := by simpa using Array.mem_of_getElem? ht
 have hall : ([22,24].all fun u => !Tryz.prog.wantsStandIn u) = true := by kernel_rfl
 exact (show Tryz.prog.wantsStandIn t = false by simpa using List.all_eq_true.1 hall t hm)
theorem knowledgeDerivable_card : Rows.KnowledgeDerivableCardSaid :=
 Claim7.holds_tied_plain_at .later [] _ _ _ _ knowledgeDerivable_said (fun _ h => by cases h) (by kernel_rfl) (fun _ h => by cases h) knowledgeDerivable_row_tie rfl ⟨rfl,rfl⟩ (by kernel_rfl) rfl knowledgeDerivable_plain (by kernel_rfl)
#print axioms knowledgeDerivable_card
end Go.Proofs.YtgjaamacjmjjcaaGreatDoor
