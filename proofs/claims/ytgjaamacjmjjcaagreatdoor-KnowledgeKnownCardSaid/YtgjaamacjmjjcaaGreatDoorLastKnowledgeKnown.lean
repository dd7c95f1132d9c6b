/-
  KnowledgeKnown is true of every two lists of terms: the row, and its tied card.
  Conditions: none beyond the given row's own cells.
-/
import Derived.Test.YtgjaamacjmjjcaaGreatDoorG08
import Derived.Test.YtgjaamacjmjjcaaGreatDoorG17
import Derived.Test.YtgjaamacjmjjcaaGreatDoorG27
import Derived.Test.YtgjaamacjmjjcaaGreatDoorG36
import Derived.Test.YtgjaamacjmjjcaaGreatDoorCheck
set_option linter.all false
namespace Go.Proofs.YtgjaamacjmjjcaaGreatDoor
open Go.Am Go.RowKit Go.ChangeShapes Go.WideShapes
open Go.ChangeMaps (open_string shut_string)
attribute [local instance] Go.Am.Chk.drF
set_option maxRecDepth 100000 in
theorem knowledgeKnown_contract (H : Type) (enc : TypeId × Value → H) (W : World) (base : Nat) (args : Array Value) (ds gs : List (DataW H)) (before : List MemPlace)
  (hval : ∀ (j : Nat) t v,Tryz.f5.params[j]? = some t → args[j]? = some v → Value.okWide Tryz.prog W .any base t v)
  (hW : DataW.Whole enc Tryz.prog Tryz.f5.params.toList Rows.knowledgeKnownSpec.vars false W args.toList ds gs before)
  (hsz : (DataW.weightsEach Tryz.prog (Tryz.f5.params.toList ++ Rows.knowledgeKnownSpec.plain.varTypes Tryz.prog) (ds ++ gs)).all (· ≤ reachBytes) = true)
  (hL : laidMetH Tryz.prog Rows.knowledgeKnownRow.laid W) :
  Calls Tryz.prog 5 args W fun e W' => ∃ v,e = .returned v ∧ Rows.knowledgeKnownSpec.post enc Tryz.prog Tryz.f5 false true false false W args v W' := by
 have hW' := hW;have hlt : ∀ p ∈ before,p.block < W.heap.size := fun p hp => hW.lt p hp;obtain ⟨p,q,hA0,hV,rfl,hfz,hnd⟩ := hW;have hA : DataW.TrodAll enc Tryz.prog W 0 (fun _ => true) true Tryz.f5.params.toList args.toList ds p := hA0;obtain ⟨rfl,rfl⟩ := trodVars_none hV;rw [Tryz.params5] at hA hval hsz;obtain ⟨v0,v1,d0,d1,p0,p1,rfl,rfl,hpp,h0,h1⟩ := trodAll_two hA;simp only [List.append_nil] at hW' hlt hsz;have hwt0 : ∀ n ∈ d0.weights Tryz.prog 22,n ≤ reachBytes := fun n hn => by
  have := List.all_eq_true.1 hsz n (DataW.weights_mem_each (j := 0) (t := 22) (d := d0) rfl rfl n hn);simpa using this
 obtain ⟨n0,xs0,k0,r0⟩ := TB (num := Chk.num) Sk (t := 22) (by decide) Tryz.underlying22 (hval 0 22 v0 rfl rfl) h0 hwt0;obtain ⟨a0,ha0,b0⟩ := Pp k0;rw [show AV.sl false _ xs0 = _ from List.head_eq_of_cons_eq ha0] at r0;have hwt1 : ∀ n ∈ d1.weights Tryz.prog 22,n ≤ reachBytes := fun n hn => by
  have := List.all_eq_true.1 hsz n (DataW.weights_mem_each (j := 1) (t := 22) (d := d1) rfl rfl n hn);simpa using this
 obtain ⟨n1,xs1,k1,r1⟩ := TB (num := Chk.num) Sk (t := 22) (by decide) Tryz.underlying22 (hval 1 22 v1 rfl rfl) h1 hwt1;obtain ⟨a1,ha1,b1⟩ := Pp k1;rw [show AV.sl false _ xs1 = _ from List.head_eq_of_cons_eq ha1] at r1;unfold reachBytes at *;have hc := IA a0 a1 O0;refine (P5 Chk.fits (show Chk.num 615 = some 5 from rfl) rfl rfl (fun i c hi => ?_) hc).mono fun e W' ⟨he,hb⟩ => ?_
 ·match i,hi with
  | 0,hi => injection hi with hi; subst hi; exact ⟨_,rfl,r0⟩
  | 1,hi => injection hi with hi; subst hi; exact ⟨_,rfl,r1⟩
 ·subst he;refine ⟨_,rfl,Go.Am.post_of_below (pa := p) (pv := []) hW' (fun _ _ _ => trodAll_mk1 (shut_bool Tryz.underlying4 _)) (fun sp hsp => ?_) (fun _ _ => rfl) (by simp) hb (ok_one (by kernel_rfl) rfl (okWide_bool_mk Tryz.underlying4 _))⟩;exact UO kids full hb (by rw [Tryz.params5]; decide) hA0 hlt hsp
abbrev knowledgeKnownArgs : Array Value := #[.slice none 0 0,.slice none 0 0]
theorem knowledgeKnown_reads (os : Os) {H : Type} (enc : TypeId × Value → H) : ∃ places,DataW.whole enc Tryz.prog ((World.laidAll Tryz.prog os RA).forCall (fun _ _ => 0) ⟨#[],knowledgeKnownArgs,[]⟩).memory Tryz.f5.params.toList Rows.knowledgeKnownSpec.vars false knowledgeKnownArgs.toList 8 =
  some ([.nil,.nil],[],places) := ⟨[],by kernel_rfl⟩
set_option maxRecDepth 100000 in
theorem knowledgeKnown_lifted (os : Os) (started : os.Started) (H : Type) (enc : TypeId × Value → H) (F : Stop.Interp) :
  ReturnsInHanded {} Tryz.checked os 5 .any ((OpenSpec.ofChange Rows.knowledgeKnownSpec).preRow enc Tryz.prog Tryz.f5 Rows.knowledgeKnownRow.domain false Rows.knowledgeKnownRow.laid) (((OpenSpec.ofChange Rows.knowledgeKnownSpec).at F).post enc Tryz.prog Tryz.f5 false true false false) := by
 obtain ⟨places,hx⟩ := knowledgeKnown_reads os enc;refine returnsInHanded_of_row (C := Tryz.checked) (s := OpenSpec.ofChange Rows.knowledgeKnownSpec) own started (by kernel_rfl) Tryz.func5
  (witness_row_at (enc := enc) (C := Tryz.checked) false (World.laidAll Tryz.prog os RA) knowledgeKnownArgs (World.laidAll_os _ _ _) (by kernel_rfl) (by kernel_rfl) (by kernel_rfl)
   (OpenSpec.preRow_of_cond 8 hx (by kernel_rfl) (fun k hk => by cases hk) (by kernel_rfl) (Mv os _))) ?_
 intro W base args ds gs before hval hW _ _ hsz hL _ _;exact knowledgeKnown_contract H enc W base args ds gs before hval hW hsz hL
theorem knowledgeKnown_named : Tryz.pinned.checked.prog.funcNamed Rows.knowledgeKnownRow.func = some 5 := by kernel_rfl
theorem knowledgeKnown_closed : joinedFacts Tryz.pinned.checked.prog 5 Tryz.f5 (OpenSpec.ofChange Rows.knowledgeKnownSpec).bare Rows.knowledgeKnownRow = true := by kernel_rfl
theorem knowledgeKnown_inst : Tryz.f5.isInstance Tryz.pinned.checked.prog Rows.knowledgeKnownRow.origin Rows.knowledgeKnownRow.targs := of_decide_eq_true (by kernel_rfl)
theorem knowledgeKnown_wrap : Tryz.f5.isWrapper Tryz.pinned.checked.prog Rows.knowledgeKnownRow.wrapper Rows.knowledgeKnownRow.mainSum := by unfold Func.isWrapper; first | (rw [if_pos (by decide +kernel)]; kernel_rfl) | (rw [if_neg (by decide +kernel)]; exact ⟨rfl,rfl⟩)
theorem knowledgeKnown_said : Rows.KnowledgeKnownSaid :=
 OpenClaim.holds_of_cond 5 Tryz.f5 rfl rfl rfl rfl rfl rfl rfl ⟨rfl,rfl,rfl,rfl,rfl⟩ rfl rfl rfl rfl rfl knowledgeKnown_named Tryz.func5 knowledgeKnown_closed knowledgeKnown_inst knowledgeKnown_wrap
  (fun os started H enc _ F => by rw [OpenClaim.pre_eq_preRow]; exact knowledgeKnown_lifted os started H enc F)
theorem knowledgeKnown_plain (f : FuncId) (fn : Func) (hf : Tryz.pinned.checked.prog.funcNamed "sealring/sealringlaw10.KnowledgeKnown" = some f) (hfn : Tryz.pinned.checked.prog.funcs[f]? = some fn) :
  false = Tryz.pinned.checked.prog.looks [] ∧ ∀ (j : Nat) t,fn.params[j]? = some t → Tryz.pinned.checked.prog.wantsStandIn t = false := by
 obtain rfl : f = 5 := Option.some.inj ((show Tryz.prog.funcNamed "sealring/sealringlaw10.KnowledgeKnown" = some 5 by kernel_rfl).symm.trans hf) |>.symm;obtain rfl : fn = Tryz.f5 := (Option.some.inj (Tryz.func5.symm.trans hfn)).symm;refine ⟨by kernel_rfl,fun j t ht => ?_⟩;rw [Tryz.params5] at ht;have hm : t ∈ [22,22] := by simpa using Array.mem_of_getElem? ht
 have hall : ([22,22].all fun u => !Tryz.prog.wantsStandIn u) = true := by kernel_rfl
 exact (show Tryz.prog.wantsStandIn t = false by simpa using List.all_eq_true.1 hall t hm)
theorem knowledgeKnown_card : Rows.KnowledgeKnownCardSaid :=
 Claim7.holds_tied_plain_at .later [] _ _ _ _ knowledgeKnown_said (fun _ h => by cases h) (by kernel_rfl) (fun _ h => by cases h) knowledgeKnown_row_tie rfl ⟨rfl,rfl⟩ (by kernel_rfl) rfl knowledgeKnown_plain (by kernel_rfl)
#print axioms knowledgeKnown_card
end Go.Proofs.YtgjaamacjmjjcaaGreatDoor
