/-
  KnowledgeUniverse is true of every list of terms and term: the row, and its tied card.
  Conditions: none beyond the given row's own cells.
-/
import Derived.Test.YtgjaamacjmjjcaaGreatDoorG08
import Derived.Test.YtgjaamacjmjjcaaGreatDoorG17
import Derived.Test.YtgjaamacjmjjcaaGreatDoorG27
import Derived.Test.YtgjaamacjmjjcaaGreatDoorG36
import Derived.Test.YtgjaamacjmjjcaaGreatDoorCheck
set_option linter.all false
namespace Go.Proofs.YtgjaamacjmjjcaaGreatDoor
open Go.Am Go.RowKit Go.ChangeShapes Go.WideShapes
open Go.ChangeMaps (open_string shut_string)
attribute [local instance] Go.Am.Chk.drF
set_option maxRecDepth 100000 in
theorem knowledgeUniverse_contract (H : Type) (enc : TypeId × Value → H) (W : World) (base : Nat) (args : Array Value) (ds gs : List (DataW H)) (before : List MemPlace)
  (hval : ∀ (j : Nat) t v,Tryz.f6.params[j]? = some t → args[j]? = some v → Value.okWide Tryz.prog W .any base t v)
  (hW : DataW.Whole enc Tryz.prog Tryz.f6.params.toList Rows.knowledgeUniverseSpec.vars false W args.toList ds gs before)
  (hsz : (DataW.weightsEach Tryz.prog (Tryz.f6.params.toList ++ Rows.knowledgeUniverseSpec.plain.varTypes Tryz.prog) (ds ++ gs)).all (· ≤ reachBytes) = true)
  (hL : laidMetH Tryz.prog Rows.knowledgeUniverseRow.laid W) :
  Calls Tryz.prog 6 args W fun e W' => ∃ v,e = .returned v ∧ Rows.knowledgeUniverseSpec.post enc Tryz.prog Tryz.f6 false true false false W args v W' := by
 have hW' := hW;have hlt : ∀ p ∈ before,p.block < W.heap.size := fun p hp => hW.lt p hp;obtain ⟨p,q,hA0,hV,rfl,hfz,hnd⟩ := hW;have hA : DataW.TrodAll enc Tryz.prog W 0 (fun _ => true) true Tryz.f6.params.toList args.toList ds p := hA0;obtain ⟨rfl,rfl⟩ := trodVars_none hV;rw [Tryz.params6] at hA hval hsz;obtain ⟨v0,v1,d0,d1,p0,p1,rfl,rfl,hpp,h0,h1⟩ := trodAll_two hA;simp only [List.append_nil] at hW' hlt hsz;have hwt0 : ∀ n ∈ d0.weights Tryz.prog 22,n ≤ reachBytes := fun n hn => by
  have := List.all_eq_true.1 hsz n (DataW.weights_mem_each (j := 0) (t := 22) (d := d0) rfl rfl n hn);simpa using this
 obtain ⟨n0,xs0,k0,r0⟩ := TB (num := Chk.num) Sk (t := 22) (by decide) Tryz.underlying22 (hval 0 22 v0 rfl rfl) h0 hwt0;obtain ⟨a0,ha0,b0⟩ := Pp k0;rw [show AV.sl false _ xs0 = _ from List.head_eq_of_cons_eq ha0] at r0;have hwt1 : ∀ n ∈ d1.weights Tryz.prog 24,n ≤ reachBytes := fun n hn => by
  have := List.all_eq_true.1 hsz n (DataW.weights_mem_each (j := 1) (t := 24) (d := d1) rfl rfl n hn);simpa using this
 obtain ⟨n1,avs1,k1,r1⟩ := Fc (num := Chk.num) Sk (t := 24) (by decide) Tryz.underlying24 (hval 1 24 v1 rfl rfl) h1 hwt1;obtain ⟨a1,rfl⟩ := Gp n1 _ k1;unfold reachBytes at *;have hc := L3 a0 a1 O0 (by omega);refine (P5 Chk.fits (show Chk.num 601 = some 6 from rfl) rfl rfl (fun i c hi => ?_) hc).mono fun e W' ⟨he,hb⟩ => ?_
 ·match i,hi with
  | 0,hi => injection hi with hi; subst hi; exact ⟨_,rfl,r0⟩
  | 1,hi => injection hi with hi; subst hi; exact ⟨_,rfl,r1⟩
 ·subst he;refine ⟨_,rfl,Go.Am.post_of_below (pa := p) (pv := []) hW' (fun _ _ _ => trodAll_mk1 (shut_bool Tryz.underlying4 _)) (fun sp hsp => ?_) (fun _ _ => rfl) (by simp) hb (ok_one (by kernel_rfl) rfl (okWide_bool_mk Tryz.underlying4 _))⟩;exact UO kids full hb (by rw [Tryz.params6]; decide) hA0 hlt hsp
abbrev knowledgeUniverseArgs : Array Value := #[.slice none 0 0,.agg #[.int .i64 0,.string ⟨#[]⟩,.int .i64 0,.slice none 0 0]]
theorem knowledgeUniverse_reads (os : Os) {H : Type} (enc : TypeId × Value → H) : ∃ places,DataW.whole enc Tryz.prog ((World.laidAll Tryz.prog os RA).forCall (fun _ _ => 0) ⟨#[],knowledgeUniverseArgs,[]⟩).memory Tryz.f6.params.toList Rows.knowledgeUniverseSpec.vars false knowledgeUniverseArgs.toList 8 =
  some ([.nil,.agg [.lit (.int .i64 0),.lit (.string []),.lit (.int .i64 0),.nil]],[],places) := ⟨[],by kernel_rfl⟩
set_option maxRecDepth 100000 in
theorem knowledgeUniverse_lifted (os : Os) (started : os.Started) (H : Type) (enc : TypeId × Value → H) (F : Stop.Interp) :
  ReturnsInHanded {} Tryz.checked os 6 .any ((OpenSpec.ofChange Rows.knowledgeUniverseSpec).preRow enc Tryz.prog Tryz.f6 Rows.knowledgeUniverseRow.domain false Rows.knowledgeUniverseRow.laid) (((OpenSpec.ofChange Rows.knowledgeUniverseSpec).at F).post enc Tryz.prog Tryz.f6 false true false false) := by
 obtain ⟨places,hx⟩ := knowledgeUniverse_reads os enc;refine returnsInHanded_of_row (C := Tryz.checked) (s := OpenSpec.ofChange Rows.knowledgeUniverseSpec) own started (by kernel_rfl) Tryz.func6
  (witness_row_at (enc := enc) (C := Tryz.checked) false (World.laidAll Tryz.prog os RA) knowledgeUniverseArgs (World.laidAll_os _ _ _) (by kernel_rfl) (by kernel_rfl) (by kernel_rfl)
   (OpenSpec.preRow_of_cond 8 hx (by kernel_rfl) (fun k hk => by cases hk) (by kernel_rfl) (Mv os _))) ?_
 intro W base args ds gs before hval hW _ _ hsz hL _ _;exact knowledgeUniverse_contract H enc W base args ds gs before hval hW hsz hL
theorem knowledgeUniverse_named : Tryz.pinned.checked.prog.funcNamed Rows.knowledgeUniverseRow.func = some 6 := by kernel_rfl
theorem knowledgeUniverse_closed : joinedFacts Tryz.pinned.checked.prog 6 Tryz.f6 (OpenSpec.ofChange Rows.knowledgeUniverseSpec).bare Rows.knowledgeUniverseRow = true := by kernel_rfl
theorem knowledgeUniverse_inst : Tryz.f6.isInstance Tryz.pinned.checked.prog Rows.knowledgeUniverseRow.origin Rows.knowledgeUniverseRow.targs := of_decide_eq_true (by kernel_rfl)
theorem knowledgeUniverse_wrap : Tryz.f6.isWrapper Tryz.pinned.checked.prog Rows.knowledgeUniverseRow.wrapper Rows.knowledgeUniverseRow.mainSum := by unfold Func.isWrapper; first | (rw [if_pos (by decide +kernel)]; kernel_rfl) | (rw [if_neg (by decide +kernel)]; exact ⟨rfl,rfl⟩)
theorem knowledgeUniverse_said : Rows.KnowledgeUniverseSaid :=
 OpenClaim.holds_of_cond 6 Tryz.f6 rfl rfl rfl rfl rfl rfl rfl ⟨rfl,rfl,rfl,rfl,rfl⟩ rfl rfl rfl rfl rfl knowledgeUniverse_named Tryz.func6 knowledgeUniverse_closed knowledgeUniverse_inst knowledgeUniverse_wrap
  (fun os started H enc _ F => by rw [OpenClaim.pre_eq_preRow]; exact knowledgeUniverse_lifted os started H enc F)
theorem knowledgeUniverse_plain (f : FuncId) (fn : Func) (hf : Tryz.pinned.checked.prog.funcNamed "sealring/sealringlaw10.KnowledgeUniverse" = some f) (hfn : Tryz.pinned.checked.prog.funcs[f]? = some fn) :
  false = Tryz.pinned.checked.prog.looks [] ∧ ∀ (j : Nat) t,fn.params[j]? = some t → Tryz.pinned.checked.prog.wantsStandIn t = false := by
 obtain rfl : f = 6 := Option.some.inj ((show Tryz.prog.funcNamed "sealring/sealringlaw10.KnowledgeUniverse" = some 6 by kernel_rfl).symm.trans hf) |>.symm;obtain rfl : fn = Tryz.f6 := (Option.some.inj (Tryz.func6.symm.trans hfn)).symm;refine ⟨by kernel_rfl,fun j t ht => ?_⟩;rw [Tryz.params6] at ht;have hm : t ∈ [22,24] := by simpa using Array.mem_of_getElem? ht
 have hall : ([22,24].all fun u => !Tryz.prog.wantsStandIn u) = true := by kernel_rfl
 exact (show Tryz.prog.wantsStandIn t = false by simpa using List.all_eq_true.1 hall t hm)
theorem knowledgeUniverse_card : Rows.KnowledgeUniverseCardSaid :=
 Claim7.holds_tied_plain_at .later [] _ _ _ _ knowledgeUniverse_said (fun _ h => by cases h) (by kernel_rfl) (fun _ h => by cases h) knowledgeUniverse_row_tie rfl ⟨rfl,rfl⟩ (by kernel_rfl) rfl knowledgeUniverse_plain (by kernel_rfl)
#print axioms knowledgeUniverse_card
end Go.Proofs.YtgjaamacjmjjcaaGreatDoor
