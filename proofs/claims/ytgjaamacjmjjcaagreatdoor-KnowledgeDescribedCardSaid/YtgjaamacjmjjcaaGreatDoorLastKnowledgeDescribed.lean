/-
  KnowledgeDescribed is true of every list of descriptions, description and flag: the row, and its tied card.
  Conditions: none beyond the given row's own cells.
-/
import Derived.Test.YtgjaamacjmjjcaaGreatDoorG08
import Derived.Test.YtgjaamacjmjjcaaGreatDoorG17
import Derived.Test.YtgjaamacjmjjcaaGreatDoorG42
import Derived.Test.YtgjaamacjmjjcaaGreatDoorG36
import Derived.Test.YtgjaamacjmjjcaaGreatDoorCheck
set_option linter.all false
namespace Go.Proofs.YtgjaamacjmjjcaaGreatDoor
open Go.Am Go.RowKit Go.ChangeShapes Go.WideShapes
open Go.ChangeMaps (open_string shut_string)
attribute [local instance] Go.Am.Chk.drF
set_option maxRecDepth 100000 in
theorem knowledgeDescribed_contract (H : Type) (enc : TypeId × Value → H) (W : World) (base : Nat) (args : Array Value) (ds gs : List (DataW H)) (before : List MemPlace)
  (hval : ∀ (j : Nat) t v,Tryz.f4.params[j]? = some t → args[j]? = some v → Value.okWide Tryz.prog W .any base t v)
  (hW : DataW.Whole enc Tryz.prog Tryz.f4.params.toList Rows.knowledgeDescribedSpec.vars false W args.toList ds gs before)
  (hsz : (DataW.weightsEach Tryz.prog (Tryz.f4.params.toList ++ Rows.knowledgeDescribedSpec.plain.varTypes Tryz.prog) (ds ++ gs)).all (· ≤ reachBytes) = true)
  (hL : laidMetH Tryz.prog Rows.knowledgeDescribedRow.laid W) :
  Calls Tryz.prog 4 args W fun e W' => ∃ v,e = .returned v ∧ Rows.knowledgeDescribedSpec.post enc Tryz.prog Tryz.f4 false true false false W args v W' := by
 have hW' := hW;have hlt : ∀ p ∈ before,p.block < W.heap.size := fun p hp => hW.lt p hp;obtain ⟨p,q,hA0,hV,rfl,hfz,hnd⟩ := hW;have hA : DataW.TrodAll enc Tryz.prog W 0 (fun _ => true) true Tryz.f4.params.toList args.toList ds p := hA0;obtain ⟨rfl,rfl⟩ := trodVars_none hV;rw [Tryz.params4] at hA hval hsz;obtain ⟨v0,v1,v2,d0,d1,d2,p0,p1,p2,rfl,rfl,hpp,h0,h1,h2⟩ := trodAll_three hA;simp only [List.append_nil] at hW' hlt hsz;have hwt0 : ∀ n ∈ d0.weights Tryz.prog 34,n ≤ reachBytes := fun n hn => by
  have := List.all_eq_true.1 hsz n (DataW.weights_mem_each (j := 0) (t := 34) (d := d0) rfl rfl n hn);simpa using this
 obtain ⟨n0,xs0,k0,r0⟩ := TB (num := Chk.num) Sk (t := 34) (by decide) Tryz.underlying34 (hval 0 34 v0 rfl rfl) h0 hwt0;obtain ⟨a0,ha0,b0,c0⟩ := Qki k0;rw [show AV.sl false _ xs0 = _ from List.head_eq_of_cons_eq ha0] at r0;have hwt1 : ∀ n ∈ d1.weights Tryz.prog 35,n ≤ reachBytes := fun n hn => by
  have := List.all_eq_true.1 hsz n (DataW.weights_mem_each (j := 1) (t := 35) (d := d1) rfl rfl n hn);simpa using this
 obtain ⟨n1,xs1,k1,r1⟩ := TB (num := Chk.num) Sk (t := 35) (by decide) Tryz.underlying35 (hval 1 35 v1 rfl rfl) h1 hwt1;obtain ⟨a1,ha1,b1,c1⟩ := Ca k1;rw [show AV.sl false _ xs1 = _ from List.head_eq_of_cons_eq ha1] at r1;obtain ⟨a2,rfl,rfl,rfl⟩ := open_bool Tryz.underlying4 (hval 2 4 v2 rfl rfl) h2;unfold reachBytes at *;have hc := Lv a0 a1 a2 O0 (by omega) c0 c1;refine (P5 Chk.fits (show Chk.num 619 = some 4 from rfl) rfl rfl (fun i c hi => ?_) hc).mono fun e W' ⟨he,hb⟩ => ?_
 ·match i,hi with
  | 0,hi => injection hi with hi; subst hi; exact ⟨_,rfl,r0⟩
  | 1,hi => injection hi with hi; subst hi; exact ⟨_,rfl,r1⟩
  | 2,hi => injection hi with hi; subst hi; exact ⟨.bool a2,rfl,by simp only [Qi]⟩
 ·subst he;refine ⟨_,rfl,Go.Am.post_of_below (pa := p) (pv := []) hW' (fun _ _ _ => trodAll_mk1 (shut_bool Tryz.underlying4 _)) (fun sp hsp => ?_) (fun _ _ => rfl) (by simp) hb (ok_one (by kernel_rfl) rfl (okWide_bool_mk Tryz.underlying4 _))⟩;exact UO kids full hb (by rw [Tryz.params4]; decide) hA0 hlt hsp
abbrev knowledgeDescribedArgs : Array Value := #[.slice none 0 0,.slice none 0 0,.bool false]
theorem knowledgeDescribed_reads (os : Os) {H : Type} (enc : TypeId × Value → H) : ∃ places,DataW.whole enc Tryz.prog ((World.laidAll Tryz.prog os RA).forCall (fun _ _ => 0) ⟨#[],knowledgeDescribedArgs,[]⟩).memory Tryz.f4.params.toList Rows.knowledgeDescribedSpec.vars false knowledgeDescribedArgs.toList 8 =
  some ([.nil,.nil,.lit (.bool false)],[],places) := ⟨[],by kernel_rfl⟩
set_option maxRecDepth 100000 in
theorem knowledgeDescribed_lifted (os : Os) (started : os.Started) (H : Type) (enc : TypeId × Value → H) (F : Stop.Interp) :
  ReturnsInHanded {} Tryz.checked os 4 .any ((OpenSpec.ofChange Rows.knowledgeDescribedSpec).preRow enc Tryz.prog Tryz.f4 Rows.knowledgeDescribedRow.domain false Rows.knowledgeDescribedRow.laid) (((OpenSpec.ofChange Rows.knowledgeDescribedSpec).at F).post enc Tryz.prog Tryz.f4 false true false false) := by
 obtain ⟨places,hx⟩ := knowledgeDescribed_reads os enc;refine returnsInHanded_of_row (C := Tryz.checked) (s := OpenSpec.ofChange Rows.knowledgeDescribedSpec) own started (by kernel_rfl) Tryz.func4
  (witness_row_at (enc := enc) (C := Tryz.checked) false (World.laidAll Tryz.prog os RA) knowledgeDescribedArgs (World.laidAll_os _ _ _) (by kernel_rfl) (by kernel_rfl) (by kernel_rfl)
   (OpenSpec.preRow_of_cond 8 hx (by kernel_rfl) (fun k hk => by cases hk) (by kernel_rfl) (Mv os _))) ?_
 intro W base args ds gs before hval hW _ _ hsz hL _ _;exact knowledgeDescribed_contract H enc W base args ds gs before hval hW hsz hL
theorem knowledgeDescribed_named : Tryz.pinned.checked.prog.funcNamed Rows.knowledgeDescribedRow.func = some 4 := by kernel_rfl
theorem knowledgeDescribed_closed : joinedFacts Tryz.pinned.checked.prog 4 Tryz.f4 (OpenSpec.ofChange Rows.knowledgeDescribedSpec).bare Rows.knowledgeDescribedRow = true := by kernel_rfl
theorem knowledgeDescribed_inst : Tryz.f4.isInstance Tryz.pinned.checked.prog Rows.knowledgeDescribedRow.origin Rows.knowledgeDescribedRow.targs := of_decide_eq_true (by kernel_rfl)
theorem knowledgeDescribed_wrap : Tryz.f4.isWrapper Tryz.pinned.checked.prog Rows.knowledgeDescribedRow.wrapper Rows.knowledgeDescribedRow.mainSum := by unfold Func.isWrapper; first | (rw [if_pos (by decide +kernel)]; kernel_rfl) | (rw [if_neg (by decide +kernel)]; exact ⟨rfl,rfl⟩)
theorem knowledgeDescribed_said : Rows.KnowledgeDescribedSaid :=
 OpenClaim.holds_of_cond 4 Tryz.f4 rfl rfl rfl rfl rfl rfl rfl ⟨rfl,rfl,rfl,rfl,rfl⟩ rfl rfl rfl rfl rfl knowledgeDescribed_named Tryz.func4 knowledgeDescribed_closed knowledgeDescribed_inst knowledgeDescribed_wrap
  (fun os started H enc _ F => by rw [OpenClaim.pre_eq_preRow]; exact knowledgeDescribed_lifted os started H enc F)
theorem knowledgeDescribed_plain (f : FuncId) (fn : Func) (hf : Tryz.pinned.checked.prog.funcNamed "sealring/sealringlaw10.KnowledgeDescribed" = some f) (hfn : Tryz.pinned.checked.prog.funcs[f]? = some fn) :
  false = Tryz.pinned.checked.prog.looks [] ∧ ∀ (j : Nat) t,fn.params[j]? = some t → Tryz.pinned.checked.prog.wantsStandIn t = false := by
 obtain rfl : f = 4 := Option.some.inj ((show Tryz.prog.funcNamed "sealring/sealringlaw10.KnowledgeDescribed" = some 4 by kernel_rfl).symm.trans hf) |>.symm;obtain rfl : fn = Tryz.f4 := (Option.some.inj (Tryz.func4.symm.trans hfn)).symm;refine ⟨by kernel_rfl,fun j t ht => ?_⟩;rw [Tryz.params4] at ht;have hm : t ∈ [34,35,4] := by simpa using Array.mem_of_getElem? ht
 have hall : ([34,35,4].all fun u => !Tryz.prog.wantsStandIn u) = true := by kernel_rfl
 exact (show Tryz.prog.wantsStandIn t = false by simpa using List.all_eq_true.1 hall t hm)
theorem knowledgeDescribed_card : Rows.KnowledgeDescribedCardSaid :=
 Claim7.holds_tied_plain_at .later [] _ _ _ _ knowledgeDescribed_said (fun _ h => by cases h) (by kernel_rfl) (fun _ h => by cases h) knowledgeDescribed_row_tie rfl ⟨rfl,rfl⟩ (by kernel_rfl) rfl knowledgeDescribed_plain (by kernel_rfl)
#print axioms knowledgeDescribed_card
end Go.Proofs.YtgjaamacjmjjcaaGreatDoor
