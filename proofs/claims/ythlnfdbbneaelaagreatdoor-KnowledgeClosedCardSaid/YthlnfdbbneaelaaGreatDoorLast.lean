/-
  KnowledgeClosed is true of every list of descriptions, description and number: the row, and its tied card.
  Conditions: none beyond the given row's own cells.
-/
import Derived.Test.YthlnfdbbneaelaaGreatDoorG08
import Derived.Test.YthlnfdbbneaelaaGreatDoorG16
import Derived.Test.YthlnfdbbneaelaaGreatDoorG27
import Derived.Test.YthlnfdbbneaelaaGreatDoorG43
import Derived.Test.YthlnfdbbneaelaaGreatDoorCheck
set_option linter.all false
namespace Go.Proofs.YthlnfdbbneaelaaGreatDoor
open Go.Am Go.RowKit Go.ChangeShapes Go.WideShapes
open Go.ChangeMaps (open_string shut_string)
attribute [local instance] Go.Am.Chk.drF
set_option maxRecDepth 100000 in
theorem knowledgeClosed_contract (H : Type) (enc : TypeId × Value → H) (W : World) (base : Nat) (args : Array Value) (ds gs : List (DataW H)) (before : List MemPlace)
  (hval : ∀ (j : Nat) t v,Tryz.f3.params[j]? = some t → args[j]? = some v → Value.okWide Tryz.prog W .any base t v)
  (hW : DataW.Whole enc Tryz.prog Tryz.f3.params.toList Rows.knowledgeClosedSpec.vars false W args.toList ds gs before)
  (hsz : (DataW.weightsEach Tryz.prog (Tryz.f3.params.toList ++ Rows.knowledgeClosedSpec.plain.varTypes Tryz.prog) (ds ++ gs)).all (· ≤ reachBytes) = true)
  (hL : laidMetH Tryz.prog Rows.knowledgeClosedRow.laid W) :
  Calls Tryz.prog 3 args W fun e W' => ∃ v,e = .returned v ∧ Rows.knowledgeClosedSpec.post enc Tryz.prog Tryz.f3 false true false false W args v W' := by
 have hW' := hW;have hlt : ∀ p ∈ before,p.block < W.heap.size := fun p hp => hW.lt p hp;obtain ⟨p,q,hA0,hV,rfl,hfz,hnd⟩ := hW;have hA : DataW.TrodAll enc Tryz.prog W 0 (fun _ => true) true Tryz.f3.params.toList args.toList ds p := hA0;obtain ⟨rfl,rfl⟩ := trodVars_none hV;rw [Tryz.params3] at hA hval hsz;obtain ⟨v0,v1,v2,d0,d1,d2,p0,p1,p2,rfl,rfl,hpp,h0,h1,h2⟩ := trodAll_three hA;simp only [List.append_nil] at hW' hlt hsz;have hwt0 : ∀ n ∈ d0.weights Tryz.prog 22,n ≤ reachBytes := fun n hn => by
  have := List.all_eq_true.1 hsz n (DataW.weights_mem_each (j := 0) (t := 22) (d := d0) rfl rfl n hn);simpa using this
 obtain ⟨n0,xs0,k0,r0⟩ := EQ (num := Chk.num) Qep (t := 22) (by decide) Tryz.underlying22 (hval 0 22 v0 rfl rfl) h0 hwt0;obtain ⟨a0,ha0,b0,c0⟩ := Qj7 k0;rw [show AV.sl false _ xs0 = _ from List.head_eq_of_cons_eq ha0] at r0;have hwt1 : ∀ n ∈ d1.weights Tryz.prog 23,n ≤ reachBytes := fun n hn => by
  have := List.all_eq_true.1 hsz n (DataW.weights_mem_each (j := 1) (t := 23) (d := d1) rfl rfl n hn);simpa using this
 obtain ⟨n1,xs1,k1,r1⟩ := EQ (num := Chk.num) Qep (t := 23) (by decide) Tryz.underlying23 (hval 1 23 v1 rfl rfl) h1 hwt1;obtain ⟨a1,ha1,b1,c1⟩ := Dx k1;rw [show AV.sl false _ xs1 = _ from List.head_eq_of_cons_eq ha1] at r1;obtain ⟨y2,rfl,rfl,rfl,hwf2⟩ := open_int Tryz.underlying5 (hval 2 5 v2 rfl rfl) h2;obtain ⟨a2,rfl,b2⟩ := QnF hwf2;unfold reachBytes at *;have hc := Ja a0 a1 a2 QgJ (by omega) c0 c1 b2;refine (QfM Chk.fits (show Chk.num 733 = some 3 from rfl) rfl rfl (fun i c hi => ?_) hc).mono fun e W' ⟨he,hb⟩ => ?_
 ·match i,hi with
  | 0,hi => injection hi with hi; subst hi; exact ⟨_,rfl,r0⟩
  | 1,hi => injection hi with hi; subst hi; exact ⟨_,rfl,r1⟩
  | 2,hi => injection hi with hi; subst hi; exact ⟨.int .u8 a2,rfl,by simp only [Qh]⟩
 ·subst he;refine ⟨_,rfl,Go.Am.post_of_below (pa := p) (pv := []) hW' (fun _ _ _ => trodAll_mk1 (shut_bool Tryz.underlying4 _)) (fun sp hsp => ?_) (fun _ _ => rfl) (by simp) hb (ok_one (by kernel_rfl) rfl (okWide_bool_mk Tryz.underlying4 _))⟩;exact K7 kids full hb (by rw [Tryz.params3]; decide) hA0 hlt hsp
abbrev knowledgeClosedArgs : Array Value := #[.slice none 0 0,.slice none 0 0,.int .u8 0]
theorem knowledgeClosed_reads (os : Os) {H : Type} (enc : TypeId × Value → H) : ∃ places,DataW.whole enc Tryz.prog ((World.laidAll Tryz.prog os D9).forCall (fun _ _ => 0) ⟨#[],knowledgeClosedArgs,[]⟩).memory Tryz.f3.params.toList Rows.knowledgeClosedSpec.vars false knowledgeClosedArgs.toList 8 =
  some ([.nil,.nil,.lit (.int .u8 0)],[],places) := ⟨[],by kernel_rfl⟩
set_option maxRecDepth 100000 in
theorem knowledgeClosed_lifted (os : Os) (started : os.Started) (H : Type) (enc : TypeId × Value → H) (F : Stop.Interp) :
  ReturnsInHanded {} Tryz.checked os 3 .any ((OpenSpec.ofChange Rows.knowledgeClosedSpec).preRow enc Tryz.prog Tryz.f3 Rows.knowledgeClosedRow.domain false Rows.knowledgeClosedRow.laid) (((OpenSpec.ofChange Rows.knowledgeClosedSpec).at F).post enc Tryz.prog Tryz.f3 false true false false) := by
 obtain ⟨places,hx⟩ := knowledgeClosed_reads os enc;refine returnsInHanded_of_row (C := Tryz.checked) (s := OpenSpec.ofChange Rows.knowledgeClosedSpec) own started (by kernel_rfl) Tryz.func3
  (witness_row_at (enc := enc) (C := Tryz.checked) false (World.laidAll Tryz.prog os D9) knowledgeClosedArgs (World.laidAll_os _ _ _) (by kernel_rfl) (by kernel_rfl) (by kernel_rfl)
   (OpenSpec.preRow_of_cond 8 hx (by kernel_rfl) (fun k hk => by cases hk) (by kernel_rfl) (Qlt os _))) ?_
 intro W base args ds gs before hval hW _ _ hsz hL hSh _;exact knowledgeClosed_contract H enc W base args ds gs before hval hW hsz hL
theorem knowledgeClosed_named : Tryz.pinned.checked.prog.funcNamed Rows.knowledgeClosedRow.func = some 3 := by kernel_rfl
theorem knowledgeClosed_closed : joinedFacts Tryz.pinned.checked.prog 3 Tryz.f3 (OpenSpec.ofChange Rows.knowledgeClosedSpec).bare Rows.knowledgeClosedRow = true := by kernel_rfl
theorem knowledgeClosed_inst : Tryz.f3.isInstance Tryz.pinned.checked.prog Rows.knowledgeClosedRow.origin Rows.knowledgeClosedRow.targs := of_decide_eq_true (by kernel_rfl)
theorem knowledgeClosed_wrap : Tryz.f3.isWrapper Tryz.pinned.checked.prog Rows.knowledgeClosedRow.wrapper Rows.knowledgeClosedRow.mainSum := by unfold Func.isWrapper; first | (rw [if_pos (by decide +kernel)]; kernel_rfl) | (rw [if_neg (by decide +kernel)]; exact ⟨rfl,rfl⟩)
theorem knowledgeClosed_said : Rows.KnowledgeClosedSaid :=
 OpenClaim.holds_of_cond 3 Tryz.f3 rfl rfl rfl rfl rfl rfl rfl ⟨rfl,rfl,rfl,rfl,rfl⟩ rfl rfl rfl rfl rfl knowledgeClosed_named Tryz.func3 knowledgeClosed_closed knowledgeClosed_inst knowledgeClosed_wrap
  (fun os started H enc _ F => by rw [OpenClaim.pre_eq_preRow]; exact knowledgeClosed_lifted os started H enc F)
theorem knowledgeClosed_plain (f : FuncId) (fn : Func) (hf : Tryz.pinned.checked.prog.funcNamed "sealring/sealringlaw10.KnowledgeClosed" = some f) (hfn : Tryz.pinned.checked.prog.funcs[f]? = some fn) :
  false = Tryz.pinned.checked.prog.looks [] ∧ ∀ (j : Nat) t,fn.params[j]? = some t → Tryz.pinned.checked.prog.wantsStandIn t = false := by
 obtain rfl : f = 3 := Option.some.inj ((show Tryz.prog.funcNamed "sealring/sealringlaw10.KnowledgeClosed" = some 3 by kernel_rfl).symm.trans hf) |>.symm;obtain rfl : fn = Tryz.f3 := (Option.some.inj (Tryz.func3.symm.trans hfn)).symm;refine ⟨by kernel_rfl,fun j t ht => ?_⟩;rw [Tryz.params3] at ht;have hm : t ∈ [22,23,5] := by simpa using Array.mem_of_getElem? ht
 have hall : ([22,23,5].all fun u => !Tryz.prog.wantsStandIn u) = true := by kernel_rfl
 exact (show Tryz.prog.wantsStandIn t = false by simpa using List.all_eq_true.1 hall t hm)
theorem knowledgeClosed_card : Rows.KnowledgeClosedCardSaid :=
 Claim7.holds_tied_plain_at .later [] _ _ _ _ knowledgeClosed_said (fun _ h => by cases h) (by kernel_rfl) (fun _ h => by cases h) knowledgeClosed_row_tie rfl ⟨rfl,rfl⟩ (by kernel_rfl) rfl knowledgeClosed_plain (by kernel_rfl)
#print axioms knowledgeClosed_card
end Go.Proofs.YthlnfdbbneaelaaGreatDoor
