/-
  ProofChecks is true of every list of terms and list of steps: the row, and its tied card.
  Conditions: none beyond the given row's own cells.
-/
import Derived.Test.YthagbooipdejlaaGreatDoorG11
import Derived.Test.YthagbooipdejlaaGreatDoorG24
import Derived.Test.YthagbooipdejlaaGreatDoorG25
import Derived.Test.YthagbooipdejlaaGreatDoorG43
import Derived.Deep.DeepWitnessRowRef
import Derived.Test.YthagbooipdejlaaGreatDoorCheck
set_option linter.all false
namespace Go.Proofs.YthagbooipdejlaaGreatDoor
open Go.Am Go.RowKit Go.ChangeShapes Go.WideShapes
open Go.ChangeMaps (open_string shut_string)
attribute [local instance] Go.Am.Chk.drF
set_option maxRecDepth 100000 in
theorem proofChecks_contract (H : Type) (enc : TypeId × Value → H) (W : World) (base : Nat) (args : Array Value) (ds gs : List (DataW H)) (before : List MemPlace)
  (hval : ∀ (j : Nat) t v,Tryz.f3.params[j]? = some t → args[j]? = some v → Value.okWide Tryz.prog W .any base t v)
  (hW : DataW.Whole enc Tryz.prog Tryz.f3.params.toList Rows.proofChecksSpec.vars false W args.toList ds gs before)
  (hsz : (DataW.weightsEach Tryz.prog (Tryz.f3.params.toList ++ Rows.proofChecksSpec.plain.varTypes Tryz.prog) (ds ++ gs)).all (· ≤ reachBytes) = true)
  (hL : laidMetH Tryz.prog Rows.proofChecksRow.laid W) (hSh : W.ShapedOpen Tryz.prog) :
  Calls Tryz.prog 3 args W fun e W' => ∃ v,e = .returned v ∧ Rows.proofChecksSpec.post enc Tryz.prog Tryz.f3 false true false false W args v W' := by
 have hW' := hW;have hlt : ∀ p ∈ before,p.block < W.heap.size := fun p hp => hW.lt p hp;obtain ⟨p,q,hA0,hV,rfl,hfz,hnd⟩ := hW;have hA : DataW.TrodAll enc Tryz.prog W 0 (fun _ => true) true Tryz.f3.params.toList args.toList ds p := hA0;obtain ⟨rfl,rfl⟩ := trodVars_none hV;rw [Tryz.params3] at hA hval hsz;obtain ⟨v0,v1,v2,d0,d1,d2,p0,p1,p2,rfl,rfl,hpp,h0,h1,h2⟩ := trodAll_three hA;simp only [List.append_nil] at hW' hlt hsz;have hG := QaG (show laidMet Tryz.prog NF W from hL) hSh;have hwt0 : ∀ n ∈ d0.weights Tryz.prog 22,n ≤ reachBytes := fun n hn => by
  have := List.all_eq_true.1 hsz n (DataW.weights_mem_each (j := 0) (t := 22) (d := d0) rfl rfl n hn);simpa using this
 obtain ⟨n0,xs0,k0,r0⟩ := IY (num := Chk.num) IP (t := 22) (by decide) Tryz.underlying22 (hval 0 22 v0 rfl rfl) h0 hwt0;obtain ⟨a0,ha0,b0⟩ := QeE k0;rw [show AV.sl false _ xs0 = _ from List.head_eq_of_cons_eq ha0] at r0;have hwt1 : ∀ n ∈ d1.weights Tryz.prog 23,n ≤ reachBytes := fun n hn => by
  have := List.all_eq_true.1 hsz n (DataW.weights_mem_each (j := 1) (t := 23) (d := d1) rfl rfl n hn);simpa using this
 obtain ⟨n1,xs1,k1,r1⟩ := IY (num := Chk.num) IP (t := 23) (by decide) Tryz.underlying23 (hval 1 23 v1 rfl rfl) h1 hwt1;obtain ⟨a1,ha1,b1,c1⟩ := QgM k1;rw [show AV.sl false _ xs1 = _ from List.head_eq_of_cons_eq ha1] at r1;have hwt2 : ∀ n ∈ d2.weights Tryz.prog 25,n ≤ reachBytes := fun n hn => by
  have := List.all_eq_true.1 hsz n (DataW.weights_mem_each (j := 2) (t := 25) (d := d2) rfl rfl n hn);simpa using this
 obtain ⟨n2,avs2,k2,r2⟩ := A0 (num := Chk.num) IP (t := 25) (by decide) Tryz.underlying25 (hval 2 25 v2 rfl rfl) h2 hwt2;obtain ⟨a2,rfl⟩ := KH n2 _ k2;unfold reachBytes at *;have hc := JQ a0 a1 a2 Qbr (by omega) (fun d hd => ⟨by have := (c1 d hd).1; omega,by have := (c1 d hd).2; omega⟩);refine (QaH Chk.fits (show Chk.num 699 = some 3 from rfl) hG rfl rfl (fun i c hi => ?_) hc).mono fun e W' ⟨he,hb⟩ => ?_
 ·match i,hi with
  | 0,hi => injection hi with hi; subst hi; exact ⟨_,rfl,r0⟩
  | 1,hi => injection hi with hi; subst hi; exact ⟨_,rfl,r1⟩
  | 2,hi => injection hi with hi; subst hi; exact ⟨_,rfl,r2⟩
 ·subst he;refine ⟨_,rfl,Go.Am.post_of_below (pa := p) (pv := []) hW' (fun _ _ _ => trodAll_mk1 (shut_bool Tryz.underlying4 _)) (fun sp hsp => ?_) (fun _ _ => rfl) (by simp) hb (ok_one (by kernel_rfl) rfl (okWide_bool_mk Tryz.underlying4 _))⟩;exact Mc kids full hb (by rw [Tryz.params3]; decide) hA0 hlt hsp
abbrev proofChecksArgs : Array Value := #[.slice none 0 0,.slice none 0 0,.agg #[.int .i64 0,.string ⟨#[]⟩,.int .i64 0,.slice none 0 0]]
theorem proofChecks_reads (os : Os) {H : Type} (enc : TypeId × Value → H) : ∃ places,DataW.whole enc Tryz.prog ((World.laidAll Tryz.prog os NF).forCall (fun _ _ => 0) ⟨#[],proofChecksArgs,[]⟩).memory Tryz.f3.params.toList Rows.proofChecksSpec.vars false proofChecksArgs.toList 8 =
  some ([.nil,.nil,.agg [.lit (.int .i64 0),.lit (.string []),.lit (.int .i64 0),.nil]],[],places) := ⟨[],by kernel_rfl⟩
set_option maxRecDepth 100000 in
theorem proofChecks_lifted (os : Os) (started : os.Started) (H : Type) (enc : TypeId × Value → H) (F : Stop.Interp) :
  ReturnsInHanded {} Tryz.checked os 3 .any ((OpenSpec.ofChange Rows.proofChecksSpec).preRow enc Tryz.prog Tryz.f3 Rows.proofChecksRow.domain false Rows.proofChecksRow.laid) (((OpenSpec.ofChange Rows.proofChecksSpec).at F).post enc Tryz.prog Tryz.f3 false true false false) := by
 obtain ⟨places,hx⟩ := proofChecks_reads os enc;refine returnsInHanded_of_row (C := Tryz.checked) (s := OpenSpec.ofChange Rows.proofChecksSpec) own started (by kernel_rfl) Tryz.func3
  (witness_row_atRef (enc := enc) (C := Tryz.checked) false (World.laidAll Tryz.prog os NF) proofChecksArgs (World.laidAll_os _ _ _) (by kernel_rfl) (by kernel_rfl) (by kernel_rfl)
   (OpenSpec.preRow_of_cond 8 hx (by kernel_rfl) (fun k hk => by cases hk) (by kernel_rfl) (QfA os _))) ?_
 intro W base args ds gs before hval hW _ _ hsz hL hSh _;exact proofChecks_contract H enc W base args ds gs before hval hW hsz hL hSh
theorem proofChecks_named : Tryz.pinned.checked.prog.funcNamed Rows.proofChecksRow.func = some 3 := by kernel_rfl
theorem proofChecks_j0 : (Rows.proofChecksRow.wf (OpenSpec.ofChange (OpenSpec.ofChange Rows.proofChecksSpec).bare)) = true := by kernel_rfl
theorem proofChecks_j1 : (laidOutB Tryz.pinned.checked.prog) = true := by kernel_rfl
theorem proofChecks_j2 : (mapsRowed Tryz.pinned.checked.prog) = true := by kernel_rfl
theorem proofChecks_j3 : (Tryz.f3.params.all (Tryz.pinned.checked.prog.readableRec ·)) = true := by kernel_rfl
theorem proofChecks_j4 : (namedTie Tryz.pinned.checked.prog Rows.proofChecksRow.named (OpenSpec.ofChange Rows.proofChecksSpec).bare.vars) = true := by kernel_rfl
theorem proofChecks_j5 : (Rows.proofChecksRow.stops == []) = true := by kernel_rfl
theorem proofChecks_j6 : (Tryz.pinned.checked.prog.stops == []) = true := by kernel_rfl
theorem proofChecks_j7 : (Rows.proofChecksRow.knobs == []) = true := by kernel_rfl
theorem proofChecks_j8 : (Tryz.pinned.checked.prog.stopKnobs == []) = true := by kernel_rfl
theorem proofChecks_j9 : (Rows.proofChecksRow.inPlace == Tryz.pinned.checked.prog.inPlace 3) = true := by kernel_rfl
theorem proofChecks_j10 : (Rows.proofChecksRow.unfollowed == Tryz.pinned.checked.prog.unfollowed 3) = true := by kernel_rfl
theorem proofChecks_j11 : (Rows.proofChecksRow.recurses == Tryz.pinned.checked.prog.recurses 3) = true := by kernel_rfl
theorem proofChecks_j12 : (Rows.proofChecksRow.named == Tryz.pinned.checked.prog.varsNamed 3) = true := by kernel_rfl
theorem proofChecks_closed : joinedFacts Tryz.pinned.checked.prog 3 Tryz.f3 (OpenSpec.ofChange Rows.proofChecksSpec).bare Rows.proofChecksRow = true := QdS proofChecks_j0 proofChecks_j1 proofChecks_j2 proofChecks_j3 proofChecks_j4 proofChecks_j5 proofChecks_j6 proofChecks_j7 proofChecks_j8 proofChecks_j9 proofChecks_j10 proofChecks_j11 proofChecks_j12 (by kernel_rfl) (by kernel_rfl) (by kernel_rfl) (by kernel_rfl) (by kernel_rfl) (by kernel_rfl) (by kernel_rfl) (by kernel_rfl) (by kernel_rfl) (by kernel_rfl) (by kernel_rfl) (by kernel_rfl) (by kernel_rfl) (by kernel_rfl) (by kernel_rfl) (by kernel_rfl) (by kernel_rfl) (by kernel_rfl) (by kernel_rfl)
theorem proofChecks_inst : Tryz.f3.isInstance Tryz.pinned.checked.prog Rows.proofChecksRow.origin Rows.proofChecksRow.targs := of_decide_eq_true (by kernel_rfl)
theorem proofChecks_wrap : Tryz.f3.isWrapper Tryz.pinned.checked.prog Rows.proofChecksRow.wrapper Rows.proofChecksRow.mainSum := by unfold Func.isWrapper; first | (rw [if_pos (by decide +kernel)]; kernel_rfl) | (rw [if_neg (by decide +kernel)]; exact ⟨rfl,rfl⟩)
theorem proofChecks_said : Rows.ProofChecksSaid :=
 OpenClaim.holds_of_cond 3 Tryz.f3 rfl rfl rfl rfl rfl rfl rfl ⟨rfl,rfl,rfl,rfl,rfl⟩ rfl rfl rfl rfl rfl proofChecks_named Tryz.func3 proofChecks_closed proofChecks_inst proofChecks_wrap
  (fun os started H enc _ F => by rw [OpenClaim.pre_eq_preRow]; exact proofChecks_lifted os started H enc F)
theorem proofChecks_plain (f : FuncId) (fn : Func) (hf : Tryz.pinned.checked.prog.funcNamed "sealring/sealringlaw11.ProofChecks" = some f) (hfn : Tryz.pinned.checked.prog.funcs[f]? = some fn) :
  true = Tryz.pinned.checked.prog.looks [] ∧ ∀ (j : Nat) t,fn.params[j]? = some t → Tryz.pinned.checked.prog.wantsStandIn t = false := by
 obtain rfl : f = 3 := Option.some.inj ((show Tryz.prog.funcNamed "sealring/sealringlaw11.ProofChecks" = some 3 by kernel_rfl).symm.trans hf) |>.symm;obtain rfl : fn = Tryz.f3 := (Option.some.inj (Tryz.func3.symm.trans hfn)).symm;refine ⟨by kernel_rfl,fun j t ht => ?_⟩;rw [Tryz.params3] at ht;have hm : t ∈ [22,23,25] := by simpa using Array.mem_of_getElem? ht
 have hall : ([22,23,25].all fun u => !Tryz.prog.wantsStandIn u) = true := by kernel_rfl
 exact (show Tryz.prog.wantsStandIn t = false by simpa using List.all_eq_true.1 hall t hm)
theorem goes_none {P : Program} {c : OpenClaim} (h : P.funcs.any Func.goes = false) (hs : c.start = .entering) : false = c.goesBy P := by
  have h1 : ∀ g : Nat, (P.funcs[g]?).any Func.goes = false := by
    intro g
    cases hg : P.funcs[g]? with
    | none => rfl
    | some fn =>
      simp only [Option.any_some]
      cases hfn : Func.goes fn with
      | false => rfl
      | true =>
        rw [Array.any_eq_false] at h
        obtain ⟨hlt, he⟩ := Array.getElem?_eq_some_iff.1 hg
        have := h g hlt
        rw [he] at this
        exact absurd hfn this
  have h2 : ∀ f, P.goes f = false := by
    intro f
    unfold Program.goes
    rw [h, Bool.and_false, Bool.or_false]
    rw [List.any_eq_false]
    intro g _
    rw [h1 g]; simp
  unfold OpenClaim.goesBy Program.goesAt Program.goesFrom
  rw [hs]
  cases P.funcNamed c.func with
  | none => rfl
  | some f => simp [h2]
theorem proofChecks_cw : Rows.proofChecksRow.wfByText (OpenSpec.ofChange Rows.proofChecksSpec) = true := by kernel_rfl
theorem proofChecks_cg : false = Rows.proofChecksRow.goesBy Tryz.pinned.checked.prog := goes_none (by kernel_rfl) rfl
theorem proofChecks_card : Rows.ProofChecksCardSaid :=
 Claim7.holds_tied_plain_at .later [] _ _ _ _ proofChecks_said (fun _ h => by cases h) proofChecks_cw (fun _ h => by cases h) proofChecks_row_tie rfl ⟨rfl,rfl⟩ (by kernel_rfl) rfl proofChecks_plain proofChecks_cg
#print axioms proofChecks_card
end Go.Proofs.YthagbooipdejlaaGreatDoor
