/-
  TicketIssue is true of every server, name and time: the row, and its tied card.
  Conditions: none beyond the given row's own cells.
-/
import Derived.Test.YtdabongfphoilaaGreatDoorLaid
import Derived.Test.YtdabongfphoilaaGreatDoorRead
import Derived.Test.YtdabongfphoilaaGreatDoorPureG
import Derived.Test.YtdabongfphoilaaGreatDoorCheck
set_option linter.unusedVariables false
set_option linter.unusedSimpArgs false

namespace Go.Proofs.YtdabongfphoilaaGreatDoor
open Go.Am Go.RowKit Go.ChangeShapes Go.WideShapes
open Go.ChangeMaps (open_string shut_string)

theorem kids : Kids Tryz.prog (· < Tryz.prog.types.size) := kids_rows (by kernel_rfl) (by kernel_rfl)
theorem full : ∀ t e, t < Tryz.prog.types.size → Tryz.prog.underlying t = some (.slice e) → 0 < Tryz.prog.cellsOf e := slices_full_of Tryz.prog (by kernel_rfl)

set_option maxRecDepth 100000 in
theorem ticketIssue_contract (H : Type) (enc : TypeId × Value → H) (W : World) (base : Nat) (args : Array Value) (ds gs : List (DataW H)) (before : List MemPlace)
    (hval : ∀ (j : Nat) t v, Tryz.f4.params[j]? = some t → args[j]? = some v → Value.okWide Tryz.prog W .any base t v)
    (hW : DataW.Whole enc Tryz.prog Tryz.f4.params.toList Rows.ticketIssueSpec.vars false W args.toList ds gs before)
    (hsz : (DataW.weightsEach Tryz.prog (Tryz.f4.params.toList ++ Rows.ticketIssueSpec.plain.varTypes Tryz.prog) (ds ++ gs)).all (· ≤ reachBytes) = true)
    (hL : laidMetH Tryz.prog Rows.ticketIssueRow.laid W) :
    Calls Tryz.prog 4 args W fun e W' => ∃ v, e = .returned v ∧ Rows.ticketIssueSpec.post enc Tryz.prog Tryz.f4 false true false false W args v W' := by
  have hW' := hW
  have hlt : ∀ p ∈ before, p.block < W.heap.size := fun p hp => hW.lt p hp
  obtain ⟨p, q, hA0, hV, rfl, hfz, hnd⟩ := hW
  have hA : DataW.TrodAll enc Tryz.prog W 0 (fun _ => true) true Tryz.f4.params.toList args.toList ds p := hA0
  obtain ⟨rfl, rfl⟩ := trodVars_none hV
  rw [Tryz.params4] at hA hval hsz
  obtain ⟨v0, v1, v2, d0, d1, d2, p0, p1, p2, rfl, rfl, hpp, h0, h1, h2⟩ := trodAll_three hA
  simp only [List.append_nil] at hW' hlt hsz
  have hwt : ∀ n ∈ d0.weights Tryz.prog 25, n ≤ reachBytes := fun n hn => by
    have := List.all_eq_true.1 hsz n (DataW.weights_mem_each (j := 0) (t := 25) (d := d0) rfl rfl n hn)
    simpa using this
  have hG := laid_glob (show laidMet Tryz.prog laidL W from hL)
  obtain ⟨n, avs, k1, k2⟩ := arg_struct (num := Chk.num) tset_ok (t := 25) (by decide) Tryz.underlying25 (hval 0 25 v0 rfl rfl) h0 hwt
  obtain ⟨s, rfl, hroom⟩ := shp_srv k1
  obtain ⟨nm, rfl, rfl, rfl, hs⟩ := open_string Tryz.underlying9 (hval 1 9 v1 rfl rfl) h1
  obtain ⟨wd, rfl, rfl, rfl, _⟩ := open_int Tryz.underlying3 (hval 2 3 v2 rfl rfl) h2
  have hnm : nm.data.toList.length < 4611686018427387904 := by
    have := sized_string hsz (j := 1) (t := 9) rfl rfl
    unfold reachBytes at this; omega
  have hc := law_TicketIssue s nm.data.toList wd hroom hnm
  refine (law_calls Chk.fits (show Chk.num 113 = some 4 from rfl) hG rfl rfl (fun i c hi => ?_) hc).mono fun e W' ⟨he, hb⟩ => ?_
  · match i, hi with
    | 0, hi => injection hi with hi; subst hi; exact ⟨_, rfl, k2⟩
    | 1, hi => injection hi with hi; subst hi; exact ⟨_, rfl, by simp only [RepV]; simp⟩
    | 2, hi => injection hi with hi; subst hi; exact ⟨.int .i64 wd, rfl, by simp only [RepV]⟩
  · subst he
    refine ⟨_, rfl, Go.Am.post_of_below (pa := p) (pv := []) hW' (fun _ _ _ => trodAll_mk1 (shut_bool Tryz.underlying4 _)) (fun sp hsp => ?_) (fun _ _ => rfl) (by simp) hb (ok_one (by kernel_rfl) rfl (okWide_bool_mk Tryz.underlying4 _))⟩
    exact trodAll_below kids full hb (by rw [Tryz.params4]; decide) hA0 hlt hsp

/-- An input that fits. -/
abbrev issueArgs : Array Value := #[.agg #[.string ⟨#[]⟩, .int .i64 0, .slice none 0 0, .int .i64 0, .slice none 0 0, .int .i64 0, .int .i64 0], .string ⟨#[]⟩, .int .i64 0]

theorem ticketIssue_reads (os : Os) {H : Type} (enc : TypeId × Value → H) : ∃ places, DataW.whole enc Tryz.prog ((World.doorLaid Tryz.prog 2000 os).forCall (fun _ _ => 0) ⟨#[], issueArgs, []⟩).memory Tryz.f4.params.toList Rows.ticketIssueSpec.vars false issueArgs.toList 8 =
    some ([.agg [.lit (.string []), .lit (.int .i64 0), .nil, .lit (.int .i64 0), .nil, .lit (.int .i64 0), .lit (.int .i64 0)], .lit (.string []), .lit (.int .i64 0)], [], places) := ⟨[], by kernel_rfl⟩

set_option maxRecDepth 100000 in
theorem ticketIssue_lifted (os : Os) (started : os.Started) (H : Type) (enc : TypeId × Value → H) (F : Stop.Interp) :
    ReturnsInHanded {} Tryz.checked os 4 .any ((OpenSpec.ofChange Rows.ticketIssueSpec).preRow enc Tryz.prog Tryz.f4 Rows.ticketIssueRow.domain false Rows.ticketIssueRow.laid) (((OpenSpec.ofChange Rows.ticketIssueSpec).at F).post enc Tryz.prog Tryz.f4 false true false false) := by
  obtain ⟨places, hx⟩ := ticketIssue_reads os enc
  refine returnsInHanded_of_row (C := Tryz.checked) (s := OpenSpec.ofChange Rows.ticketIssueSpec) own started (by kernel_rfl) Tryz.func4
    (witness_row_at (enc := enc) (C := Tryz.checked) false (World.doorLaid Tryz.prog 2000 os) issueArgs rfl (by kernel_rfl) (by kernel_rfl) (by kernel_rfl)
      (OpenSpec.preRow_of_cond 8 hx (by kernel_rfl) (fun k hk => by cases hk) (by kernel_rfl) (door_met os _))) ?_
  intro W base args ds gs before hval hW _ _ hsz hL _ _
  exact ticketIssue_contract H enc W base args ds gs before hval hW hsz hL

theorem ticketIssue_said : Rows.TicketIssueSaid :=
  OpenClaim.holds_of_cond 4 Tryz.f4 rfl rfl rfl rfl rfl rfl rfl ⟨rfl, rfl, rfl, rfl, rfl⟩ rfl rfl rfl rfl rfl (by kernel_rfl) Tryz.func4 (by kernel_rfl)
    (of_decide_eq_true (by kernel_rfl)) (by unfold Func.isWrapper; first | (rw [if_pos (by decide +kernel)]; kernel_rfl) | (rw [if_neg (by decide +kernel)]; exact ⟨rfl, rfl⟩))
    (fun os started H enc _ F => by rw [OpenClaim.pre_eq_preRow]; exact ticketIssue_lifted os started H enc F)

theorem ticketIssue_plain (f : FuncId) (fn : Func) (hf : Tryz.pinned.checked.prog.funcNamed "sealring/sealringlaw54.TicketIssue" = some f) (hfn : Tryz.pinned.checked.prog.funcs[f]? = some fn) :
    true = Tryz.pinned.checked.prog.looks [] ∧ ∀ (j : Nat) t, fn.params[j]? = some t → Tryz.pinned.checked.prog.wantsStandIn t = false := by
  obtain rfl : f = 4 := Option.some.inj ((show Tryz.prog.funcNamed "sealring/sealringlaw54.TicketIssue" = some 4 by kernel_rfl).symm.trans hf) |>.symm
  obtain rfl : fn = Tryz.f4 := (Option.some.inj (Tryz.func4.symm.trans hfn)).symm
  refine ⟨by kernel_rfl, fun j t ht => ?_⟩
  rw [Tryz.params4] at ht
  have hm : t ∈ [25, 9, 3] := by simpa using Array.mem_of_getElem? ht
  have hall : ([25, 9, 3].all fun u => !Tryz.prog.wantsStandIn u) = true := by kernel_rfl
  exact (show Tryz.prog.wantsStandIn t = false by simpa using List.all_eq_true.1 hall t hm)

/-- The tied card of TicketIssue. -/
theorem ticketIssue_card : Rows.TicketIssueCardSaid :=
  Claim7.holds_tied_plain_at .later [] _ _ _ _ ticketIssue_said (fun _ h => by cases h) (by kernel_rfl) (fun _ h => by cases h) ticketIssue_row_tie rfl ⟨rfl, rfl⟩ (by kernel_rfl) rfl ticketIssue_plain (by kernel_rfl)
#print axioms ticketIssue_card
end Go.Proofs.YtdabongfphoilaaGreatDoor
