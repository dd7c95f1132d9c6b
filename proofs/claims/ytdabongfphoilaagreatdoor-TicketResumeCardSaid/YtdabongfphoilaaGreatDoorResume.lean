/-
  TicketResume is true of every server, term and time: the row, and its tied card.
  Conditions: none beyond the given row's own cells.
-/
import Derived.Test.YtdabongfphoilaaGreatDoorLaid
import Derived.Test.YtdabongfphoilaaGreatDoorRead
import Derived.Test.YtdabongfphoilaaGreatDoorPureI
import Derived.Test.YtdabongfphoilaaGreatDoorCheck
set_option linter.unusedVariables false
set_option linter.unusedSimpArgs false

namespace Go.Proofs.YtdabongfphoilaaGreatDoor
open Go.Am Go.RowKit Go.ChangeShapes Go.WideShapes
open Go.ChangeMaps (open_string shut_string)

theorem kids : Kids Tryz.prog (· < Tryz.prog.types.size) := kids_rows (by kernel_rfl) (by kernel_rfl)
theorem full : ∀ t e, t < Tryz.prog.types.size → Tryz.prog.underlying t = some (.slice e) → 0 < Tryz.prog.cellsOf e := slices_full_of Tryz.prog (by kernel_rfl)

set_option maxRecDepth 100000 in
theorem ticketResume_contract (H : Type) (enc : TypeId × Value → H) (W : World) (base : Nat) (args : Array Value) (ds gs : List (DataW H)) (before : List MemPlace)
    (hval : ∀ (j : Nat) t v, Tryz.f5.params[j]? = some t → args[j]? = some v → Value.okWide Tryz.prog W .any base t v)
    (hW : DataW.Whole enc Tryz.prog Tryz.f5.params.toList Rows.ticketResumeSpec.vars false W args.toList ds gs before)
    (hsz : (DataW.weightsEach Tryz.prog (Tryz.f5.params.toList ++ Rows.ticketResumeSpec.plain.varTypes Tryz.prog) (ds ++ gs)).all (· ≤ reachBytes) = true)
    (hL : laidMetH Tryz.prog Rows.ticketResumeRow.laid W) :
    Calls Tryz.prog 5 args W fun e W' => ∃ v, e = .returned v ∧ Rows.ticketResumeSpec.post enc Tryz.prog Tryz.f5 false true false false W args v W' := by
  have hW' := hW
  have hlt : ∀ p ∈ before, p.block < W.heap.size := fun p hp => hW.lt p hp
  obtain ⟨p, q, hA0, hV, rfl, hfz, hnd⟩ := hW
  have hA : DataW.TrodAll enc Tryz.prog W 0 (fun _ => true) true Tryz.f5.params.toList args.toList ds p := hA0
  obtain ⟨rfl, rfl⟩ := trodVars_none hV
  rw [Tryz.params5] at hA hval hsz
  obtain ⟨v0, v1, v2, d0, d1, d2, p0, p1, p2, rfl, rfl, hpp, h0, h1, h2⟩ := trodAll_three hA
  simp only [List.append_nil] at hW' hlt hsz
  have hwt : ∀ n ∈ d0.weights Tryz.prog 25, n ≤ reachBytes := fun n hn => by
    have := List.all_eq_true.1 hsz n (DataW.weights_mem_each (j := 0) (t := 25) (d := d0) rfl rfl n hn)
    simpa using this
  have hwt1 : ∀ n ∈ d1.weights Tryz.prog 38, n ≤ reachBytes := fun n hn => by
    have := List.all_eq_true.1 hsz n (DataW.weights_mem_each (j := 1) (t := 38) (d := d1) rfl rfl n hn)
    simpa using this
  have hG := laid_glob (show laidMet Tryz.prog laidL W from hL)
  obtain ⟨n, avs, k1, k2⟩ := arg_struct (num := Chk.num) tset_ok (t := 25) (by decide) Tryz.underlying25 (hval 0 25 v0 rfl rfl) h0 hwt
  obtain ⟨s, rfl, hroom⟩ := shp_srv k1
  obtain ⟨n2, avs2, k3, k4⟩ := arg_struct (num := Chk.num) tset_ok (t := 38) (by decide) Tryz.underlying38 (hval 1 38 v1 rfl rfl) h1 hwt1
  obtain ⟨tm, rfl⟩ := shp_term n2 avs2 k3
  obtain ⟨wd, rfl, rfl, rfl, _⟩ := open_int Tryz.underlying3 (hval 2 3 v2 rfl rfl) h2
  have hc := law_TicketResume s tm wd hroom
  refine (law_calls Chk.fits (show Chk.num 123 = some 5 from rfl) hG rfl rfl (fun i c hi => ?_) hc).mono fun e W' ⟨he, hb⟩ => ?_
  · match i, hi with
    | 0, hi => injection hi with hi; subst hi; exact ⟨_, rfl, k2⟩
    | 1, hi => injection hi with hi; subst hi; exact ⟨_, rfl, k4⟩
    | 2, hi => injection hi with hi; subst hi; exact ⟨.int .i64 wd, rfl, by simp only [RepV]⟩
  · subst he
    refine ⟨_, rfl, Go.Am.post_of_below (pa := p) (pv := []) hW' (fun _ _ _ => trodAll_mk1 (shut_bool Tryz.underlying4 _)) (fun sp hsp => ?_) (fun _ _ => rfl) (by simp) hb (ok_one (by kernel_rfl) rfl (okWide_bool_mk Tryz.underlying4 _))⟩
    exact trodAll_below kids full hb (by rw [Tryz.params5]; decide) hA0 hlt hsp

/-- An input that fits. -/
abbrev resumeArgs : Array Value := #[.agg #[.string ⟨#[]⟩, .int .i64 0, .slice none 0 0, .int .i64 0, .slice none 0 0, .int .i64 0, .int .i64 0], .agg #[.int .i64 0, .string ⟨#[]⟩, .int .i64 0, .slice none 0 0], .int .i64 0]

theorem ticketResume_reads (os : Os) {H : Type} (enc : TypeId × Value → H) : ∃ places, DataW.whole enc Tryz.prog ((World.doorLaid Tryz.prog 2000 os).forCall (fun _ _ => 0) ⟨#[], resumeArgs, []⟩).memory Tryz.f5.params.toList Rows.ticketResumeSpec.vars false resumeArgs.toList 8 =
    some ([.agg [.lit (.string []), .lit (.int .i64 0), .nil, .lit (.int .i64 0), .nil, .lit (.int .i64 0), .lit (.int .i64 0)], .agg [.lit (.int .i64 0), .lit (.string []), .lit (.int .i64 0), .nil], .lit (.int .i64 0)], [], places) := ⟨[], by kernel_rfl⟩

set_option maxRecDepth 100000 in
theorem ticketResume_lifted (os : Os) (started : os.Started) (H : Type) (enc : TypeId × Value → H) (F : Stop.Interp) :
    ReturnsInHanded {} Tryz.checked os 5 .any ((OpenSpec.ofChange Rows.ticketResumeSpec).preRow enc Tryz.prog Tryz.f5 Rows.ticketResumeRow.domain false Rows.ticketResumeRow.laid) (((OpenSpec.ofChange Rows.ticketResumeSpec).at F).post enc Tryz.prog Tryz.f5 false true false false) := by
  obtain ⟨places, hx⟩ := ticketResume_reads os enc
  refine returnsInHanded_of_row (C := Tryz.checked) (s := OpenSpec.ofChange Rows.ticketResumeSpec) own started (by kernel_rfl) Tryz.func5
    (witness_row_at (enc := enc) (C := Tryz.checked) false (World.doorLaid Tryz.prog 2000 os) resumeArgs rfl (by kernel_rfl) (by kernel_rfl) (by kernel_rfl)
      (OpenSpec.preRow_of_cond 8 hx (by kernel_rfl) (fun k hk => by cases hk) (by kernel_rfl) (door_met os _))) ?_
  intro W base args ds gs before hval hW _ _ hsz hL _ _
  exact ticketResume_contract H enc W base args ds gs before hval hW hsz hL

theorem ticketResume_said : Rows.TicketResumeSaid :=
  OpenClaim.holds_of_cond 5 Tryz.f5 rfl rfl rfl rfl rfl rfl rfl ⟨rfl, rfl, rfl, rfl, rfl⟩ rfl rfl rfl rfl rfl (by kernel_rfl) Tryz.func5 (by kernel_rfl)
    (of_decide_eq_true (by kernel_rfl)) (by unfold Func.isWrapper; first | (rw [if_pos (by decide +kernel)]; kernel_rfl) | (rw [if_neg (by decide +kernel)]; exact ⟨rfl, rfl⟩))
    (fun os started H enc _ F => by rw [OpenClaim.pre_eq_preRow]; exact ticketResume_lifted os started H enc F)

theorem ticketResume_plain (f : FuncId) (fn : Func) (hf : Tryz.pinned.checked.prog.funcNamed "sealring/sealringlaw54.TicketResume" = some f) (hfn : Tryz.pinned.checked.prog.funcs[f]? = some fn) :
    true = Tryz.pinned.checked.prog.looks [] ∧ ∀ (j : Nat) t, fn.params[j]? = some t → Tryz.pinned.checked.prog.wantsStandIn t = false := by
  obtain rfl : f = 5 := Option.some.inj ((show Tryz.prog.funcNamed "sealring/sealringlaw54.TicketResume" = some 5 by kernel_rfl).symm.trans hf) |>.symm
  obtain rfl : fn = Tryz.f5 := (Option.some.inj (Tryz.func5.symm.trans hfn)).symm
  refine ⟨by kernel_rfl, fun j t ht => ?_⟩
  rw [Tryz.params5] at ht
  have hm : t ∈ [25, 38, 3] := by simpa using Array.mem_of_getElem? ht
  have hall : ([25, 38, 3].all fun u => !Tryz.prog.wantsStandIn u) = true := by kernel_rfl
  exact (show Tryz.prog.wantsStandIn t = false by simpa using List.all_eq_true.1 hall t hm)

/-- The tied card of TicketResume. -/
theorem ticketResume_card : Rows.TicketResumeCardSaid :=
  Claim7.holds_tied_plain_at .later [] _ _ _ _ ticketResume_said (fun _ h => by cases h) (by kernel_rfl) (fun _ h => by cases h) ticketResume_row_tie rfl ⟨rfl, rfl⟩ (by kernel_rfl) rfl ticketResume_plain (by kernel_rfl)
#print axioms ticketResume_card
end Go.Proofs.YtdabongfphoilaaGreatDoor
