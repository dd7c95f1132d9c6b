/-
  TicketOnce is true of every window and every list of calls: the row, and its tied card.
  Conditions: none beyond the given row's own cells.
-/
import Derived.Test.YtdabongfphoilaaGreatDoorLaid
import Derived.Test.YtdabongfphoilaaGreatDoorRead
import Derived.Test.YtdabongfphoilaaGreatDoorOps
import Derived.Test.YtdabongfphoilaaGreatDoorPureK
import Derived.Test.YtdabongfphoilaaGreatDoorCheck
set_option linter.unusedVariables false
set_option linter.unusedSimpArgs false

namespace Go.Proofs.YtdabongfphoilaaGreatDoor
open Go.Am Go.RowKit Go.ChangeShapes Go.WideShapes
open Go.ChangeMaps (open_string shut_string)

theorem kids : Kids Tryz.prog (· < Tryz.prog.types.size) := kids_rows (by kernel_rfl) (by kernel_rfl)
theorem full : ∀ t e, t < Tryz.prog.types.size → Tryz.prog.underlying t = some (.slice e) → 0 < Tryz.prog.cellsOf e := slices_full_of Tryz.prog (by kernel_rfl)

set_option maxRecDepth 100000 in
theorem ticketOnce_contract (H : Type) (enc : TypeId × Value → H) (W : World) (base : Nat) (args : Array Value) (ds gs : List (DataW H)) (before : List MemPlace)
    (hval : ∀ (j : Nat) t v, Tryz.f7.params[j]? = some t → args[j]? = some v → Value.okWide Tryz.prog W .any base t v)
    (hW : DataW.Whole enc Tryz.prog Tryz.f7.params.toList Rows.ticketOnceSpec.vars false W args.toList ds gs before)
    (hsz : (DataW.weightsEach Tryz.prog (Tryz.f7.params.toList ++ Rows.ticketOnceSpec.plain.varTypes Tryz.prog) (ds ++ gs)).all (· ≤ reachBytes) = true)
    (hL : laidMetH Tryz.prog Rows.ticketOnceRow.laid W) :
    Calls Tryz.prog 7 args W fun e W' => ∃ v, e = .returned v ∧ Rows.ticketOnceSpec.post enc Tryz.prog Tryz.f7 false true false false W args v W' := by
  have hW' := hW
  have hlt : ∀ p ∈ before, p.block < W.heap.size := fun p hp => hW.lt p hp
  obtain ⟨p, q, hA0, hV, rfl, hfz, hnd⟩ := hW
  have hA : DataW.TrodAll enc Tryz.prog W 0 (fun _ => true) true Tryz.f7.params.toList args.toList ds p := hA0
  obtain ⟨rfl, rfl⟩ := trodVars_none hV
  rw [Tryz.params7] at hA hval hsz
  obtain ⟨v0, v1, d0, d1, p0, p1, rfl, rfl, hpp, h0, h1⟩ := trodAll_two hA
  simp only [List.append_nil] at hW' hlt hsz
  have hwt : ∀ n ∈ d1.weights Tryz.prog 53, n ≤ reachBytes := fun n hn => by
    have := List.all_eq_true.1 hsz n (DataW.weights_mem_each (j := 1) (t := 53) (d := d1) rfl rfl n hn)
    simpa using this
  have hG := laid_glob (show laidMet Tryz.prog laidL W from hL)
  obtain ⟨wd, rfl, rfl, rfl, hwf⟩ := open_int Tryz.underlying5 (hval 0 5 v0 rfl rfl) h0
  obtain ⟨w, rfl, hw⟩ := wf_u8 hwf
  obtain ⟨n, xs, k1, k2, k3⟩ := arg_slice (num := Chk.num) tset2_ok (t := 53) (by decide) Tryz.underlying53 (hval 1 53 v1 rfl rfl) h1 hwt
  obtain ⟨l, rfl, hl⟩ := list_map2 (f := encO) (q := OpU.ok) fun x hx => shp_op (k1 x hx)
  rw [cells58] at k3
  rw [bytes58] at k2
  unfold reachBytes at k2
  simp only [List.length_map] at k2
  have hc := law_TicketOnce w l false hw (by omega) hl
  refine (law_calls Chk.fits (show Chk.num 140 = some 7 from rfl) hG rfl rfl (fun i c hi => ?_) hc).mono fun e W' ⟨he, hb⟩ => ?_
  · match i, hi with
    | 0, hi => injection hi with hi; subst hi; exact ⟨.int .u8 w, rfl, by simp only [RepV]⟩
    | 1, hi => injection hi with hi; subst hi; exact ⟨_, rfl, k3⟩
  · subst he
    refine ⟨_, rfl, Go.Am.post_of_below (pa := p) (pv := []) hW' (fun _ _ _ => trodAll_mk1 (shut_bool Tryz.underlying4 _)) (fun sp hsp => ?_) (fun _ _ => rfl) (by simp) hb (ok_one (by kernel_rfl) rfl (okWide_bool_mk Tryz.underlying4 _))⟩
    exact trodAll_below kids full hb (by rw [Tryz.params7]; decide) hA0 hlt hsp

/-- An input that fits. -/
abbrev onceArgs : Array Value := #[.int .u8 0, .slice none 0 0]

theorem ticketOnce_reads (os : Os) {H : Type} (enc : TypeId × Value → H) : ∃ places, DataW.whole enc Tryz.prog ((World.doorLaid Tryz.prog 2000 os).forCall (fun _ _ => 0) ⟨#[], onceArgs, []⟩).memory Tryz.f7.params.toList Rows.ticketOnceSpec.vars false onceArgs.toList 8 =
    some ([.lit (.int .u8 0), .nil], [], places) := ⟨[], by kernel_rfl⟩

set_option maxRecDepth 100000 in
theorem ticketOnce_lifted (os : Os) (started : os.Started) (H : Type) (enc : TypeId × Value → H) (F : Stop.Interp) :
    ReturnsInHanded {} Tryz.checked os 7 .any ((OpenSpec.ofChange Rows.ticketOnceSpec).preRow enc Tryz.prog Tryz.f7 Rows.ticketOnceRow.domain false Rows.ticketOnceRow.laid) (((OpenSpec.ofChange Rows.ticketOnceSpec).at F).post enc Tryz.prog Tryz.f7 false true false false) := by
  obtain ⟨places, hx⟩ := ticketOnce_reads os enc
  refine returnsInHanded_of_row (C := Tryz.checked) (s := OpenSpec.ofChange Rows.ticketOnceSpec) own started (by kernel_rfl) Tryz.func7
    (witness_row_at (enc := enc) (C := Tryz.checked) false (World.doorLaid Tryz.prog 2000 os) onceArgs rfl (by kernel_rfl) (by kernel_rfl) (by kernel_rfl)
      (OpenSpec.preRow_of_cond 8 hx (by kernel_rfl) (fun k hk => by cases hk) (by kernel_rfl) (door_met os _))) ?_
  intro W base args ds gs before hval hW _ _ hsz hL _ _
  exact ticketOnce_contract H enc W base args ds gs before hval hW hsz hL

theorem ticketOnce_said : Rows.TicketOnceSaid :=
  OpenClaim.holds_of_cond 7 Tryz.f7 rfl rfl rfl rfl rfl rfl rfl ⟨rfl, rfl, rfl, rfl, rfl⟩ rfl rfl rfl rfl rfl (by kernel_rfl) Tryz.func7 (by kernel_rfl)
    (of_decide_eq_true (by kernel_rfl)) (by unfold Func.isWrapper; first | (rw [if_pos (by decide +kernel)]; kernel_rfl) | (rw [if_neg (by decide +kernel)]; exact ⟨rfl, rfl⟩))
    (fun os started H enc _ F => by rw [OpenClaim.pre_eq_preRow]; exact ticketOnce_lifted os started H enc F)

theorem ticketOnce_plain (f : FuncId) (fn : Func) (hf : Tryz.pinned.checked.prog.funcNamed "sealring/sealringlaw54.TicketOnce" = some f) (hfn : Tryz.pinned.checked.prog.funcs[f]? = some fn) :
    true = Tryz.pinned.checked.prog.looks [] ∧ ∀ (j : Nat) t, fn.params[j]? = some t → Tryz.pinned.checked.prog.wantsStandIn t = false := by
  obtain rfl : f = 7 := Option.some.inj ((show Tryz.prog.funcNamed "sealring/sealringlaw54.TicketOnce" = some 7 by kernel_rfl).symm.trans hf) |>.symm
  obtain rfl : fn = Tryz.f7 := (Option.some.inj (Tryz.func7.symm.trans hfn)).symm
  refine ⟨by kernel_rfl, fun j t ht => ?_⟩
  rw [Tryz.params7] at ht
  have hm : t ∈ [5, 53] := by simpa using Array.mem_of_getElem? ht
  have hall : ([5, 53].all fun u => !Tryz.prog.wantsStandIn u) = true := by kernel_rfl
  exact (show Tryz.prog.wantsStandIn t = false by simpa using List.all_eq_true.1 hall t hm)

/-- The tied card of TicketOnce. -/
theorem ticketOnce_card : Rows.TicketOnceCardSaid :=
  Claim7.holds_tied_plain_at .later [] _ _ _ _ ticketOnce_said (fun _ h => by cases h) (by kernel_rfl) (fun _ h => by cases h) ticketOnce_row_tie rfl ⟨rfl, rfl⟩ (by kernel_rfl) rfl ticketOnce_plain (by kernel_rfl)
#print axioms ticketOnce_card
end Go.Proofs.YtdabongfphoilaaGreatDoor
