/-
  TicketKept is true of every window and every lists of calls: the row, and its tied card.
  Conditions: none beyond the given row's own cells.
-/
import Derived.Test.YtdabongfphoilaaGreatDoorLaid
import Derived.Test.YtdabongfphoilaaGreatDoorRead
import Derived.Test.YtdabongfphoilaaGreatDoorOps
import Derived.Test.YtdabongfphoilaaGreatDoorPureK
import Derived.Test.YtdabongfphoilaaGreatDoorCheck
set_option linter.unusedVariables false
set_option linter.unusedSimpArgs false

namespace Go.Proofs.YtdabongfphoilaaGreatDoor
open Go.Am Go.RowKit Go.ChangeShapes Go.WideShapes
open Go.ChangeMaps (open_string shut_string)

theorem kids : Kids Tryz.prog (· < Tryz.prog.types.size) := kids_rows (by kernel_rfl) (by kernel_rfl)
theorem full : ∀ t e, t < Tryz.prog.types.size → Tryz.prog.underlying t = some (.slice e) → 0 < Tryz.prog.cellsOf e := slices_full_of Tryz.prog (by kernel_rfl)

set_option maxRecDepth 100000 in
theorem ticketKept_contract (H : Type) (enc : TypeId × Value → H) (W : World) (base : Nat) (args : Array Value) (ds gs : List (DataW H)) (before : List MemPlace)
    (hval : ∀ (j : Nat) t v, Tryz.f8.params[j]? = some t → args[j]? = some v → Value.okWide Tryz.prog W .any base t v)
    (hW : DataW.Whole enc Tryz.prog Tryz.f8.params.toList Rows.ticketKeptSpec.vars false W args.toList ds gs before)
    (hsz : (DataW.weightsEach Tryz.prog (Tryz.f8.params.toList ++ Rows.ticketKeptSpec.plain.varTypes Tryz.prog) (ds ++ gs)).all (· ≤ reachBytes) = true)
    (hL : laidMetH Tryz.prog Rows.ticketKeptRow.laid W) :
    Calls Tryz.prog 8 args W fun e W' => ∃ v, e = .returned v ∧ Rows.ticketKeptSpec.post enc Tryz.prog Tryz.f8 false true false false W args v W' := by
  have hW' := hW
  have hlt : ∀ p ∈ before, p.block < W.heap.size := fun p hp => hW.lt p hp
  obtain ⟨p, q, hA0, hV, rfl, hfz, hnd⟩ := hW
  have hA : DataW.TrodAll enc Tryz.prog W 0 (fun _ => true) true Tryz.f8.params.toList args.toList ds p := hA0
  obtain ⟨rfl, rfl⟩ := trodVars_none hV
  rw [Tryz.params8] at hA hval hsz
  obtain ⟨v0, v1, v2, d0, d1, d2, p0, p1, p2, rfl, rfl, hpp, h0, h1, h2⟩ := trodAll_three hA
  simp only [List.append_nil] at hW' hlt hsz
  have hwt : ∀ n ∈ d1.weights Tryz.prog 53, n ≤ reachBytes := fun n hn => by
    have := List.all_eq_true.1 hsz n (DataW.weights_mem_each (j := 1) (t := 53) (d := d1) rfl rfl n hn)
    simpa using this
  have hwt2 : ∀ n ∈ d2.weights Tryz.prog 53, n ≤ reachBytes := fun n hn => by
    have := List.all_eq_true.1 hsz n (DataW.weights_mem_each (j := 2) (t := 53) (d := d2) rfl rfl n hn)
    simpa using this
  have hG := laid_glob (show laidMet Tryz.prog laidL W from hL)
  obtain ⟨wd, rfl, rfl, rfl, hwf⟩ := open_int Tryz.underlying5 (hval 0 5 v0 rfl rfl) h0
  obtain ⟨w, rfl, hw⟩ := wf_u8 hwf
  obtain ⟨n, xs, k1, k2, k3⟩ := arg_slice (num := Chk.num) tset2_ok (t := 53) (by decide) Tryz.underlying53 (hval 1 53 v1 rfl rfl) h1 hwt
  obtain ⟨l, rfl, hl⟩ := list_map2 (f := encO) (q := OpU.ok) fun x hx => shp_op (k1 x hx)
  obtain ⟨n2, xs2, m1, m2, m3⟩ := arg_slice (num := Chk.num) tset2_ok (t := 53) (by decide) Tryz.underlying53 (hval 2 53 v2 rfl rfl) h2 hwt2
  obtain ⟨l2, rfl, hl2⟩ := list_map2 (f := encO) (q := OpU.ok) fun x hx => shp_op (m1 x hx)
  rw [cells58] at k3 m3
  rw [bytes58] at k2 m2
  unfold reachBytes at k2 m2
  simp only [List.length_map] at k2 m2
  have hc := law_TicketKept w l l2 false false hw (by omega) (by omega) hl hl2
  refine (law_calls Chk.fits (show Chk.num 139 = some 8 from rfl) hG rfl rfl (fun i c hi => ?_) hc).mono fun e W' ⟨he, hb⟩ => ?_
  · match i, hi with
    | 0, hi => injection hi with hi; subst hi; exact ⟨.int .u8 w, rfl, by simp only [RepV]⟩
    | 1, hi => injection hi with hi; subst hi; exact ⟨_, rfl, k3⟩
    | 2, hi => injection hi with hi; subst hi; exact ⟨_, rfl, m3⟩
  · subst he
    refine ⟨_, rfl, Go.Am.post_of_below (pa := p) (pv := []) hW' (fun _ _ _ => trodAll_mk1 (shut_bool Tryz.underlying4 _)) (fun sp hsp => ?_) (fun _ _ => rfl) (by simp) hb (ok_one (by kernel_rfl) rfl (okWide_bool_mk Tryz.underlying4 _))⟩
    exact trodAll_below kids full hb (by rw [Tryz.params8]; decide) hA0 hlt hsp

/-- An input that fits. -/
abbrev keptArgs : Array Value := #[.int .u8 0, .slice none 0 0, .slice none 0 0]

theorem ticketKept_reads (os : Os) {H : Type} (enc : TypeId × Value → H) : ∃ places, DataW.whole enc Tryz.prog ((World.doorLaid Tryz.prog 2000 os).forCall (fun _ _ => 0) ⟨#[], keptArgs, []⟩).memory Tryz.f8.params.toList Rows.ticketKeptSpec.vars false keptArgs.toList 8 =
    some ([.lit (.int .u8 0), .nil, .nil], [], places) := ⟨[], by kernel_rfl⟩

set_option maxRecDepth 100000 in
theorem ticketKept_lifted (os : Os) (started : os.Started) (H : Type) (enc : TypeId × Value → H) (F : Stop.Interp) :
    ReturnsInHanded {} Tryz.checked os 8 .any ((OpenSpec.ofChange Rows.ticketKeptSpec).preRow enc Tryz.prog Tryz.f8 Rows.ticketKeptRow.domain false Rows.ticketKeptRow.laid) (((OpenSpec.ofChange Rows.ticketKeptSpec).at F).post enc Tryz.prog Tryz.f8 false true false false) := by
  obtain ⟨places, hx⟩ := ticketKept_reads os enc
  refine returnsInHanded_of_row (C := Tryz.checked) (s := OpenSpec.ofChange Rows.ticketKeptSpec) own started (by kernel_rfl) Tryz.func8
    (witness_row_at (enc := enc) (C := Tryz.checked) false (World.doorLaid Tryz.prog 2000 os) keptArgs rfl (by kernel_rfl) (by kernel_rfl) (by kernel_rfl)
      (OpenSpec.preRow_of_cond 8 hx (by kernel_rfl) (fun k hk => by cases hk) (by kernel_rfl) (door_met os _))) ?_
  intro W base args ds gs before hval hW _ _ hsz hL _ _
  exact ticketKept_contract H enc W base args ds gs before hval hW hsz hL

theorem ticketKept_said : Rows.TicketKeptSaid :=
  OpenClaim.holds_of_cond 8 Tryz.f8 rfl rfl rfl rfl rfl rfl rfl ⟨rfl, rfl, rfl, rfl, rfl⟩ rfl rfl rfl rfl rfl (by kernel_rfl) Tryz.func8 (by kernel_rfl)
    (of_decide_eq_true (by kernel_rfl)) (by unfold Func.isWrapper; first | (rw [if_pos (by decide +kernel)]; kernel_rfl) | (rw [if_neg (by decide +kernel)]; exact ⟨rfl, rfl⟩))
    (fun os started H enc _ F => by rw [OpenClaim.pre_eq_preRow]; exact ticketKept_lifted os started H enc F)

theorem ticketKept_plain (f : FuncId) (fn : Func) (hf : Tryz.pinned.checked.prog.funcNamed "sealring/sealringlaw54.TicketKept" = some f) (hfn : Tryz.pinned.checked.prog.funcs[f]? = some fn) :
    true = Tryz.pinned.checked.prog.looks [] ∧ ∀ (j : Nat) t, fn.params[j]? = some t → Tryz.pinned.checked.prog.wantsStandIn t = false := by
  obtain rfl : f = 8 := Option.some.inj ((show Tryz.prog.funcNamed "sealring/sealringlaw54.TicketKept" = some 8 by kernel_rfl).symm.trans hf) |>.symm
  obtain rfl : fn = Tryz.f8 := (Option.some.inj (Tryz.func8.symm.trans hfn)).symm
  refine ⟨by kernel_rfl, fun j t ht => ?_⟩
  rw [Tryz.params8] at ht
  have hm : t ∈ [5, 53, 53] := by simpa using Array.mem_of_getElem? ht
  have hall : ([5, 53, 53].all fun u => !Tryz.prog.wantsStandIn u) = true := by kernel_rfl
  exact (show Tryz.prog.wantsStandIn t = false by simpa using List.all_eq_true.1 hall t hm)

/-- The tied card of TicketKept. -/
theorem ticketKept_card : Rows.TicketKeptCardSaid :=
  Claim7.holds_tied_plain_at .later [] _ _ _ _ ticketKept_said (fun _ h => by cases h) (by kernel_rfl) (fun _ h => by cases h) ticketKept_row_tie rfl ⟨rfl, rfl⟩ (by kernel_rfl) rfl ticketKept_plain (by kernel_rfl)
#print axioms ticketKept_card
end Go.Proofs.YtdabongfphoilaaGreatDoor
