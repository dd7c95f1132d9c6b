/-
  AM, part 5: an abstract operation against one of the model's.
-/
import Derived.Test.YtdabongfphoilaaGreatDoorMachA
set_option linter.unusedVariables false
set_option linter.unusedSimpArgs false

namespace Go.Am

def constCell : AV → Value → Bool
  | .int k n, .int k' n' => decide (k = k') && decide (n = n')
  | .bool a, .bool b => a == b
  | .str s, .string b => decide (s = b.data.toList)
  | .sl _ _ [], .slice none 0 0 => true
  | .gs _ _ 0 0, .slice none 0 0 => true
  | .err true, .nilIface => true
  | _, _ => false

def constCells : List AV → List Value → Bool
  | [], [] => true
  | c :: cs, u :: us => constCell c u && constCells cs us
  | _, _ => false

def constOk : AV → Value → Bool
  | .agg cs, .agg us => constCells cs us.toList
  | c, u => constCell c u

def okO (num : Nat → Option Nat) : AO → Operand → Bool
  | .t n, .tmp t => decide (n = t)
  | .c (.fn f []), .func g => decide (num f = some g)
  | .c v, .const u => constOk v u
  | _, _ => false

def okOs (num : Nat → Option Nat) : List AO → List Operand → Bool
  | [], [] => true
  | x :: xs, y :: ys => okO num x y && okOs num xs ys
  | _, _ => false

section
variable {P : Program} {num : Nat → Option Nat} {β β' : List Blk} {w w' : World} {m m' : Nat → Nat} {ν ν' : Own} {N : Nat} {w0 : World} {m0 : Nat → Nat} {T : Nat → Prop} {β0 : List Blk} {σ σ1 : St} {a : Act}

theorem constCell_rep {c : AV} {u : Value} (h : constCell c u = true) : RepV num β w m c u ∧ u.oneCell' = true ∧ (∀ p, OwnV w m ν p c u) := by
  unfold constCell at h
  split at h
  · simp only [Bool.and_eq_true, decide_eq_true_eq] at h
    obtain ⟨rfl, rfl⟩ := h
    exact ⟨by simp only [RepV], rfl, fun _ => trivial⟩
  · simp only [beq_iff_eq] at h
    subst h
    exact ⟨by simp only [RepV], rfl, fun _ => trivial⟩
  · simp only [decide_eq_true_eq] at h
    subst h
    exact ⟨by simp only [RepV], rfl, fun _ => trivial⟩
  · refine ⟨?_, rfl, fun p => ?_⟩
    · simp only [RepV]
      exact ⟨none, 0, 0, rfl, rfl, Nat.le_refl _, by unfold maxLen; omega, .inl trivial⟩
    · rename_i o sz
      cases o
      · exact trivial
      · exact .inl ⟨none, rfl⟩
  · refine ⟨?_, rfl, fun p => trivial⟩
    simp only [RepV]
    exact ⟨none, 0, rfl, Nat.le_refl _, by unfold maxLen; omega, .inl (by simp)⟩
  · exact ⟨by simp [RepV], rfl, fun _ => trivial⟩
  · cases h

theorem constCells_get : ∀ (cs : List AV) (us : List Value), constCells cs us = true → us.length = cs.length ∧ ∀ (i : Nat) (c : AV), cs[i]? = some c → ∃ u, us[i]? = some u ∧ constCell c u = true
  | [], [], _ => ⟨rfl, fun i c h => by simp at h⟩
  | c :: cs, u :: us, h => by
    simp only [constCells, Bool.and_eq_true] at h
    have ih := constCells_get cs us h.2
    refine ⟨by simp [ih.1], fun i d hd => ?_⟩
    cases i with
    | zero => simp at hd; subst hd; exact ⟨u, rfl, h.1⟩
    | succ i => simpa using ih.2 i d (by simpa using hd)
  | [], _ :: _, h => by simp [constCells] at h
  | _ :: _, [], h => by simp [constCells] at h

theorem constOk_rep {c : AV} {u : Value} (h : constOk c u = true) : RepV num β w m c u ∧ (∀ p, OwnV w m ν p c u) := by
  unfold constOk at h
  split at h
  · rename_i cs us
    obtain ⟨h1, h2⟩ := constCells_get cs us.toList h
    refine ⟨?_, fun _ => trivial⟩
    simp only [RepV]
    refine ⟨us, rfl, by simpa using h1, ?_⟩
    rw [RepC_get]
    intro i c hc
    obtain ⟨u, g1, g2⟩ := h2 i c hc
    have := constCell_rep (num := num) (β := β) (w := w) (m := m) (ν := ν) g2
    exact ⟨u, by simpa using g1, this.2.1, this.1⟩
  · have := constCell_rep (num := num) (β := β) (w := w) (m := m) (ν := ν) h
    exact ⟨this.1, this.2.2⟩

theorem strip_ok (c : AV) : c.strip.ok = c.ok := by cases c <;> rfl
theorem OwnV_strip (c : AV) (u : Value) (p : Pl) : OwnV w m ν p c.strip u := by cases c <;> exact trivial
theorem strip_strip (c : AV) : c.strip.strip = c.strip := by cases c <;> rfl

theorem Inv.at_ (hI : Inv num N w0 m0 T β0 σ a w m β ν) {n : Nat} (hn : σ.env n ≠ .undef) : n < N ∧ a.tmps[n]? = some (a.tmps.getD n undef) := by
  have hN : n < N := by
    rcases Nat.lt_or_ge n N with h | h
    · exact h
    · exact absurd (hI.out n h) hn
  have : n < a.tmps.size := by rw [hI.size]; exact hN
  exact ⟨hN, by simp [this]⟩

/-- An operand's value. -/
theorem Inv.val (hI : Inv num N w0 m0 T β0 σ a w m β ν) {x : AO} {y : Operand} (ho : okO num x y = true) (hk : (val σ.env x).ok = true) :
    RepV num β w m (val σ.env x) (a.eval y) ∧ ∀ p, OwnV w m ν p (val σ.env x) (a.eval y) := by
  unfold okO at ho
  split at ho
  · rename_i n t
    simp only [decide_eq_true_eq] at ho
    subst ho
    simp only [Am.val, strip_ok] at hk ⊢
    have hne : σ.env n ≠ .undef := fun e => by rw [e] at hk; cases hk
    obtain ⟨_, h2⟩ := hI.at_ hne
    have h3 := hI.slots n _ h2
    rw [SlotV_ok hk] at h3
    refine ⟨?_, fun p => OwnV_strip _ _ _⟩
    rw [RepV_strip]
    exact h3.1
  · rename_i f g
    simp only [decide_eq_true_eq] at ho
    simp only [Am.val, Act.eval]
    refine ⟨?_, fun _ => trivial⟩
    simp only [RepV]
    exact ⟨g, #[], ho, rfl, rfl, by simp [RepC]⟩
  · simp only [Am.val, Act.eval]
    exact constOk_rep ho
  · cases ho

theorem Inv.vals (hI : Inv num N w0 m0 T β0 σ a w m β ν) : ∀ {xs : List AO} {ys : List Operand}, okOs num xs ys = true → okVals (xs.map (Am.val σ.env)) = true →
    ys.length = xs.length ∧ ∀ (i : Nat) (c : AV), (xs.map (Am.val σ.env))[i]? = some c → ∃ y, ys[i]? = some y ∧ c.ok = true ∧ RepV num β w m c (a.eval y)
  | [], [], _, _ => ⟨rfl, fun i c h => by simp at h⟩
  | x :: xs, y :: ys, ho, hk => by
    simp only [okOs, Bool.and_eq_true] at ho
    simp only [okVals, List.map_cons, List.all_cons, Bool.and_eq_true] at hk
    have ih := hI.vals ho.2 hk.2
    refine ⟨by simp [ih.1], fun i c hc => ?_⟩
    cases i with
    | zero => simp at hc; subst hc; exact ⟨y, rfl, hk.1, (hI.val ho.1 hk.1).1⟩
    | succ i => simpa using ih.2 i c (by simpa using hc)
  | [], _ :: _, h, _ => by simp [okOs] at h
  | _ :: _, [], h, _ => by simp [okOs] at h

/-- The cells of a value. -/
theorem cellsOf_rep {v : AV} {u : Value} {cs : List AV} (hc : cellsOf v = some cs) (h : RepV num β w m v u) :
    v.ok = true ∧ u.cells.size = cs.length ∧ ∀ (i : Nat) (c : AV), cs[i]? = some c → ∃ x, u.cells[i]? = some x ∧ x.oneCell' = true ∧ RepV num β w m c x := by
  unfold cellsOf at hc
  split at hc
  · injection hc with hc
    subst hc
    simp only [RepV] at h
    obtain ⟨us, rfl, h2, h3⟩ := h
    rw [RepC_get] at h3
    exact ⟨rfl, h2, fun i c hci => by simpa [Value.cells] using h3 i c hci⟩
  · rename_i hna
    split at hc
    · rename_i h1
      injection hc with hc
      subst hc
      have h2 := oneCell_of h1 h
      have h4 : u.cells = #[u] := by cases u <;> first | rfl | simp [Value.oneCell'] at h2
      refine ⟨by cases v <;> first | rfl | simp [AV.one] at h1, by rw [h4]; rfl, fun i c hci => ?_⟩
      cases i with
      | zero => simp at hci; subst hci; exact ⟨u, by rw [h4]; rfl, h2, by rw [RepV_strip]; exact h⟩
      | succ i => simp at hci
    · cases hc

theorem map_strip_get {cs : List AV} {i : Nat} {c : AV} (h : (cs.map AV.strip)[i]? = some c) : ∃ d, cs[i]? = some d ∧ c = d.strip := by
  rw [List.getElem?_map] at h
  cases hd : cs[i]? with
  | none => rw [hd] at h; cases h
  | some d => rw [hd] at h; injection h with h; exact ⟨d, rfl, h.symm⟩
end

/-- What the operation leaves: the value u for v, the state σ1. -/
def Aft (num : Nat → Option Nat) (N : Nat) (w0 : World) (m0 : Nat → Nat) (T : Nat → Prop) (β0 : List Blk) (σ1 : St) (a : Act) (v : AV) (k : Value → World → Prop) : Prop :=
  ∀ (u : Value) (w' : World) (m' : Nat → Nat) (β' : List Blk) (ν' : Own), Inv num N w0 m0 T β0 σ1 a w' m' β' ν' → SlotV num β' w' m' ν' .f (fun i => .fc i) v u → k u w'

section
variable {P : Program} {num : Nat → Option Nat} {β : List Blk} {w w' : World} {m : Nat → Nat} {ν : Own} {N : Nat} {w0 : World} {m0 : Nat → Nat} {T : Nat → Prop} {β0 : List Blk} {σ σ1 : St} {a : Act}
  {o : Oper} {next : Act → World → Prop} {Q : Exit → Act → World → Prop} {K : CallF} {v : AV}

theorem wp_value {u : Value} (hr : (execOp a.eval o).run P w = .ok (.value u) w') (h : next (a.put o.dst u) w') : o.wp P a w next Q := by
  unfold Oper.wp
  rw [hr]
  exact h

theorem wp_skipv (hr : (execOp a.eval o).run P w = .ok .skip w') (h : next (a.put o.dst undef) w') : o.wp P a w next Q := by
  unfold Oper.wp
  rw [hr]
  exact h

/-- A value that owns nothing, in the same world. -/
theorem Aft.same (h : Aft num N w0 m0 T β0 σ a v fun u w' => next (a.put o.dst u) w') (hI : Inv num N w0 m0 T β0 σ a w m β ν) {u : Value} (hk : v.ok = true) (hr : RepV num β w m v u)
    (ho : OwnV w m ν .f v u) : next (a.put o.dst u) w :=
  h u w m β ν hI ((SlotV_ok hk).2 ⟨hr, ho⟩)

theorem ex_mov {x : AO} {y : Operand} (hI : Inv num N w0 m0 T β0 σ a w m β ν) (ho : o.op = .move y ∨ o.op = .assign y) (hxy : okO num x y = true)
    (he : exec K (.mov x) σ = some (v, σ1)) (h : Aft num N w0 m0 T β0 σ1 a v fun u w' => next (a.put o.dst u) w') : o.wp P a w next Q := by
  simp only [exec] at he
  split at he
  · rename_i hk
    injection he with he
    injection he with h1 h2
    subst h1 h2
    have hv := hI.val hxy hk
    refine wp_value (u := a.eval y) (w' := w) (by rcases ho with ho | ho <;> simp [execOp, ho]) (h.same hI hk hv.1 (hv.2 _))
  · cases he

theorem ex_mvs {n : Nat} (hI : Inv num N w0 m0 T β0 σ a w m β ν) (ho : o.op = .move (.tmp n) ∨ o.op = .assign (.tmp n))
    (he : exec K (.mvs n) σ = some (v, σ1)) (h : Aft num N w0 m0 T β0 σ1 a v fun u w' => next (a.put o.dst u) w') : o.wp P a w next Q := by
  simp only [exec] at he
  split at he
  · rename_i hk
    injection he with he
    injection he with h1 h2
    subst h1 h2
    obtain ⟨_, h2⟩ := hI.at_ (n := n) (fun e => by rw [e] at hk; cases hk)
    have h3 := hI.slots n _ h2
    rw [SlotV_ok hk] at h3
    refine wp_value (u := a.eval (.tmp n)) (w' := w) (by rcases ho with ho | ho <;> simp [execOp, ho]) ?_
    refine h _ w m β _ (hI.takeSlot n) ((SlotV_ok hk).2 ⟨h3.1, ?_⟩)
    have := OwnV_map (θ := mv (.s n) .f) h3.2
    rwa [show mv (.s n) .f (.s n) = .f by simp [mv]] at this
  · cases he

theorem ex_box {x : AO} {y : Operand} {t : TypeId} (hI : Inv num N w0 m0 T β0 σ a w m β ν) (ho : o.op = .box t y) (hxy : okO num x y = true)
    (he : exec K (.box x) σ = some (v, σ1)) (h : Aft num N w0 m0 T β0 σ1 a v fun u w' => next (a.put o.dst u) w') : o.wp P a w next Q := by
  simp only [exec] at he
  cases hc : cellsOf (val σ.env x) with
  | none => rw [hc] at he; cases he
  | some cs =>
    rw [hc] at he
    injection he with he
    injection he with h1 h2
    subst h1 h2
    have hk : (val σ.env x).ok = true := by
      cases hv : val σ.env x <;> rw [hv] at hc <;> simp [cellsOf, AV.one] at hc <;> rfl
    have hv := (hI.val hxy hk).1
    obtain ⟨_, hz, hcs⟩ := cellsOf_rep hc hv
    refine wp_value (u := .pointer (some ⟨w.heap.size, 0, none⟩)) (w' := w.alloc (.cells (a.eval y).cells t)) (by simp [execOp, ho, Instr.box, newVar, newRow]) ?_
    refine h _ _ _ β _ (hI.fresh (a.eval y).cells t 0 .f) ⟨w.heap.size, rfl, (a.eval y).cells, t, heap_alloc_new w _, by simpa using hz, by simp [m1], by simp [own1], fun i c hci => ?_⟩
    obtain ⟨d, hd, rfl⟩ := map_strip_get hci
    obtain ⟨u, g1, g2, g3⟩ := hcs i d hd
    exact ⟨u, g1, g2, by rw [RepV_strip]; exact RepV_mono (Ge.refl β) (Step.alloc (fun _ => False) w m _ t 0).le d u g3, OwnV_strip _ _ _⟩

def zeroIs (P : Program) (t : TypeId) (zs : List AV) : Bool :=
  match P.info? t with
  | some i => match i.zero with
    | some z => constCells zs z.cells.toList
    | none => false
  | none => false

theorem zeroIs_run {t : TypeId} {zs : List AV} (h : zeroIs P t zs = true) : ∃ z : Value, (zeroValue t).run P w = .ok z w ∧ constCells zs z.cells.toList = true := by
  unfold zeroIs at h
  split at h
  · rename_i i hi
    split at h
    · rename_i z hz
      exact ⟨z, by simp [zeroValue, typeInfo, hi, hz], h⟩
    · cases h
  · cases h

theorem ex_alloc {zs : List AV} {t : TypeId} (hI : Inv num N w0 m0 T β0 σ a w m β ν) (ho : o.op = .alloc t) (hz : zeroIs P t zs = true)
    (he : exec K (.alloc zs) σ = some (v, σ1)) (h : Aft num N w0 m0 T β0 σ1 a v fun u w' => next (a.put o.dst u) w') : o.wp P a w next Q := by
  simp only [exec] at he
  injection he with he
  injection he with h1 h2
  subst h1 h2
  obtain ⟨z, hr, hc⟩ := zeroIs_run (w := w) hz
  obtain ⟨hl, hcs⟩ := constCells_get _ _ hc
  refine wp_value (u := .pointer (some ⟨w.heap.size, 0, none⟩)) (w' := w.alloc (.cells z.cells t)) (by simp [execOp, ho, Instr.alloc, newVar, newRow, hr]) ?_
  refine h _ _ _ β _ (hI.fresh z.cells t 0 .f) ⟨w.heap.size, rfl, z.cells, t, heap_alloc_new w _, by simpa using hl, by simp [m1], by simp [own1], fun i c hci => ?_⟩
  obtain ⟨u, g1, g2⟩ := hcs i c hci
  have hg := constCell_rep (num := num) (β := β) (w := w.alloc (.cells z.cells t)) (m := m1 m w.heap.size 0) (ν := own1 ν w.heap.size .f) g2
  exact ⟨u, by simpa using g1, hg.2.1, hg.1, hg.2.2 _⟩

/-- A block of the value at hand becomes a box. -/
theorem Inv.toBoxK (hI : Inv num N w0 m0 T β0 σ a w m β ν) {k : Blk} {cs : List AV} (hν : ν k.b = some .f) (hgp : gpfreeL cs = true)
    (hB : BoxK num (β ++ [k]) w m (own1 ν k.b (.g σ.bs.length)) σ.bs.length k cs) :
    Inv num N w0 m0 T β0 { σ with bs := σ.bs ++ [cs] } a w m (β ++ [k]) (own1 ν k.b (.g σ.bs.length)) := by
  have hge : Ge β (β ++ [k]) := Ge.append β _
  have hother : ∀ {x : Nat} {p : Pl}, ν x = some p → p ≠ .f → own1 ν k.b (.g σ.bs.length) x = some p := fun {x p} hx hp => by
    unfold own1
    split
    · rename_i hxb; subst hxb; rw [hν] at hx; injection hx with hx; exact absurd hx.symm hp
    · exact hx
  refine ⟨hI.defers, hI.size, hI.out, fun t v hv => ?_, by simp [hI.blen], fun i cs2 k2 h1 h2 hne => ?_, fun i cs2 h1 => ?_, fun x p hx => ?_, hI.step, fun i b hb => hge i b (hI.ge i b hb)⟩
  · exact SlotV_keep (θ := id) hge (Le.refl _ _) (fun b hb => ⟨rfl, rfl, hother hb (by simp)⟩) (fun i b hb => ⟨rfl, rfl, hother hb (by simp)⟩) (hI.slots t v hv)
  · by_cases hi : i < σ.bs.length
    · rw [List.getElem?_append_left hi] at h1
      rw [List.getElem?_append_left (by rw [hI.blen]; exact hi)] at h2
      exact BoxK_keep hge (Le.refl _ _) (fun b hb => ⟨rfl, rfl, hother hb (by simp)⟩) (fun i b hb => ⟨rfl, rfl, hother hb (by simp)⟩) (hI.boxes i cs2 k2 h1 h2 hne)
    · have hi2 : i = σ.bs.length := by
        rcases Nat.lt_or_ge i (σ.bs ++ [cs]).length with h | h
        · simp at h; omega
        · rw [List.getElem?_eq_none h] at h1; cases h1
      subst hi2
      simp only [List.getElem?_concat_length] at h1
      rw [← hI.blen, List.getElem?_concat_length] at h2
      injection h1 with h1
      injection h2 with h2
      subst h1 h2
      exact hB
  · by_cases hi : i < σ.bs.length
    · rw [List.getElem?_append_left hi] at h1
      exact hI.gpf i cs2 h1
    · have hi2 : i = σ.bs.length := by
        rcases Nat.lt_or_ge i (σ.bs ++ [cs]).length with h | h
        · simp at h; omega
        · rw [List.getElem?_eq_none h] at h1; cases h1
      subst hi2
      simp only [List.getElem?_concat_length] at h1
      injection h1 with h1
      subst h1
      exact hgp
  · unfold own1 at hx
    split at hx
    · rename_i hxb; subst hxb; exact hI.lt _ _ hν
    · exact hI.lt x p hx

theorem Inv.toBox (hI : Inv num N w0 m0 T β0 σ a w m β ν) {b : Nat} {cur : Array Value} {e : TypeId} {cs : List AV} (hb : w.heap[b]? = some (.cells cur e (0, 0))) (hν : ν b = some .f) (hm : m b = 0)
    (hz : cs.length ≤ cur.size) (hgp : gpfreeL cs = true)
    (hcs : ∀ (i : Nat) (c : AV), cs[i]? = some c → ∃ u, cur[i]? = some u ∧ u.oneCell' = true ∧ RepV num β w m c u ∧ ∀ p w' m' ν', OwnV w' m' ν' p c u) :
    Inv num N w0 m0 T β0 { σ with bs := σ.bs ++ [cs] } a w m (β ++ [⟨b, cur.size, false⟩]) (own1 ν b (.g σ.bs.length)) := by
  refine hI.toBoxK (k := ⟨b, cur.size, false⟩) hν hgp ⟨fun _ => ⟨cur, e, hb, ⟨rfl, hz⟩, hm, by simp [own1], fun j c hc => ?_⟩, fun q => by cases q⟩
  obtain ⟨u, g1, g2, g3, g4⟩ := hcs j c hc
  exact ⟨u, g1, g2, RepV_mono (Ge.append β _) (Le.refl w m) c u g3, g4 _ _ _ _⟩

theorem own1_own1 (ν : Own) (b : Nat) (p q : Pl) : own1 (own1 ν b p) b q = own1 ν b q := by
  funext x; unfold own1; split <;> rfl

/-- One box more. -/
theorem Inv.addG (hI : Inv num N w0 m0 T β0 σ a w m β ν) (cur : Array Value) (e : TypeId) (cs : List AV) (hz : cur.size = cs.length) (hgp : gpfreeL cs = true)
    (hcs : ∀ (i : Nat) (c : AV), cs[i]? = some c → ∃ u, cur[i]? = some u ∧ u.oneCell' = true ∧ RepV num β w m c u ∧ ∀ p w' m' ν', OwnV w' m' ν' p c u) :
    Inv num N w0 m0 T β0 { σ with bs := σ.bs ++ [cs] } a (w.alloc (.cells cur e)) (m1 m w.heap.size 0) (β ++ [⟨w.heap.size, cur.size, false⟩]) (own1 ν w.heap.size (.g σ.bs.length)) := by
  have hF := hI.fresh cur e 0 .f
  have := hF.toBox (cs := cs) (heap_alloc_new w _) (by simp [own1]) (by simp [m1]) (by omega) hgp fun i c hc => by
    obtain ⟨u, g1, g2, g3, g4⟩ := hcs i c hc
    exact ⟨u, g1, g2, RepV_mono (Ge.refl β) (Step.alloc (fun _ => False) w m cur e 0).le c u g3, g4⟩
  rwa [own1_own1] at this

/-- A box dies; its cells up to q are published. -/
theorem Inv.kill (hI : Inv num N w0 m0 T β0 σ a w m β ν) {id q : Nat} {cs : List AV} {k : Blk} (hs : σ.bs[id]? = some cs) (hk : β[id]? = some k ∧ k.mp = false) (hne : cs ≠ []) :
    Inv num N w0 m0 T β0 { σ with bs := σ.bs.set id [] } a w (m1 m k.b q) β (own1 ν k.b .f) ∧ Le w m w (m1 m k.b q) := by
  obtain ⟨cur, e, h1, h2, h3, h4, h5⟩ := (hI.boxes id cs k hs hk.1 hne).1 hk.2
  have hlt : id < σ.bs.length := by
    rcases Nat.lt_or_ge id σ.bs.length with h | h
    · exact h
    · rw [List.getElem?_eq_none h] at hs; cases hs
  have hle : Le w m w (m1 m k.b q) := fun x i u h => by
    obtain ⟨g1, g2, _⟩ := hg_some h
    have hx : x ≠ k.b := fun e => by subst e; omega
    unfold hg m1
    rw [if_neg hx, if_pos g1]
    exact g2
  have hS : Step (· = k.b) w m w (m1 m k.b q) := ⟨rfl, rfl, rfl, Nat.le_refl _, fun x _ hx => ⟨rfl, by unfold m1; rw [if_neg hx]⟩, hle⟩
  have hother : ∀ {x : Nat} {p : Pl}, ν x = some p → p ≠ .g id → ¬ x = k.b ∧ own1 ν k.b .f x = some p := fun {x p} hx hp => by
    have hne : ¬ x = k.b := fun e => by subst e; rw [h4] at hx; injection hx with hx; exact hp hx.symm
    exact ⟨hne, by unfold own1; rw [if_neg hne]; exact hx⟩
  refine ⟨hI.next hS (fun x hx hxb => by subst hxb; exact (hI.lt _ _ h4).2) (Ge.refl β) (fun _ => False) (fun t => t = id)
    (fun x t h _ => hother h (by simp)) (fun x t i h _ => hother h (by simp)) (fun x t h hn => hother h (by simpa using hn)) (fun x t i h hn => hother h (by simp))
    (fun x p h => ?_) (fun t hn => .inl rfl) hI.out (fun t v hE hv => hE.elim) (by simpa using hI.blen) (fun i hn => by simp [List.getElem?_set_ne (fun e => hn e.symm)])
    (fun i cs2 b2 hE h6 h7 => ?_), hle⟩
  · unfold own1 at h
    split at h
    · rename_i hxb; subst hxb; exact hI.lt _ _ h4
    · exact hI.lt x p h
  · subst hE
    simp only [List.getElem?_set_self hlt] at h6
    injection h6 with h6
    subst h6
    exact ⟨fun h => absurd rfl h, rfl⟩

theorem chunks_get {cs : List AV} {o sz n i : Nat} {x : List AV} (h : (chunks cs o sz n)[i]? = some x) : i < n ∧ x = ((cs.drop (o + i * sz)).take sz).map AV.strip := by
  unfold chunks at h
  rw [List.getElem?_map] at h
  cases hi : (List.range n)[i]? with
  | none => rw [hi] at h; cases h
  | some k =>
    rw [hi] at h
    injection h with h
    obtain ⟨h1, h2⟩ := List.getElem?_eq_some_iff.1 hi
    rw [List.getElem_range] at h2
    rw [List.length_range] at h1
    subst h2
    exact ⟨h1, h.symm⟩

theorem chunks_len (cs : List AV) (o sz n : Nat) : (chunks cs o sz n).length = n := by simp [chunks]

/-- A mutable slice is published. -/
theorem Inv.frz (hI : Inv num N w0 m0 T β0 σ a w m β ν) {n sz : Nat} (he : frzAt σ n sz = some (v, σ1)) :
    ∃ m' ν', Inv num N w0 m0 T β0 σ1 a w m' β ν' ∧ Le w m w m' ∧ v.ok = true ∧ RepV num β w m' v (a.tmps.getD n undef) ∧ OwnV w m' ν' .f v (a.tmps.getD n undef) := by
  unfold frzAt at he
  split at he
  · rename_i id o sz1 k hn
    split at he
    · rename_i hc
      obtain ⟨rfl, hsz⟩ := hc
      obtain ⟨_, h2⟩ := hI.at_ (n := n) (by rw [hn]; simp)
      have h3 := hI.slots n _ h2
      rw [hn] at h3
      obtain ⟨h3, _⟩ := h3
      simp only [RepV] at h3
      obtain ⟨A, cap, hu, q1, q2, q3⟩ := h3
      split at he
      · rename_i hk0
        injection he with he
        injection he with e1 e2
        subst e1 e2 hk0
        refine ⟨m, _, hI.takeSlot n, Le.refl w m, rfl, ?_, trivial⟩
        simp only [RepV]
        exact ⟨A, 0, cap, hu, rfl, q1, q2, .inl trivial⟩
      · rename_i hk0
        cases hbs : σ.bs[id]? with
        | none => rw [hbs] at he; cases he
        | some cs =>
          rw [hbs] at he
          simp only [Option.bind_some] at he
          split at he
          · rename_i hl
            injection he with he
            injection he with e1 e2
            subst e1 e2
            rcases q3 with q3 | ⟨kb, q3, rfl, q4, _⟩
            · exact absurd q3.1 hk0
            · have hkm : 0 < k * sz1 := Nat.mul_pos (Nat.pos_of_ne_zero hk0) hsz
              have hne : cs ≠ [] := fun e => by rw [e] at hl; simp only [List.length_nil] at hl; omega
              obtain ⟨cur, e, p1, p2, p3, p4, p5⟩ := (hI.boxes id cs kb hbs q3.1 hne).1 q3.2
              obtain ⟨hK, hle⟩ := (hI.takeSlot n).kill (id := id) (q := o + k * sz1) hbs q3 hne
              refine ⟨_, _, hK, hle, rfl, ?_, ?_⟩
              · simp only [RepV]
                refine ⟨_, k, cap, hu, chunks_len _ _ _ _, q1, q2, .inr ⟨kb.b, o, rfl, ?_⟩⟩
                rw [RepE_get]
                intro i x hx
                obtain ⟨hi, rfl⟩ := chunks_get hx
                have hi2 : i * sz1 + sz1 ≤ k * sz1 := by rw [← Nat.succ_mul]; exact Nat.mul_le_mul_right _ hi
                refine ⟨by simp; omega, ?_⟩
                rw [RepC_get]
                intro j c hc
                obtain ⟨d, hd, rfl⟩ := map_strip_get hc
                rw [List.getElem?_take] at hd
                split at hd
                · rename_i hj
                  rw [List.getElem?_drop] at hd
                  obtain ⟨u, r1, r2, r3, _⟩ := p5 _ d hd
                  refine ⟨u, ?_, r2, by rw [RepV_strip]; exact RepV_mono (Ge.refl β) hle d u r3⟩
                  unfold hg m1
                  rw [if_pos rfl, if_pos (by omega), cell_of_row w kb.b _ cur e (0, 0) p1]
                  exact r1
                · cases hd
              · by_cases ho : o = 0
                · subst ho
                  simp only [decide_true, OwnV]
                  refine .inr ⟨kb.b, cap, cur, e, by rw [chunks_len]; exact hu, p1, by omega, by simp [m1, chunks_len], by simp [own1]⟩
                · simp only [ho, decide_false]
                  exact trivial
          · cases he
    · split at he
      · rename_i hz
        obtain ⟨rfl, rfl⟩ := hz
        injection he with he
        injection he with e1 e2
        subst e1 e2
        obtain ⟨_, h2⟩ := hI.at_ (n := n) (by rw [hn]; simp)
        have h3 := hI.slots n _ h2
        rw [hn] at h3
        obtain ⟨h3, _⟩ := h3
        simp only [RepV] at h3
        obtain ⟨A, cap, hu, q1, q2, q3⟩ := h3
        have hc0 : cap = 0 := by
          rcases q3 with q3 | ⟨_, _, _, _, h5⟩
          · simpa using q3.2
          · omega
        subst hc0
        refine ⟨m, _, hI.takeSlot n, Le.refl w m, rfl, ?_, .inl ⟨A, hu⟩⟩
        simp only [RepV]
        exact ⟨A, 0, 0, hu, rfl, q1, q2, .inl trivial⟩
      · cases he
  · cases he

theorem gpfreeL_strip {cs : List AV} (h : gpfreeL cs = true) : gpfreeL (cs.map AV.strip) = true := by
  rw [gpfreeL_get] at h ⊢
  intro i c hc
  obtain ⟨d, hd, rfl⟩ := map_strip_get hc
  rw [gpfree_strip]
  exact h i d hd

theorem ex_gbox {x : AO} {y : Operand} {t : TypeId} (hI : Inv num N w0 m0 T β0 σ a w m β ν) (ho : o.op = .box t y) (hxy : okO num x y = true)
    (he : exec K (.gbox x) σ = some (v, σ1)) (h : Aft num N w0 m0 T β0 σ1 a v fun u w' => next (a.put o.dst u) w') : o.wp P a w next Q := by
  simp only [exec] at he
  cases hc : cellsOf (val σ.env x) with
  | none => rw [hc] at he; cases he
  | some cs =>
    rw [hc] at he
    simp only [Option.bind_some] at he
    split at he
    · rename_i hgp
      injection he with he
      injection he with h1 h2
      subst h1 h2
      have hk : (val σ.env x).ok = true := by
        cases hv : val σ.env x <;> rw [hv] at hc <;> simp [cellsOf, AV.one] at hc <;> rfl
      have hv := (hI.val hxy hk).1
      obtain ⟨_, hz, hcs⟩ := cellsOf_rep hc hv
      refine wp_value (u := .pointer (some ⟨w.heap.size, 0, none⟩)) (w' := w.alloc (.cells (a.eval y).cells t)) (by simp [execOp, ho, Instr.box, newVar, newRow]) ?_
      refine h _ _ _ _ _ (hI.addG (a.eval y).cells t (cs.map AV.strip) (by simpa using hz) (gpfreeL_strip hgp) fun i c hci => ?_) ?_
      · obtain ⟨d, hd, rfl⟩ := map_strip_get hci
        obtain ⟨u, g1, g2, g3⟩ := hcs i d hd
        exact ⟨u, g1, g2, by rw [RepV_strip]; exact g3, fun _ _ _ _ => OwnV_strip _ _ _⟩
      · refine (SlotV_ok rfl).2 ⟨?_, trivial⟩
        simp only [RepV]
        exact ⟨⟨w.heap.size, (a.eval y).cells.size, false⟩, ⟨by rw [← hI.blen]; simp, rfl⟩, rfl⟩
    · cases he

theorem ex_galloc {zs : List AV} {t : TypeId} (hI : Inv num N w0 m0 T β0 σ a w m β ν) (ho : o.op = .alloc t) (hz : zeroIs P t zs = true)
    (he : exec K (.galloc zs) σ = some (v, σ1)) (h : Aft num N w0 m0 T β0 σ1 a v fun u w' => next (a.put o.dst u) w') : o.wp P a w next Q := by
  simp only [exec] at he
  split at he
  · rename_i hgp
    injection he with he
    injection he with h1 h2
    subst h1 h2
    obtain ⟨z, hr, hc⟩ := zeroIs_run (w := w) hz
    obtain ⟨hl, hcs⟩ := constCells_get _ _ hc
    refine wp_value (u := .pointer (some ⟨w.heap.size, 0, none⟩)) (w' := w.alloc (.cells z.cells t)) (by simp [execOp, ho, Instr.alloc, newVar, newRow, hr]) ?_
    refine h _ _ _ _ _ (hI.addG z.cells t zs (by simpa using hl) hgp fun i c hci => ?_) ?_
    · obtain ⟨u, g1, g2⟩ := hcs i c hci
      have hg := constCell_rep (num := num) (β := β) (w := w) (m := m) (ν := ν) g2
      exact ⟨u, by simpa using g1, hg.2.1, hg.1, fun p w' m' ν' => (constCell_rep (num := num) (β := β) (w := w') (m := m') (ν := ν') g2).2.2 p⟩
    · refine (SlotV_ok rfl).2 ⟨?_, trivial⟩
      simp only [RepV]
      exact ⟨⟨w.heap.size, z.cells.size, false⟩, ⟨by rw [← hI.blen]; simp, rfl⟩, rfl⟩
  · cases he
end
end Go.Am

namespace Go.Am

def sizeIs (P : Program) (t : TypeId) (sz : Nat) : Bool := match P.info? t with
  | some i => decide (i.size = sz)
  | none => false
def aggIs (P : Program) (t : TypeId) (ag : Bool) : Bool := match P.underlying t with
  | some (.struct _) => ag
  | some (.array _ _) => ag
  | some _ => !ag
  | none => false
def fieldIs (P : Program) (s : TypeId) (f off : Nat) : Bool := match P.underlying s with
  | some (.struct fs) => match fs[f]? with
    | some fl => decide (fl.offset = off) && (match P.info? fl.type with
      | some i => decide (i.size ≠ 0)
      | none => false)
    | none => false
  | _ => false

/-- Slot q points to offset off of the box of slot s. -/
def PtrAt (a : Act) (q s off : Nat) : Prop := ∃ b, a.tmps.getD s undef = .pointer (some ⟨b, 0, none⟩) ∧ a.tmps.getD q undef = .pointer (some ⟨b, off, none⟩)

section
variable {P : Program} {num : Nat → Option Nat} {β : List Blk} {w w' : World} {m : Nat → Nat} {ν : Own} {N : Nat} {w0 : World} {m0 : Nat → Nat} {T : Nat → Prop} {β0 : List Blk} {σ σ1 : St} {a : Act}
  {o : Oper} {next : Act → World → Prop} {Q : Exit → Act → World → Prop} {K : CallF} {v : AV}

theorem run_sizeOf {t : TypeId} {sz : Nat} (h : sizeIs P t sz = true) : (sizeOf t).run P w = .ok sz w := by
  unfold sizeIs at h
  split at h
  · rename_i i hi
    simp only [decide_eq_true_eq] at h
    simp [sizeOf, typeInfo, hi, h]
  · cases h

theorem run_isAgg {t : TypeId} {ag : Bool} (h : aggIs P t ag = true) : (isAgg t).run P w = .ok ag w := by
  unfold aggIs at h
  split at h
  · rename_i hu; subst h; simp [isAgg, run_underlying hu]
  · rename_i hu; subst h; simp [isAgg, run_underlying hu]
  · rename_i d hu h1 h2
    have : ag = false := by simpa using h
    subst this
    simp only [isAgg, Sem.run_bind, run_underlying h2, Result.andThen_ok]
    rfl
  · cases h

theorem add_none (b o n : Nat) : Addr.add ⟨b, o, none⟩ n = ⟨b, o + n, none⟩ := Addr.add_lit b o n

theorem run_load_cells {t : TypeId} {off sz : Nat} {ag : Bool} (hs : sizeIs P t sz = true) (ha : aggIs P t ag = true) {b o : Nat} {cs : List AV} (hrd : rdCells cs off sz ag = some v)
    (hc : ∀ (i : Nat) (c : AV), cs[i]? = some c → ∃ u, w.cell? ⟨b, o + i, none⟩ = some u ∧ u.oneCell' = true ∧ RepV num β w m c u) :
    ∃ u, (loadVar t ⟨b, o + off, none⟩).run P w = .ok u w ∧ v.ok = true ∧ RepV num β w m v u ∧ ∀ p, OwnV w m ν p v u := by
  unfold rdCells at hrd
  split at hrd
  · rename_i hle
    cases ag
    · simp only [Bool.false_eq_true, if_false] at hrd
      split at hrd
      · cases hco : cs[off]? with
        | none => rw [hco] at hrd; cases hrd
        | some c =>
          rw [hco] at hrd
          simp only [Option.bind_some] at hrd
          split at hrd
          · rename_i h1
            injection hrd with hrd
            subst hrd
            obtain ⟨u, g1, g2, g3⟩ := hc off c hco
            refine ⟨u, ?_, ?_, by rw [RepV_strip]; exact g3, fun p => OwnV_strip _ _ _⟩
            · simp only [loadVar, Sem.run_bind, run_isAgg ha, Result.andThen_ok, Bool.false_eq_true, if_false, run_load, g1]
            · rw [strip_ok]; cases c <;> first | rfl | simp [AV.one] at h1
          · cases hrd
      · cases hrd
    · simp only [if_true] at hrd
      injection hrd with hrd
      subst hrd
      have hget : ∀ j, j < sz → ∃ c, cs[off + j]? = some c := fun j hj => ⟨_, List.getElem?_eq_getElem (by omega)⟩
      let f : Nat → Value := fun j => (w.cell? ⟨b, o + off + j, none⟩).getD undef
      have hf : ∀ j, j < sz → w.cell? ((⟨b, o + off, none⟩ : Addr).add j) = some (f j) := fun j hj => by
        obtain ⟨c, hcj⟩ := hget j hj
        obtain ⟨u, g1, _, _⟩ := hc _ c hcj
        rw [add_none]
        rw [show o + (off + j) = o + off + j by omega] at g1
        simp [f, g1]
      refine ⟨.agg ((List.range sz).map f).toArray, ?_, rfl, ?_, fun p => trivial⟩
      · simp only [loadVar, Sem.run_bind, run_isAgg ha, run_sizeOf hs, Result.andThen_ok, if_true]
        rw [run_loadCells w _ sz f hf]
        rfl
      · simp only [RepV]
        refine ⟨_, rfl, by simp; omega, ?_⟩
        rw [RepC_get]
        intro i c hci
        obtain ⟨d, hd, rfl⟩ := map_strip_get hci
        have hisz : i < sz := by
          rcases Nat.lt_or_ge i sz with h | h
          · exact h
          · rw [List.getElem?_eq_none (by simp; omega)] at hd; cases hd
        rw [List.getElem?_take_of_lt hisz, List.getElem?_drop] at hd
        obtain ⟨u, g1, g2, g3⟩ := hc _ d hd
        refine ⟨u, ?_, g2, by rw [RepV_strip]; exact g3⟩
        rw [show o + (off + i) = o + off + i by omega] at g1
        simp [f, hisz, g1]
  · cases hrd

theorem Inv.box_at (hI : Inv num N w0 m0 T β0 σ a w m β ν) {s q off : Nat} {cs : List AV} (hs : σ.env s = .bx cs) (hp : PtrAt a q s off ∨ (q = s ∧ off = 0)) :
    ∃ b cur e, a.tmps[s]? = some (.pointer (some ⟨b, 0, none⟩)) ∧ a.eval (.tmp q) = .pointer (some ⟨b, off, none⟩) ∧ w.heap[b]? = some (.cells cur e (0, 0)) ∧ cur.size = cs.length ∧
      ∀ (i : Nat) (c : AV), cs[i]? = some c → ∃ u, cur[i]? = some u ∧ u.oneCell' = true ∧ RepV num β w m c u ∧ OwnV w m ν (.c s i) c u := by
  obtain ⟨_, h2⟩ := hI.at_ (n := s) (by rw [hs]; simp)
  have h3 := hI.slots s _ h2
  rw [hs] at h3
  obtain ⟨b, h4, cur, e, h5, h6, h7, h8, h9⟩ := h3
  refine ⟨b, cur, e, by rw [h2, h4], ?_, h5, h6.1, h9⟩
  rcases hp with ⟨b2, p1, p2⟩ | ⟨rfl, rfl⟩
  · rw [h4] at p1
    injection p1 with p1
    injection p1 with p1
    injection p1 with p1
    subst p1
    exact p2
  · exact h4

theorem ex_ldf {s q off sz : Nat} {ag : Bool} {t : TypeId} (hI : Inv num N w0 m0 T β0 σ a w m β ν) (ho : o.op = .load t (.tmp q)) (hs : sizeIs P t sz = true) (ha : aggIs P t ag = true)
    (hp : PtrAt a q s off ∨ (q = s ∧ off = 0)) (he : exec K (.ldf s off sz ag) σ = some (v, σ1)) (h : Aft num N w0 m0 T β0 σ1 a v fun u w' => next (a.put o.dst u) w') : o.wp P a w next Q := by
  simp only [exec] at he
  split at he
  · rename_i cs hcs
    cases hr : rdCells cs off sz ag with
    | none => rw [hr] at he; cases he
    | some v2 =>
      rw [hr] at he
      injection he with he
      injection he with h1 h2
      subst h1 h2
      obtain ⟨b, cur, e, _, hq, hb, hz, hc⟩ := hI.box_at hcs hp
      obtain ⟨u, g1, g2, g3, g4⟩ := run_load_cells (w := w) (num := num) (β := β) (m := m) (ν := ν) (o := 0) (b := b) hs ha hr (fun i c hi => by
        obtain ⟨u, k1, k2, k3, _⟩ := hc i c hi
        exact ⟨u, by rw [Nat.zero_add, cell_of_row w b i cur e (0, 0) hb]; exact k1, k2, k3⟩)
      refine wp_value (u := u) (w' := w) ?_ (h.same hI g2 g3 (g4 _))
      rw [Nat.zero_add] at g1
      simp only [execOp, ho, Instr.loadAt, hq, Instr.sureAddr, Sem.run_bind, Sem.run_pure, Result.andThen_ok, g1]
  · cases he

theorem ex_ld {p sz : Nat} {ag : Bool} {t : TypeId} (hI : Inv num N w0 m0 T β0 σ a w m β ν) (ho : o.op = .load t (.tmp p)) (hs : sizeIs P t sz = true) (ha : aggIs P t ag = true)
    (he : exec K (.ld p sz ag) σ = some (v, σ1)) (h : Aft num N w0 m0 T β0 σ1 a v fun u w' => next (a.put o.dst u) w') : o.wp P a w next Q := by
  simp only [exec] at he
  split at he
  · rename_i cs hcs
    cases hr : rdCells cs 0 sz ag with
    | none => rw [hr] at he; cases he
    | some v2 =>
      rw [hr] at he
      injection he with he
      injection he with h1 h2
      subst h1 h2
      obtain ⟨_, h2⟩ := hI.at_ (n := p) (by rw [hcs]; simp)
      have h3 := hI.slots p _ h2
      rw [hcs] at h3
      obtain ⟨h3, _⟩ := h3
      simp only [RepV] at h3
      obtain ⟨b, o2, h4, h5⟩ := h3
      rw [RepC_get] at h5
      obtain ⟨u, g1, g2, g3, g4⟩ := run_load_cells (w := w) (num := num) (β := β) (m := m) (ν := ν) (o := o2) (b := b) hs ha hr (fun i c hi => by
        obtain ⟨u, k1, k2, k3⟩ := h5 i c hi
        exact ⟨u, (hg_some k1).2.1, k2, k3⟩)
      refine wp_value (u := u) (w' := w) ?_ (h.same hI g2 g3 (g4 _))
      rw [Nat.add_zero] at g1
      have hq : a.eval (.tmp p) = .pointer (some ⟨b, o2, none⟩) := h4
      simp only [execOp, ho, Instr.loadAt, hq, Instr.sureAddr, Sem.run_bind, Sem.run_pure, Result.andThen_ok, g1]
  · cases he

theorem ne_of_get {α : Type} {cs : List α} {i : Nat} {c : α} (h : cs[i]? = some c) : cs ≠ [] := fun e => by rw [e] at h; simp at h

theorem ex_ldg {p sz : Nat} {ag : Bool} {t : TypeId} (hI : Inv num N w0 m0 T β0 σ a w m β ν) (ho : o.op = .load t (.tmp p)) (hs : sizeIs P t sz = true) (ha : aggIs P t ag = true)
    (he : exec K (.ldg p sz ag) σ = some (v, σ1)) (h : Aft num N w0 m0 T β0 σ1 a v fun u w' => next (a.put o.dst u) w') : o.wp P a w next Q := by
  simp only [exec] at he
  split at he
  · rename_i i off hcs
    cases hbs : σ.bs[i]? with
    | none => rw [hbs] at he; cases he
    | some cs =>
      rw [hbs] at he
      simp only [Option.bind_some] at he
      cases hr : rdCells cs off sz ag with
      | none => rw [hr] at he; cases he
      | some v2 =>
        rw [hr] at he
        injection he with he
        injection he with h1 h2
        subst h1 h2
        obtain ⟨_, h2⟩ := hI.at_ (n := p) (by rw [hcs]; simp)
        have h3 := hI.slots p _ h2
        rw [hcs] at h3
        obtain ⟨h3, _⟩ := h3
        simp only [RepV] at h3
        obtain ⟨⟨b, z, mp⟩, h4, h5⟩ := h3
        obtain ⟨u, g1, g2, g3, g4⟩ := run_load_cells (w := w) (num := num) (β := β) (m := m) (ν := ν) (o := 0) (b := b) hs ha hr (fun j c hi => by
          obtain ⟨cur, e, k1, k2, _, _, hc⟩ := (hI.boxes i cs _ hbs h4.1 (ne_of_get hi)).1 h4.2
          obtain ⟨u, c1, c2, c3, _⟩ := hc j c hi
          exact ⟨u, by rw [Nat.zero_add, cell_of_row w b j cur e (0, 0) k1]; exact c1, c2, c3⟩)
        refine wp_value (u := u) (w' := w) ?_ (h.same hI g2 g3 (g4 _))
        rw [Nat.zero_add] at g1
        have hq : a.eval (.tmp p) = .pointer (some ⟨b, off, none⟩) := h5
        simp only [execOp, ho, Instr.loadAt, hq, Instr.sureAddr, Sem.run_bind, Sem.run_pure, Result.andThen_ok, g1]
  · cases he

theorem one_ok {c : AV} (h : c.one = true) : c.ok = true := by cases c <;> first | rfl | simp [AV.one] at h

theorem ex_ldfm {s q off : Nat} {t : TypeId} (hI : Inv num N w0 m0 T β0 σ a w m β ν) (ho : o.op = .load t (.tmp q)) (ha : aggIs P t false = true)
    (hp : PtrAt a q s off ∨ (q = s ∧ off = 0)) (he : exec K (.ldfm s off) σ = some (v, σ1)) (h : Aft num N w0 m0 T β0 σ1 a v fun u w' => next (a.put o.dst u) w') : o.wp P a w next Q := by
  simp only [exec] at he
  split at he
  · rename_i cs hcs
    cases hr : cs[off]? with
    | none => rw [hr] at he; cases he
    | some c =>
      rw [hr] at he
      simp only [Option.bind_some] at he
      split at he
      · rename_i h1c
        injection he with he
        injection he with h1 h2
        subst h1 h2
        obtain ⟨b, cur, e, _, hq, hb, hz, hc⟩ := hI.box_at hcs hp
        obtain ⟨u, k1, k2, k3, k4⟩ := hc off c hr
        have hcell : w.cell? ⟨b, off, none⟩ = some u := by rw [cell_of_row w b off cur e (0, 0) hb]; exact k1
        refine wp_value (u := u) (w' := w) ?_ ?_
        · simp only [execOp, ho, Instr.loadAt, hq, Instr.sureAddr, Sem.run_bind, Sem.run_pure, Result.andThen_ok, loadVar, run_isAgg ha, Bool.false_eq_true, if_false, run_load, hcell]
        · refine h u w m β _ (hI.takeCell s off hcs) ((SlotV_ok (one_ok h1c)).2 ⟨k3, ?_⟩)
          have := OwnV_map (θ := mv (.c s off) .f) k4
          rwa [show mv (.c s off) .f (.c s off) = .f by simp [mv]] at this
      · cases he
  · cases he

theorem ex_ldm {p : Nat} {t : TypeId} (hI : Inv num N w0 m0 T β0 σ a w m β ν) (ho : o.op = .load t (.tmp p)) (ha : aggIs P t false = true)
    (he : exec K (.ldm p) σ = some (v, σ1)) (h : Aft num N w0 m0 T β0 σ1 a v fun u w' => next (a.put o.dst u) w') : o.wp P a w next Q := by
  simp only [exec] at he
  split at he
  · rename_i i off hcs
    cases hbs : σ.bs[i]? with
    | none => rw [hbs] at he; cases he
    | some cs =>
      rw [hbs] at he
      simp only [Option.bind_some] at he
      cases hr : cs[off]? with
      | none => rw [hr] at he; cases he
      | some c =>
        rw [hr] at he
        simp only [Option.bind_some] at he
        split at he
        · rename_i h1c
          injection he with he
          injection he with h1 h2
          subst h1 h2
          obtain ⟨_, h2⟩ := hI.at_ (n := p) (by rw [hcs]; simp)
          have h3 := hI.slots p _ h2
          rw [hcs] at h3
          obtain ⟨h3, _⟩ := h3
          simp only [RepV] at h3
          obtain ⟨⟨b, z, mp⟩, h4, h5⟩ := h3
          obtain ⟨cur, e, k1, k2, _, _, hc⟩ := (hI.boxes i cs _ hbs h4.1 (ne_of_get hr)).1 h4.2
          obtain ⟨u, c1, c2, c3, c4⟩ := hc off c hr
          have hcell : w.cell? ⟨b, off, none⟩ = some u := by rw [cell_of_row w b off cur e (0, 0) k1]; exact c1
          have hq : a.eval (.tmp p) = .pointer (some ⟨b, off, none⟩) := h5
          refine wp_value (u := u) (w' := w) ?_ ?_
          · simp only [execOp, ho, Instr.loadAt, hq, Instr.sureAddr, Sem.run_bind, Sem.run_pure, Result.andThen_ok, loadVar, run_isAgg ha, Bool.false_eq_true, if_false, run_load, hcell]
          · refine h u w m β _ (hI.takeG i off hbs h4) ((SlotV_ok (one_ok h1c)).2 ⟨c3, ?_⟩)
            have := OwnV_map (θ := mv (.gc i off) .f) c4
            rwa [show mv (.gc i off) .f (.gc i off) = .f by simp [mv]] at this
        · cases he
  · cases he

theorem run_fieldAt {s : TypeId} {f off b o2 : Nat} (h : fieldIs P s f off = true) : (Instr.fieldAt s (.pointer (some ⟨b, o2, none⟩)) f).run P w = .ok (.pointer (some ⟨b, o2 + off, none⟩)) w := by
  unfold fieldIs at h
  split at h
  · rename_i fs hu
    split at h
    · rename_i fl hf
      simp only [Bool.and_eq_true, decide_eq_true_eq] at h
      obtain ⟨h1, h2⟩ := h
      split at h2
      · rename_i i hi
        simp only [ne_eq, decide_eq_true_eq] at h2
        simp [Instr.fieldAt, run_underlying hu, hf, Instr.sureAddr, fieldPlace, sizeOf, typeInfo, hi, h2, add_none, h1]
      · cases h2
    · cases h
  · cases h

/-- The address of a field of a slot's own box: nothing is said of it here. -/
theorem ex_fad {s : TypeId} {q f off b o2 : Nat} (hI : Inv num N w0 m0 T β0 σ a w m β ν) (ho : o.op = .fieldAddr s (.tmp q) f) (hf : fieldIs P s f off = true)
    {s2 off2 : Nat} (hq : a.eval (.tmp q) = .pointer (some ⟨b, o2, none⟩)) (he : exec K (.fad s2 off2) σ = some (v, σ1))
    (h : Inv num N w0 m0 T β0 σ1 a w m β ν → v = .undef → next (a.put o.dst (.pointer (some ⟨b, o2 + off, none⟩))) w) : o.wp P a w next Q := by
  simp only [exec] at he
  split at he
  · injection he with he
    injection he with h1 h2
    subst h1 h2
    exact wp_value (u := .pointer (some ⟨b, o2 + off, none⟩)) (w' := w) (by simp only [execOp, ho, hq, Sem.run_bind, run_fieldAt hf, Result.andThen_ok, Sem.run_pure]) (h hI rfl)
  · cases he

theorem ex_fadr {s : TypeId} {p f off : Nat} (hI : Inv num N w0 m0 T β0 σ a w m β ν) (ho : o.op = .fieldAddr s (.tmp p) f) (hf : fieldIs P s f off = true)
    (he : exec K (.fadr p off) σ = some (v, σ1)) (h : Aft num N w0 m0 T β0 σ1 a v fun u w' => next (a.put o.dst u) w') : o.wp P a w next Q := by
  simp only [exec] at he
  split at he
  · rename_i i o2 hcs
    injection he with he
    injection he with h1 h2
    subst h1 h2
    obtain ⟨_, h2⟩ := hI.at_ (n := p) (by rw [hcs]; simp)
    have h3 := hI.slots p _ h2
    rw [hcs] at h3
    obtain ⟨h3, _⟩ := h3
    simp only [RepV] at h3
    obtain ⟨⟨b, z, mp⟩, h4, h5⟩ := h3
    have hq : a.eval (.tmp p) = .pointer (some ⟨b, o2, none⟩) := h5
    refine wp_value (u := .pointer (some ⟨b, o2 + off, none⟩)) (w' := w) (by simp only [execOp, ho, hq, Sem.run_bind, run_fieldAt hf, Result.andThen_ok, Sem.run_pure]) (h.same hI rfl ?_ trivial)
    simp only [RepV]
    exact ⟨⟨b, z, mp⟩, h4, rfl⟩
  · rename_i cs hcs
    injection he with he
    injection he with h1 h2
    subst h1 h2
    obtain ⟨_, h2⟩ := hI.at_ (n := p) (by rw [hcs]; simp)
    have h3 := hI.slots p _ h2
    rw [hcs] at h3
    obtain ⟨h3, _⟩ := h3
    simp only [RepV] at h3
    obtain ⟨b, o2, h4, h5⟩ := h3
    have hq : a.eval (.tmp p) = .pointer (some ⟨b, o2, none⟩) := h4
    refine wp_value (u := .pointer (some ⟨b, o2 + off, none⟩)) (w' := w) (by simp only [execOp, ho, hq, Sem.run_bind, run_fieldAt hf, Result.andThen_ok, Sem.run_pure]) (h.same hI rfl ?_ trivial)
    simp only [RepV]
    refine ⟨b, o2 + off, rfl, ?_⟩
    rw [RepC_get] at h5 ⊢
    intro i c hc
    rw [List.getElem?_drop] at hc
    obtain ⟨u, g1, g2, g3⟩ := h5 _ c hc
    exact ⟨u, by rw [Nat.add_assoc]; exact g1, g2, g3⟩
  · cases he
end
end Go.Am

namespace Go.Am

theorem put_get {α : Type} (cs : List α) (off : Nat) (vs : List α) (h : off + vs.length ≤ cs.length) (i : Nat) :
    (cs.take off ++ vs ++ cs.drop (off + vs.length))[i]? = if i < off then cs[i]? else if i < off + vs.length then vs[i - off]? else cs[i]? := by
  have hl : (cs.take off).length = off := by rw [List.length_take]; omega
  by_cases h1 : i < off
  · rw [if_pos h1, List.append_assoc, List.getElem?_append_left (by omega), List.getElem?_take_of_lt h1]
  · rw [if_neg h1]
    by_cases h2 : i < off + vs.length
    · rw [if_pos h2, List.append_assoc, List.getElem?_append_right (by omega), hl, List.getElem?_append_left (by omega)]
    · rw [if_neg h2, List.getElem?_append_right (by rw [List.length_append, hl]; omega), List.length_append, hl, List.getElem?_drop]
      congr 1
      omega

theorem put_len {α : Type} (cs : List α) (off : Nat) (vs : List α) (h : off + vs.length ≤ cs.length) : (cs.take off ++ vs ++ cs.drop (off + vs.length)).length = cs.length := by
  simp only [List.length_append, List.length_take, List.length_drop]; omega

section
variable {P : Program} {num : Nat → Option Nat} {β : List Blk} {w w' : World} {m : Nat → Nat} {ν : Own} {N : Nat} {w0 : World} {m0 : Nat → Nat} {T : Nat → Prop} {β0 : List Blk} {σ σ1 : St} {a : Act}
  {o : Oper} {next : Act → World → Prop} {Q : Exit → Act → World → Prop} {K : CallF} {v : AV}

theorem run_storeVar_at {t : TypeId} {sz b off : Nat} {e : TypeId} {cur : Array Value} {u : Value} (hs : sizeIs P t sz = true) (hb : w.heap[b]? = some (.cells cur e (0, 0))) (hu : u.cells.size = sz)
    (hl : off + sz ≤ cur.size) (h1 : ∀ x ∈ u.cells.toList, x.oneCell' = true) :
    (storeVar t ⟨b, off, none⟩ u).run P w = .ok () (w.setRow b (cur.toList.take off ++ u.cells.toList ++ cur.toList.drop (off + u.cells.toList.length)).toArray) := by
  have := run_storeCells_at P b off e u.cells.toList 0 cur w hb (by simpa [hu] using hl) h1
  simp only [storeVar, Sem.run_bind, run_sizeOf hs, Result.andThen_ok, hu, ne_eq, not_true_eq_false, if_false]
  exact this

theorem cells_one {cs : List AV} {u : Value} (hz : u.cells.size = cs.length) (hc : ∀ (i : Nat) (c : AV), cs[i]? = some c → ∃ x, u.cells[i]? = some x ∧ x.oneCell' = true ∧ RepV num β w m c x) :
    ∀ x ∈ u.cells.toList, x.oneCell' = true := by
  intro x hx
  obtain ⟨i, hi⟩ := List.getElem?_of_mem hx
  have hlt : i < u.cells.toList.length := by
    rcases Nat.lt_or_ge i u.cells.toList.length with h | h
    · exact h
    · rw [List.getElem?_eq_none h] at hi; cases hi
  obtain ⟨y, g1, g2, _⟩ := hc i _ (List.getElem?_eq_getElem (by rw [← hz]; simpa using hlt))
  rw [Array.getElem?_toList, g1] at hi
  injection hi with hi
  subst hi
  exact g2

theorem ok_of_cells {x : AV} {cs : List AV} (hc : cellsOf x = some cs) : x.ok = true := by
  cases x <;> simp [cellsOf, AV.one] at hc <;> rfl

/-- The row behind a store of several cells. -/
theorem put_length (cs : List AV) (off : Nat) (vs : List AV) (h : off + vs.length ≤ cs.length) : (put cs off vs).length = cs.length := by
  unfold put
  rw [put_len _ _ _ h]

theorem put_row {cs vs : List AV} {cur : Array Value} {us : List Value} {off : Nat} (hz : cs.length ≤ cur.size) (hl : off + vs.length ≤ cs.length) (hu : us.length = vs.length) {R S : Nat → AV → Value → Prop}
    (hcs : ∀ (i : Nat) (c : AV), cs[i]? = some c → ∃ u, cur[i]? = some u ∧ R i c u) (hvs : ∀ (i : Nat) (c : AV), vs[i]? = some c → ∃ u, us[i]? = some u ∧ S i c u) :
    (cur.toList.take off ++ us ++ cur.toList.drop (off + us.length)).toArray.size = cur.size ∧
    ∀ (i : Nat) (c : AV), (put cs off vs)[i]? = some c → ∃ u, (cur.toList.take off ++ us ++ cur.toList.drop (off + us.length)).toArray[i]? = some u ∧ (R i c u ∨ (off ≤ i ∧ i < off + vs.length ∧ S (i - off) c u)) := by
  have hl2 : off + us.length ≤ cur.toList.length := by simp; omega
  refine ⟨?_, fun i c hc => ?_⟩
  · rw [List.size_toArray, put_len _ _ _ hl2]
    simp
  · unfold put at hc
    rw [put_get _ _ _ hl] at hc
    rw [List.getElem?_toArray, put_get _ _ _ hl2, hu]
    split at hc
    · rename_i h1
      obtain ⟨u, g1, g2⟩ := hcs i c hc
      exact ⟨u, by rw [if_pos h1]; simpa using g1, .inl g2⟩
    · rename_i h1
      split at hc
      · rename_i h2
        obtain ⟨u, g1, g2⟩ := hvs _ c hc
        exact ⟨u, by rw [if_neg h1, if_pos h2]; exact g1, .inr ⟨by omega, h2, g2⟩⟩
      · rename_i h2
        obtain ⟨u, g1, g2⟩ := hcs i c hc
        exact ⟨u, by rw [if_neg h1, if_neg h2]; simpa using g1, .inl g2⟩

theorem ownMap_id : ownMap ν id = ν := by funext b; unfold ownMap; cases ν b <;> rfl

theorem store_run {t : TypeId} {x y : Operand} {A : Addr} (ho : o.op = .store t x y) (hq : a.eval x = .pointer (some A)) (hr : (storeVar t A (a.eval y)).run P w = .ok () w') :
    (execOp a.eval o).run P w = .ok .skip w' := by
  simp only [execOp, ho, Instr.storeAt, hq, Instr.sureAddr, Sem.run_bind, Sem.run_pure, Result.andThen_ok, hr]

theorem stV_rep {ρ : Nat → AV} {x : AO} {y : Operand} {vs : List AV} {us : Array Value} (ho : okO num x y = true) (hc : cellsOf (val ρ x) = some vs) (hu : us = (a.eval y).cells)
    (hvs : ∀ (i : Nat) (c : AV), vs[i]? = some c → ∃ u, us[i]? = some u ∧ u.oneCell' = true ∧ RepV num β w m c u) :
    ∀ (i : Nat) (c : AV), (stV x vs)[i]? = some c → ∃ u, us[i]? = some u ∧ u.oneCell' = true ∧ RepV num β w m c u ∧ ∀ p ν, OwnV w m ν p c u := by
  intro i c hi
  unfold stV at hi
  split at hi
  · rename_i z vs
    cases y <;> try (simp [okO] at ho; done)
    rename_i u
    simp only [okO, constOk] at ho
    have h1 : ∀ ν, _ := fun ν => constCell_rep (num := num) (β := β) (w := w) (m := m) (ν := ν) ho
    simp [val, cellsOf, AV.one, AV.strip] at hc
    subst hc
    match i with
    | 0 =>
      simp at hi
      subst hi
      obtain ⟨v, g1, g2, g3⟩ := hvs 0 _ rfl
      have h4 : (a.eval (.const u)).cells = #[u] := by
        have := (h1 fun _ => none).2.1
        show u.cells = #[u]
        cases u <;> first | rfl | simp [Value.oneCell'] at this
      refine ⟨u, by rw [hu, h4]; rfl, (h1 fun _ => none).2.1, (h1 fun _ => none).1, fun p ν => (h1 ν).2.2 p⟩
    | i + 1 => simp at hi
  · obtain ⟨d, hd, rfl⟩ := map_strip_get hi
    obtain ⟨u, g, k1, k2⟩ := hvs i d hd
    exact ⟨u, g, k1, by rw [RepV_strip]; exact k2, fun p ν => OwnV_strip _ _ _⟩

theorem ex_stf {s q off sz : Nat} {x : AO} {y : Operand} {t : TypeId} (hI : Inv num N w0 m0 T β0 σ a w m β ν) (ho : o.op = .store t (.tmp q) y) (hs : sizeIs P t sz = true) (hxy : okO num x y = true)
    (hp : PtrAt a q s off ∨ (q = s ∧ off = 0)) (he : exec K (.stf s off sz x) σ = some (v, σ1)) (h : ∀ w' m' β' ν', Inv num N w0 m0 T β0 σ1 a w' m' β' ν' → v = .undef → next (a.put o.dst undef) w') :
    o.wp P a w next Q := by
  simp only [exec] at he
  split at he
  · rename_i cs hcs
    cases hc : cellsOf (val σ.env x) with
    | none => rw [hc] at he; cases he
    | some vs =>
      rw [hc] at he
      simp only [Option.bind_some] at he
      split at he
      · rename_i hsz
        injection he with he
        injection he with h1 h2
        subst h1 h2
        obtain ⟨hz1, hl⟩ := hsz
        have hv := (hI.val hxy (ok_of_cells hc)).1
        obtain ⟨_, hz, hvs⟩ := cellsOf_rep hc hv
        obtain ⟨b0, cur0, e0, hx0, hq, hb0, hz0, hcur0⟩ := hI.box_at hcs hp
        obtain ⟨b, cur, e, hxb, hb, hzc, hcur, hfin⟩ := hI.setBox (cs' := put cs off (stV x vs)) s hcs hx0
        injection hxb with hxb
        injection hxb with hxb
        injection hxb with hxb
        subst hxb
        have hrun := run_storeVar_at (w := w) (off := off) hs hb (hz.trans hz1) (by omega) (cells_one hz hvs)
        have hex := store_run ho hq hrun
        refine wp_skipv hex (h _ m β _ (hfin id _ (fun _ => rfl) (fun _ _ => rfl) (fun _ => rfl) (fun _ _ => rfl) ?_ ?_) rfl)
        · exact (put_row (vs := stV x vs) (Nat.le_of_eq hzc.symm) (by rw [stV_length]; exact hl) (by rw [Array.length_toList, hz, stV_length]) (R := fun _ _ _ => True) (S := fun _ _ _ => True) (fun i c hi => by obtain ⟨u, g, _⟩ := hcur i c hi; exact ⟨u, g, trivial⟩)
            (fun i c hi => by obtain ⟨u, g, _⟩ := stV_rep (ρ := σ.env) (a := a) hxy hc rfl hvs i c hi; exact ⟨u, by simpa using g, trivial⟩)).1.trans (by rw [put_length _ _ _ (by rw [stV_length]; exact hl)]; exact hzc)
        · intro i c hi
          obtain ⟨u, g1, g2⟩ := (put_row (vs := stV x vs) (Nat.le_of_eq hzc.symm) (by rw [stV_length]; exact hl) (by rw [Array.length_toList, hz, stV_length]) (R := fun i c u => u.oneCell' = true ∧ RepV num β w m c u ∧ OwnV w m ν (.c s i) c u)
            (S := fun _ c u => u.oneCell' = true ∧ RepV num β w m c u ∧ ∀ p, OwnV w m ν p c u) hcur
            (fun i c hi => by obtain ⟨u, g, k1, k2, k3⟩ := stV_rep (ρ := σ.env) (a := a) hxy hc rfl hvs i c hi; exact ⟨u, by simpa using g, k1, k2, fun p => k3 p ν⟩)).2 i c hi
          refine ⟨u, g1, ?_⟩
          have hne : ν b0 ≠ some (.c s i) := by
            obtain ⟨_, h2⟩ := hI.at_ (n := s) (by rw [hcs]; simp)
            have h3 := hI.slots s _ h2
            rw [hcs] at h3
            obtain ⟨b2, hxb2, _, _, _, _, _, hν, _⟩ := h3
            rw [h2] at hx0
            injection hx0 with hx0
            rw [hxb2] at hx0
            injection hx0 with hx0
            injection hx0 with hx0
            injection hx0 with hx0
            subst hx0
            rw [hν]; simp
          rcases g2 with ⟨k1, k2, k3⟩ | ⟨_, _, k1, k2, k3⟩
          · exact ⟨k1, k2, _, k3, rfl, hne⟩
          · exact ⟨k1, k2, .c s i, k3 _, rfl, hne⟩
      · cases he
  · cases he

theorem ex_st {p sz : Nat} {x : AO} {y : Operand} {t : TypeId} (hI : Inv num N w0 m0 T β0 σ a w m β ν) (ho : o.op = .store t (.tmp p) y) (hs : sizeIs P t sz = true) (hxy : okO num x y = true)
    (he : exec K (.st p sz x) σ = some (v, σ1)) (h : ∀ w' m' β' ν', Inv num N w0 m0 T β0 σ1 a w' m' β' ν' → v = .undef → next (a.put o.dst undef) w') :
    o.wp P a w next Q := by
  simp only [exec] at he
  split at he
  · rename_i i0 off hcs
    cases hbs : σ.bs[i0]? with
    | none => rw [hbs] at he; cases he
    | some cs =>
      rw [hbs] at he
      simp only [Option.bind_some] at he
      cases hc : cellsOf (val σ.env x) with
      | none => rw [hc] at he; cases he
      | some vs =>
        rw [hc] at he
        simp only [Option.bind_some] at he
        split at he
        · rename_i hsz
          injection he with he
          injection he with h1 h2
          subst h1 h2
          obtain ⟨hz1, hl, hgp, h0⟩ := hsz
          have hv := (hI.val hxy (ok_of_cells hc)).1
          obtain ⟨_, hz, hvs⟩ := cellsOf_rep hc hv
          obtain ⟨_, h2⟩ := hI.at_ (n := p) (by rw [hcs]; simp)
          have h3 := hI.slots p _ h2
          rw [hcs] at h3
          obtain ⟨h3, _⟩ := h3
          simp only [RepV] at h3
          obtain ⟨⟨b, z, mp⟩, h4, h5⟩ := h3
          have hq : a.eval (.tmp p) = .pointer (some ⟨b, off, none⟩) := h5
          have hne0 : cs ≠ [] := fun e => by rw [e] at hl; simp only [List.length_nil] at hl; omega
          obtain ⟨cur, e, hb, ⟨hzc, hzl⟩, hcur, hfin⟩ := hI.setG (cs' := put cs off (vs.map AV.strip)) i0 hbs h4 hne0
          simp only at hb hzc hzl
          have hrun := run_storeVar_at (w := w) (off := off) hs hb (hz.trans hz1) (by omega) (cells_one hz hvs)
          have hex := store_run ho hq hrun
          refine wp_skipv hex (h _ m β _ (hfin id _ (fun _ => rfl) (fun _ _ => rfl) (fun _ => rfl) (fun _ _ => rfl) ?_ ?_ ?_ ?_) rfl)
          · exact (put_row (cs := cs) (vs := vs.map AV.strip) (by omega) (by simpa using hl) (by rw [Array.length_toList, hz]; simp) (R := fun _ _ _ => True) (S := fun _ _ _ => True) (fun i c hi => by obtain ⟨u, g, _⟩ := hcur i c hi; exact ⟨u, g, trivial⟩)
              (fun i c hi => by obtain ⟨d, hd, _⟩ := map_strip_get hi; obtain ⟨u, g, _⟩ := hvs i d hd; exact ⟨u, by simpa using g, trivial⟩)).1.trans hzc
          · rw [put_length _ _ _ (by simpa using hl)]; exact hzl
          · have h1 := hI.gpf i0 cs hbs
            have h2 := gpfreeL_strip hgp
            rw [gpfreeL_get] at h1 h2 ⊢
            intro i c hi
            unfold put at hi
            rw [put_get _ _ _ (by simpa using hl)] at hi
            split at hi
            · exact h1 i c hi
            · split at hi
              · exact h2 _ c hi
              · exact h1 i c hi
          · intro i c hi
            obtain ⟨u, g1, g2⟩ := (put_row (vs := vs.map AV.strip) (by omega) (by simpa using hl) (by rw [Array.length_toList, hz]; simp) (R := fun i c u => u.oneCell' = true ∧ RepV num β w m c u ∧ OwnV w m ν (.gc i0 i) c u)
              (S := fun _ c u => u.oneCell' = true ∧ RepV num β w m c u ∧ ∀ p, OwnV w m ν p c u) hcur
              (fun i c hi => by obtain ⟨d, hd, rfl⟩ := map_strip_get hi; obtain ⟨u, g, k1, k2⟩ := hvs i d hd; exact ⟨u, by simpa using g, k1, by rw [RepV_strip]; exact k2, fun p => OwnV_strip _ _ _⟩)).2 i c hi
            refine ⟨u, g1, ?_⟩
            have hne : ν b ≠ some (.gc i0 i) := by
              obtain ⟨_, _, _, _, _, hν, _⟩ := (hI.boxes i0 cs _ hbs h4.1 hne0).1 h4.2
              rw [hν]; simp
            rcases g2 with ⟨k1, k2, k3⟩ | ⟨_, _, k1, k2, k3⟩
            · exact ⟨k1, k2, _, k3, rfl, hne⟩
            · exact ⟨k1, k2, .gc i0 i, k3 _, rfl, hne⟩
        · cases he
  · cases he

theorem set_eq_take {α : Type} (l : List α) (i : Nat) (x : α) (h : i < l.length) : l.set i x = l.take i ++ [x] ++ l.drop (i + 1) := by
  rw [List.set_eq_take_append_cons_drop, if_pos h, List.append_assoc]; rfl

theorem ex_stfm {s q off n : Nat} {t : TypeId} (hI : Inv num N w0 m0 T β0 σ a w m β ν) (ho : o.op = .store t (.tmp q) (.tmp n)) (hs : sizeIs P t 1 = true)
    (hp : PtrAt a q s off ∨ (q = s ∧ off = 0)) (he : exec K (.stfm s off n) σ = some (v, σ1)) (h : ∀ w' m' β' ν', Inv num N w0 m0 T β0 σ1 a w' m' β' ν' → v = .undef → next (a.put o.dst undef) w') :
    o.wp P a w next Q := by
  simp only [exec] at he
  split at he
  · rename_i cs hcs
    split at he
    · rename_i hsz
      injection he with he
      injection he with h1 h2
      subst h1 h2
      obtain ⟨hsn, h1n, hl⟩ := hsz
      obtain ⟨_, hn2⟩ := hI.at_ (n := n) (fun e => by rw [e] at h1n; cases h1n)
      have hn3 := hI.slots n _ hn2
      rw [SlotV_ok (one_ok h1n)] at hn3
      have hI2 := hI.takeSlot n
      have hcs2 : ({ σ with env := upd σ.env n .undef } : St).env s = .bx cs := by simp only [upd]; rw [if_neg hsn]; exact hcs
      obtain ⟨b0, cur0, e0, hx0, hq, hb0, hz0, hcur0⟩ := hI.box_at hcs hp
      obtain ⟨b, cur, e, hxb, hb, hzc, hcur, hfin⟩ := hI2.setBox (cs' := cs.set off (σ.env n)) s hcs2 hx0
      injection hxb with hxb
      injection hxb with hxb
      injection hxb with hxb
      subst hxb
      have h1 : (a.eval (.tmp n)).oneCell' = true := oneCell_of h1n hn3.1
      have hce : (a.eval (.tmp n)).cells = #[a.eval (.tmp n)] := by
        cases hu : a.eval (.tmp n) <;> first | rfl | (rw [hu] at h1; simp [Value.oneCell'] at h1)
      have hrun := run_storeVar_at (w := w) (off := off) hs hb (u := a.eval (.tmp n)) (by rw [hce]; rfl) (by omega) (by rw [hce]; simpa using h1)
      have hνb : ownMap ν (mv (.s n) .f) b0 = some (.s s) := by
        obtain ⟨_, h2⟩ := hI2.at_ (n := s) (by rw [hcs2]; simp)
        have h3 := hI2.slots s _ h2
        rw [hcs2] at h3
        obtain ⟨b2, hxb2, _, _, _, _, _, hν, _⟩ := h3
        rw [h2] at hx0
        injection hx0 with hx0
        rw [hxb2] at hx0
        injection hx0 with hx0
        injection hx0 with hx0
        injection hx0 with hx0
        subst hx0
        exact hν
      have hown : OwnV w m (ownMap ν (mv (.s n) .f)) .f (σ.env n) (a.eval (.tmp n)) := by
        have := OwnV_map (θ := mv (.s n) .f) hn3.2
        rwa [show mv (.s n) .f (.s n) = .f by simp [mv]] at this
      have hex := store_run ho hq hrun
      refine wp_skipv hex (h _ m β _ (hfin (mv .f (.c s off)) _ (fun _ => by simp [mv]) (fun _ _ => by simp [mv]) (fun _ => by simp [mv]) (fun _ _ => by simp [mv]) ?_ ?_) rfl)
      · rw [hce, List.size_toArray, put_len _ _ _ (by simp; omega)]
        simpa using hzc
      · intro i c hi
        rw [hce, List.getElem?_toArray, put_get _ _ _ (by simp; omega)]
        rw [List.getElem?_set] at hi
        split at hi
        · rename_i hio
          subst hio
          injection hi with hi
          subst hi
          refine ⟨a.eval (.tmp n), by rw [if_neg (by omega), if_pos (by simp)]; simp, h1, hn3.1, .f, hown, by simp [mv], by rw [hνb]; simp⟩
        · rename_i hio
          obtain ⟨u, g1, g2, g3, g4⟩ := hcur i c hi
          refine ⟨u, ?_, g2, g3, .c s i, g4, by simp [mv], by rw [hνb]; simp⟩
          simp only [List.length_singleton]
          split
          · simpa using g1
          · rw [if_neg (by omega)]; simpa using g1
    · cases he
  · cases he

theorem ex_stm {p n : Nat} {t : TypeId} (hI : Inv num N w0 m0 T β0 σ a w m β ν) (ho : o.op = .store t (.tmp p) (.tmp n)) (hs : sizeIs P t 1 = true)
    (he : exec K (.stm p n) σ = some (v, σ1)) (h : ∀ w' m' β' ν', Inv num N w0 m0 T β0 σ1 a w' m' β' ν' → v = .undef → next (a.put o.dst undef) w') :
    o.wp P a w next Q := by
  simp only [exec] at he
  split at he
  · rename_i i0 off hcs
    cases hbs : σ.bs[i0]? with
    | none => rw [hbs] at he; cases he
    | some cs =>
      rw [hbs] at he
      simp only [Option.bind_some] at he
      split at he
      · rename_i hsz
        injection he with he
        injection he with h1 h2
        subst h1 h2
        obtain ⟨h1n, hgp, hl⟩ := hsz
        obtain ⟨_, hn2⟩ := hI.at_ (n := n) (fun e => by rw [e] at h1n; cases h1n)
        have hn3 := hI.slots n _ hn2
        rw [SlotV_ok (one_ok h1n)] at hn3
        obtain ⟨_, h2⟩ := hI.at_ (n := p) (by rw [hcs]; simp)
        have h3 := hI.slots p _ h2
        rw [hcs] at h3
        obtain ⟨h3, _⟩ := h3
        simp only [RepV] at h3
        obtain ⟨⟨b, z, mp⟩, h4, h5⟩ := h3
        have hq : a.eval (.tmp p) = .pointer (some ⟨b, off, none⟩) := h5
        have hI2 := hI.takeSlot n
        have hne0 : cs ≠ [] := fun e => by rw [e] at hl; simp at hl
        obtain ⟨cur, e, hb, ⟨hzc, hzl⟩, hcur, hfin⟩ := hI2.setG (cs' := cs.set off (σ.env n)) i0 hbs h4 hne0
        simp only at hb hzc hzl
        have h1 : (a.eval (.tmp n)).oneCell' = true := oneCell_of h1n hn3.1
        have hce : (a.eval (.tmp n)).cells = #[a.eval (.tmp n)] := by
          cases hu : a.eval (.tmp n) <;> first | rfl | (rw [hu] at h1; simp [Value.oneCell'] at h1)
        have hrun := run_storeVar_at (w := w) (off := off) hs hb (u := a.eval (.tmp n)) (by rw [hce]; rfl) (by omega) (by rw [hce]; simpa using h1)
        have hνb : ownMap ν (mv (.s n) .f) b = some (.g i0) := by
          obtain ⟨_, _, _, _, _, hν, _⟩ := (hI2.boxes i0 cs _ hbs h4.1 hne0).1 h4.2
          exact hν
        have hown : OwnV w m (ownMap ν (mv (.s n) .f)) .f (σ.env n) (a.eval (.tmp n)) := by
          have := OwnV_map (θ := mv (.s n) .f) hn3.2
          rwa [show mv (.s n) .f (.s n) = .f by simp [mv]] at this
        have hex := store_run ho hq hrun
        refine wp_skipv hex (h _ m β _ (hfin (mv .f (.gc i0 off)) _ (fun _ => by simp [mv]) (fun _ _ => by simp [mv]) (fun _ => by simp [mv]) (fun _ _ => by simp [mv]) ?_ ?_ ?_ ?_) rfl)
        · rw [hce, List.size_toArray, put_len _ _ _ (by simp; omega)]
          simpa using hzc
        · simpa using hzl
        · have h1 := hI.gpf i0 cs hbs
          rw [gpfreeL_get] at h1 ⊢
          intro i c hi
          rw [List.getElem?_set] at hi
          split at hi
          · injection hi with hi; subst hi; exact hgp
          · exact h1 i c hi
        · intro i c hi
          rw [hce, List.getElem?_toArray, put_get _ _ _ (by simp; omega)]
          rw [List.getElem?_set] at hi
          split at hi
          · rename_i hio
            subst hio
            injection hi with hi
            subst hi
            refine ⟨a.eval (.tmp n), by rw [if_neg (by omega), if_pos (by simp)]; simp, h1, hn3.1, .f, hown, by simp [mv], by rw [hνb]; simp⟩
          · rename_i hio
            obtain ⟨u, g1, g2, g3, g4⟩ := hcur i c hi
            refine ⟨u, ?_, g2, g3, .gc i0 i, g4, by simp [mv], by rw [hνb]; simp⟩
            simp only [List.length_singleton]
            split
            · simpa using g1
            · rw [if_neg (by omega)]; simpa using g1
      · cases he
  · cases he
end
end Go.Am

namespace Go.Am

def boolT (P : Program) (t : TypeId) : Bool := match P.underlying t with
  | some .bool => true
  | _ => false
def ifaceT (P : Program) (t : TypeId) : Bool := match P.underlying t with
  | some (.interface _) => true
  | _ => false
def strT (P : Program) (t : TypeId) : Bool := match P.underlying t with
  | some .string => true
  | _ => false
def slT (P : Program) (t : TypeId) : Bool := match P.underlying t with
  | some (.slice _) => true
  | _ => false
def elemIs (P : Program) (t : TypeId) (sz : Nat) : Bool := match P.underlying t with
  | some (.slice e) => sizeIs P e sz
  | _ => false
def intT (P : Program) (src dst : TypeId) (k : IntKind) : Bool := match P.underlying src, P.underlying dst with
  | some _, some (.int k') => decide (k = k')
  | _, _ => false

theorem boolT_of {P : Program} {t : TypeId} (h : boolT P t = true) : P.underlying t = some .bool := by
  unfold boolT at h
  split at h
  · assumption
  · cases h
theorem strT_of {P : Program} {t : TypeId} (h : strT P t = true) : P.underlying t = some .string := by
  unfold strT at h
  split at h
  · assumption
  · cases h
theorem ifaceT_of {P : Program} {t : TypeId} (h : ifaceT P t = true) : ∃ ms, P.underlying t = some (.interface ms) := by
  unfold ifaceT at h
  split at h
  · exact ⟨_, by assumption⟩
  · cases h
theorem slT_of {P : Program} {t : TypeId} (h : slT P t = true) : ∃ e, P.underlying t = some (.slice e) := by
  unfold slT at h
  split at h
  · exact ⟨_, by assumption⟩
  · cases h

section
variable {P : Program} {num : Nat → Option Nat} {β : List Blk} {w w' : World} {m : Nat → Nat} {ν : Own} {N : Nat} {w0 : World} {m0 : Nat → Nat} {T : Nat → Prop} {β0 : List Blk} {σ σ1 : St} {a : Act}
  {o : Oper} {next : Act → World → Prop} {Q : Exit → Act → World → Prop} {K : CallF} {v : AV}

theorem abin_ok {op : BinOp} {X Y : AV} (h : abin op X Y = some v) : X.ok = true ∧ Y.ok = true := by
  unfold abin at h
  split at h <;> first | exact ⟨rfl, rfl⟩ | cases h

theorem abin_run {op : BinOp} {X Y : AV} {u u' : Value} {t : TypeId} {xo yo : Operand} (h : abin op X Y = some v) (hx : RepV num β w m X u) (hy : RepV num β w m Y u') :
    ∃ r, ((do eqGuard op t xo yo u u'; binOp op t u u') : Sem Value).run P w = .ok r w ∧ v.ok = true ∧ RepV num β w m v r ∧ ∀ p, OwnV w m ν p v r := by
  unfold abin at h
  split at h <;> (try simp only [RepV] at hx hy) <;> (try subst hx) <;> (try subst hy)
  all_goals try (cases h; done)
  all_goals try split at h
  all_goals try (cases h; done)
  all_goals (injection h with h; subst h)
  all_goals first
    | (rename_i hk; refine ⟨_, ?_, rfl, by simp only [toI, RepV]; rfl, fun _ => trivial⟩; simp [go_sem, shift_shr_any _ _ _ _ hk]; done)
    | (rename_i hk; refine ⟨_, ?_, rfl, by simp only [toI, RepV]; rfl, fun _ => trivial⟩; simp [go_sem, shift_shl_any _ _ _ _ hk]; done)
    | (rename_i hk; obtain ⟨rfl, hb⟩ := hk; refine ⟨_, ?_, rfl, by simp only [toI, RepV]; rfl, fun _ => trivial⟩; simp [go_sem, Op.intDiv, hb]; done)
    | (rename_i hk; subst hk; refine ⟨_, ?_, rfl, by simp only [toI, RepV]; rfl, fun _ => trivial⟩; simp [go_sem, Op.intArith]; done)
    | (rename_i hk; refine ⟨_, ?_, rfl, by simp only [RepV]; rfl, fun _ => trivial⟩; simp [go_sem, binOp, Op.stringOp]; rw [if_neg (by omega), ByteArray.mk_append_mk]; done)
    | (refine ⟨_, ?_, rfl, by simp only [RepV]; rfl, fun _ => trivial⟩; simp [go_sem, binOp, Op.stringOp]; done)

theorem ex_bin {op : BinOp} {x y : AO} {x' y' : Operand} {t t2 : TypeId} (hI : Inv num N w0 m0 T β0 σ a w m β ν) (ho : o.op = .binOp op t x' y' t2) (hx : okO num x x' = true) (hy : okO num y y' = true)
    (he : exec K (.bin op x y) σ = some (v, σ1)) (h : Aft num N w0 m0 T β0 σ1 a v fun u w' => next (a.put o.dst u) w') : o.wp P a w next Q := by
  simp only [exec] at he
  cases hr : abin op (val σ.env x) (val σ.env y) with
  | none => rw [hr] at he; cases he
  | some v2 =>
    rw [hr] at he
    injection he with he
    injection he with h1 h2
    subst h1 h2
    obtain ⟨k1, k2⟩ := abin_ok hr
    obtain ⟨r, g1, g2, g3, g4⟩ := abin_run (P := P) (ν := ν) (t := t) (xo := x') (yo := y') hr (hI.val hx k1).1 (hI.val hy k2).1
    refine wp_value (u := r) (w' := w) ?_ (h.same hI g2 g3 (g4 _))
    simp only [execOp, ho, Sem.run_bind] at g1 ⊢
    rw [g1]
    rfl

theorem ex_eqb {ne : Bool} {x y : AO} {x' y' : Operand} {t t2 : TypeId} (hI : Inv num N w0 m0 T β0 σ a w m β ν) (ho : o.op = .binOp (if ne then .neq else .eql) t x' y' t2) (ht : boolT P t = true) (hx : okO num x x' = true) (hy : okO num y y' = true)
    (he : exec K (.eqb ne x y) σ = some (v, σ1)) (h : Aft num N w0 m0 T β0 σ1 a v fun u w' => next (a.put o.dst u) w') : o.wp P a w next Q := by
  simp only [exec] at he
  split at he
  · rename_i A B hA hB
    injection he with he
    injection he with h1 h2
    subst h1 h2
    have g1 := (hI.val hx (by rw [hA]; rfl)).1
    have g2 := (hI.val hy (by rw [hB]; rfl)).1
    rw [hA] at g1
    rw [hB] at g2
    simp only [RepV] at g1 g2
    have hu := boolT_of ht
    refine wp_value (u := .bool (if ne then !(A == B) else A == B)) (w' := w) ?_ (h.same hI rfl (by simp only [RepV]) trivial)
    have hq : ∀ d, (Op.equalIn (d + 1) t (.bool A) (.bool B)).run P w = .ok (A == B) w := fun d => by
      simp only [Op.equalIn, Sem.run_bind, run_underlying hu, Result.andThen_ok, Sem.run_pure]
    have hq2 : (Op.equal t (.bool A) (.bool B)).run P w = .ok (A == B) w := hq 9999
    cases ne
    · simp only [Bool.false_eq_true, if_false] at ho ⊢
      simp only [execOp, ho, g1, g2, eqGuard_at_bool, binOp, Sem.run_bind, Sem.run_pure, Result.andThen_ok, hq2]
    · simp only [if_true] at ho ⊢
      simp only [execOp, ho, g1, g2, eqGuard_at_bool, binOp, Sem.run_bind, Sem.run_pure, Result.andThen_ok, hq2]
  · cases he

theorem ex_eqn {ne : Bool} {x : AO} {x' : Operand} {t t2 : TypeId} (hI : Inv num N w0 m0 T β0 σ a w m β ν) (ho : o.op = .binOp (if ne then .neq else .eql) t x' (.const .nilIface) t2) (ht : ifaceT P t = true) (hx : okO num x x' = true)
    (he : exec K (.eqn ne x) σ = some (v, σ1)) (h : Aft num N w0 m0 T β0 σ1 a v fun u w' => next (a.put o.dst u) w') : o.wp P a w next Q := by
  simp only [exec] at he
  split at he
  · rename_i A hA
    injection he with he
    injection he with h1 h2
    subst h1 h2
    have g1 := (hI.val hx (by rw [hA]; rfl)).1
    rw [hA] at g1
    simp only [RepV] at g1
    obtain ⟨ms, hu⟩ := ifaceT_of ht
    refine wp_value (u := .bool (if ne then !A else A)) (w' := w) ?_ (h.same hI rfl (by simp only [RepV]) trivial)
    have hc : a.eval (.const .nilIface) = .nilIface := rfl
    rcases g1 with ⟨rfl, g1⟩ | ⟨rfl, t3, x3, g1⟩
    · have hq : ∀ d, (Op.equalIn (d + 1) t .nilIface .nilIface).run P w = .ok true w := fun d => by
        simp only [Op.equalIn, Sem.run_bind, run_underlying hu, Result.andThen_ok, Sem.run_pure]
      have hq2 : (Op.equal t .nilIface .nilIface).run P w = .ok true w := hq 9999
      cases ne
      · simp only [Bool.false_eq_true, if_false] at ho ⊢
        simp only [execOp, ho, g1, hc, eqGuard_nil_constR, binOp, Sem.run_bind, Sem.run_pure, Result.andThen_ok, hq2]
      · simp only [if_true] at ho ⊢
        simp only [execOp, ho, g1, hc, eqGuard_nil_constR, binOp, Sem.run_bind, Sem.run_pure, Result.andThen_ok, hq2]
    · have hq : ∀ d, (Op.equalIn (d + 1) t (.iface t3 x3) .nilIface).run P w = .ok false w := fun d => by
        simp only [Op.equalIn, Sem.run_bind, run_underlying hu, Result.andThen_ok, Sem.run_pure]
      have hq2 : (Op.equal t (.iface t3 x3) .nilIface).run P w = .ok false w := hq 9999
      cases ne
      · simp only [Bool.false_eq_true, if_false] at ho ⊢
        simp only [execOp, ho, g1, hc, eqGuard_at_iface, binOp, Sem.run_bind, Sem.run_pure, Result.andThen_ok, hq2]
      · simp only [if_true] at ho ⊢
        simp only [execOp, ho, g1, hc, eqGuard_at_iface, binOp, Sem.run_bind, Sem.run_pure, Result.andThen_ok, hq2]
  · cases he

/-- A struct of numbers, strings and truth values, one cell each. -/
def flatT (P : Program) : Nat → List Nat → List Field → Bool
  | _, [], [] => true
  | i, k :: ks, f :: fs => decide (f.name ≠ "_") && decide (f.offset = i) && (match P.underlying f.type, k with
    | some (.int _), 0 => true
    | some .bool, 1 => true
    | some .string, 2 => true
    | _, _ => false) && flatT P (i + 1) ks fs
  | _, _, _ => false

def eqaT (P : Program) (t : TypeId) (ks : List Nat) : Bool := (match P.underlying t with
  | some (.struct fs) => flatT P 0 ks fs.toList
  | _ => false) && !P.stoodInHeld t && !P.eqGuardType P.depth t

theorem run_eqFields (d : Nat) (xs ys : Array Value) : ∀ (fs : List Field) (i : Nat) (ks : List Nat) (cs ds : List AV) (b : Bool), flatT P i ks fs = true → eqCells ks cs ds = some b →
    (∀ (j : Nat) (c : AV), cs[j]? = some c → ∃ u, xs[i + j]? = some u ∧ RepV num β w m c u) → (∀ (j : Nat) (c : AV), ds[j]? = some c → ∃ u, ys[i + j]? = some u ∧ RepV num β w m c u) →
    (Op.eqFields (d + 1) xs ys fs).run P w = .ok b w
  | [], i, ks, cs, ds, b, hf, he, _, _ => by
    cases ks with
    | cons k ks => simp [flatT] at hf
    | nil =>
      cases cs with
      | cons c cs => simp [eqCells] at he
      | nil =>
        cases ds with
        | cons e ds => simp [eqCells] at he
        | nil => simp only [eqCells, Option.some.injEq] at he; subst he; rfl
  | f :: fs, i, [], cs, ds, b, hf, he, _, _ => by simp [flatT] at hf
  | f :: fs, i, k :: ks, [], ds, b, hf, he, _, _ => by simp [eqCells] at he
  | f :: fs, i, k :: ks, c :: cs, [], b, _, he, _, _ => by simp [eqCells] at he
  | f :: fs, i, k :: ks, c :: cs, e :: ds, b, hf, he, hx, hy => by
    simp only [flatT, Bool.and_eq_true, decide_eq_true_eq] at hf
    obtain ⟨⟨⟨h1, h2⟩, h3⟩, h4⟩ := hf
    subst h2
    simp only [eqCells] at he
    split at he
    · rename_i b1 b2 e1 e2
      injection he with he
      subst he
      obtain ⟨u, hu1, hu2⟩ := hx 0 c rfl
      obtain ⟨v, hv1, hv2⟩ := hy 0 e rfl
      rw [Nat.add_zero] at hu1 hv1
      have hag : aggIs P f.type false = true := by
        unfold aggIs
        split at h3
        · rename_i hun; rw [hun]; rfl
        · rename_i hun; rw [hun]; rfl
        · rename_i hun; rw [hun]; rfl
        · cases h3
      have hp1 : (part f.type xs f.offset).run P w = .ok u w := by
        simp only [part, Sem.run_bind, run_isAgg hag, Result.andThen_ok, Bool.false_eq_true, if_false, hu1, Sem.run_pure]
      have hp2 : (part f.type ys f.offset).run P w = .ok v w := by
        simp only [part, Sem.run_bind, run_isAgg hag, Result.andThen_ok, Bool.false_eq_true, if_false, hv1, Sem.run_pure]
      have hq : (Op.equalIn (d + 1) f.type u v).run P w = .ok b1 w := by
        split at h3
        · rename_i hun
          unfold eqCell at e1
          split at e1
          · rename_i hk
            split at e1
            · rename_i hk2
              subst hk2
              injection e1 with e1
              subst e1
              simp only [RepV] at hu2 hv2
              subst hu2 hv2
              exact run_equalIn_int w d _ _ _ _ _ hun
            · cases e1
          · rename_i hk; cases hk
          · rename_i hk; cases hk
          · cases e1
        · rename_i hun
          unfold eqCell at e1
          split at e1
          · rename_i hk; cases hk
          · injection e1 with e1
            subst e1
            simp only [RepV] at hu2 hv2
            subst hu2 hv2
            exact run_equalIn_bool' w d _ _ _ hun
          · rename_i hk; cases hk
          · cases e1
        · rename_i hun
          unfold eqCell at e1
          split at e1
          · rename_i hk; cases hk
          · rename_i hk; cases hk
          · injection e1 with e1
            subst e1
            simp only [RepV] at hu2 hv2
            subst hu2 hv2
            rw [run_equalIn_string w d _ _ _ hun, ByteArray.toList_eq, ByteArray.toList_eq]
          · cases e1
        · cases h3
      simp only [Op.eqFields, h1, ne_eq, not_false_eq_true, if_true, Sem.run_bind, hp1, hp2, hq, Result.andThen_ok]
      cases b1
      · rfl
      · simp only [Bool.not_true, Bool.false_eq_true, if_false, Bool.true_and]
        exact run_eqFields d xs ys fs (f.offset + 1) ks cs ds b2 h4 e2 (fun j c hj => by rw [Nat.add_assoc, Nat.add_comm 1]; exact hx (j + 1) c (by simpa using hj))
          (fun j c hj => by rw [Nat.add_assoc, Nat.add_comm 1]; exact hy (j + 1) c (by simpa using hj))
    · cases he

theorem ex_eqa {ne : Bool} {ks : List Nat} {x y : AO} {x' y' : Operand} {t t2 : TypeId} (hI : Inv num N w0 m0 T β0 σ a w m β ν) (ho : o.op = .binOp (if ne then .neq else .eql) t x' y' t2) (ht : eqaT P t ks = true) (hx : okO num x x' = true) (hy : okO num y y' = true)
    (he : exec K (.eqa ne ks x y) σ = some (v, σ1)) (h : Aft num N w0 m0 T β0 σ1 a v fun u w' => next (a.put o.dst u) w') : o.wp P a w next Q := by
  simp only [exec] at he
  split at he
  · rename_i cs ds hA hB
    cases hr : eqCells ks cs ds with
    | none => rw [hr] at he; cases he
    | some b =>
      rw [hr] at he
      injection he with he
      injection he with h1 h2
      subst h1 h2
      have g1 := (hI.val hx (by rw [hA]; rfl)).1
      have g2 := (hI.val hy (by rw [hB]; rfl)).1
      rw [hA] at g1
      rw [hB] at g2
      simp only [RepV] at g1 g2
      obtain ⟨us, g1, g3, g4⟩ := g1
      obtain ⟨vs, g2, g5, g6⟩ := g2
      rw [RepC_get] at g4 g6
      unfold eqaT at ht
      simp only [Bool.and_eq_true, Bool.not_eq_true'] at ht
      obtain ⟨⟨ht1, ht2⟩, ht3⟩ := ht
      split at ht1
      · rename_i fs hun
        have hfs : P.fieldsOf t = fs := by unfold Program.fieldsOf; rw [hun]
        have hq : (Op.equalIn 10000 t (.agg us) (.agg vs)).run P w = .ok b w := by
          rw [run_equalIn_struct w 9999 t us vs (by rw [hfs]; exact hun) ht2, hfs]
          exact run_eqFields (num := num) (β := β) (m := m) 9998 us vs _ 0 ks cs ds b ht1 hr (fun j c hj => by obtain ⟨u, k1, _, k2⟩ := g4 j c hj; exact ⟨u, k1, k2⟩) (fun j c hj => by obtain ⟨u, k1, _, k2⟩ := g6 j c hj; exact ⟨u, k1, k2⟩)
        refine wp_value (u := .bool (if ne then !b else b)) (w' := w) ?_ (h.same hI rfl (by simp only [RepV]) trivial)
        cases ne
        · simp only [Bool.false_eq_true, if_false] at ho ⊢
          simp only [execOp, ho, g1, g2, Sem.run_bind, run_eqGuard_agg w _ t x' y' us vs ht3, Result.andThen_ok, run_eql_struct, hq, Sem.run_pure]
        · simp only [if_true] at ho ⊢
          simp only [execOp, ho, g1, g2, Sem.run_bind, run_eqGuard_agg w _ t x' y' us vs ht3, Result.andThen_ok, run_neq_struct, hq, Sem.run_pure]
      · cases ht1
  · cases he

theorem run_nil_slice (w : World) (t e : TypeId) (a : Option Addr) (l c : Nat) (h : P.underlying t = some (.slice e)) : (Op.equal t (.slice a l c) (.slice none 0 0)).run P w = .ok a.isNone w := by
  have : ∀ d, (Op.equalIn (d + 1) t (.slice a l c) (.slice none 0 0)).run P w = .ok a.isNone w := fun d => by
    cases a <;> simp [Op.equalIn, run_underlying h]
  exact this 9999

theorem ex_isn {ne : Bool} {x : AO} {x' : Operand} {t t2 : TypeId} (hI : Inv num N w0 m0 T β0 σ a w m β ν) (ho : o.op = .binOp (if ne then .neq else .eql) t x' (.const (.slice none 0 0)) t2) (ht : slT P t = true) (hx : okO num x x' = true)
    (he : exec K (.isn ne x) σ = some (v, σ1)) (h : Aft num N w0 m0 T β0 σ1 a v fun u w' => next (a.put o.dst u) w') : o.wp P a w next Q := by
  obtain ⟨e, hu⟩ := slT_of ht
  have key : ∀ A len cap, a.eval x' = .slice A len cap → (execOp a.eval o).run P w = .ok (.value (.bool (if ne then !A.isNone else A.isNone))) w := fun A len cap hA => by
    have hc : a.eval (.const (.slice none 0 0)) = .slice none 0 0 := rfl
    cases ne
    · simp only [Bool.false_eq_true, if_false] at ho ⊢
      simp only [execOp, ho, hA, hc, eqGuard_at_slice, binOp, Sem.run_bind, Sem.run_pure, Result.andThen_ok, run_nil_slice w t e A len cap hu]
    · simp only [if_true] at ho ⊢
      simp only [execOp, ho, hA, hc, eqGuard_at_slice, binOp, Sem.run_bind, Sem.run_pure, Result.andThen_ok, run_nil_slice w t e A len cap hu]
  simp only [exec] at he
  split at he
  · rename_i o2 sz hA
    injection he with he
    injection he with h1 h2
    subst h1 h2
    have g1 := (hI.val hx (by rw [hA]; rfl)).1
    rw [hA] at g1
    simp only [RepV] at g1
    obtain ⟨A, len, cap, g1, _⟩ := g1
    exact wp_value (key A len cap g1) (h.same hI rfl (by simp only [RepV]; exact ⟨_, rfl⟩) trivial)
  · rename_i o2 sz x0 xs hA
    injection he with he
    injection he with h1 h2
    subst h1 h2
    have g1 := (hI.val hx (by rw [hA]; rfl)).1
    rw [hA] at g1
    simp only [RepV] at g1
    obtain ⟨A, len, cap, g1, _, _, _, g2⟩ := g1
    rcases g2 with g2 | ⟨b, of, rfl, _⟩
    · cases g2
    · refine wp_value (key _ len cap g1) (h.same hI rfl (by simp only [RepV]; cases ne <;> rfl) trivial)
  · cases he

theorem ex_un {op : UnOp} {x : AO} {x' : Operand} {t : TypeId} (hI : Inv num N w0 m0 T β0 σ a w m β ν) (ho : o.op = .unOp op t x') (hx : okO num x x' = true)
    (he : exec K (.un op x) σ = some (v, σ1)) (h : Aft num N w0 m0 T β0 σ1 a v fun u w' => next (a.put o.dst u) w') : o.wp P a w next Q := by
  simp only [exec] at he
  cases hr : aun op (val σ.env x) with
  | none => rw [hr] at he; cases he
  | some v2 =>
    rw [hr] at he
    injection he with he
    injection he with h1 h2
    subst h1 h2
    unfold aun at hr
    split at hr
    · rename_i b hb
      injection hr with hr
      subst hr
      have g1 := (hI.val hx (by rw [hb]; rfl)).1
      rw [hb] at g1
      simp only [RepV] at g1
      exact wp_value (u := .bool !b) (w' := w) (by simp [execOp, ho, g1, Op.unary]) (h.same hI rfl (by simp only [RepV]) trivial)
    · rename_i k n hb
      injection hr with hr
      subst hr
      have g1 := (hI.val hx (by rw [hb]; rfl)).1
      rw [hb] at g1
      simp only [RepV] at g1
      exact wp_value (u := .int k (k.wrap (0 - n))) (w' := w) (by simp [execOp, ho, g1, Op.unary, Op.intArith]) (h.same hI rfl (by simp only [toI, RepV]) trivial)
    · cases hr

theorem ex_conv {k : IntKind} {x : AO} {x' : Operand} {t t2 : TypeId} (hI : Inv num N w0 m0 T β0 σ a w m β ν) (ho : o.op = .convert t t2 x') (ht : intT P t t2 k = true) (hx : okO num x x' = true)
    (he : exec K (.conv k x) σ = some (v, σ1)) (h : Aft num N w0 m0 T β0 σ1 a v fun u w' => next (a.put o.dst u) w') : o.wp P a w next Q := by
  simp only [exec] at he
  split at he
  · rename_i k2 n hb
    injection he with he
    injection he with h1 h2
    subst h1 h2
    have g1 := (hI.val hx (by rw [hb]; rfl)).1
    rw [hb] at g1
    simp only [RepV] at g1
    unfold intT at ht
    split at ht
    · rename_i d k' hu1 hu2
      simp only [decide_eq_true_eq] at ht
      subst ht
      refine wp_value (u := .int k (k.wrap n)) (w' := w) ?_ (h.same hI rfl (by simp only [toI, RepV]) trivial)
      simp [execOp, ho, g1, convert, run_underlying hu1, run_underlying hu2, Conv.intToInt]
    · cases ht
  · cases he

theorem ex_lens {x : AO} {x' : Operand} {t : TypeId} (hI : Inv num N w0 m0 T β0 σ a w m β ν) (ho : o.op = .call { callee := .builtin .len, args := #[x'], argTypes := #[t] }) (ht : strT P t = true) (hx : okO num x x' = true)
    (he : exec K (.lens x) σ = some (v, σ1)) (h : Aft num N w0 m0 T β0 σ1 a v fun u w' => next (a.put o.dst u) w') : o.wp P a w next Q := by
  simp only [exec] at he
  split at he
  · rename_i s hb
    injection he with he
    injection he with h1 h2
    subst h1 h2
    have g1 := (hI.val hx (by rw [hb]; rfl)).1
    rw [hb] at g1
    simp only [RepV] at g1
    have hu := strT_of ht
    refine wp_value (u := .int .i64 s.length) (w' := w) ?_ (h.same hI rfl (by simp only [RepV]) trivial)
    simp [execOp, ho, resolve, invoke, builtin, g1, Builtin.len_, run_underlying hu, goInt, ByteArray.size_mk']
  · cases he

theorem ex_lenl {x : AO} {x' : Operand} {t : TypeId} (hI : Inv num N w0 m0 T β0 σ a w m β ν) (ho : o.op = .call { callee := .builtin .len, args := #[x'], argTypes := #[t] }) (ht : slT P t = true) (hx : okO num x x' = true)
    (he : exec K (.lenl x) σ = some (v, σ1)) (h : Aft num N w0 m0 T β0 σ1 a v fun u w' => next (a.put o.dst u) w') : o.wp P a w next Q := by
  simp only [exec] at he
  split at he
  · rename_i o2 sz xs hb
    injection he with he
    injection he with h1 h2
    subst h1 h2
    have g1 := (hI.val hx (by rw [hb]; rfl)).1
    rw [hb] at g1
    simp only [RepV] at g1
    obtain ⟨a2, len, cap, g1, g2, _⟩ := g1
    obtain ⟨e, hu⟩ := slT_of ht
    refine wp_value (u := .int .i64 xs.length) (w' := w) ?_ (h.same hI rfl (by simp only [RepV]) trivial)
    simp [execOp, ho, resolve, invoke, builtin, g1, Builtin.len_, run_underlying hu, goInt, g2]
  · rename_i id off sz n hb
    injection he with he
    injection he with h1 h2
    subst h1 h2
    have g1 := (hI.val hx (by rw [hb]; rfl)).1
    rw [hb] at g1
    simp only [RepV] at g1
    obtain ⟨a2, cap, g1, g2, _⟩ := g1
    obtain ⟨e, hu⟩ := slT_of ht
    refine wp_value (u := .int .i64 n) (w' := w) ?_ (h.same hI rfl (by simp only [RepV]) trivial)
    simp [execOp, ho, resolve, invoke, builtin, g1, Builtin.len_, run_underlying hu, goInt]
  · cases he

theorem ex_mx {x y : AO} {x' y' : Operand} {ts : Array TypeId} (hI : Inv num N w0 m0 T β0 σ a w m β ν) (ho : o.op = .call { callee := .builtin .max, args := #[x', y'], argTypes := ts }) (hx : okO num x x' = true) (hy : okO num y y' = true)
    (he : exec K (.mx x y) σ = some (v, σ1)) (h : Aft num N w0 m0 T β0 σ1 a v fun u w' => next (a.put o.dst u) w') : o.wp P a w next Q := by
  simp only [exec] at he
  split at he
  · rename_i k A k' B hA hB
    split at he
    · rename_i hk
      subst hk
      injection he with he
      injection he with h1 h2
      subst h1 h2
      have g1 := (hI.val hx (by rw [hA]; rfl)).1
      have g2 := (hI.val hy (by rw [hB]; rfl)).1
      rw [hA] at g1
      rw [hB] at g2
      simp only [RepV] at g1 g2
      refine wp_value (u := .int k (if B > A then B else A)) (w' := w) ?_ (h.same hI rfl (by simp only [RepV]) trivial)
      simp [execOp, ho, resolve, invoke, builtin, g1, g2, Builtin.max_, Builtin.max2]
    · cases he
  · cases he

theorem ex_mn {x y : AO} {x' y' : Operand} {ts : Array TypeId} (hI : Inv num N w0 m0 T β0 σ a w m β ν) (ho : o.op = .call { callee := .builtin .min, args := #[x', y'], argTypes := ts }) (hx : okO num x x' = true) (hy : okO num y y' = true)
    (he : exec K (.mn x y) σ = some (v, σ1)) (h : Aft num N w0 m0 T β0 σ1 a v fun u w' => next (a.put o.dst u) w') : o.wp P a w next Q := by
  simp only [exec] at he
  split at he
  · rename_i k A k' B hA hB
    split at he
    · rename_i hk
      subst hk
      injection he with he
      injection he with h1 h2
      subst h1 h2
      have g1 := (hI.val hx (by rw [hA]; rfl)).1
      have g2 := (hI.val hy (by rw [hB]; rfl)).1
      rw [hA] at g1
      rw [hB] at g2
      simp only [RepV] at g1 g2
      refine wp_value (u := .int k (if B < A then B else A)) (w' := w) ?_ (h.same hI rfl (by simp only [RepV]) trivial)
      simp [execOp, ho, resolve, invoke, builtin, g1, g2, Builtin.min_, Builtin.min2]
    · cases he
  · cases he

theorem ex_idxa {sz : Nat} {x i : AO} {x' i' : Operand} {t : TypeId} (hI : Inv num N w0 m0 T β0 σ a w m β ν) (ho : o.op = .indexAddr t x' i') (ht : elemIs P t sz = true) (hx : okO num x x' = true) (hi : okO num i i' = true)
    (he : exec K (.idxa sz x i) σ = some (v, σ1)) (h : Aft num N w0 m0 T β0 σ1 a v fun u w' => next (a.put o.dst u) w') : o.wp P a w next Q := by
  simp only [exec] at he
  split at he
  · rename_i o2 sz1 xs k n hA hB
    split at he
    · rename_i hk
      obtain ⟨rfl, hn⟩ := hk
      cases hxn : xs[n.toNat]? with
      | none => rw [hxn] at he; cases he
      | some e =>
        rw [hxn] at he
        injection he with he
        injection he with h1 h2
        subst h1 h2
        have g1 := (hI.val hx (by rw [hA]; rfl)).1
        have g2 := (hI.val hi (by rw [hB]; rfl)).1
        rw [hA] at g1
        rw [hB] at g2
        simp only [RepV] at g1 g2
        obtain ⟨a2, len, cap, g1, g3, _, _, g4⟩ := g1
        have hlt : n.toNat < xs.length := by
          rcases Nat.lt_or_ge n.toNat xs.length with h | h
          · exact h
          · rw [List.getElem?_eq_none h] at hxn; cases hxn
        rcases g4 with g4 | ⟨b, of, g4, g5⟩
        · subst g4; simp at hlt
        rw [RepE_get] at g5
        obtain ⟨_, g6⟩ := g5 _ e hxn
        unfold elemIs at ht
        split at ht
        · rename_i el hu
          refine wp_value (u := .pointer (some ⟨b, of + n.toNat * sz1, none⟩)) (w' := w) ?_ (h.same hI rfl (by simp only [RepV]; exact ⟨b, _, rfl, g6⟩) trivial)
          have hc : 0 ≤ n ∧ n < (len : Int) := by omega
          simp [execOp, ho, g1, g2, Instr.indexAt, asIntOf, run_underlying hu, g4, hc, run_sizeOf ht, add_none]
        · cases ht
    · cases he
  · rename_i id of sz1 kn k n hA hB
    split at he
    · rename_i hk
      obtain ⟨rfl, hn, hlt⟩ := hk
      injection he with he
      injection he with h1 h2
      subst h1 h2
      have g1 := (hI.val hx (by rw [hA]; rfl)).1
      have g2 := (hI.val hi (by rw [hB]; rfl)).1
      rw [hA] at g1
      rw [hB] at g2
      simp only [RepV] at g1 g2
      obtain ⟨a2, cap, g1, _, _, g4⟩ := g1
      rcases g4 with g4 | ⟨kb, g4, rfl, g5⟩
      · omega
      unfold elemIs at ht
      split at ht
      · rename_i el hu
        refine wp_value (u := .pointer (some ⟨kb.b, of + n.toNat * sz1, none⟩)) (w' := w) ?_ (h.same hI rfl (by simp only [RepV]; exact ⟨kb, g4, rfl⟩) trivial)
        have hc : 0 ≤ n ∧ n < (kn : Int) := by omega
        simp [execOp, ho, g1, g2, Instr.indexAt, asIntOf, run_underlying hu, hc, run_sizeOf ht, add_none]
      · cases ht
    · cases he
  · cases he

theorem ex_idx {x i : AO} {x' i' : Operand} {t : TypeId} (hI : Inv num N w0 m0 T β0 σ a w m β ν) (ho : o.op = .index t x' i') (ht : strT P t = true) (hx : okO num x x' = true) (hi : okO num i i' = true)
    (he : exec K (.idx x i) σ = some (v, σ1)) (h : Aft num N w0 m0 T β0 σ1 a v fun u w' => next (a.put o.dst u) w') : o.wp P a w next Q := by
  simp only [exec] at he
  split at he
  · rename_i s k n hA hB
    split at he
    · rename_i hn
      cases hxn : s[n.toNat]? with
      | none => rw [hxn] at he; cases he
      | some e =>
        rw [hxn] at he
        injection he with he
        injection he with h1 h2
        subst h1 h2
        have g1 := (hI.val hx (by rw [hA]; rfl)).1
        have g2 := (hI.val hi (by rw [hB]; rfl)).1
        rw [hA] at g1
        rw [hB] at g2
        simp only [RepV] at g1 g2
        have hu := strT_of ht
        have hlt : n.toNat < s.length := by
          rcases Nat.lt_or_ge n.toNat s.length with h | h
          · exact h
          · rw [List.getElem?_eq_none h] at hxn; cases hxn
        have hb : (⟨s.toArray⟩ : ByteArray)[n.toNat]? = some e := by
          rw [ByteArray.getElem?_lt' _ _ (by simpa [ByteArray.size] using hlt)]
          rw [List.getElem?_eq_getElem hlt] at hxn
          injection hxn with hxn
          rw [← hxn]
          rfl
        refine wp_value (u := .int .u8 e.toNat) (w' := w) ?_ (h.same hI rfl (by simp only [RepV]) trivial)
        simp [execOp, ho, g1, g2, Instr.index, asIntOf, run_underlying hu, hn, hb]
    · cases he
  · cases he

theorem ex_pick {c x y : AO} {c' x' y' : Operand} (hI : Inv num N w0 m0 T β0 σ a w m β ν) (ho : o.op = .pick c' x' y') (hc : okO num c c' = true) (hx : okO num x x' = true) (hy : okO num y y' = true)
    (he : exec K (.pick c x y) σ = some (v, σ1)) (h : Aft num N w0 m0 T β0 σ1 a v fun u w' => next (a.put o.dst u) w') : o.wp P a w next Q := by
  simp only [exec] at he
  split at he
  · rename_i hA
    have g1 := (hI.val hc (by rw [hA]; rfl)).1
    rw [hA] at g1
    simp only [RepV] at g1
    split at he
    · rename_i hk
      injection he with he
      injection he with h1 h2
      subst h1 h2
      exact wp_value (u := a.eval x') (w' := w) (by simp [execOp, ho, g1, asBool]) (h.same hI hk (hI.val hx hk).1 ((hI.val hx hk).2 _))
    · cases he
  · rename_i hA
    have g1 := (hI.val hc (by rw [hA]; rfl)).1
    rw [hA] at g1
    simp only [RepV] at g1
    split at he
    · rename_i hk
      injection he with he
      injection he with h1 h2
      subst h1 h2
      exact wp_value (u := a.eval y') (w' := w) (by simp [execOp, ho, g1, asBool]) (h.same hI hk (hI.val hy hk).1 ((hI.val hy hk).2 _))
    · cases he
  · cases he

theorem ex_ext {x : AO} {i : Nat} {x' : Operand} (hI : Inv num N w0 m0 T β0 σ a w m β ν) (ho : o.op = .extract x' i) (hx : okO num x x' = true)
    (he : exec K (.ext x i) σ = some (v, σ1)) (h : Aft num N w0 m0 T β0 σ1 a v fun u w' => next (a.put o.dst u) w') : o.wp P a w next Q := by
  simp only [exec] at he
  split at he
  · rename_i vs hA
    have g1 := (hI.val hx (by rw [hA]; rfl)).1
    rw [hA] at g1
    simp only [RepV] at g1
    obtain ⟨us, g1, g2, g3⟩ := g1
    cases hv : vs[i]? with
    | none => rw [hv] at he; cases he
    | some c =>
      rw [hv] at he
      simp only [Option.bind_some] at he
      split at he
      · rename_i hk
        injection he with he
        injection he with h1 h2
        subst h1 h2
        rw [RepT_get] at g3
        obtain ⟨u, k1, k2⟩ := g3 i c hv
        rw [Nat.zero_add] at k1
        exact wp_value (u := u) (w' := w) (by simp [execOp, ho, g1, Instr.extract, k1]) (h.same hI (by rw [strip_ok]; exact hk) (by rw [RepV_strip]; exact k2) (OwnV_strip _ _ _))
      · cases he
  · cases he

theorem ex_nilck {x : AO} {x' : Operand} (hI : Inv num N w0 m0 T β0 σ a w m β ν) (ho : o.op = .nilCheck x') (hx : okO num x x' = true)
    (he : exec K (.nilck x) σ = some (v, σ1)) (h : Aft num N w0 m0 T β0 σ1 a v fun u w' => next (a.put o.dst u) w') : o.wp P a w next Q := by
  simp only [exec] at he
  split at he
  · rename_i f cs hA
    injection he with he
    injection he with h1 h2
    subst h1 h2
    have g1 := (hI.val hx (by rw [hA]; rfl)).1
    rw [hA] at g1
    have g2 := g1
    simp only [RepV] at g1
    obtain ⟨g, us, _, g1, _⟩ := g1
    refine wp_value (u := a.eval x') (w' := w) (by simp [execOp, ho, g1]) (h.same hI (by rw [hA]; rfl) (by rw [hA]; exact g2) (by rw [hA]; exact trivial))
  · rename_i i of hA
    injection he with he
    injection he with h1 h2
    subst h1 h2
    have g1 := (hI.val hx (by rw [hA]; rfl)).1
    rw [hA] at g1
    have g2 := g1
    simp only [RepV] at g1
    obtain ⟨b, _, g1⟩ := g1
    refine wp_value (u := a.eval x') (w' := w) (by simp [execOp, ho, g1]) (h.same hI (by rw [hA]; rfl) (by rw [hA]; exact g2) (by rw [hA]; exact trivial))
  · rename_i cs hA
    injection he with he
    injection he with h1 h2
    subst h1 h2
    have g1 := (hI.val hx (by rw [hA]; rfl)).1
    rw [hA] at g1
    have g2 := g1
    simp only [RepV] at g1
    obtain ⟨b, of, g1, _⟩ := g1
    refine wp_value (u := a.eval x') (w' := w) (by simp [execOp, ho, g1]) (h.same hI (by rw [hA]; rfl) (by rw [hA]; exact g2) (by rw [hA]; exact trivial))
  · cases he
end
end Go.Am
