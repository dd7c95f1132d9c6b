/-
  AM, part 9: literals of slices and structs; cuts; append.
-/
import Derived.Test.YtdabongfphoilaaGreatDoorMachB
set_option linter.unusedVariables false
set_option linter.unusedSimpArgs false

namespace Go.Am

def okOpt (num : Nat → Option Nat) : Option AO → Option Operand → Bool
  | none, none => true
  | some x, some y => okO num x y
  | _, _ => false

section
variable {P : Program} {num : Nat → Option Nat} {β : List Blk} {w w' : World} {m : Nat → Nat} {ν : Own} {N : Nat} {w0 : World} {m0 : Nat → Nat} {T : Nat → Prop} {β0 : List Blk} {σ σ1 : St} {a : Act}
  {o : Oper} {next : Act → World → Prop} {Q : Exit → Act → World → Prop} {K : CallF} {v : AV}

theorem fold_put (off : Nat) : ∀ (vs : List Value) (k : Nat) (cs : Array Value), off + k + vs.length ≤ cs.size →
    ((vs.zipIdx k).foldl (fun cs (p : Value × Nat) => cs.setIfInBounds (off + p.2) p.1) cs).size = cs.size ∧
    ∀ (i : Nat), ((vs.zipIdx k).foldl (fun cs (p : Value × Nat) => cs.setIfInBounds (off + p.2) p.1) cs)[i]? = if off + k ≤ i ∧ i < off + k + vs.length then vs[i - (off + k)]? else cs[i]?
  | [], k, cs, _ => ⟨rfl, fun i => by rw [if_neg (by simp)]; rfl⟩
  | v :: vs, k, cs, h => by
    simp only [List.length_cons] at h
    have ih := fold_put off vs (k + 1) (cs.setIfInBounds (off + k) v) (by simp; omega)
    simp only [List.zipIdx_cons, List.foldl_cons]
    refine ⟨by rw [ih.1]; simp, fun i => ?_⟩
    rw [ih.2 i]
    by_cases h1 : off + (k + 1) ≤ i ∧ i < off + (k + 1) + vs.length
    · rw [if_pos h1, if_pos (by simp only [List.length_cons]; omega)]
      rw [show i - (off + k) = (i - (off + (k + 1))) + 1 by omega]
      rfl
    · rw [if_neg h1]
      by_cases h2 : i = off + k
      · subst h2
        rw [if_pos (by simp only [List.length_cons]; omega), Array.getElem?_setIfInBounds_self_of_lt (by omega)]
        simp
      · rw [Array.getElem?_setIfInBounds_ne (fun e => h2 e.symm), if_neg (by simp only [List.length_cons]; omega)]

theorem fold_put' (off : Nat) (u : Array Value) (cs : Array Value) (h : off + u.size ≤ cs.size) :
    (u.zipIdx.foldl (fun cs (p : Value × Nat) => cs.setIfInBounds (off + p.2) p.1) cs).size = cs.size ∧
    ∀ (i : Nat), (u.zipIdx.foldl (fun cs (p : Value × Nat) => cs.setIfInBounds (off + p.2) p.1) cs)[i]? = if off ≤ i ∧ i < off + u.size then u[i - off]? else cs[i]? := by
  have := fold_put off u.toList 0 cs (by simpa using h)
  rw [← Array.foldl_toList, Array.toList_zipIdx]
  simpa using this

/-- The parts of a slice's literal, from the k-th on. -/
theorem fill_slice (hI : Inv num N w0 m0 T β0 σ a w m β ν) (sz n : Nat) : ∀ (xs : List AO) (ys : List Operand) (k : Nat) (cells : Array Value) (vs : List (List AV)),
    okOs num xs ys = true → elemsOf sz (xs.map (Am.val σ.env)) = some vs → cells.size = n * sz → k + xs.length = n →
    ∃ cells', Instr.fill (fun i => some (i * sz, sz)) cells ((ys.zipIdx k).map fun p => (p.2, a.eval p.1)) = some cells' ∧ cells'.size = n * sz ∧ (∀ i, i < k * sz → cells'[i]? = cells[i]?) ∧
      ∀ (i : Nat) (x : List AV), vs[i]? = some x → x.length = sz ∧ ∀ (j : Nat) (c : AV), x[j]? = some c → ∃ u, cells'[(k + i) * sz + j]? = some u ∧ u.oneCell' = true ∧ RepV num β w m c u
  | [], [], k, cells, vs, _, hv, hc, _ => by
    simp only [List.map_nil, elemsOf] at hv
    injection hv with hv
    subst hv
    exact ⟨cells, rfl, hc, fun _ _ => rfl, fun i x h => by simp at h⟩
  | x :: xs, y :: ys, k, cells, vs, ho, hv, hc, hk => by
    simp only [okOs, Bool.and_eq_true] at ho
    simp only [List.map_cons, elemsOf] at hv
    split at hv
    · rename_i e es he hes
      split at hv
      · rename_i hl
        injection hv with hv
        subst hv
        have hr := (hI.val ho.1 (ok_of_cells he)).1
        obtain ⟨_, hz, hcs⟩ := cellsOf_rep he hr
        simp only [List.length_cons] at hk
        have hle : (k + 1) * sz ≤ n * sz := Nat.mul_le_mul_right _ (by omega)
        rw [Nat.succ_mul] at hle
        have hfit : k * sz + (a.eval y).cells.size ≤ cells.size := by rw [hz, hl, hc]; exact hle
        have hp := fold_put' (k * sz) (a.eval y).cells cells hfit
        obtain ⟨cells', f1, f2, f3, f4⟩ := fill_slice hI sz n xs ys (k + 1) _ es ho.2 hes (hp.1.trans hc) (by omega)
        refine ⟨cells', ?_, f2, fun i hi => ?_, fun i z hz2 => ?_⟩
        · simp only [List.zipIdx_cons, List.map_cons, Instr.fill]
          rw [if_neg (by rw [hz, hl]; simp; omega)]
          exact f1
        · rw [f3 i (by rw [Nat.succ_mul]; omega), hp.2 i, if_neg (by omega)]
        · cases i with
          | zero =>
            simp at hz2
            subst hz2
            refine ⟨by simpa using hl, fun j c hj => ?_⟩
            obtain ⟨d, hd, rfl⟩ := map_strip_get hj
            obtain ⟨u, g1, g2, g3⟩ := hcs j d hd
            have hjl : j < sz := by
              rcases Nat.lt_or_ge j e.length with h | h
              · omega
              · rw [List.getElem?_eq_none h] at hd; cases hd
            refine ⟨u, ?_, g2, by rw [RepV_strip]; exact g3⟩
            rw [Nat.add_zero, f3 _ (by rw [Nat.succ_mul]; omega), hp.2, if_pos (by rw [hz, hl]; omega), Nat.add_sub_cancel_left]
            exact g1
          | succ i =>
            simp at hz2
            have := f4 i z hz2
            rwa [show k + 1 + i = k + (i + 1) by omega] at this
      · cases hv
    · cases hv
  | [], _ :: _, _, _, _, h, _, _, _ => by simp [okOs] at h
  | _ :: _, [], _, _, _, h, _, _, _ => by simp [okOs] at h

def slLit (P : Program) (t : TypeId) (sz n : Nat) : Bool := match P.underlying t with
  | some (.slice e) => sizeIs P e sz && (match P.info? e with
    | some i => i.zero.isSome
    | none => false) && decide (n * sz ≤ 2 ^ 24) && decide (0 < sz)
  | _ => false

theorem ex_mksl {sz : Nat} {parts : List AO} {ps : List Operand} {t : TypeId} (hI : Inv num N w0 m0 T β0 σ a w m β ν) (ho : o.op = .buildSlice t ps.length (ps.zipIdx.map fun p => (p.2, p.1)).toArray)
    (ht : slLit P t sz ps.length = true) (hp : okOs num parts ps = true)
    (he : exec K (.mksl sz parts) σ = some (v, σ1)) (h : Aft num N w0 m0 T β0 σ1 a v fun u w' => next (a.put o.dst u) w') : o.wp P a w next Q := by
  simp only [exec] at he
  cases hr : elemsOf sz (parts.map (val σ.env)) with
  | none => rw [hr] at he; cases he
  | some xs =>
    rw [hr] at he
    injection he with he
    injection he with h1 h2
    subst h1 h2
    have hlen : ∀ (parts : List AO) (ps : List Operand), okOs num parts ps = true → parts.length = ps.length := by
      intro parts
      induction parts with
      | nil => intro ps hp; cases ps <;> simp [okOs] at hp ⊢
      | cons x xs ih => intro ps hp; cases ps with
        | nil => simp [okOs] at hp
        | cons y ys => simp only [okOs, Bool.and_eq_true] at hp; simp [ih ys hp.2]
    have hlen2 : ∀ (vs : List AV) (xs : List (List AV)), elemsOf sz vs = some xs → xs.length = vs.length := by
      intro vs
      induction vs with
      | nil => intro xs h; simp [elemsOf] at h; subst h; rfl
      | cons v vs ih =>
        intro xs h
        simp only [elemsOf] at h
        split at h
        · rename_i e es h1 h2
          split at h
          · injection h with h; subst h; simp [ih es h2]
          · cases h
        · cases h
    have hL := hlen parts ps hp
    have hX : xs.length = ps.length := by rw [hlen2 _ _ hr]; simpa using hL
    unfold slLit at ht
    split at ht
    · rename_i e hu
      simp only [Bool.and_eq_true, decide_eq_true_eq] at ht
      obtain ⟨⟨⟨ht1, ht2⟩, ht3⟩, ht4⟩ := ht
      split at ht2
      · rename_i i hi
        obtain ⟨z, hz⟩ := Option.isSome_iff_exists.1 ht2
        have hsz : i.size = sz := by unfold sizeIs at ht1; rw [hi] at ht1; simpa using ht1
        obtain ⟨zc, hzc⟩ : ∃ zc : Array Value, zc = (if ps.length * sz = 0 then #[] else z.cells) := ⟨_, rfl⟩
        obtain ⟨cells', f1, f2, _, f4⟩ := fill_slice hI sz ps.length parts ps 0 ((Array.range (ps.length * sz)).map (zc[· % zc.size]!)) xs hp hr (by simp) (by omega)
        refine wp_value (u := .slice (some ⟨w.heap.size, 0, none⟩) ps.length ps.length) (w' := w.alloc (.cells cells' e)) ?_ ?_
        · have hps : (Array.map (fun x : Nat × Operand => (x.fst, a.eval x.snd)) (ps.zipIdx.map fun p => (p.2, p.1)).toArray).toList = (ps.zipIdx 0).map fun p => (p.2, a.eval p.1) := by
            simp [List.map_map, Function.comp_def]
          simp only [execOp, ho, Instr.buildSlice, Sem.run_bind, run_underlying hu, Result.andThen_ok, run_sizeOf ht1]
          rw [if_neg (by omega)]
          by_cases h0 : ps.length * sz = 0
          · rw [if_pos h0] at hzc
            simp only [h0, if_true, Sem.run_bind, Sem.run_pure, Result.andThen_ok, hps]
            rw [hzc, h0] at f1
            rw [f1]
            simp [newRow]
          · rw [if_neg h0] at hzc
            simp only [h0, if_false, Sem.run_pure, Sem.run_bind, Result.andThen_ok, zeroValue, typeInfo, run_program, hi, hz, hps]
            rw [hzc] at f1
            rw [f1]
            simp [newRow]
        · refine h _ _ _ β _ (hI.fresh cells' e (ps.length * sz) .f) ((SlotV_ok rfl).2 ⟨?_, .inr ⟨w.heap.size, ps.length, cells', e, by rw [hX], heap_alloc_new w _, by rw [f2], by simp [m1, hX], by simp [own1]⟩⟩)
          simp only [RepV]
          refine ⟨_, _, _, rfl, hX, Nat.le_refl _, ?_, .inr ⟨w.heap.size, 0, rfl, ?_⟩⟩
          · have : ps.length ≤ 2 ^ 24 := Nat.le_trans (Nat.le_mul_of_pos_right _ ht4) ht3
            unfold maxLen; omega
          · rw [RepE_get]
            intro i2 x hx
            obtain ⟨g1, g2⟩ := f4 i2 x hx
            refine ⟨g1, ?_⟩
            rw [RepC_get]
            intro j c hc
            obtain ⟨u, k1, k2, k3⟩ := g2 j c hc
            have hlt : i2 * sz + j < ps.length * sz := by
              have hjl : j < sz := by
                rcases Nat.lt_or_ge j x.length with h | h
                · omega
                · rw [List.getElem?_eq_none h] at hc; cases hc
              have hil : i2 < ps.length := by
                rcases Nat.lt_or_ge i2 xs.length with h | h
                · omega
                · rw [List.getElem?_eq_none h] at hx; cases hx
              have : (i2 + 1) * sz ≤ ps.length * sz := Nat.mul_le_mul_right _ hil
              rw [Nat.succ_mul] at this
              omega
            refine ⟨u, ?_, k2, RepV_mono (Ge.refl β) (Step.alloc (fun _ => False) w m cells' e _).le c u k3⟩
            unfold hg
            rw [if_pos (by simp [m1]; omega), cell_of_row _ _ _ cells' e (0, 0) (heap_alloc_new w _)]
            rw [Nat.zero_add] at k1 ⊢
            exact k1
      · cases ht2
    · cases ht

theorem run_mapM_list {α γ : Type} (f : α → Sem γ) (g : α → γ) : ∀ (l : List α), (∀ x ∈ l, (f x).run P w = .ok (g x) w) → (l.mapM f).run P w = .ok (l.map g) w
  | [], _ => by simp
  | x :: l, h => by
    rw [List.mapM_cons]
    simp only [Sem.run_bind, h x (by simp), Result.andThen_ok, run_mapM_list f g l (fun y hy => h y (by simp [hy])), Sem.run_pure, List.map_cons]

def fieldsOk (P : Program) (fs : Array Field) : Bool := fs.all fun f => (P.info? f.type).isSome

def partOk (P : Program) (fs : Array Field) (i off sz : Nat) : Bool := match fs[i]? with
  | some f => decide (f.offset = off) && sizeIs P f.type sz
  | none => false

def stParts (P : Program) (num : Nat → Option Nat) (fs : Array Field) : List (Nat × Nat × AO) → List (Nat × Operand) → Bool
  | [], [] => true
  | (off, sz, x) :: r, (i, y) :: r' => partOk P fs i off sz && okO num x y && stParts P num fs r r'
  | _, _ => false

def stOk (P : Program) (num : Nat → Option Nat) (t : TypeId) (zs : List AV) (parts : List (Nat × Nat × AO)) (ps : List (Nat × Operand)) : Bool := match P.underlying t with
  | some (.struct fs) => zeroIs P t zs && fieldsOk P fs && stParts P num fs parts ps
  | _ => false

def placesOf (P : Program) (fs : Array Field) : Array (Nat × Nat) := (fs.toList.map fun f => (f.offset, ((P.info? f.type).map (·.size)).getD 0)).toArray

theorem fill_struct (hI : Inv num N w0 m0 T β0 σ a w m β ν) (fs : Array Field) : ∀ (parts : List (Nat × Nat × AO)) (ps : List (Nat × Operand)) (zs cs : List AV) (cells : Array Value),
    stParts P num fs parts ps = true → fillSt zs (parts.map fun p => (p.1, p.2.1, Am.val σ.env p.2.2)) = some cs → cells.size = zs.length →
    (∀ (i : Nat) (c : AV), zs[i]? = some c → ∃ u, cells[i]? = some u ∧ u.oneCell' = true ∧ RepV num β w m c u) →
    ∃ cells', Instr.fill (fun i => (placesOf P fs)[i]?) cells (ps.map fun p => (p.1, a.eval p.2)) = some cells' ∧ cells'.size = cs.length ∧
      ∀ (i : Nat) (c : AV), cs[i]? = some c → ∃ u, cells'[i]? = some u ∧ u.oneCell' = true ∧ RepV num β w m c u
  | [], [], zs, cs, cells, _, hv, hz, hc => by
    simp only [List.map_nil, fillSt] at hv
    injection hv with hv
    subst hv
    exact ⟨cells, rfl, hz, hc⟩
  | (off, sz, x) :: r, (i, y) :: r', zs, cs, cells, ho, hv, hz, hc => by
    simp only [stParts, Bool.and_eq_true] at ho
    obtain ⟨⟨ho1, ho2⟩, ho3⟩ := ho
    simp only [List.map_cons, fillSt] at hv
    split at hv
    · rename_i vs hvs
      split at hv
      · rename_i hl
        obtain ⟨hl1, hl2⟩ := hl
        have hr := (hI.val ho2 (ok_of_cells hvs)).1
        obtain ⟨_, hz2, hcs⟩ := cellsOf_rep hvs hr
        have hpl : (placesOf P fs)[i]? = some (off, sz) := by
          unfold partOk at ho1
          split at ho1
          · rename_i f hf
            simp only [Bool.and_eq_true, decide_eq_true_eq] at ho1
            obtain ⟨rfl, ho1⟩ := ho1
            unfold sizeIs at ho1
            split at ho1
            · rename_i inf hinf
              simp only [decide_eq_true_eq] at ho1
              simp [placesOf, hf, hinf, ho1]
            · cases ho1
          · cases ho1
        have hfit : off + (a.eval y).cells.size ≤ cells.size := by rw [hz2, hz]; exact hl2
        have hp := fold_put' off (a.eval y).cells cells hfit
        have hlen : (put zs off (vs.map AV.strip)).length = zs.length := by unfold put; rw [put_len _ _ _ (by simpa using hl2)]
        obtain ⟨cells', f1, f2, f3⟩ := fill_struct hI fs r r' _ cs _ ho3 hv (by rw [hp.1, hz, hlen]) (fun j c hj => by
          unfold put at hj
          rw [put_get _ _ _ (by simpa using hl2)] at hj
          rw [hp.2 j]
          simp only [List.length_map] at hj
          split at hj
          · rename_i h1
            obtain ⟨u, g1, g2⟩ := hc j c hj
            exact ⟨u, by rw [if_neg (by omega)]; exact g1, g2⟩
          · rename_i h1
            split at hj
            · rename_i h2
              obtain ⟨d, hd, rfl⟩ := map_strip_get hj
              obtain ⟨u, g1, g2, g3⟩ := hcs _ d hd
              exact ⟨u, by rw [if_pos (by rw [hz2]; omega)]; exact g1, g2, by rw [RepV_strip]; exact g3⟩
            · rename_i h2
              obtain ⟨u, g1, g2⟩ := hc j c hj
              exact ⟨u, by rw [if_neg (by rw [hz2]; omega)]; exact g1, g2⟩)
        refine ⟨cells', ?_, f2, f3⟩
        simp only [List.map_cons, Instr.fill, hpl]
        rw [if_neg (by rw [hz2, hl1, hz]; simp; omega)]
        exact f1
      · cases hv
    · cases hv
  | [], _ :: _, _, _, _, h, _, _, _ => by simp [stParts] at h
  | _ :: _, [], _, _, _, h, _, _, _ => by simp [stParts] at h

theorem ex_mkst {zs : List AV} {parts : List (Nat × Nat × AO)} {ps : List (Nat × Operand)} {t : TypeId} (hI : Inv num N w0 m0 T β0 σ a w m β ν) (ho : o.op = .build t ps.toArray)
    (ht : stOk P num t zs parts ps = true)
    (he : exec K (.mkst zs parts) σ = some (v, σ1)) (h : Aft num N w0 m0 T β0 σ1 a v fun u w' => next (a.put o.dst u) w') : o.wp P a w next Q := by
  simp only [exec] at he
  cases hr : fillSt zs (parts.map fun p => (p.1, p.2.1, val σ.env p.2.2)) with
  | none => rw [hr] at he; cases he
  | some cs =>
    rw [hr] at he
    injection he with he
    injection he with h1 h2
    subst h1 h2
    unfold stOk at ht
    split at ht
    · rename_i fs hu
      simp only [Bool.and_eq_true] at ht
      obtain ⟨⟨ht1, ht2⟩, ht3⟩ := ht
      obtain ⟨z, hz, hzc⟩ := zeroIs_run (w := w) ht1
      obtain ⟨hl, hcs⟩ := constCells_get _ _ hzc
      obtain ⟨cells', f1, f2, f3⟩ := fill_struct hI fs parts ps zs cs z.cells ht3 hr (by simpa using hl) (fun i c hc => by
        obtain ⟨u, g1, g2⟩ := hcs i c hc
        have := constCell_rep (num := num) (β := β) (w := w) (m := m) (ν := ν) g2
        exact ⟨u, by simpa using g1, this.2.1, this.1⟩)
      have hpl : (fs.mapM fun f => do pure (f.offset, ← sizeOf f.type) : Sem _).run P w = .ok (placesOf P fs) w := by
        rw [Array.mapM_eq_mapM_toList]
        simp only [Sem.run_map]
        rw [run_mapM_list (fun f => do pure (f.offset, ← sizeOf f.type)) (fun f : Field => (f.offset, ((P.info? f.type).map (·.size)).getD 0)) fs.toList (fun f hf => by
          have := Array.all_eq_true_iff_forall_mem.1 ht2 f (by simpa using hf)
          obtain ⟨i, hi⟩ := Option.isSome_iff_exists.1 this
          simp [sizeOf, typeInfo, hi])]
        rfl
      refine wp_value (u := .agg cells') (w' := w) ?_ (h.same hI rfl ?_ trivial)
      · have hps : (Array.map (fun x : Nat × Operand => (x.fst, a.eval x.snd)) ps.toArray).toList = ps.map fun p => (p.1, a.eval p.2) := by simp
        simp only [execOp, ho, Instr.build, Sem.run_bind, hz, Result.andThen_ok, run_underlying hu]
        simp only [hpl, Result.andThen_ok, hps]
        have f1' : Instr.fill (fun x => (placesOf P fs)[x]?) z.cells (ps.map fun p => (p.1, a.eval p.2)) = some cells' := f1
        simp only [f1', Sem.run_pure, Result.andThen_ok]
      · simp only [RepV]
        exact ⟨cells', rfl, f2, by rw [RepC_get]; intro i c hc; rw [Nat.zero_add]; exact f3 i c hc⟩
    · cases ht

theorem run_bound {k : Nat} {n d : Nat} {x : Option AO} {y : Option Operand} (hI : Inv num N w0 m0 T β0 σ a w m β ν) (ho : okOpt num x y = true) (h : bound n d (x.map (Am.val σ.env)) = some k) :
    (y = none ∧ k = d) ∨ ∃ y', y = some y' ∧ k ≤ n ∧ ∃ kd, a.eval y' = .int kd (k : Int) := by
  cases x with
  | none =>
    cases y with
    | none => simp only [Option.map_none, bound] at h; injection h with h; exact .inl ⟨rfl, h.symm⟩
    | some y => simp [okOpt] at ho
  | some x =>
    cases y with
    | none => simp [okOpt] at ho
    | some y =>
      simp only [okOpt] at ho
      simp only [Option.map_some] at h
      unfold bound at h
      split at h
      · rename_i h2; cases h2
      · rename_i kd i h2
        injection h2 with h2
        split at h
        · rename_i h3
          injection h with h
          have g1 := (hI.val ho (by rw [h2]; rfl)).1
          rw [h2] at g1
          simp only [RepV] at g1
          exact .inr ⟨y, rfl, by omega, kd, by rw [g1]; congr 1; omega⟩
        · cases h
      · cases h

theorem run_sliceBounds {l h len cap : Nat} {isSl : Bool} {lo hi : Option Value} (hh : (hi = none ∧ h = len) ∨ ∃ kd, hi = some (.int kd (h : Int))) (hl : (lo = none ∧ l = 0) ∨ ∃ kd, lo = some (.int kd (l : Int)))
    (h1 : h ≤ cap) (h2 : l ≤ h) : (Instr.sliceBounds isSl len cap lo hi none).run P w = .ok (l, h, cap) w := by
  have hb : ∀ (kd : IntKind) (n y : Nat) (c : BoundsCode), n ≤ y → (Instr.sliceBound (.int kd (n : Int)) y c).run P w = .ok n w := fun kd n y c hn => by
    simp only [Instr.sliceBound, asIntOf, Sem.run_bind, Sem.run_pure, Result.andThen_ok]
    rw [if_pos (by omega)]
    rfl
  rcases hh with ⟨rfl, rfl⟩ | ⟨kd, rfl⟩ <;> rcases hl with ⟨rfl, rfl⟩ | ⟨kd2, rfl⟩ <;> simp only [Instr.sliceBounds, Sem.run_bind, Sem.run_pure, Result.andThen_ok, hb _ _ _ _ h1, hb _ _ _ _ h2, Option.isSome_none, Bool.false_eq_true, if_false]

theorem ex_slcs {x : AO} {lo hi : Option AO} {x' : Operand} {lo' hi' : Option Operand} {t : TypeId} (hI : Inv num N w0 m0 T β0 σ a w m β ν) (ho : o.op = .slice t x' lo' hi' none) (ht : strT P t = true) (hx : okO num x x' = true)
    (hlo : okOpt num lo lo' = true) (hhi : okOpt num hi hi' = true)
    (he : exec K (.slcs x lo hi) σ = some (v, σ1)) (h : Aft num N w0 m0 T β0 σ1 a v fun u w' => next (a.put o.dst u) w') : o.wp P a w next Q := by
  simp only [exec] at he
  split at he
  · rename_i s hA
    cases hb1 : bound s.length s.length (hi.map (val σ.env)) with
    | none => rw [hb1] at he; cases he
    | some H =>
      rw [hb1] at he
      simp only [Option.bind_some] at he
      cases hb2 : bound H 0 (lo.map (val σ.env)) with
      | none => rw [hb2] at he; cases he
      | some L =>
        rw [hb2] at he
        injection he with he
        injection he with h1 h2
        subst h1 h2
        have g1 := (hI.val hx (by rw [hA]; rfl)).1
        rw [hA] at g1
        simp only [RepV] at g1
        have hH : H ≤ s.length := by
          rcases run_bound hI hhi hb1 with ⟨_, rfl⟩ | ⟨_, _, h, _⟩ <;> omega
        have hL : L ≤ H := by
          rcases run_bound hI hlo hb2 with ⟨_, rfl⟩ | ⟨_, _, h, _⟩ <;> omega
        have e1 : (hi'.map a.eval = none ∧ H = s.length) ∨ ∃ kd, hi'.map a.eval = some (.int kd (H : Int)) := by
          rcases run_bound hI hhi hb1 with ⟨rfl, rfl⟩ | ⟨y', rfl, _, kd, hk⟩
          · exact .inl ⟨rfl, rfl⟩
          · exact .inr ⟨kd, by simp [hk]⟩
        have e2 : (lo'.map a.eval = none ∧ L = 0) ∨ ∃ kd, lo'.map a.eval = some (.int kd (L : Int)) := by
          rcases run_bound hI hlo hb2 with ⟨rfl, rfl⟩ | ⟨y', rfl, _, kd, hk⟩
          · exact .inl ⟨rfl, rfl⟩
          · exact .inr ⟨kd, by simp [hk]⟩
        have hu := strT_of ht
        refine wp_value (u := .string ((⟨s.toArray⟩ : ByteArray).extract L H)) (w' := w) ?_ (h.same hI rfl ?_ trivial)
        · simp only [execOp, ho, g1, Instr.sliceAt, Instr.slice, Sem.run_bind, run_underlying hu, Result.andThen_ok, Option.map_none, Option.isSome_none, Bool.false_eq_true, if_false]
          rw [run_sliceBounds (len := (⟨s.toArray⟩ : ByteArray).size) e1 e2 (by simpa [ByteArray.size_mk'] using hH) hL]
          rfl
        · simp only [RepV]
          rw [ByteArray.extract_mk, List.drop_take]
  · cases he

theorem ex_slcl {sz : Nat} {x : AO} {lo hi : Option AO} {x' : Operand} {lo' hi' : Option Operand} {t : TypeId} (hI : Inv num N w0 m0 T β0 σ a w m β ν) (ho : o.op = .slice t x' lo' hi' none) (ht : elemIs P t sz = true) (hx : okO num x x' = true)
    (hlo : okOpt num lo lo' = true) (hhi : okOpt num hi hi' = true)
    (he : exec K (.slcl sz x lo hi) σ = some (v, σ1)) (h : Aft num N w0 m0 T β0 σ1 a v fun u w' => next (a.put o.dst u) w') : o.wp P a w next Q := by
  simp only [exec] at he
  split at he
  · rename_i o2 sz1 xs hA
    split at he
    · rename_i hsz
      subst hsz
      cases hb1 : bound xs.length xs.length (hi.map (val σ.env)) with
      | none => rw [hb1] at he; cases he
      | some H =>
        rw [hb1] at he
        simp only [Option.bind_some] at he
        cases hb2 : bound H 0 (lo.map (val σ.env)) with
        | none => rw [hb2] at he; cases he
        | some L =>
          rw [hb2] at he
          injection he with he
          injection he with h1 h2
          subst h1 h2
          have g1 := (hI.val hx (by rw [hA]; rfl)).1
          rw [hA] at g1
          simp only [RepV] at g1
          obtain ⟨A, len, cap, g1, g2, g3, g4, g5⟩ := g1
          have hH : H ≤ xs.length := by
            rcases run_bound hI hhi hb1 with ⟨_, rfl⟩ | ⟨_, _, h, _⟩ <;> omega
          have hL : L ≤ H := by
            rcases run_bound hI hlo hb2 with ⟨_, rfl⟩ | ⟨_, _, h, _⟩ <;> omega
          have e1 : (hi'.map a.eval = none ∧ H = len) ∨ ∃ kd, hi'.map a.eval = some (.int kd (H : Int)) := by
            rcases run_bound hI hhi hb1 with ⟨rfl, rfl⟩ | ⟨y', rfl, _, kd, hk⟩
            · exact .inl ⟨rfl, g2⟩
            · exact .inr ⟨kd, by simp [hk]⟩
          have e2 : (lo'.map a.eval = none ∧ L = 0) ∨ ∃ kd, lo'.map a.eval = some (.int kd (L : Int)) := by
            rcases run_bound hI hlo hb2 with ⟨rfl, rfl⟩ | ⟨y', rfl, _, kd, hk⟩
            · exact .inl ⟨rfl, rfl⟩
            · exact .inr ⟨kd, by simp [hk]⟩
          unfold elemIs at ht
          split at ht
          · rename_i e hu
            refine wp_value (u := .slice (if cap = L then A else A.map (·.add (L * sz1))) (H - L) (cap - L)) (w' := w) ?_ (h.same hI rfl ?_ trivial)
            · simp only [execOp, ho, g1, Instr.sliceAt, Instr.slice, Sem.run_bind, run_underlying hu, Result.andThen_ok, Option.map_none]
              rw [run_sliceBounds e1 e2 (by omega) hL]
              simp only [Result.andThen_ok, run_sizeOf ht]
              rfl
            · simp only [RepV]
              refine ⟨_, _, _, rfl, by simp; omega, by omega, by omega, ?_⟩
              by_cases hLH : L = H
              · left
                subst hLH
                simp
              · right
                rcases g5 with g5 | ⟨b, of, rfl, g5⟩
                · subst g5; simp at hH; omega
                · refine ⟨b, of + L * sz1, by rw [if_neg (by omega)]; simp [add_none], ?_⟩
                  rw [RepE_get] at g5 ⊢
                  intro i z hz
                  rw [List.getElem?_drop] at hz
                  have hz2 : xs[L + i]? = some z := by
                    rw [List.getElem?_take] at hz
                    split at hz
                    · exact hz
                    · cases hz
                  obtain ⟨k1, k2⟩ := g5 _ z hz2
                  refine ⟨k1, ?_⟩
                  rwa [show of + L * sz1 + i * sz1 = of + (L + i) * sz1 by rw [Nat.add_mul]; omega]
          · cases ht
    · cases he
  · rename_i id of sz1 kn hA
    split at he
    · rename_i hsz
      obtain ⟨rfl, hszp⟩ := hsz
      cases hb1 : bound kn kn (hi.map (val σ.env)) with
      | none => rw [hb1] at he; cases he
      | some H =>
        rw [hb1] at he
        simp only [Option.bind_some] at he
        cases hb2 : bound H 0 (lo.map (val σ.env)) with
        | none => rw [hb2] at he; cases he
        | some L =>
          rw [hb2] at he
          injection he with he
          injection he with h1 h2
          subst h1 h2
          have g1 := (hI.val hx (by rw [hA]; rfl)).1
          rw [hA] at g1
          simp only [RepV] at g1
          obtain ⟨A, cap, g1, g3, g4, g5⟩ := g1
          have hH : H ≤ kn := by
            rcases run_bound hI hhi hb1 with ⟨_, rfl⟩ | ⟨_, _, h, _⟩ <;> omega
          have hL : L ≤ H := by
            rcases run_bound hI hlo hb2 with ⟨_, rfl⟩ | ⟨_, _, h, _⟩ <;> omega
          have e1 : (hi'.map a.eval = none ∧ H = kn) ∨ ∃ kd, hi'.map a.eval = some (.int kd (H : Int)) := by
            rcases run_bound hI hhi hb1 with ⟨rfl, rfl⟩ | ⟨y', rfl, _, kd, hk⟩
            · exact .inl ⟨rfl, rfl⟩
            · exact .inr ⟨kd, by simp [hk]⟩
          have e2 : (lo'.map a.eval = none ∧ L = 0) ∨ ∃ kd, lo'.map a.eval = some (.int kd (L : Int)) := by
            rcases run_bound hI hlo hb2 with ⟨rfl, rfl⟩ | ⟨y', rfl, _, kd, hk⟩
            · exact .inl ⟨rfl, rfl⟩
            · exact .inr ⟨kd, by simp [hk]⟩
          unfold elemIs at ht
          split at ht
          · rename_i e hu
            refine wp_value (u := .slice (if cap = L then A else A.map (·.add (L * sz1))) (H - L) (cap - L)) (w' := w) ?_ (h.same hI rfl ?_ trivial)
            · simp only [execOp, ho, g1, Instr.sliceAt, Instr.slice, Sem.run_bind, run_underlying hu, Result.andThen_ok, Option.map_none]
              rw [run_sliceBounds e1 e2 (by omega) hL]
              simp only [Result.andThen_ok, run_sizeOf ht]
              rfl
            · simp only [RepV]
              refine ⟨_, _, rfl, by omega, by omega, ?_⟩
              by_cases hLH : cap = L
              · left
                exact ⟨by omega, by omega⟩
              · rcases g5 with g5 | ⟨kb, g5, rfl, g6, _⟩
                · left; omega
                · right
                  have hmul : L * sz1 + (cap - L) * sz1 = cap * sz1 := by rw [← Nat.add_mul]; congr 1; omega
                  exact ⟨kb, g5, by rw [if_neg (by omega)]; simp [add_none], by omega, hszp⟩
          · cases ht
    · split at he
      · rename_i hz
        obtain ⟨rfl, rfl⟩ := hz
        cases hb1 : bound 0 0 (hi.map (val σ.env)) with
        | none => rw [hb1] at he; cases he
        | some H =>
          rw [hb1] at he
          simp only [Option.bind_some] at he
          cases hb2 : bound H 0 (lo.map (val σ.env)) with
          | none => rw [hb2] at he; cases he
          | some L =>
            rw [hb2] at he
            injection he with he
            injection he with h1 h2
            subst h1 h2
            have g1 := (hI.val hx (by rw [hA]; rfl)).1
            rw [hA] at g1
            simp only [RepV] at g1
            obtain ⟨A, cap, g1, g3, g4, g5⟩ := g1
            have hcap : cap = 0 := by
              rcases g5 with g5 | ⟨_, _, _, _, g6⟩
              · simpa using g5.2
              · omega
            subst hcap
            have hH : H = 0 := by
              rcases run_bound hI hhi hb1 with ⟨_, rfl⟩ | ⟨_, _, h, _⟩ <;> omega
            subst hH
            have hL : L = 0 := by
              rcases run_bound hI hlo hb2 with ⟨_, rfl⟩ | ⟨_, _, h, _⟩ <;> omega
            subst hL
            have e1 : (hi'.map a.eval = none ∧ (0 : Nat) = 0) ∨ ∃ kd, hi'.map a.eval = some (.int kd ((0 : Nat) : Int)) := by
              rcases run_bound hI hhi hb1 with ⟨rfl, _⟩ | ⟨y', rfl, _, kd, hk⟩
              · exact .inl ⟨rfl, rfl⟩
              · exact .inr ⟨kd, by simp [hk]⟩
            have e2 : (lo'.map a.eval = none ∧ (0 : Nat) = 0) ∨ ∃ kd, lo'.map a.eval = some (.int kd ((0 : Nat) : Int)) := by
              rcases run_bound hI hlo hb2 with ⟨rfl, _⟩ | ⟨y', rfl, _, kd, hk⟩
              · exact .inl ⟨rfl, rfl⟩
              · exact .inr ⟨kd, by simp [hk]⟩
            unfold elemIs at ht
            split at ht
            · rename_i e hu
              refine wp_value (u := .slice (if 0 = 0 then A else A.map (·.add (0 * sz))) (0 - 0) (0 - 0)) (w' := w) ?_ (h.same hI rfl ?_ trivial)
              · simp only [execOp, ho, g1, Instr.sliceAt, Instr.slice, Sem.run_bind, run_underlying hu, Result.andThen_ok, Option.map_none]
                rw [run_sliceBounds e1 e2 (by omega) (by omega)]
                simp only [Result.andThen_ok, run_sizeOf ht]
                rfl
              · simp only [RepV]
                exact ⟨_, _, rfl, by omega, by unfold maxLen; omega, .inl (by simp)⟩
            · cases ht
      · cases he
  · cases he

theorem ex_slz {sz : Nat} {x : AO} {x' : Operand} {t : TypeId} {k1 k2 : IntKind} (hI : Inv num N w0 m0 T β0 σ a w m β ν) (ho : o.op = .slice t x' none (some (.const (.int k1 0))) (some (.const (.int k2 0)))) (ht : elemIs P t sz = true) (hx : okO num x x' = true)
    (he : exec K (.slz sz x) σ = some (v, σ1)) (h : Aft num N w0 m0 T β0 σ1 a v fun u w' => next (a.put o.dst u) w') : o.wp P a w next Q := by
  simp only [exec] at he
  split at he
  · rename_i o2 sz1 xs hA
    split at he
    · rename_i hsz
      subst hsz
      injection he with he
      injection he with h1 h2
      subst h1 h2
      have g1 := (hI.val hx (by rw [hA]; rfl)).1
      rw [hA] at g1
      simp only [RepV] at g1
      obtain ⟨A, len, cap, g1, g2, g3, g4, g5⟩ := g1
      unfold elemIs at ht
      split at ht
      · rename_i e hu
        refine wp_value (u := .slice A 0 0) (w' := w) ?_ (h.same hI rfl ?_ (.inl ⟨A, rfl⟩))
        · have c1 : a.eval (.const (.int k1 0)) = .int k1 0 := rfl
          have c2 : a.eval (.const (.int k2 0)) = .int k2 0 := rfl
          simp [execOp, ho, g1, c1, c2, Instr.sliceAt, Instr.slice, run_underlying hu, Instr.sliceBounds, Instr.sliceBound, asIntOf, run_sizeOf ht]
        · simp only [RepV]
          exact ⟨A, 0, 0, rfl, rfl, Nat.le_refl _, Nat.zero_le _, .inl trivial⟩
      · cases ht
    · cases he
  · cases he

theorem ex_mkfn {f g : Nat} {caps : List AO} {cs : List Operand} (hI : Inv num N w0 m0 T β0 σ a w m β ν) (ho : o.op = .makeFunc (.func g) #[] cs.toArray) (hf : num f = some g) (hc : okOs num caps cs = true)
    (he : exec K (.mkfn f caps) σ = some (v, σ1)) (h : Aft num N w0 m0 T β0 σ1 a v fun u w' => next (a.put o.dst u) w') : o.wp P a w next Q := by
  simp only [exec] at he
  split at he
  · rename_i h1c
    injection he with he
    injection he with h1 h2
    subst h1 h2
    have hok : okVals (caps.map (val σ.env)) = true := by
      unfold okVals
      rw [List.all_eq_true] at h1c ⊢
      intro x hx
      exact one_ok (h1c x hx)
    obtain ⟨hl, hv⟩ := hI.vals hc hok
    refine wp_value (u := .func (.func g) #[] (cs.toArray.map a.eval)) (w' := w) (by simp [execOp, ho, Instr.makeFunc]) (h.same hI rfl ?_ trivial)
    simp only [RepV]
    refine ⟨g, _, hf, rfl, by simp [hl], ?_⟩
    rw [RepC_get]
    intro i c hci
    obtain ⟨y, k1, k2, k3⟩ := hv i c hci
    have h1 : c.one = true := by
      rw [List.all_eq_true] at h1c
      exact h1c c (List.mem_of_getElem? hci)
    exact ⟨a.eval y, by simp [k1], oneCell_of h1 k3, k3⟩
  · cases he
end
end Go.Am

namespace Go.Am

def appT (P : Program) (t : TypeId) (bytes sz : Nat) : Bool := match P.underlying t with
  | some (.slice e) => match P.info? e with
    | some i => decide (i.size = sz) && decide (i.bytes = bytes) && decide (0 < sz) && decide (0 < bytes) && (match i.zero with
      | some z => decide (z.cells.size = sz)
      | none => false)
    | none => false
  | _ => false

def clrT (P : Program) (t : TypeId) (sz : Nat) : Bool := match P.underlying t with
  | some (.slice e) => match P.info? e with
    | some i => (match i.zero with
      | some z => decide (z.cells.size = sz) && z.cells.all (·.oneCell')
      | none => false)
    | none => false
  | _ => false

section
variable {P : Program} {num : Nat → Option Nat} {β : List Blk} {w w' : World} {m : Nat → Nat} {ν : Own} {N : Nat} {w0 : World} {m0 : Nat → Nat} {T : Nat → Prop} {β0 : List Blk} {σ σ1 : St} {a : Act}
  {o : Oper} {next : Act → World → Prop} {Q : Exit → Act → World → Prop} {K : CallF} {v : AV}

/-- The cells of elements, one behind the other. -/
theorem RepE_cells {ys : List (List AV)} {g : Nat → Option Value} {of sz : Nat} (h : RepE num β w m ys g of sz) (hsz : 0 < sz) : ∀ j, j < ys.length * sz → ∃ u, g (of + j) = some u ∧ u.oneCell' = true := by
  intro j hj
  rw [RepE_get] at h
  have hi : j / sz < ys.length := by
    rw [Nat.div_lt_iff_lt_mul hsz]; exact hj
  obtain ⟨h1, h2⟩ := h _ _ (List.getElem?_eq_getElem hi)
  rw [RepC_get] at h2
  have hr : j % sz < (ys[j / sz]).length := by rw [h1]; exact Nat.mod_lt _ hsz
  obtain ⟨u, g1, g2, _⟩ := h2 _ _ (List.getElem?_eq_getElem hr)
  have he : of + j / sz * sz + j % sz = of + j := by
    have := Nat.div_add_mod j sz
    rw [Nat.mul_comm] at this
    omega
  rw [he] at g1
  exact ⟨u, g1, g2⟩

/-- Elements laid into a row. -/
theorem RepE_into {ys : List (List AV)} {g g' : Nat → Option Value} {of of' sz : Nat} (h : RepE num β w m ys g of sz) (hg : ∀ j u, j < ys.length * sz → g (of + j) = some u → g' (of' + j) = some u) :
    RepE num β w m ys g' of' sz := by
  rw [RepE_get] at h ⊢
  intro i x hx
  obtain ⟨h1, h2⟩ := h i x hx
  refine ⟨h1, ?_⟩
  rw [RepC_get] at h2 ⊢
  intro j c hc
  obtain ⟨u, g1, g2, g3⟩ := h2 j c hc
  refine ⟨u, ?_, g2, g3⟩
  have hil : i < ys.length := by
    rcases Nat.lt_or_ge i ys.length with h | h
    · exact h
    · rw [List.getElem?_eq_none h] at hx; cases hx
  have hjl : j < sz := by
    rcases Nat.lt_or_ge j x.length with h | h
    · omega
    · rw [List.getElem?_eq_none h] at hc; cases hc
  have hle : (i + 1) * sz ≤ ys.length * sz := Nat.mul_le_mul_right _ hil
  rw [Nat.succ_mul] at hle
  have := hg (i * sz + j) u (by omega) (by rw [← Nat.add_assoc]; exact g1)
  rw [← Nat.add_assoc] at this
  exact this

theorem RepE_append {xs ys : List (List AV)} {g : Nat → Option Value} {of sz : Nat} (h : RepE num β w m xs g of sz) (k : RepE num β w m ys g (of + xs.length * sz) sz) : RepE num β w m (xs ++ ys) g of sz := by
  rw [RepE_get] at h k ⊢
  intro i x hx
  by_cases hi : i < xs.length
  · rw [List.getElem?_append_left hi] at hx
    exact h i x hx
  · rw [List.getElem?_append_right (by omega)] at hx
    have := k _ x hx
    rwa [Nat.add_assoc, ← Nat.add_mul, Nat.add_sub_cancel' (by omega)] at this

theorem run_append_zero {t ty e : TypeId} {i : TypeInfo} {base : Option Addr} {n cap c : Nat} {x : Option Addr} (ht : P.underlying t = some (.slice e)) (hi : P.info? e = some i) (hn : n ≤ cap) :
    (Builtin.append_ #[t, t] ty #[.slice base n cap, .slice x 0 c]).run P w = .ok (.slice base n cap) w := by
  cases base <;> cases x <;> simp [Builtin.append_, run_underlying ht, sizeOf, typeInfo, hi, Builtin.lenOf, Builtin.firstCells, loadCells, loadCellsFrom, hn, storeCells]

theorem run_append_inplace {t ty e e2 : TypeId} {i : TypeInfo} {g sLen sCap : Nat} {cur : Array Value} {A : Addr} {k c : Nat} {news : List Value} (ht : P.underlying t = some (.slice e)) (hi : P.info? e = some i)
    (hg : w.heap[g]? = some (.cells cur e2 (0, 0))) (hl : news.length = k * i.size) (hnews : ∀ j u, news[j]? = some u → w.cell? (A.add j) = some u) (h1 : ∀ u ∈ news, u.oneCell' = true)
    (hroom : sLen + k ≤ sCap) (hfit : sLen * i.size + news.length ≤ cur.size) :
    (Builtin.append_ #[t, t] ty #[.slice (some ⟨g, 0, none⟩) sLen sCap, .slice (some A) k c]).run P w =
      .ok (.slice (some ⟨g, 0, none⟩) (sLen + k) sCap) (w.setRow g (cur.toList.take (sLen * i.size) ++ news ++ cur.toList.drop (sLen * i.size + news.length)).toArray) := by
  have hf := run_firstCells_some (P := P) w i.size k A k c news hl hnews
  have hst := run_storeCells_at P g (sLen * i.size) e2 news 0 cur w hg (by simpa using hfit) h1
  simp only [Nat.add_zero] at hst
  simp [Builtin.append_, run_underlying ht, sizeOf, typeInfo, hi, Builtin.lenOf, hroom, hf, add_none, hst]

theorem run_append_grow0 {t ty e : TypeId} {i : TypeInfo} {z : Value} (ht : P.underlying t = some (.slice e)) (hi : P.info? e = some i) (hz : i.zero = some z) {base : Option Addr}
    {A : Addr} {n c : Nat} {news : List Value} (hl : news.length = n * i.size) (hnews : ∀ j v, news[j]? = some v → w.cell? (A.add j) = some v)
    (h0 : 0 < n) (h63 : (n : Int) ≤ 9223372036854775807) (h48 : n * i.bytes ≤ 281474976710656) :
    (Builtin.append_ #[t, t] ty #[.slice base 0 0, .slice (some A) n c]).run P w =
      .ok (.slice (some ⟨w.heap.size, 0, none⟩) n (grownCap w n 0 e)) (w.drew.alloc (.cells (news.toArray ++ Builtin.zeroCells z.cells (grownCap w n 0 e - n)) e)) := by
  cases base with
  | none => exact run_append_nil (P := P) w t ty e i z ht hi hz A n c news hl hnews h0 h63 h48
  | some b =>
    have h48' : Builtin.nextslicecap (0 + n) 0 * i.bytes ≤ 281474976710656 := by rw [Nat.zero_add, nextslicecap_zero h0]; exact h48
    have := run_append_grow (P := P) w t ty e i z ht hi hz b 0 0 [] (by simp) (fun j v h => by simp at h) A n c news hl hnews (by omega) (by simpa using h63) h48'
    simpa using this

/-- Elements behind an own slice that is the value at hand. -/
theorem app_core {bytes sz : Nat} {s' x' : Operand} {t : TypeId} {σ2 : St} {xs ys : List (List AV)} {o2 : Bool} {ν1 : Own} {u Y : Value} (hu : a.eval s' = u) (hY : a.eval x' = Y)
    (ho : o.op = .call { callee := .builtin .append, args := #[s', x'], argTypes := #[t, t] }) (ht : appT P t bytes sz = true) (hb : (xs.length + ys.length) * bytes ≤ 140737488355328)
    (hI1 : Inv num N w0 m0 T β0 σ2 a w m β ν1) (hr : RepV num β w m (.sl true sz xs) u) (hown : OwnV w m ν1 .f (.sl true sz xs) u) (hry : RepV num β w m (.sl o2 sz ys) Y)
    (h : Aft num N w0 m0 T β0 σ2 a (.sl true sz (xs ++ ys)) fun u w' => next (a.put o.dst u) w') : o.wp P a w next Q := by
  unfold appT at ht
  split at ht
  · rename_i e hun
    split at ht
    · rename_i i hi
      simp only [Bool.and_eq_true, decide_eq_true_eq] at ht
      obtain ⟨⟨⟨⟨rfl, rfl⟩, hsz⟩, hby⟩, hz⟩ := ht
      split at hz
      · rename_i z hzz
        simp only [decide_eq_true_eq] at hz
        have hexec : ∀ r w', (Builtin.append_ #[t, t] o.type #[u, Y]).run P w = .ok r w' → (execOp a.eval o).run P w = .ok (.value r) w' := fun r w' hrr => by
          simp only [execOp, ho, resolve, invoke, builtin, List.map_toArray, List.map_cons, List.map_nil, hu, hY, Sem.run_bind, Sem.run_pure, Result.andThen_ok, hrr]
        have hsmall : xs.length + ys.length ≤ 140737488355328 := Nat.le_trans (Nat.le_mul_of_pos_right _ hby) hb
        have hr' := hr
        simp only [RepV] at hr' hry
        obtain ⟨A, len, cap, rfl, g2, g3, g4, g5⟩ := hr'
        obtain ⟨B, len2, cap2, rfl, k2, k3, k4, k5⟩ := hry
        by_cases hy0 : ys = []
        · subst hy0
          simp only [List.length_nil] at k2
          subst k2
          refine wp_value (hexec _ _ (run_append_zero hun hi g3)) (h _ w m β ν1 hI1 ((SlotV_ok rfl).2 ⟨by simpa using hr, by simpa using hown⟩))
        · have hm : 0 < ys.length := List.length_pos_iff.2 hy0
          rcases k5 with k5 | ⟨b2, of2, rfl, k5⟩
          · exact absurd k5 hy0
          -- the new cells
          have hcells := RepE_cells k5 hsz
          let news : List Value := (List.range (ys.length * i.size)).map fun j => (w.cell? ⟨b2, of2 + j, none⟩).getD undef
          have hnl : news.length = len2 * i.size := by simp [news, k2]
          have hget : ∀ j, j < ys.length * i.size → ∃ u, news[j]? = some u ∧ w.cell? ⟨b2, of2 + j, none⟩ = some u ∧ hg w m b2 (of2 + j) = some u ∧ u.oneCell' = true := fun j hj => by
            obtain ⟨u, g1, g2⟩ := hcells j hj
            have := (hg_some g1).2.1
            exact ⟨u, by simp [news, hj, this], this, g1, g2⟩
          have hlt : ∀ {j : Nat} {u : Value}, news[j]? = some u → j < ys.length * i.size := fun {j u} hj => by
            rcases Nat.lt_or_ge j news.length with h | h
            · simpa [news] using h
            · rw [List.getElem?_eq_none h] at hj; cases hj
          have hnews : ∀ j u, news[j]? = some u → w.cell? ((⟨b2, of2, none⟩ : Addr).add j) = some u := fun j u hj => by
            obtain ⟨u2, p1, p2, _⟩ := hget j (hlt hj)
            rw [hj] at p1
            injection p1 with p1
            subst p1
            rw [add_none]
            exact p2
          have hone : ∀ u ∈ news, u.oneCell' = true := fun u hu2 => by
            obtain ⟨j, hj⟩ := List.getElem?_of_mem hu2
            obtain ⟨u2, p1, _, _, p2⟩ := hget j (hlt hj)
            rw [hj] at p1
            injection p1 with p1
            subst p1
            exact p2
          -- a new block that begins with olds ++ news
          have fresh : ∀ (olds : List Value) (capN : Nat), olds.length = xs.length * i.size → (∀ j u, j < xs.length * i.size → (∃ b o1, A = some ⟨b, o1, none⟩ ∧ hg w m b (o1 + j) = some u) → olds[j]? = some u) →
              xs.length + ys.length ≤ capN → capN ≤ maxLen →
              next (a.put o.dst (.slice (some ⟨w.heap.size, 0, none⟩) (xs.length + ys.length) capN)) (w.drew.alloc (.cells (olds.toArray ++ news.toArray ++ Builtin.zeroCells z.cells (capN - (xs.length + ys.length))) e)) := by
            intro olds capN ho1 ho2 hc1 hc2
            obtain ⟨rows, hrows⟩ : ∃ rows : Array Value, rows = olds.toArray ++ news.toArray ++ Builtin.zeroCells z.cells (capN - (xs.length + ys.length)) := ⟨_, rfl⟩
            rw [← hrows]
            have hrsz : rows.size = capN * i.size := by
              rw [hrows]
              simp only [Array.size_append, List.size_toArray, size_zeroCells, hz, ho1, hnl, ← k2]
              rw [← Nat.add_mul, ← Nat.add_mul]
              congr 1
              omega
            have hI2 := (hI1.drew).fresh rows e ((xs.length + ys.length) * i.size) .f
            have hgr : ∀ j u, j < (xs.length + ys.length) * i.size → rows[j]? = some u → hg (w.drew.alloc (.cells rows e)) (m1 m w.drew.heap.size ((xs.length + ys.length) * i.size)) w.heap.size (0 + j) = some u := fun j u hj hru => by
              have hh : (w.drew.alloc (.cells rows e)).heap[w.heap.size]? = some (.cells rows e (0, 0)) := heap_alloc_new w.drew _
              unfold hg
              rw [Nat.zero_add, if_pos (by simpa [m1] using hj), cell_of_row _ _ _ rows e (0, 0) hh]
              exact hru
            have hle : Le w m (w.drew.alloc (.cells rows e)) (m1 m w.drew.heap.size ((xs.length + ys.length) * i.size)) := (Step.alloc (fun _ => False) w.drew m rows e _).le
            refine h _ _ _ β _ hI2 ((SlotV_ok rfl).2 ⟨?_, .inr ⟨w.heap.size, capN, rows, e, by simp, heap_alloc_new w.drew _, hrsz, by simp [m1], by simp [own1]⟩⟩)
            simp only [RepV]
            refine ⟨_, _, _, rfl, by simp, hc1, hc2, .inr ⟨w.heap.size, 0, rfl, RepE_append ?_ ?_⟩⟩
            · rcases g5 with g5 | ⟨b, o1, rfl, g5⟩
              · rw [g5]; simp only [RepE]
              · refine RepE_mono (Ge.refl β) hle _ _ _ _ _ (fun _ _ h => h) (RepE_into (g' := hg (w.drew.alloc (.cells rows e)) (m1 m w.drew.heap.size ((xs.length + ys.length) * i.size)) w.heap.size) (of' := 0) g5 fun j u hj hju => ?_)
                refine hgr j u (by rw [Nat.add_mul]; omega) ?_
                rw [hrows, Array.append_assoc, Array.getElem?_append_left (by simpa [ho1] using hj)]
                simpa using ho2 j u hj ⟨b, o1, rfl, hju⟩
            · refine RepE_mono (Ge.refl β) hle _ _ _ _ _ (fun _ _ h => h) (RepE_into (g' := hg (w.drew.alloc (.cells rows e)) (m1 m w.drew.heap.size ((xs.length + ys.length) * i.size)) w.heap.size) (of' := 0 + xs.length * i.size) k5 fun j u hj hju => ?_)
              rw [Nat.add_assoc]
              refine hgr (xs.length * i.size + j) u (by rw [Nat.add_mul]; omega) ?_
              rw [hrows, Array.getElem?_append_left (by simp [ho1, hnl]; rw [← k2]; omega), Array.getElem?_append_right (by simp [ho1])]
              obtain ⟨u2, p1, _, p3, _⟩ := hget j hj
              rw [hju] at p3
              injection p3 with p3
              subst p3
              simpa [ho1] using p1
          simp only [OwnV] at hown
          rcases hown with ⟨A2, hA2⟩ | ⟨b, capO, cur, e2, hA2, q1, q2, q3, q4⟩
          · injection hA2 with hA2 hA3 hA4
            subst hA2 hA3 hA4
            have hx0 : xs = [] := List.eq_nil_of_length_eq_zero g2
            have hrun := run_append_grow0 (P := P) (w := w) (ty := o.type) (base := A) (A := ⟨b2, of2, none⟩) (n := len2) (c := cap2) hun hi hzz hnl hnews (by omega) (by omega) (by
              have hb2 := hb
              rw [hx0, k2] at hb2
              simp only [List.length_nil, Nat.zero_add] at hb2
              omega)
            have hf := fresh [] (grownCap w len2 0 e) (by rw [hx0]; simp) (fun j u hj _ => by rw [hx0] at hj; simp at hj) (by rw [hx0, k2, List.length_nil, Nat.zero_add]; exact grownCap_ge w len2 0 e)
              (grownCap_le_maxLen w len2 0 e (by unfold maxLen; omega))
            rw [hx0, k2] at hf
            simp only [List.length_nil, Nat.zero_add, Array.empty_append] at hf
            exact wp_value (hexec _ _ hrun) hf
          · injection hA2 with hA2 hA3 hA4
            subst hA2 hA3 hA4
            have hro : ∀ j u, j < xs.length * i.size → hg w m b (0 + j) = some u → cur[j]? = some u := fun j u hj hju => by
              rw [Nat.zero_add] at hju
              have := (hg_some hju).2.1
              rwa [cell_of_row w b j cur e2 (0, 0) q1] at this
            by_cases hroom : xs.length + ys.length ≤ cap
            · have hfit : xs.length * i.size + news.length ≤ cur.size := by rw [hnl, q2, ← k2, ← Nat.add_mul]; exact Nat.mul_le_mul_right _ hroom
              have hrun := run_append_inplace (P := P) (w := w) (ty := o.type) (c := cap2) hun hi q1 hnl hnews hone (by rw [← k2]; exact hroom) hfit
              have hfit2 : xs.length * i.size + news.length ≤ cur.toList.length := by simpa using hfit
              have hI2 := hI1.setFloat (cur' := (cur.toList.take (xs.length * i.size) ++ news ++ cur.toList.drop (xs.length * i.size + news.length)).toArray) (k := (xs.length + ys.length) * i.size) q1 q4
                (fun j u hj hcu => by
                  rw [List.getElem?_toArray, put_get _ _ _ hfit2, if_pos (by omega)]
                  simpa using hcu) (by rw [q3]; exact Nat.mul_le_mul_right _ (by omega))
              have hS := Step.setRow (m := m) (cur' := (cur.toList.take (xs.length * i.size) ++ news ++ cur.toList.drop (xs.length * i.size + news.length)).toArray) (k := (xs.length + ys.length) * i.size) q1
                (fun j u hj hcu => by
                  rw [List.getElem?_toArray, put_get _ _ _ hfit2, if_pos (by omega)]
                  simpa using hcu) (by rw [q3]; exact Nat.mul_le_mul_right _ (by omega))
              rw [← k2] at hrun hexec
              refine wp_value (hexec _ _ hrun) (h _ _ _ β _ hI2 ((SlotV_ok rfl).2 ⟨?_, .inr ⟨b, cap, _, e2, by simp, setRow_heap w b cur _ e2 (0, 0) q1, ?_, by simp [m1], q4⟩⟩))
              · simp only [RepV]
                refine ⟨_, _, _, rfl, by simp, hroom, g4, .inr ⟨b, 0, rfl, RepE_append ?_ ?_⟩⟩
                · rcases g5 with g5 | ⟨b3, o1, hA5, g5⟩
                  · rw [g5]; simp only [RepE]
                  · injection hA5 with hA5
                    injection hA5 with hA5 hA6
                    subst hA5 hA6
                    exact RepE_mono (Ge.refl β) hS.le _ _ _ _ _ (hS.le b) g5
                · refine RepE_mono (Ge.refl β) hS.le _ _ _ _ _ (fun _ _ h => h) (RepE_into (of' := 0 + xs.length * i.size) k5 fun j u hj hju => ?_)
                  unfold hg
                  rw [Nat.zero_add, if_pos (by simp [m1, Nat.add_mul]; omega), cell_setRow_same w b _ cur _ e2 (0, 0) q1, List.getElem?_toArray, put_get _ _ _ hfit2, if_neg (by omega), if_pos (by rw [hnl, ← k2]; omega)]
                  obtain ⟨u2, p1, _, p3, _⟩ := hget j hj
                  rw [hju] at p3
                  injection p3 with p3
                  subst p3
                  rw [Nat.add_sub_cancel_left]
                  exact p1
              · rw [List.size_toArray, put_len _ _ _ hfit2]
                simpa using q2
            · have holds : ∀ j u, (cur.toList.take (xs.length * i.size))[j]? = some u → w.cell? ((⟨b, 0, none⟩ : Addr).add j) = some u := fun j u hj => by
                rw [add_none, Nat.zero_add, cell_of_row w b j cur e2 (0, 0) q1]
                rw [List.getElem?_take] at hj
                split at hj
                · simpa using hj
                · cases hj
              have hol : (cur.toList.take (xs.length * i.size)).length = xs.length * i.size := by
                have hle : xs.length * i.size ≤ cur.toList.length := by simpa [q2] using Nat.mul_le_mul_right i.size g3
                rw [List.length_take]
                exact Nat.min_eq_left hle
              have hrun := run_append_grow (P := P) w t o.type e i z hun hi hzz ⟨b, 0, none⟩ xs.length cap _ hol holds ⟨b2, of2, none⟩ len2 cap2 news hnl hnews (by omega) (by omega) (growslice_fits (by omega) (by rw [← k2]; exact hb))
              have hf := fresh (cur.toList.take (xs.length * i.size)) (grownCap w (xs.length + len2) cap e) hol (fun j u hj hju => by
                obtain ⟨b3, o1, hA5, hju⟩ := hju
                injection hA5 with hA5
                injection hA5 with hA5 hA6
                subst hA5 hA6
                rw [List.getElem?_take_of_lt hj]
                simpa using hro j u hj hju) (by rw [k2]; exact grownCap_ge w _ cap e) (grownCap_le_maxLen w _ cap e (by unfold maxLen; omega))
              rw [← k2] at hrun hf hexec
              exact wp_value (hexec _ _ hrun) hf
      · cases hz
    · cases ht
  · cases ht
theorem ex_app {bytes sz : Nat} {s x : AO} {s' x' : Operand} {t : TypeId} (hI : Inv num N w0 m0 T β0 σ a w m β ν) (ho : o.op = .call { callee := .builtin .append, args := #[s', x'], argTypes := #[t, t] })
    (ht : appT P t bytes sz = true) (hs : okO num s s' = true) (hx : okO num x x' = true)
    (he : exec K (.app bytes sz s x) σ = some (v, σ1)) (h : Aft num N w0 m0 T β0 σ1 a v fun u w' => next (a.put o.dst u) w') : o.wp P a w next Q := by
  -- the source of the append, taken out of its slot
  have hsrc : ∃ ρ xs ys o2 ν1 u, exec K (.app bytes sz s x) σ = some (.sl true sz (xs ++ ys), { σ with env := ρ }) ∧ (xs.length + ys.length) * bytes ≤ 140737488355328 ∧ val σ.env x = .sl o2 sz ys ∧
      a.eval s' = u ∧ Inv num N w0 m0 T β0 { σ with env := ρ } a w m β ν1 ∧ RepV num β w m (.sl true sz xs) u ∧ OwnV w m ν1 .f (.sl true sz xs) u := by
    cases s with
    | t n =>
      simp only [exec] at he
      split at he
      · rename_i sz1 xs ρ o2 sz2 ys e1 e2
        simp only [Prod.mk.injEq] at e1
        obtain ⟨e1, rfl⟩ := e1
        split at he
        · rename_i hc
          obtain ⟨rfl, rfl, hb⟩ := hc
          unfold okO at hs
          split at hs
          · rename_i n2 t2 hn2
            injection hn2 with hn2
            subst hn2
            simp only [decide_eq_true_eq] at hs
            subst hs
            obtain ⟨_, h2⟩ := hI.at_ (n := n) (by rw [e1]; simp)
            have h3 := hI.slots n _ h2
            rw [e1] at h3
            obtain ⟨h3, h4⟩ := h3
            refine ⟨_, xs, ys, o2, _, a.eval (.tmp n), by simp only [exec, e1, e2]; simp [hb], hb, e2, rfl, hI.takeSlot n, h3, ?_⟩
            have := OwnV_map (θ := mv (.s n) .f) h4
            rwa [show mv (.s n) .f (.s n) = .f by simp [mv]] at this
          · rename_i hn2; cases hn2
          · rename_i hn2; cases hn2
          · cases hs
        · cases he
      · cases he
    | c vc =>
      simp only [exec] at he
      split at he
      · rename_i sz1 xs ρ o2 sz2 ys e1 e2
        simp only [Prod.mk.injEq] at e1
        obtain ⟨rfl, rfl⟩ := e1
        split at he
        · rename_i hc
          obtain ⟨rfl, rfl, hb⟩ := hc
          have h1 := hI.val hs (show (val σ.env (.c _)).ok = true from rfl)
          exact ⟨_, xs, ys, o2, ν, a.eval s', by simp only [exec, e2]; simp [hb], hb, e2, rfl, hI, h1.1, h1.2 _⟩
        · cases he
      · cases he
  obtain ⟨ρ, xs, ys, o2, ν1, u, hex, hb, hvx, hu, hI1, hr, hown⟩ := hsrc
  rw [hex] at he
  injection he with he
  injection he with h1 h2
  subst h1 h2
  have hry := (hI.val hx (by rw [hvx]; rfl)).1
  rw [hvx] at hry
  exact app_core hu rfl ho ht hb hI1 hr hown hry h

theorem ex_frz {n sz : Nat} (hI : Inv num N w0 m0 T β0 σ a w m β ν) (ho : o.op = .move (.tmp n) ∨ o.op = .assign (.tmp n))
    (he : exec K (.frz n sz) σ = some (v, σ1)) (h : Aft num N w0 m0 T β0 σ1 a v fun u w' => next (a.put o.dst u) w') : o.wp P a w next Q := by
  simp only [exec] at he
  obtain ⟨m', ν', h1, h2, h3, h4, h5⟩ := hI.frz he
  have hrun : (execOp a.eval o).run P w = .ok (.value (a.eval (.tmp n))) w := by
    rcases ho with ho | ho <;> simp [execOp, ho]
  exact wp_value hrun (h _ w m' β ν' h1 ((SlotV_ok h3).2 ⟨h4, h5⟩))

theorem ex_appz {bytes sz n : Nat} {x : AO} {x' : Operand} {t : TypeId} (hI : Inv num N w0 m0 T β0 σ a w m β ν) (ho : o.op = .call { callee := .builtin .append, args := #[.tmp n, x'], argTypes := #[t, t] })
    (ht : appT P t bytes sz = true) (hx : okO num x x' = true)
    (he : exec K (.appz bytes sz n x) σ = some (v, σ1)) (h : Aft num N w0 m0 T β0 σ1 a v fun u w' => next (a.put o.dst u) w') : o.wp P a w next Q := by
  simp only [exec] at he
  split at he
  · rename_i sz1 xs s o2 sz2 ys hf hv
    split at he
    · rename_i hc
      obtain ⟨rfl, hb⟩ := hc
      injection he with he
      injection he with e1 e2
      subst e1 e2
      have hry := (hI.val hx (by rw [hv]; rfl)).1
      rw [hv] at hry
      obtain ⟨m', ν', h1, h2, h3, h4, h5⟩ := hI.frz hf
      have hsz : sz1 = sz2 := by
        unfold frzAt at hf
        split at hf
        · split at hf
          · rename_i hc
            split at hf
            · injection hf with hf; injection hf with hf; injection hf with _ hf; exact hf.symm
            · rename_i id _ _ _ _ _
              cases hbs : σ.bs[id]? with
              | none => rw [hbs] at hf; cases hf
              | some cs =>
                rw [hbs] at hf
                simp only [Option.bind_some] at hf
                split at hf
                · injection hf with hf; injection hf with hf; injection hf with _ hf; exact hf.symm
                · cases hf
          · split at hf
            · injection hf with hf; injection hf with hf; injection hf with _ hf; exact hf.symm
            · cases hf
        · cases hf
      subst hsz
      exact app_core rfl rfl ho ht hb h1 h4 h5 (RepV_mono (Ge.refl β) h2 _ _ hry) h
    · cases he
  · cases he

/-- A literal without elements, as a mutable slice that has no room. -/
theorem ex_zlit {t : TypeId} {sz : Nat} (hI : Inv num N w0 m0 T β0 σ a w m β ν) (ho : o.op = .buildSlice t 0 #[])
    (ht : slLit P t sz 0 = true)
    (he : exec K .zlit σ = some (v, σ1)) (h : Aft num N w0 m0 T β0 σ1 a v fun u w' => next (a.put o.dst u) w') : o.wp P a w next Q := by
  simp only [exec] at he
  injection he with he
  injection he with h1 h2
  subst h1 h2
  unfold slLit at ht
  split at ht
  · rename_i e hu
    simp only [Bool.and_eq_true, decide_eq_true_eq] at ht
    obtain ⟨⟨⟨ht1, ht2⟩, ht3⟩, ht4⟩ := ht
    refine wp_value (u := .slice (some ⟨w.heap.size, 0, none⟩) 0 0) (w' := w.alloc (.cells #[] e)) ?_ ?_
    · simp only [execOp, ho, Instr.buildSlice, Sem.run_bind, run_underlying hu, Result.andThen_ok, run_sizeOf ht1]
      have hz : Array.map (fun _ => (default : Value)) (Array.range 0) = #[] := Array.eq_empty_of_size_eq_zero (by simp)
      simp [newRow, Instr.fill, hz]
    · refine h _ _ _ β _ (hI.fresh #[] e 0 .f) ((SlotV_ok rfl).2 ⟨?_, trivial⟩)
      simp only [RepV]
      exact ⟨_, 0, rfl, Nat.le_refl _, by unfold maxLen; omega, .inl (by simp)⟩
  · cases ht

/-- Nothing appended to a slice that has no room. -/
theorem ex_appzz {bytes sz : Nat} {s x : AO} {s' x' : Operand} {t : TypeId} (hI : Inv num N w0 m0 T β0 σ a w m β ν) (ho : o.op = .call { callee := .builtin .append, args := #[s', x'], argTypes := #[t, t] })
    (ht : appT P t bytes sz = true) (hs : okO num s s' = true) (hx : okO num x x' = true)
    (he : exec K (.appzz s x) σ = some (v, σ1)) (h : Aft num N w0 m0 T β0 σ1 a v fun u w' => next (a.put o.dst u) w') : o.wp P a w next Q := by
  simp only [exec] at he
  split at he
  · rename_i i1 i2 o2 sz2 hA hB
    injection he with he
    injection he with h1 h2
    subst h1 h2
    have g1 := (hI.val hs (by rw [hA]; rfl)).1
    rw [hA] at g1
    simp only [RepV] at g1
    obtain ⟨A, cap, hu, g3, g4, g5⟩ := g1
    have hcap : cap = 0 := by
      rcases g5 with g5 | ⟨_, _, _, _, g6⟩
      · simpa using g5.2
      · omega
    subst hcap
    have k1 := (hI.val hx (by rw [hB]; rfl)).1
    rw [hB] at k1
    simp only [RepV] at k1
    obtain ⟨B, len2, cap2, hB2, k2, k3, k4, k5⟩ := k1
    simp only [List.length_nil] at k2
    subst k2
    unfold appT at ht
    split at ht
    · rename_i e hun
      split at ht
      · rename_i i hi
        have hexec : (execOp a.eval o).run P w = .ok (.value (.slice A 0 0)) w := by
          simp only [execOp, ho, resolve, invoke, builtin, List.map_toArray, List.map_cons, List.map_nil, hu, hB2, Sem.run_bind, Sem.run_pure, Result.andThen_ok, run_append_zero hun hi g3]
        refine wp_value hexec (h.same hI rfl ?_ trivial)
        simp only [RepV]
        exact ⟨A, 0, rfl, g3, g4, .inl (by simp)⟩
      · cases ht
    · cases ht
  · cases he

/-- The cells of elements, as a row. -/
theorem RepE_flat : ∀ {ys : List (List AV)} {g : Nat → Option Value} {of sz : Nat}, RepE num β w m ys g of sz → ∀ (i : Nat) (c : AV), (ys.flatten.map AV.strip)[i]? = some c →
    ∃ u, g (of + i) = some u ∧ u.oneCell' = true ∧ RepV num β w m c u ∧ ∀ p w' m' ν', OwnV w' m' ν' p c u
  | [], _, _, _, _, i, c, hc => by simp at hc
  | y :: ys, g, of, sz, h, i, c, hc => by
    simp only [RepE] at h
    obtain ⟨h1, h2, h3⟩ := h
    rw [List.flatten_cons, List.map_append] at hc
    by_cases hi : i < y.length
    · rw [List.getElem?_append_left (by simpa using hi)] at hc
      obtain ⟨d, hd, rfl⟩ := map_strip_get hc
      rw [RepC_get] at h2
      obtain ⟨u, g1, g2, g3⟩ := h2 i d hd
      exact ⟨u, g1, g2, by rw [RepV_strip]; exact g3, fun p w' m' ν' => OwnV_strip _ _ _⟩
    · rw [List.getElem?_append_right (by simpa using hi), List.length_map] at hc
      obtain ⟨u, g1, g2⟩ := RepE_flat h3 _ c hc
      exact ⟨u, by rw [show of + i = of + sz + (i - y.length) by omega]; exact g1, g2⟩

theorem flat_length : ∀ {ys : List (List AV)} {g : Nat → Option Value} {of sz : Nat}, RepE num β w m ys g of sz → (ys.flatten.map AV.strip).length = ys.length * sz
  | [], _, _, _, _ => by simp
  | y :: ys, g, of, sz, h => by
    simp only [RepE] at h
    have := flat_length h.2.2
    rw [List.length_map] at this
    rw [List.length_map, List.flatten_cons, List.length_append, this, h.1, List.length_cons, Nat.succ_mul]
    omega

theorem gpfreeE_flat : ∀ (ys : List (List AV)), gpfreeE ys = true → gpfreeL (ys.flatten.map AV.strip) = true
  | [], _ => rfl
  | y :: ys, h => by
    simp only [gpfreeE, Bool.and_eq_true] at h
    have h2 := gpfreeE_flat ys h.2
    have h1 := gpfreeL_strip h.1
    rw [gpfreeL_get] at h1 h2 ⊢
    intro i c hc
    rw [List.flatten_cons, List.map_append] at hc
    by_cases hi : i < (y.map AV.strip).length
    · rw [List.getElem?_append_left hi] at hc
      exact h1 i c hc
    · rw [List.getElem?_append_right (by omega)] at hc
      exact h2 _ c hc

/-- Elements behind an empty slice, as a box of the machine's. -/
theorem appg_core {bytes sz : Nat} {s' x' : Operand} {t : TypeId} {σ2 : St} {ys : List (List AV)} {o2 : Bool} {ν1 : Own} {u Y : Value} (hu : a.eval s' = u) (hY : a.eval x' = Y)
    (ho : o.op = .call { callee := .builtin .append, args := #[s', x'], argTypes := #[t, t] }) (ht : appT P t bytes sz = true) (hb : ys.length * bytes ≤ 140737488355328)
    (hI1 : Inv num N w0 m0 T β0 σ2 a w m β ν1) (hr : RepV num β w m (.sl true sz []) u) (hown : OwnV w m ν1 .f (.sl true sz []) u) (hry : RepV num β w m (.sl o2 sz ys) Y) (hy0 : ys.length ≠ 0) (hgp : gpfreeE ys = true)
    (h : Aft num N w0 m0 T β0 { σ2 with bs := σ2.bs ++ [ys.flatten.map AV.strip] } a (.gs σ2.bs.length 0 sz ys.length) fun u w' => next (a.put o.dst u) w') : o.wp P a w next Q := by
  unfold appT at ht
  split at ht
  · rename_i e hun
    split at ht
    · rename_i i hi
      simp only [Bool.and_eq_true, decide_eq_true_eq] at ht
      obtain ⟨⟨⟨⟨rfl, rfl⟩, hsz⟩, hby⟩, hz⟩ := ht
      split at hz
      · rename_i z hzz
        simp only [decide_eq_true_eq] at hz
        have hexec : ∀ r w', (Builtin.append_ #[t, t] o.type #[u, Y]).run P w = .ok r w' → (execOp a.eval o).run P w = .ok (.value r) w' := fun r w' hrr => by
          simp only [execOp, ho, resolve, invoke, builtin, List.map_toArray, List.map_cons, List.map_nil, hu, hY, Sem.run_bind, Sem.run_pure, Result.andThen_ok, hrr]
        have hm : 0 < ys.length := Nat.pos_of_ne_zero hy0
        have hsmall : ys.length ≤ 140737488355328 := Nat.le_trans (Nat.le_mul_of_pos_right _ hby) hb
        simp only [RepV] at hr hry
        obtain ⟨A, len, cap, rfl, g2, g3, g4, g5⟩ := hr
        simp only [List.length_nil] at g2
        subst g2
        obtain ⟨B, len2, cap2, rfl, k2, k3, k4, k5⟩ := hry
        rcases k5 with k5 | ⟨b2, of2, rfl, k5⟩
        · rw [k5] at hm; cases hm
        have hcells := RepE_cells k5 hsz
        let news : List Value := (List.range (ys.length * i.size)).map fun j => (w.cell? ⟨b2, of2 + j, none⟩).getD undef
        have hnl : news.length = len2 * i.size := by simp [news, k2]
        have hget : ∀ j, j < ys.length * i.size → ∃ u, news[j]? = some u ∧ w.cell? ⟨b2, of2 + j, none⟩ = some u ∧ hg w m b2 (of2 + j) = some u ∧ u.oneCell' = true := fun j hj => by
          obtain ⟨u, g1, g2⟩ := hcells j hj
          have := (hg_some g1).2.1
          exact ⟨u, by simp [news, hj, this], this, g1, g2⟩
        have hlt : ∀ {j : Nat} {u : Value}, news[j]? = some u → j < ys.length * i.size := fun {j u} hj => by
          rcases Nat.lt_or_ge j news.length with h | h
          · simpa [news] using h
          · rw [List.getElem?_eq_none h] at hj; cases hj
        have hnews : ∀ j u, news[j]? = some u → w.cell? ((⟨b2, of2, none⟩ : Addr).add j) = some u := fun j u hj => by
          obtain ⟨u2, p1, p2, _⟩ := hget j (hlt hj)
          rw [hj] at p1
          injection p1 with p1
          subst p1
          rw [add_none]
          exact p2
        have hone : ∀ u ∈ news, u.oneCell' = true := fun u hu2 => by
          obtain ⟨j, hj⟩ := List.getElem?_of_mem hu2
          obtain ⟨u2, p1, _, _, p2⟩ := hget j (hlt hj)
          rw [hj] at p1
          injection p1 with p1
          subst p1
          exact p2
        have hfl := flat_length k5
        have hbox : ∀ (i0 : Nat) (c : AV), (ys.flatten.map AV.strip)[i0]? = some c → ∃ u, news[i0]? = some u ∧ u.oneCell' = true ∧ RepV num β w m c u ∧ ∀ p w' m' ν', OwnV w' m' ν' p c u := fun i0 c hc => by
          obtain ⟨u, q1, q2, q3⟩ := RepE_flat k5 i0 c hc
          have hi0 : i0 < ys.length * i.size := by
            rw [← hfl]
            rcases Nat.lt_or_ge i0 (ys.flatten.map AV.strip).length with h | h
            · exact h
            · rw [List.getElem?_eq_none h] at hc; cases hc
          obtain ⟨u2, p1, _, p3, _⟩ := hget i0 hi0
          rw [q1] at p3
          injection p3 with p3
          subst p3
          exact ⟨u, p1, q2, q3⟩
        have fresh : ∀ (capN : Nat), ys.length ≤ capN → capN ≤ maxLen →
            next (a.put o.dst (.slice (some ⟨w.heap.size, 0, none⟩) ys.length capN)) (w.drew.alloc (.cells (news.toArray ++ Builtin.zeroCells z.cells (capN - ys.length)) e)) := by
          intro capN hc1 hc2
          obtain ⟨rows, hrows⟩ : ∃ rows : Array Value, rows = news.toArray ++ Builtin.zeroCells z.cells (capN - ys.length) := ⟨_, rfl⟩
          rw [← hrows]
          have hrsz : rows.size = capN * i.size := by
            rw [hrows]
            simp only [Array.size_append, List.size_toArray, size_zeroCells, hz, hnl, ← k2]
            rw [← Nat.add_mul]
            congr 1
            omega
          have hI2 := (hI1.drew).fresh rows e 0 .f
          have hI3 := hI2.toBox (b := w.heap.size) (cur := rows) (e := e) (cs := ys.flatten.map AV.strip) (heap_alloc_new w.drew _) (by simp [own1]) (by simp [m1]) (by rw [hfl, hrsz]; exact Nat.mul_le_mul_right _ hc1) (gpfreeE_flat ys hgp)
            fun i0 c hc => by
              obtain ⟨u, q1, q2, q3, q4⟩ := hbox i0 c hc
              have hle : Le w m (w.drew.alloc (.cells rows e)) (m1 m w.drew.heap.size 0) := (Step.alloc (fun _ => False) w.drew m rows e 0).le
              refine ⟨u, ?_, q2, RepV_mono (Ge.refl β) hle c u q3, q4⟩
              have hi0 : i0 < news.length := by
                rcases Nat.lt_or_ge i0 news.length with h | h
                · exact h
                · rw [List.getElem?_eq_none h] at q1; cases q1
              rw [hrows, Array.getElem?_append_left (by simpa using hi0)]
              simpa using q1
          refine h _ _ _ _ _ hI3 ((SlotV_ok rfl).2 ⟨?_, trivial⟩)
          simp only [RepV]
          exact ⟨_, capN, rfl, hc1, hc2, .inr ⟨⟨w.heap.size, rows.size, false⟩, ⟨by rw [← hI1.blen]; simp, rfl⟩, rfl, by simp [hrsz], hsz⟩⟩
        simp only [OwnV] at hown
        rcases hown with ⟨A2, hA2⟩ | ⟨b, capO, cur, e2, hA2, q1, q2, q3, q4⟩
        · injection hA2 with hA2 hA3 hA4
          subst hA2 hA4
          have hrun := run_append_grow0 (P := P) (w := w) (ty := o.type) (base := A) (A := ⟨b2, of2, none⟩) (n := len2) (c := cap2) hun hi hzz hnl hnews (by omega) (by omega) (by
            have hb2 := hb
            rw [k2] at hb2
            omega)
          have hf := fresh (grownCap w len2 0 e) (by rw [k2]; exact grownCap_ge w len2 0 e) (grownCap_le_maxLen w len2 0 e (by unfold maxLen; omega))
          rw [k2] at hf
          exact wp_value (hexec _ _ hrun) hf
        · injection hA2 with hA2 hA3 hA4
          subst hA2 hA4
          simp only [List.length_nil, Nat.zero_mul] at q3
          by_cases hroom : ys.length ≤ cap
          · have hfit : 0 * i.size + news.length ≤ cur.size := by rw [hnl, q2, ← k2, Nat.zero_mul, Nat.zero_add]; exact Nat.mul_le_mul_right _ hroom
            have hrun := run_append_inplace (P := P) (w := w) (ty := o.type) (sLen := 0) (sCap := cap) (k := len2) (c := cap2) hun hi q1 hnl hnews hone (by omega) hfit
            have hfit2 : 0 * i.size + news.length ≤ cur.toList.length := by simpa using hfit
            have hS := hI1.setFloat (cur' := (cur.toList.take (0 * i.size) ++ news ++ cur.toList.drop (0 * i.size + news.length)).toArray) (k := 0) q1 q4 (fun j u hj hcu => by omega) (by omega)
            have hm1 : m1 m b 0 = m := m1_self q3
            rw [hm1] at hS
            have hle := (Step.setRow (m := m) (cur' := (cur.toList.take (0 * i.size) ++ news ++ cur.toList.drop (0 * i.size + news.length)).toArray) (k := 0) q1 (fun j u hj hcu => by omega) (by omega)).le
            rw [hm1] at hle
            have hrs : (cur.toList.take (0 * i.size) ++ news ++ cur.toList.drop (0 * i.size + news.length)).toArray.size = cap * i.size := by
              rw [List.size_toArray, put_len _ _ _ hfit2]
              simpa using q2
            have hI3 := hS.toBox (b := b) (e := e2) (cs := ys.flatten.map AV.strip) (setRow_heap w b cur _ e2 (0, 0) q1) q4 q3 (by rw [hfl, hrs]; exact Nat.mul_le_mul_right _ hroom) (gpfreeE_flat ys hgp)
              fun i0 c hc => by
                obtain ⟨u, r1, r2, r3, r4⟩ := hbox i0 c hc
                refine ⟨u, ?_, r2, RepV_mono (Ge.refl β) hle c u r3, r4⟩
                have hi0 : i0 < news.length := by
                  rcases Nat.lt_or_ge i0 news.length with h | h
                  · exact h
                  · rw [List.getElem?_eq_none h] at r1; cases r1
                rw [List.getElem?_toArray, put_get _ _ _ hfit2, if_neg (by omega), if_pos (by omega)]
                simpa using r1
            rw [← k2] at hrun
            rw [Nat.zero_add] at hrun
            refine wp_value (hexec _ _ (by rw [← k2]; exact hrun)) (h _ _ _ _ _ hI3 ((SlotV_ok rfl).2 ⟨?_, trivial⟩))
            simp only [RepV]
            exact ⟨_, cap, rfl, hroom, g4, .inr ⟨_, ⟨by rw [← hI1.blen]; exact List.getElem?_concat_length, rfl⟩, rfl, by simp only [hrs]; omega, hsz⟩⟩
          · have hrun := run_append_grow (P := P) w t o.type e i z hun hi hzz ⟨b, 0, none⟩ 0 cap [] (by simp) (fun j u hj => by simp at hj) ⟨b2, of2, none⟩ len2 cap2 news hnl hnews (by omega) (by omega) (growslice_fits (by omega) (by rw [← k2, Nat.zero_add]; exact hb))
            have hf := fresh (grownCap w (0 + len2) cap e) (by rw [k2]; have := grownCap_ge w (0 + len2) cap e; omega) (grownCap_le_maxLen w _ cap e (by unfold maxLen; omega))
            rw [k2] at hf
            simp only [Nat.zero_add, Array.empty_append] at hrun hf
            exact wp_value (hexec _ _ hrun) hf
      · cases hz
    · cases ht
  · cases ht

theorem ex_appg {bytes sz : Nat} {s x : AO} {s' x' : Operand} {t : TypeId} (hI : Inv num N w0 m0 T β0 σ a w m β ν) (ho : o.op = .call { callee := .builtin .append, args := #[s', x'], argTypes := #[t, t] })
    (ht : appT P t bytes sz = true) (hs : okO num s s' = true) (hx : okO num x x' = true)
    (he : exec K (.appg bytes sz s x) σ = some (v, σ1)) (h : Aft num N w0 m0 T β0 σ1 a v fun u w' => next (a.put o.dst u) w') : o.wp P a w next Q := by
  have hsrc : ∃ ρ ys o2 ν1 u, exec K (.appg bytes sz s x) σ = (if ys.length = 0 then none else if gpfreeE ys then some (.gs σ.bs.length 0 sz ys.length, { env := ρ, bs := σ.bs ++ [ys.flatten.map AV.strip] }) else none) ∧
      ys.length * bytes ≤ 140737488355328 ∧ val σ.env x = .sl o2 sz ys ∧
      a.eval s' = u ∧ Inv num N w0 m0 T β0 { σ with env := ρ } a w m β ν1 ∧ RepV num β w m (.sl true sz []) u ∧ OwnV w m ν1 .f (.sl true sz []) u := by
    cases s with
    | t n =>
      simp only [exec] at he
      split at he
      · rename_i sz1 ρ o2 sz2 ys e1 e2
        simp only [Prod.mk.injEq] at e1
        obtain ⟨e1, rfl⟩ := e1
        split at he
        · rename_i hc
          obtain ⟨rfl, rfl, hb⟩ := hc
          unfold okO at hs
          split at hs
          · rename_i n2 t2 hn2
            injection hn2 with hn2
            subst hn2
            simp only [decide_eq_true_eq] at hs
            subst hs
            obtain ⟨_, h2⟩ := hI.at_ (n := n) (by rw [e1]; simp)
            have h3 := hI.slots n _ h2
            rw [e1] at h3
            obtain ⟨h3, h4⟩ := h3
            refine ⟨_, ys, o2, _, a.eval (.tmp n), by simp only [exec, e1, e2]; simp [hb], hb, e2, rfl, hI.takeSlot n, h3, ?_⟩
            have := OwnV_map (θ := mv (.s n) .f) h4
            rwa [show mv (.s n) .f (.s n) = .f by simp [mv]] at this
          · rename_i hn2; cases hn2
          · rename_i hn2; cases hn2
          · cases hs
        · cases he
      · cases he
    | c vc =>
      simp only [exec] at he
      split at he
      · rename_i sz1 ρ o2 sz2 ys e1 e2
        simp only [Prod.mk.injEq] at e1
        obtain ⟨rfl, rfl⟩ := e1
        split at he
        · rename_i hc
          obtain ⟨rfl, rfl, hb⟩ := hc
          have h1 := hI.val hs (show (val σ.env (.c _)).ok = true from rfl)
          exact ⟨_, ys, o2, ν, a.eval s', by simp only [exec, e2]; simp [hb], hb, e2, rfl, hI, h1.1, h1.2 _⟩
        · cases he
      · cases he
  obtain ⟨ρ, ys, o2, ν1, u, hex, hb, hvx, hu, hI1, hr, hown⟩ := hsrc
  rw [hex] at he
  have hry := (hI.val hx (by rw [hvx]; rfl)).1
  rw [hvx] at hry
  split at he
  · cases he
  · rename_i hy0
    split at he
    · rename_i hgp
      injection he with he
      injection he with h1 h2
      subst h1 h2
      exact appg_core hu rfl ho ht hb hI1 hr hown hry hy0 hgp h
    · cases he

theorem one_zeroCells {z : Array Value} (h : z.all (·.oneCell') = true) (n : Nat) : ∀ v ∈ (Builtin.zeroCells z n).toList, v.oneCell' = true := by
  intro v hv
  unfold Builtin.zeroCells at hv
  rw [Array.mem_toList_iff, Array.mem_map] at hv
  obtain ⟨i, hi, rfl⟩ := hv
  rw [Array.mem_range] at hi
  have h0 : 0 < z.size := by
    rcases Nat.eq_zero_or_pos z.size with h | h
    · rw [h] at hi; omega
    · exact h
  have hlt : i % z.size < z.size := Nat.mod_lt _ h0
  rw [getElem!_pos z _ hlt]
  rw [Array.all_eq_true] at h
  exact h _ hlt

theorem ex_clr {sz : Nat} {x : AO} {x' : Operand} {t : TypeId} (hI : Inv num N w0 m0 T β0 σ a w m β ν) (ho : o.op = .call { callee := .builtin .clear, args := #[x'], argTypes := #[t] }) (ht : clrT P t sz = true) (hx : okO num x x' = true)
    (he : exec K (.clr sz x) σ = some (v, σ1)) (h : Aft num N w0 m0 T β0 σ1 a v fun u w' => next (a.put o.dst u) w') : o.wp P a w next Q := by
  simp only [exec] at he
  split at he
  · rename_i id of sz1 k hA
    split at he
    · rename_i hc
      obtain ⟨rfl, h0⟩ := hc
      have g1 := (hI.val hx (by rw [hA]; rfl)).1
      rw [hA] at g1
      simp only [RepV] at g1
      obtain ⟨A, cap, g1, g3, g4, g5⟩ := g1
      unfold clrT at ht
      split at ht
      · rename_i e hun
        split at ht
        · rename_i i hi
          split at ht
          · rename_i z hz
            simp only [Bool.and_eq_true, decide_eq_true_eq] at ht
            obtain ⟨hzs, hz1⟩ := ht
            have hzero : ∀ w : World, (zeroValue e).run P w = .ok z w := fun w => by simp [zeroValue, typeInfo, hi, hz]
            split at he
            · rename_i hk0
              injection he with he
              injection he with h1 h2
              subst h1 h2 hk0
              refine wp_value (u := .tuple #[]) (w' := w) ?_ (h _ w m β ν hI trivial)
              cases A <;> simp [execOp, ho, resolve, invoke, builtin, g1, Builtin.clear_, run_underlying hun]
            · rename_i hk0
              cases hbs : σ.bs[id]? with
              | none => rw [hbs] at he; cases he
              | some cs =>
                rw [hbs] at he
                simp only [Option.bind_some] at he
                split at he
                · rename_i hl
                  injection he with he
                  injection he with h1 h2
                  subst h1 h2
                  rcases g5 with g5 | ⟨⟨b, bz, bmp⟩, g5, rfl, g6, _⟩
                  · exact absurd g5.1 hk0
                  have hkm : 0 < k * sz1 := Nat.mul_pos (Nat.pos_of_ne_zero hk0) h0
                  have hne0 : cs ≠ [] := fun e => by rw [e] at hl; simp only [List.length_nil] at hl; omega
                  obtain ⟨cur, e2, hb, ⟨hzc, hzl⟩, hcur, hfin⟩ := hI.setG (cs' := put cs of (List.replicate (k * sz1) .undef)) id hbs g5 hne0
                  simp only at hb hzc hzl g1
                  obtain ⟨zs, hzz⟩ : ∃ zs, zs = (Builtin.zeroCells z.cells k).toList := ⟨_, rfl⟩
                  have hzlen : zs.length = k * sz1 := by rw [hzz, Array.length_toList, size_zeroCells, hzs]
                  have hone : ∀ v ∈ zs, v.oneCell' = true := fun v hv => one_zeroCells hz1 k v (by rw [← hzz]; exact hv)
                  have hst := run_storeCells_at P b of e2 zs 0 cur w hb (by omega) hone
                  simp only [Nat.add_zero] at hst
                  obtain ⟨k2, hk2⟩ : ∃ k2, k = k2 + 1 := ⟨k - 1, by omega⟩
                  have hrun : (execOp a.eval o).run P w = .ok (.value (.tuple #[])) (w.setRow b (cur.toList.take of ++ zs ++ cur.toList.drop (of + zs.length)).toArray) := by
                    rw [hk2] at hzz
                    simp only [execOp, ho, resolve, invoke, builtin, List.map_toArray, List.map_cons, List.map_nil, g1, Sem.run_bind, Sem.run_pure, Result.andThen_ok]
                    simp [Builtin.clear_, run_underlying hun, hzero, hk2, ← hzz, hst]
                  have hpl : of + (List.replicate (k * sz1) AV.undef).length ≤ cs.length := by rw [List.length_replicate]; exact hl
                  have hrow := put_row (cs := cs) (vs := List.replicate (k * sz1) AV.undef) (cur := cur) (us := zs) (by omega) hpl (by rw [List.length_replicate]; exact hzlen)
                    (R := fun i c u => u.oneCell' = true ∧ RepV num β w m c u ∧ OwnV w m ν (.gc id i) c u) (S := fun _ c u => u.oneCell' = true ∧ c = .undef) hcur
                    (fun i c hi => by
                      rw [List.getElem?_replicate] at hi
                      split at hi
                      · rename_i hik
                        injection hi with hi
                        have : i < zs.length := by omega
                        exact ⟨zs[i], List.getElem?_eq_getElem this, hone _ (List.getElem_mem _), hi.symm⟩
                      · cases hi)
                  refine wp_value hrun (h _ _ m β _ (hfin (fun p => p) _ (fun _ => rfl) (fun _ _ => rfl) (fun _ => rfl) (fun _ _ => rfl) ?_ ?_ ?_ ?_) trivial)
                  · exact hrow.1.trans hzc
                  · rw [put_length _ _ _ hpl]; exact hzl
                  · have h1 := hI.gpf id cs hbs
                    rw [gpfreeL_get] at h1 ⊢
                    intro i c hi
                    unfold put at hi
                    rw [put_get _ _ _ hpl] at hi
                    split at hi
                    · exact h1 i c hi
                    · split at hi
                      · rw [List.getElem?_replicate] at hi
                        split at hi
                        · injection hi with hi; subst hi; rfl
                        · cases hi
                      · exact h1 i c hi
                  · intro i c hi
                    obtain ⟨u, q1, q2⟩ := hrow.2 i c hi
                    refine ⟨u, q1, ?_⟩
                    have hne : ν b ≠ some (.gc id i) := by
                      obtain ⟨_, _, _, _, _, hν, _⟩ := (hI.boxes id cs _ hbs g5.1 hne0).1 g5.2
                      rw [hν]; simp
                    rcases q2 with ⟨k1, k3, k4⟩ | ⟨_, _, k1, rfl⟩
                    · exact ⟨k1, k3, _, k4, rfl, hne⟩
                    · exact ⟨k1, by simp only [RepV]; exact k1, .gc id i, trivial, rfl, hne⟩
                · cases he
          · cases ht
        · cases ht
      · cases ht
    · cases he
  · cases he
end
end Go.Am

namespace Go.Am

def keyT (P : Program) (s : Bool) (kt : TypeId) : Bool := match P.underlying kt with
  | some (.int _) => !s
  | some .string => s
  | _ => false
def zero1 (P : Program) (t : TypeId) (z : AV) : Bool := match P.info? t with
  | some i => (match i.zero with
    | some z2 => constCell z z2
    | none => false)
  | none => false
def mapT (P : Program) (s : Bool) (t : TypeId) : Bool := match P.underlying t with
  | some (.map kt _) => keyT P s kt
  | _ => false
def lkT (P : Program) (s : Bool) (t : TypeId) (z : AV) : Bool := match P.underlying t with
  | some (.map kt et) => keyT P s kt && zero1 P et z
  | _ => false

section
variable {P : Program} {num : Nat → Option Nat} {β β' : List Blk} {w w' : World} {m m' : Nat → Nat} {ν ν' : Own} {N : Nat} {w0 : World} {m0 : Nat → Nat} {T : Nat → Prop} {β0 : List Blk} {σ σ1 : St} {a : Act}
  {o : Oper} {next : Act → World → Prop} {Q : Exit → Act → World → Prop} {K : CallF} {v : AV}

/-- A map's entry. -/
def EntV (num : Nat → Option Nat) (β : List Blk) (w : World) (m : Nat → Nat) (c : AV) (e : MapEntry) : Prop := ∃ k v, c = .agg [k, v] ∧ RepV num β w m k e.key ∧ RepV num β w m v e.val

/-- A kind of keys. -/
def KeyD (s : Bool) (d : TypeDesc) : Prop := (s = false ∧ ∃ k, d = .int k) ∨ (s = true ∧ d = .string)

theorem keyT_of {s : Bool} {kt : TypeId} (h : keyT P s kt = true) : ∃ d, P.underlying kt = some d ∧ KeyD s d := by
  unfold keyT at h
  split at h
  · rename_i k hk; exact ⟨_, hk, .inl ⟨by simpa using h, k, rfl⟩⟩
  · rename_i hk; exact ⟨_, hk, .inr ⟨h, rfl⟩⟩
  · cases h

theorem bytes_beq (a b : List UInt8) : ((⟨a.toArray⟩ : ByteArray) == ⟨b.toArray⟩) = (a == b) := by
  show (a.toArray == b.toArray) = _
  simp

theorem keyEq_now {s : Bool} {d : TypeDesc} (hd : KeyD s d) {q k : AV} {b : Bool} {u x : Value} (h : keyEq s q k = some b) (hq : RepV num β w m q u) (hk : RepV num β w m k x) : Instr.sameNow d u x = some b ∧ (b = true → x = u) := by
  unfold keyEq at h
  split at h
  · split at h
    · rename_i e
      subst e
      injection h with h
      simp only [RepV] at hq hk
      subst hq hk
      rcases hd with ⟨_, k0, rfl⟩ | ⟨h0, _⟩
      · refine ⟨by simp only [Instr.sameNow, if_true, h], fun hb => ?_⟩
        subst h
        simp only [beq_iff_eq] at hb
        rw [hb]
      · cases h0
    · cases h
  · injection h with h
    simp only [RepV] at hq hk
    subst hq hk
    rcases hd with ⟨h0, _⟩ | ⟨_, rfl⟩
    · cases h0
    · refine ⟨by simp only [Instr.sameNow, bytes_beq, h], fun hb => ?_⟩
      subst h
      simp only [beq_iff_eq] at hb
      rw [hb]
  · cases h

theorem keyB_of {s : Bool} {q : AV} (h : keyB s q = true) : (s = false ∧ ∃ k n, q = .int k n) ∨ (s = true ∧ ∃ x, q = .str x) := by
  unfold keyB at h
  split at h
  · exact .inl ⟨rfl, _, _, rfl⟩
  · exact .inr ⟨rfl, _, rfl⟩
  · cases h
theorem keyEq_keyB {s : Bool} {q k : AV} {b : Bool} (h : keyEq s q k = some b) : keyB s q = true := by
  unfold keyEq at h
  split at h
  · rfl
  · rfl
  · cases h
theorem sameBits_self {s : Bool} {q : AV} {u : Value} (h : keyB s q = true) (hq : RepV num β w m q u) (n : Nat) : Instr.sameBits n u u = true := by
  rcases keyB_of h with ⟨_, k, x, rfl⟩ | ⟨_, x, rfl⟩
  · simp only [RepV] at hq; subst hq; simp [Instr.sameBits]
  · simp only [RepV] at hq; subst hq; simp [Instr.sameBits, bytes_beq]

theorem find_now {s : Bool} {d : TypeDesc} (hd : KeyD s d) {q : AV} {u : Value} (hq : RepV num β w m q u) : ∀ (xs : List AV) (es : List MapEntry) (i0 : Nat) (r : Option AV), xs.length = es.length →
    (∀ (i : Nat) (c : AV), xs[i]? = some c → ∃ e, es[i]? = some e ∧ EntV num β w m c e) → findM s xs q = some r →
    (r = none ∧ Instr.findNow d u es i0 = some none) ∨ ∃ v j x, r = some v ∧ Instr.findNow d u es i0 = some (some (j, x)) ∧ RepV num β w m v x
  | [], es, i0, r, hl, _, h => by
    cases es with
    | nil =>
      simp only [findM] at h
      split at h
      · injection h with h
        exact .inl ⟨h.symm, rfl⟩
      · cases h
    | cons e es => simp at hl
  | c :: xs, [], i0, r, hl, _, h => by simp at hl
  | c :: xs, e :: es, i0, r, hl, hr, h => by
    obtain ⟨e1, he1, k, v, rfl, hk, hv⟩ := hr 0 c rfl
    simp only [List.getElem?_cons_zero, Option.some.injEq] at he1
    subst he1
    simp only [findM] at h
    split at h
    · rename_i hke
      obtain ⟨g1, g2⟩ := keyEq_now hd hke hq hk
      injection h with h
      refine .inr ⟨v, i0, e.val, h.symm, ?_, hv⟩
      simp only [Instr.findNow, g1]
    · rename_i hke
      obtain ⟨g1, g2⟩ := keyEq_now hd hke hq hk
      have ih := find_now hd hq xs es (i0 + 1) r (by simpa using hl) (fun i c hc => by
        have := hr (i + 1) c (by simpa using hc)
        simpa using this) h
      simp only [Instr.findNow, g1]
      exact ih
    · cases h

theorem upd_now {s : Bool} {d : TypeDesc} (hd : KeyD s d) {q v : AV} {u : Value} (hq : RepV num β w m q u) : ∀ (xs : List AV) (es : List MapEntry) (i0 : Nat) (ys : List AV), xs.length = es.length →
    (∀ (i : Nat) (c : AV), xs[i]? = some c → ∃ e, es[i]? = some e ∧ EntV num β w m c e) → updM s xs q v = some ys →
    keyB s q = true ∧ ((Instr.findNow d u es i0 = some none ∧ ys = xs ++ [.agg [q, v]]) ∨ ∃ j x e, Instr.findNow d u es i0 = some (some (i0 + j, x)) ∧ es[j]? = some e ∧ e.key = u ∧ ys = xs.set j (.agg [q, v]))
  | [], es, i0, ys, hl, _, h => by
    cases es with
    | nil =>
      simp only [updM] at h
      split at h
      · rename_i hb
        injection h with h
        exact ⟨hb, .inl ⟨rfl, h.symm⟩⟩
      · cases h
    | cons e es => simp at hl
  | c :: xs, [], i0, ys, hl, _, h => by simp at hl
  | c :: xs, e :: es, i0, ys, hl, hr, h => by
    obtain ⟨e1, he1, k, v2, rfl, hk, hv⟩ := hr 0 c rfl
    simp only [List.getElem?_cons_zero, Option.some.injEq] at he1
    subst he1
    simp only [updM] at h
    split at h
    · rename_i hke
      obtain ⟨g1, g2⟩ := keyEq_now hd hke hq hk
      injection h with h
      refine ⟨keyEq_keyB hke, .inr ⟨0, e.val, e, ?_, rfl, g2 rfl, h.symm⟩⟩
      simp only [Instr.findNow, g1, Nat.add_zero]
    · rename_i hke
      obtain ⟨g1, g2⟩ := keyEq_now hd hke hq hk
      cases hu : updM s xs q v with
      | none => rw [hu] at h; cases h
      | some zs =>
        rw [hu] at h
        injection h with h
        obtain ⟨hb, ih⟩ := upd_now hd hq xs es (i0 + 1) zs (by simpa using hl) (fun i c hc => by
          have := hr (i + 1) c (by simpa using hc)
          simpa using this) hu
        refine ⟨hb, ?_⟩
        simp only [Instr.findNow, g1]
        rcases ih with ⟨h1, h2⟩ | ⟨j, x, e2, h1, h2, h3, h4⟩
        · exact .inl ⟨h1, by rw [← h, h2]; rfl⟩
        · exact .inr ⟨j + 1, x, e2, by rw [h1]; congr 3; omega, by simpa using h2, h3, by rw [← h, h4]; rfl⟩
    · cases h

theorem run_checkKey {s : Bool} {kt : TypeId} (h : keyT P s kt = true) (b : Bool) (n : Nat) (u : Value) : (Instr.checkKey b (n + 1) kt u).run P w = .ok () w := by
  obtain ⟨d, hd, hk⟩ := keyT_of h
  rcases hk with ⟨_, k, rfl⟩ | ⟨_, rfl⟩ <;> simp [Instr.checkKey, run_underlying hd]

theorem run_findKey {s : Bool} {kt : TypeId} {d : TypeDesc} (hd : P.underlying kt = some d) {u : Value} {es : List MapEntry} {r : Option (Nat × Value)} (h : Instr.findNow d u es 0 = some r) : (Instr.findKey kt u es).run P w = .ok r w := by
  simp [Instr.findKey, run_underlying hd, h]

theorem getObj_map {r : Nat} {es : Array MapEntry} {clock : Nat} (hb : w.heap[r]? = some (.map es clock)) : (getObj r).run P w = .ok (.map es clock) w := by
  simp [getObj, Sem.run, hb]
theorem setObj_map {r : Nat} {es : Array MapEntry} {clock : Nat} (ob : Obj) (hb : w.heap[r]? = some (.map es clock)) : (setObj r ob).run P w = .ok () { w with heap := w.heap.setIfInBounds r ob } := by
  simp [setObj, Sem.run, hb]

theorem zero1_run {t : TypeId} {z : AV} (h : zero1 P t z = true) : ∃ z2 : Value, (zeroValue t).run P w = .ok z2 w ∧ constCell z z2 = true := by
  unfold zero1 at h
  split at h
  · rename_i i hi
    split at h
    · rename_i z2 hz
      exact ⟨z2, by simp [zeroValue, typeInfo, hi, hz], h⟩
    · cases h
  · cases h

theorem run_lookup {s ok : Bool} {t : TypeId} {z : AV} (hL : lkT P s t z = true) {b clock : Nat} {es : Array MapEntry} {xs : List AV} {q : AV} {u : Value} {r : Option AV} (hb : w.heap[b]? = some (.map es clock)) (hl : xs.length = es.size)
    (hr : ∀ (i : Nat) (c : AV), xs[i]? = some c → ∃ (e : MapEntry) (k v : AV), es[i]? = some e ∧ c = .agg [k, v] ∧ RepV num β w m k e.key ∧ RepV num β w m v e.val) (hq : RepV num β w m q u) (hf : findM s xs q = some r) :
    ∃ x, (Instr.lookup t (.map (some b)) u ok).run P w = .ok (if ok then .tuple #[x, .bool r.isSome] else x) w ∧ RepV num β w m (r.getD z) x := by
  unfold lkT at hL
  split at hL
  · rename_i kt et hm
    simp only [Bool.and_eq_true] at hL
    obtain ⟨d, hd, hK⟩ := keyT_of hL.1
    obtain ⟨z2, hz, hcz⟩ := zero1_run (w := w) hL.2
    have hce := fun b => run_checkKey (w := w) hL.1 b 9999 u
    rcases find_now hK hq xs es.toList 0 r (by simpa using hl) (fun i c hc => by
      obtain ⟨e, k, v, h1, h2, h3, h4⟩ := hr i c hc
      exact ⟨e, by simpa using h1, k, v, h2, h3, h4⟩) hf with ⟨rfl, hn⟩ | ⟨v, j, x, rfl, hn, hv⟩
    · have hfk := run_findKey (s := s) (P := P) (w := w) hd hn
      refine ⟨z2, ?_, (constCell_rep (ν := fun _ => none) hcz).1⟩
      cases ok <;> simp [Instr.lookup, run_underlying hm, getObj_map hb, hce, hfk, hz]
    · have hfk := run_findKey (s := s) (P := P) (w := w) hd hn
      refine ⟨x, ?_, hv⟩
      cases ok <;> simp [Instr.lookup, run_underlying hm, getObj_map hb, hce, hfk]
  · cases hL

/-- The entries behind an update. -/
theorem run_mapUpdate {s : Bool} {t : TypeId} (hL : mapT P s t = true) {b clock : Nat} {es : Array MapEntry} {xs ys : List AV} {q v : AV} {u x : Value} (hb : w.heap[b]? = some (.map es clock)) (hl : xs.length = es.size)
    (hr : ∀ (i : Nat) (c : AV), xs[i]? = some c → ∃ (e : MapEntry) (k v : AV), es[i]? = some e ∧ c = .agg [k, v] ∧ RepV num β w m k e.key ∧ RepV num β w m v e.val) (hq : RepV num β w m q u) (hx : RepV num β w m v x) (hf : updM s xs q v = some ys) :
    keyB s q = true ∧ ∃ es2 clock2, (Instr.mapUpdate t (.map (some b)) u x).run P w = .ok () { w with heap := w.heap.setIfInBounds b (.map es2 clock2) } ∧ ys.length = es2.size ∧
      (∀ (i : Nat) (c : AV), ys[i]? = some c → (∃ (e : MapEntry) (k v : AV), es2[i]? = some e ∧ c = .agg [k, v] ∧ RepV num β w m k e.key ∧ RepV num β w m v e.val) ∧ (c ∈ xs ∨ c = .agg [q, v])) := by
  unfold mapT at hL
  split at hL
  · rename_i kt et hm
    obtain ⟨d, hd, hK⟩ := keyT_of hL
    have hce := fun b => run_checkKey (w := w) hL b 9999 u
    obtain ⟨hkb, h⟩ := upd_now hK (v := v) hq xs es.toList 0 ys (by simpa using hl) (fun i c hc => by
      obtain ⟨e, k, v, h1, h2, h3, h4⟩ := hr i c hc
      exact ⟨e, by simpa using h1, k, v, h2, h3, h4⟩) hf
    refine ⟨hkb, ?_⟩
    rcases h with ⟨hn, rfl⟩ | ⟨j, y, e, hn, he, hek, rfl⟩
    · have hfk := run_findKey (s := s) (P := P) (w := w) hd hn
      refine ⟨es.push { key := u, val := x, born := clock }, clock + 1, ?_, by simp [hl], fun i c hc => ?_⟩
      · simp [Instr.mapUpdate, run_underlying hm, getObj_map hb, hce, hfk, setObj_map _ hb]
      · rw [List.getElem?_append] at hc
        split at hc
        · rename_i hi
          obtain ⟨e, k, v, h1, h2, h3, h4⟩ := hr i c hc
          refine ⟨⟨e, k, v, ?_, h2, h3, h4⟩, .inl (List.mem_of_getElem? hc)⟩
          rw [Array.getElem?_push, if_neg (by omega)]
          exact h1
        · rename_i hi
          have h0 : i - xs.length = 0 := by
            rcases Nat.eq_zero_or_pos (i - xs.length) with h | h
            · exact h
            · rw [List.getElem?_eq_none (by simp; omega)] at hc; cases hc
          rw [h0] at hc
          simp only [List.getElem?_cons_zero, Option.some.injEq] at hc
          refine ⟨⟨{ key := u, val := x, born := clock }, q, v, ?_, hc.symm, hq, hx⟩, .inr hc.symm⟩
          rw [Array.getElem?_push, if_pos (by omega)]
    · rw [Nat.zero_add] at hn
      have hfk := run_findKey (s := s) (P := P) (w := w) hd hn
      have he2 : es[j]? = some e := by simpa using he
      have hjl : j < es.size := (Array.getElem?_eq_some_iff.1 he2).1
      have hsb := sameBits_self hkb hq 10000
      refine ⟨es.modify j fun e => { e with key := u, val := x }, clock, ?_, by simp [hl], fun i c hc => ?_⟩
      · simp [Instr.mapUpdate, run_underlying hm, getObj_map hb, hce, hfk, he2, hek, Instr.keyThatStays, hsb, setObj_map _ hb]
      · rw [List.getElem?_set] at hc
        split at hc
        · rename_i hji
          subst hji
          split at hc
          · injection hc with hc
            refine ⟨⟨{ e with key := u, val := x }, q, v, ?_, hc.symm, hq, hx⟩, .inr hc.symm⟩
            simp [Array.getElem?_modify, he2]
          · cases hc
        · rename_i hji
          obtain ⟨e3, k, v3, h1, h2, h3, h4⟩ := hr i c hc
          refine ⟨⟨e3, k, v3, ?_, h2, h3, h4⟩, .inl (List.mem_of_getElem? hc)⟩
          rw [Array.getElem?_modify, if_neg hji]
          exact h1
  · cases hL

theorem Step.setMap {b : Nat} {es : Array MapEntry} {clock : Nat} (ob : Obj) (hb : w.heap[b]? = some (.map es clock)) (hm : m b = 0) : Step (· = b) w m { w with heap := w.heap.setIfInBounds b ob } m := by
  refine ⟨rfl, rfl, rfl, by simp, fun x _ hx => ⟨by simp [Array.getElem?_setIfInBounds_ne (fun e => hx e.symm)], rfl⟩, fun x i u h => ?_⟩
  obtain ⟨h1, h2, h3⟩ := hg_some h
  have hx : ¬ b = x := fun e => by subst e; omega
  unfold hg
  rw [if_pos h1]
  unfold World.cell? at h2 ⊢
  simp only [Array.getElem?_setIfInBounds_ne hx] at h2 ⊢
  exact h2

/-- The entries of a map of the machine's are written. -/
theorem Inv.setM (hI : Inv num N w0 m0 T β0 σ a w m β ν) (s : Nat) {cs : List AV} {k : Blk} (hs : σ.bs[s]? = some cs) (hbm : β[s]? = some k ∧ k.mp = true) (hne : cs ≠ []) :
    ∃ (es : Array MapEntry) (clock : Nat) (xs : List AV), w.heap[k.b]? = some (.map es clock) ∧ cs = .undef :: xs ∧ xs.length = es.size ∧
      (∀ (i : Nat) (c : AV), xs[i]? = some c → ∃ (e : MapEntry) (k v : AV), es[i]? = some e ∧ c = .agg [k, v] ∧ RepV num β w m k e.key ∧ RepV num β w m v e.val) ∧
      ∀ (ys : List AV) (es2 : Array MapEntry) (clock2 : Nat), ys.length = es2.size → gpfreeL ys = true →
        (∀ (i : Nat) (c : AV), ys[i]? = some c → ∃ (e : MapEntry) (k v : AV), es2[i]? = some e ∧ c = .agg [k, v] ∧ RepV num β w m k e.key ∧ RepV num β w m v e.val) →
        Inv num N w0 m0 T β0 { σ with bs := σ.bs.set s (.undef :: ys) } a { w with heap := w.heap.setIfInBounds k.b (.map es2 clock2) } m β ν := by
  obtain ⟨es, clock, xs, h1, h2, h3, h4, h5, h6⟩ := (hI.boxes s cs k hs hbm.1 hne).2 hbm.2
  refine ⟨es, clock, xs, h1, h4, h5, h6, fun ys es2 clock2 hl hgp hys => ?_⟩
  have hlt : s < σ.bs.length := by
    rcases Nat.lt_or_ge s σ.bs.length with h | h
    · exact h
    · rw [List.getElem?_eq_none h] at hs; cases hs
  have hbl : k.b < w.heap.size := (Array.getElem?_eq_some_iff.1 h1).1
  have hS := Step.setMap (.map es2 clock2) h1 h2
  refine hI.next hS (fun x hx hxb => by subst hxb; exact (hI.lt _ _ h3).2) (Ge.refl β) (fun _ => False) (fun t => t = s)
    (fun x t h _ => ⟨fun e => ?_, h⟩) (fun x t i h _ => ⟨fun e => ?_, h⟩) (fun x t h hn => ⟨fun e => ?_, h⟩) (fun x t i h hn => ⟨fun e => ?_, h⟩)
    (fun x p h => by simpa using hI.lt x p h) (fun t hn => .inl rfl) hI.out
    (fun t v hE hv => hE.elim) (by simpa using hI.blen) (fun i hn => by simp [List.getElem?_set_ne (fun e => hn e.symm)]) (fun i cs2 b2 hE h7 h8 => ?_)
  · subst e; rw [h3] at h; injection h with h; cases h
  · subst e; rw [h3] at h; injection h with h; cases h
  · subst e; rw [h3] at h; injection h with h; injection h with h; exact hn h.symm
  · subst e; rw [h3] at h; injection h with h; cases h
  · subst hE
    rw [hbm.1] at h8
    injection h8 with h8
    subst h8
    simp only [List.getElem?_set_self hlt] at h7
    injection h7 with h7
    subst h7
    refine ⟨fun _ => ⟨fun (q : k.mp = false) => (by rw [hbm.2] at q; cases q), fun _ => ⟨es2, clock2, ys, by simp [hbl], h2, h3, rfl, hl, fun j c hc => ?_⟩⟩, by simpa [gpfreeL, AV.gpfree] using hgp⟩
    obtain ⟨e, x, v, g1, g2, g3, g4⟩ := hys j c hc
    exact ⟨e, x, v, g1, g2, RepV_mono (Ge.refl β) hS.le x _ g3, RepV_mono (Ge.refl β) hS.le v _ g4⟩

theorem ex_mkm {t : TypeId} (hI : Inv num N w0 m0 T β0 σ a w m β ν) (ho : o.op = .makeMap t none)
    (he : exec K .mkm σ = some (v, σ1)) (h : Aft num N w0 m0 T β0 σ1 a v fun u w' => next (a.put o.dst u) w') : o.wp P a w next Q := by
  simp only [exec] at he
  injection he with he
  injection he with h1 h2
  subst h1 h2
  have hF := hI.freshO (.map #[] 0) 0 .f
  have hB := hF.toBoxK (k := ⟨w.heap.size, 0, true⟩) (cs := [.undef]) (by simp [own1]) (by simp [gpfreeL, AV.gpfree])
    ⟨fun (q : true = false) => (by cases q), fun _ => ⟨#[], 0, [], heap_alloc_new w _, by simp [m1], by simp [own1], rfl, rfl, fun i c hc => by simp at hc⟩⟩
  refine wp_value (u := .map (some w.heap.size)) (w' := w.alloc (.map #[] 0)) (by simp [execOp, ho, show (Instr.makeMap t none).run P w = .ok (.map (some w.heap.size)) (w.alloc (.map #[] 0)) from rfl]) (h _ _ _ _ _ hB ((SlotV_ok rfl).2 ⟨?_, trivial⟩))
  simp only [RepV]
  exact ⟨⟨w.heap.size, 0, true⟩, ⟨by rw [← hI.blen]; simp, rfl⟩, rfl⟩

theorem ex_lkm {s ok : Bool} {x i : AO} {z : AV} {t : TypeId} {x2 i2 : Operand} (hI : Inv num N w0 m0 T β0 σ a w m β ν) (ho : o.op = .lookup t x2 i2 ok) (hL : lkT P s t z = true) (hx : okO num x x2 = true) (hi : okO num i i2 = true)
    (he : exec K (.lkm s ok x i z) σ = some (v, σ1)) (h : Aft num N w0 m0 T β0 σ1 a v fun u w' => next (a.put o.dst u) w') : o.wp P a w next Q := by
  simp only [exec] at he
  split at he
  · rename_i id hid
    cases hbs : σ.bs[id]? with
    | none => rw [hbs] at he; cases he
    | some cs =>
      rw [hbs] at he
      simp only [Option.bind_some] at he
      split at he
      · cases he
      · rename_i hne
        cases hf : findM s (cs.drop 1) (val σ.env i) with
        | none => rw [hf] at he; cases he
        | some r =>
          rw [hf] at he
          simp only [Option.bind_some] at he
          split at he
          case isFalse => cases he
          rename_i hyk
          injection he with he
          injection he with h1 h2
          subst h1 h2
          have hk : (val σ.env i).ok = true := by
            have : keyB s (val σ.env i) = true := by
              generalize val σ.env i = q at hf
              generalize cs.drop 1 = xs at hf
              cases xs with
              | nil =>
                simp only [findM] at hf
                split at hf
                · assumption
                · cases hf
              | cons c xs =>
                unfold findM at hf
                split at hf
                · rename_i hh; cases hh
                · split at hf
                  · rename_i hke; exact keyEq_keyB hke
                  · rename_i hke; exact keyEq_keyB hke
                  · cases hf
                · cases hf
            rcases keyB_of this with ⟨_, k, n, e⟩ | ⟨_, y, e⟩ <;> rw [e] <;> rfl
          have hix := (hI.val hi hk).1
          have hmx := (hI.val hx (by rw [hid]; rfl)).1
          rw [hid] at hmx
          simp only [RepV] at hmx
          obtain ⟨kb, hkb, hmv⟩ := hmx
          obtain ⟨es, clock, xs, g1, g2, g3, g4, _⟩ := hI.setM id hbs hkb hne
          rw [g2] at hf
          simp only [List.drop_succ_cons, List.drop_zero] at hf
          obtain ⟨y, k1, k2⟩ := run_lookup (ok := ok) hL g1 g3 g4 hix hf
          refine wp_value (u := if ok then .tuple #[y, .bool r.isSome] else y) (w' := w) (by simp [execOp, ho, hmv, k1]) ?_
          cases ok
          · simp only [Bool.false_eq_true, if_false]
            exact h _ w m β ν hI ((SlotV_ok hyk).2 ⟨by rw [RepV_strip]; exact k2, OwnV_strip _ _ _⟩)
          · simp only [if_true]
            refine h _ w m β ν hI ((SlotV_ok rfl).2 ⟨?_, trivial⟩)
            simp only
            refine ⟨_, rfl, rfl, ?_⟩
            simp only [RepT]
            exact ⟨⟨y, rfl, by rw [RepV_strip]; exact k2⟩, ⟨.bool r.isSome, by simp, by simp only [RepV]⟩, trivial⟩
  · cases he

theorem ex_upm {s : Bool} {x k y : AO} {t : TypeId} {x2 k2 y2 : Operand} (hI : Inv num N w0 m0 T β0 σ a w m β ν) (ho : o.op = .mapUpdate t x2 k2 y2) (hL : mapT P s t = true) (hx : okO num x x2 = true) (hk : okO num k k2 = true) (hy : okO num y y2 = true)
    (he : exec K (.upm s x k y) σ = some (v, σ1)) (h : ∀ w' m' β' ν', Inv num N w0 m0 T β0 σ1 a w' m' β' ν' → v = .undef → next (a.put o.dst undef) w') : o.wp P a w next Q := by
  simp only [exec] at he
  split at he
  · rename_i id hid
    cases hbs : σ.bs[id]? with
    | none => rw [hbs] at he; cases he
    | some cs =>
      rw [hbs] at he
      simp only [Option.bind_some] at he
      split at he
      · cases he
      · rename_i hne
        simp only [not_or, Bool.not_eq_false] at hne
        obtain ⟨hne, hone, hfree⟩ := hne
        cases hf : updM s (cs.drop 1) (val σ.env k) (val σ.env y).strip with
        | none => rw [hf] at he; cases he
        | some ys =>
          rw [hf] at he
          injection he with he
          injection he with h1 h2
          subst h1 h2
          have hkk : keyB s (val σ.env k) = true := by
            generalize val σ.env k = q at hf
            generalize (val σ.env y).strip = vv at hf
            generalize cs.drop 1 = xs at hf
            cases xs with
            | nil =>
              simp only [updM] at hf
              split at hf
              · assumption
              · cases hf
            | cons c xs =>
              unfold updM at hf
              split at hf
              · rename_i hh; cases hh
              · split at hf
                · rename_i hke; exact keyEq_keyB hke
                · rename_i hke; exact keyEq_keyB hke
                · cases hf
              · cases hf
          have hko : (val σ.env k).ok = true := by rcases keyB_of hkk with ⟨_, k, n, e⟩ | ⟨_, y, e⟩ <;> rw [e] <;> rfl
          have hkr := (hI.val hk hko).1
          have hyr := (hI.val hy (one_ok hone)).1
          have hmx := (hI.val hx (by rw [hid]; rfl)).1
          rw [hid] at hmx
          simp only [RepV] at hmx
          obtain ⟨kb, hkb, hmv⟩ := hmx
          obtain ⟨es, clock, xs, g1, g2, g3, g4, hfin⟩ := hI.setM id hbs hkb hne
          have hgp0 := hI.gpf id cs hbs
          rw [g2] at hf hgp0
          simp only [List.drop_succ_cons, List.drop_zero] at hf
          obtain ⟨_, es2, clock2, r1, r2, r3⟩ := run_mapUpdate (x := a.eval y2) hL g1 g3 g4 hkr (by rw [RepV_strip]; exact hyr) hf
          refine wp_skipv (w' := { w with heap := w.heap.setIfInBounds kb.b (.map es2 clock2) }) (by simp [execOp, ho, hmv, r1]) (h _ m β ν (hfin ys es2 clock2 r2 ?_ (fun i c hc => (r3 i c hc).1)) rfl)
          rw [gpfreeL_get] at hgp0 ⊢
          intro i c hc
          rcases (r3 i c hc).2 with q | rfl
          · obtain ⟨j, hj⟩ := List.getElem?_of_mem q
            exact hgp0 (j + 1) c (by simpa using hj)
          · simp only [AV.gpfree, gpfreeL, Bool.and_true, Bool.and_eq_true, gpfree_strip]
            refine ⟨?_, hfree⟩
            rcases keyB_of hkk with ⟨_, k, n, e⟩ | ⟨_, y, e⟩ <;> rw [e] <;> rfl
  · cases he
end
end Go.Am

namespace Go.Am

def Pl.isG : Pl → Bool
  | .g _ => true
  | .gc _ _ => true
  | _ => false

def Boxes (num : Nat → Option Nat) (β : List Blk) (w : World) (m : Nat → Nat) (ν : Own) (bs : List (List AV)) : Prop :=
  β.length = bs.length ∧ (∀ (i : Nat) (cs : List AV) (k : Blk), bs[i]? = some cs → β[i]? = some k → cs ≠ [] → BoxK num β w m ν i k cs) ∧
    ∀ (i : Nat) (cs : List AV), bs[i]? = some cs → gpfreeL cs = true

/-- What a call leaves. -/
def CallPost (num : Nat → Option Nat) (β : List Blk) (bs' : List (List AV)) (r : AV) (w : World) (m : Nat → Nat) (ν : Own) (e : Ending) (w' : World) : Prop :=
  ∃ v m' β' ν', e = .returned v ∧ Ge β β' ∧ Step (fun b => ∃ p, ν b = some p) w m w' m' ∧ Boxes num β' w' m' ν' bs' ∧ r.ok = true ∧ RepV num β' w' m' r v ∧ OwnV w' m' ν' .f r v ∧
    ∀ b p, ν' b = some p → b < w'.heap.size ∧ (w.heap.size ≤ b ∨ ∃ q, ν b = some q) ∧ (p.isG = true ∨ p = .f)

/-- What is known of the world's first blocks, for oracles. -/
structure Glob where
  G : World → Prop
  Gb : Nat
  step : ∀ (X : Nat → Prop) (w : World) (m : Nat → Nat) (w' : World) (m' : Nat → Nat), Step X w m w' m' → (∀ b, X b → Gb ≤ b) → Gb ≤ w.heap.size → G w → G w'

def KOk (P : Program) (num : Nat → Option Nat) (Γ : Glob) (K : CallF) : Prop :=
  ∀ (f g : Nat) (args : List AV) (bs : List (List AV)) (r : AV) (bs' : List (List AV)), num f = some g → K f args bs = some (r, bs') → okVals args = true →
    ∀ (w : World) (m : Nat → Nat) (β : List Blk) (ν : Own) (vs : Array Value), Γ.G w → Γ.Gb ≤ w.heap.size → vs.size = args.length →
      (∀ (i : Nat) (c : AV), args[i]? = some c → ∃ u, vs[i]? = some u ∧ RepV num β w m c u) → Boxes num β w m ν bs →
      (∀ b p, ν b = some p → b < w.heap.size ∧ Γ.Gb ≤ b ∧ p.isG = true) →
      Calls P g vs w (CallPost num β bs' r w m ν)

def Enters (P : Program) (num : Nat → Option Nat) : Prop := ∀ (f g : Nat), num f = some g → ∃ fn, P.funcs[g]? = some fn ∧ (fn.name == "runtime.NumGoroutine") = false ∧ fn.body.isNone = false

section
variable {P : Program} {num : Nat → Option Nat} {β : List Blk} {w w' : World} {m : Nat → Nat} {ν : Own} {N : Nat} {w0 : World} {m0 : Nat → Nat} {T : Nat → Prop} {β0 : List Blk} {σ σ1 : St} {a : Act}
  {o : Oper} {next : Act → World → Prop} {Q : Exit → Act → World → Prop} {K : CallF} {v : AV} {Γ : Glob}

def gOnly (ν : Own) : Own := fun b => match ν b with
  | some p => if p.isG then some p else none
  | none => none

theorem gOnly_some {ν : Own} {b : Nat} {p : Pl} (h : gOnly ν b = some p) : ν b = some p ∧ p.isG = true := by
  unfold gOnly at h
  split at h
  · split at h
    · rename_i q hq hg
      injection h with h
      subst h
      exact ⟨hq, hg⟩
    · cases h
  · cases h

theorem gOnly_g {ν : Own} {b : Nat} {p : Pl} (h : ν b = some p) (hg : p.isG = true) : gOnly ν b = some p := by
  unfold gOnly; rw [h]; simp [hg]

/-- Behind a call: what the frame's own slots own stays theirs. -/
def joinOwn (ν ν' : Own) : Own := fun b => match ν b with
  | some p => if p.isG then ν' b else some p
  | none => ν' b

theorem BoxK_own {i : Nat} {kb : Blk} {cs : List AV} {m' : Nat → Nat} {ν1 ν2 : Own} (h : BoxK num β w' m' ν1 i kb cs) (k : ∀ b p, ν1 b = some p → ν2 b = some p) : BoxK num β w' m' ν2 i kb cs :=
  BoxK_keep (Ge.refl β) (Le.refl w' m') (fun x hx => ⟨rfl, rfl, k x _ hx⟩) (fun _ x hx => ⟨rfl, rfl, k x _ hx⟩) h

theorem Inv.call (hI : Inv num N w0 m0 T β0 σ a w m β ν) {bs' : List (List AV)} {r : AV} {e : Ending} (h : CallPost num β bs' r w m (gOnly ν) e w') :
    ∃ v m' β' ν', e = .returned v ∧ Inv num N w0 m0 T β0 { σ with bs := bs' } a w' m' β' ν' ∧ SlotV num β' w' m' ν' .f (fun i => .fc i) r v := by
  obtain ⟨v, m', β', ν1, he, hge, hS, ⟨hb1, hb2, hb3⟩, hok, hr, hown, hlt⟩ := h
  have hk : ∀ b p, ν1 b = some p → joinOwn ν ν1 b = some p := fun b p hp => by
    unfold joinOwn
    cases hν : ν b with
    | none => exact hp
    | some q =>
      by_cases hg : q.isG = true
      · simp only [hg, if_true]; exact hp
      · exfalso
        have h1 := (hI.lt b q hν).1
        rcases (hlt b p hp).2.1 with h2 | ⟨q2, h2⟩
        · omega
        · obtain ⟨h3, h4⟩ := gOnly_some h2
          rw [hν] at h3
          injection h3 with h3
          subst h3
          exact hg h4
  refine ⟨v, m', β', joinOwn ν ν1, he, ?_, (SlotV_ok hok).2 ⟨hr, ?_⟩⟩
  · refine hI.next hS (fun b hb hx => ?_) hge (fun _ => False) (fun _ => True)
      (fun b t hb _ => ⟨fun ⟨p, hp⟩ => ?_, ?_⟩) (fun b t i hb _ => ⟨fun ⟨p, hp⟩ => ?_, ?_⟩) (fun _ _ _ h => absurd trivial h) (fun _ _ _ _ h => absurd trivial h)
      (fun b p hp => ?_) (fun _ _ => .inl rfl) hI.out (fun _ _ h => h.elim) hb1 (fun _ h => absurd trivial h) (fun i cs b _ h1 h2 => ⟨fun hne => BoxK_own (hb2 i cs b h1 h2 hne) hk, hb3 i cs h1⟩)
    · obtain ⟨p, hp⟩ := hx
      exact (hI.lt b p (gOnly_some hp).1).2
    · have := gOnly_some hp
      rw [hb] at this
      obtain ⟨h1, h2⟩ := this
      injection h1 with h1
      subst h1
      cases h2
    · unfold joinOwn; rw [hb]; rfl
    · have := gOnly_some hp
      rw [hb] at this
      obtain ⟨h1, h2⟩ := this
      injection h1 with h1
      subst h1
      cases h2
    · unfold joinOwn; rw [hb]; rfl
    · have hold : ∀ q, ν b = some q → b < w'.heap.size ∧ (w0.heap.size ≤ b ∨ T b) := fun q hq => by
        have h1 := hI.lt b q hq
        have h2 := hS.size
        exact ⟨by omega, h1.2⟩
      unfold joinOwn at hp
      split at hp
      · rename_i q hq
        exact hold q hq
      · rename_i hq
        have h1 := hlt b p hp
        refine ⟨h1.1, .inl ?_⟩
        rcases h1.2.1 with h2 | ⟨q2, h2⟩
        · have h3 := hI.step.size
          omega
        · rw [(gOnly_some h2).1] at hq; cases hq
  · exact OwnV_keep (θ := id) (fun x hx => ⟨rfl, rfl, hk x _ hx⟩) hown

theorem Inv.glob (hI : Inv num N w0 m0 T β0 σ a w m β ν) (hG : Γ.G w0) (hGb : Γ.Gb ≤ w0.heap.size) (hT : ∀ b, T b → Γ.Gb ≤ b) : Γ.G w ∧ Γ.Gb ≤ w.heap.size ∧ ∀ b p, gOnly ν b = some p → b < w.heap.size ∧ Γ.Gb ≤ b ∧ p.isG = true := by
  refine ⟨Γ.step T w0 m0 w m hI.step hT hGb hG, Nat.le_trans hGb hI.step.size, fun b p hp => ?_⟩
  obtain ⟨h1, h2⟩ := gOnly_some hp
  have h3 := hI.lt b p h1
  refine ⟨h3.1, ?_, h2⟩
  rcases h3.2 with h4 | h4
  · omega
  · exact hT b h4

theorem Inv.boxesOf (hI : Inv num N w0 m0 T β0 σ a w m β ν) : Boxes num β w m (gOnly ν) σ.bs :=
  ⟨hI.blen, fun i cs b h1 h2 hne => BoxK_keep (Ge.refl β) (Le.refl w m) (fun _ hx => ⟨rfl, rfl, gOnly_g hx rfl⟩) (fun _ _ hx => ⟨rfl, rfl, gOnly_g hx rfl⟩) (hI.boxes i cs b h1 h2 hne), hI.gpf⟩

theorem enter_run {g : Nat} {vs : Array Value} {fn : Func} (hf : P.funcs[g]? = some fn) (hn : (fn.name == "runtime.NumGoroutine") = false) (hb : fn.body.isNone = false) :
    (callFunc g vs).run P w = .ok (.enter g vs) w := by
  simp only [callFunc, Sem.run_bind, run_program, Result.andThen_ok, hf, hn, hb, Bool.false_eq_true, if_false, Sem.run_pure]

theorem wp_call {g : Nat} {vs : Array Value} {bs' : List (List AV)} {r : AV} (hI : Inv num N w0 m0 T β0 σ a w m β ν) (hE : Enters P num) {f : Nat} (hf : num f = some g) (hrun : (execOp a.eval o).run P w = (callFunc g vs).run P w)
    (hc : Calls P g vs w (CallPost num β bs' r w m (gOnly ν))) (h : Aft num N w0 m0 T β0 { σ with bs := bs' } a r fun u w' => next (a.put o.dst u) w') : o.wp P a w next Q := by
  obtain ⟨fn, h1, h2, h3⟩ := hE f g hf
  unfold Oper.wp
  rw [hrun, enter_run h1 h2 h3]
  simp only [Oper.upon]
  refine hc.mono fun e w' he => ?_
  obtain ⟨v, m', β', ν', rfl, hI', hs⟩ := hI.call he
  exact h v w' m' β' ν' hI' hs

theorem okOs_len {xs : List AO} {ys : List Operand} (h : okOs num xs ys = true) : xs.length = ys.length := by
  induction xs generalizing ys with
  | nil => cases ys <;> simp [okOs] at h ⊢
  | cons x xs ih => cases ys with
    | nil => simp [okOs] at h
    | cons y ys => simp only [okOs, Bool.and_eq_true] at h; simp [ih h.2]

theorem ex_call {f g : Nat} {args : List AO} {ys : List Operand} {ts : Array TypeId} (hI : Inv num N w0 m0 T β0 σ a w m β ν) (hE : Enters P num) (hK : KOk P num Γ K) (hG : Γ.G w0) (hGb : Γ.Gb ≤ w0.heap.size) (hT : ∀ b, T b → Γ.Gb ≤ b)
    (ho : o.op = .call { callee := .value (.func g), args := ys.toArray, argTypes := ts }) (hf : num f = some g) (hx : okOs num args ys = true)
    (he : exec K (.call f args) σ = some (v, σ1)) (h : Aft num N w0 m0 T β0 σ1 a v fun u w' => next (a.put o.dst u) w') : o.wp P a w next Q := by
  simp only [exec] at he
  split at he
  · rename_i hok
    cases hk : K f (args.map (val σ.env)) σ.bs with
    | none => rw [hk] at he; cases he
    | some rb =>
      obtain ⟨r, bs'⟩ := rb
      rw [hk] at he
      injection he with he
      injection he with h1 h2
      subst h1 h2
      obtain ⟨hl, hv⟩ := hI.vals hx hok
      obtain ⟨g1, g2, g3⟩ := hI.glob hG hGb hT
      refine wp_call hI hE hf (vs := ys.toArray.map a.eval) ?_ (hK f g _ _ _ _ hf hk hok w m β (gOnly ν) (ys.toArray.map a.eval) g1 g2 (by simp [hl]) (fun i c hc => ?_) hI.boxesOf g3) h
      · simp [execOp, ho, resolve, Deferred.ofValue, invoke, Act.eval]
      · obtain ⟨y, k1, k2, k3⟩ := hv i c hc
        exact ⟨a.eval y, by simp [k1], k3⟩
  · cases he

theorem okVals_append {xs ys : List AV} (h : okVals (xs ++ ys) = true) : okVals xs = true ∧ okVals ys = true := by
  unfold okVals at h ⊢
  rw [List.all_append, Bool.and_eq_true] at h
  exact h

theorem ex_callv {x : AO} {x' : Operand} {args : List AO} {ys : List Operand} {ts : Array TypeId} (hI : Inv num N w0 m0 T β0 σ a w m β ν) (hE : Enters P num) (hK : KOk P num Γ K) (hG : Γ.G w0) (hGb : Γ.Gb ≤ w0.heap.size) (hT : ∀ b, T b → Γ.Gb ≤ b)
    (ho : o.op = .call { callee := .value x', args := ys.toArray, argTypes := ts }) (hxx : okO num x x' = true) (hx : okOs num args ys = true)
    (he : exec K (.callv x args) σ = some (v, σ1)) (h : Aft num N w0 m0 T β0 σ1 a v fun u w' => next (a.put o.dst u) w') : o.wp P a w next Q := by
  simp only [exec] at he
  split at he
  · rename_i f caps hfv
    split at he
    · rename_i hok
      cases hk : K f (args.map (val σ.env) ++ caps) σ.bs with
      | none => rw [hk] at he; cases he
      | some rb =>
        obtain ⟨r, bs'⟩ := rb
        rw [hk] at he
        injection he with he
        injection he with h1 h2
        subst h1 h2
        have hr := (hI.val hxx (by rw [hfv]; rfl)).1
        rw [hfv] at hr
        simp only [RepV] at hr
        obtain ⟨g, us, hf, hr1, hr2, hr3⟩ := hr
        rw [RepC_get] at hr3
        obtain ⟨hl, hv⟩ := hI.vals hx (okVals_append hok).1
        obtain ⟨g1, g2, g3⟩ := hI.glob hG hGb hT
        refine wp_call hI hE hf (vs := ys.toArray.map a.eval ++ us) ?_ (hK f g _ _ _ _ hf hk hok w m β (gOnly ν) (ys.toArray.map a.eval ++ us) g1 g2 (by simp [hl, hr2]) (fun i c hc => ?_) hI.boxesOf g3) h
        · simp [execOp, ho, resolve, Deferred.ofValue, invoke, hr1]
        · by_cases hi : i < (args.map (val σ.env)).length
          · rw [List.getElem?_append_left hi] at hc
            obtain ⟨y, k1, k2, k3⟩ := hv i c hc
            have hi2 : i < ys.length := by rw [← okOs_len hx]; simpa using hi
            exact ⟨a.eval y, by rw [Array.getElem?_append_left (by simpa using hi2)]; simp [k1], k3⟩
          · rw [List.getElem?_append_right (by omega)] at hc
            obtain ⟨u, k1, k2, k3⟩ := hr3 _ c hc
            refine ⟨u, ?_, k3⟩
            have hle : (args.map (val σ.env)).length = ys.length := by rw [List.length_map, okOs_len hx]
            rw [hle] at k1 hi
            rw [Array.getElem?_append_right (by simpa using hi)]
            simpa using k1
    · cases he
  · cases he
end
end Go.Am

namespace Go.Am

def dirOr (pt : Nat → Nat → Nat → Bool) (q s off : Nat) : Bool := pt q s off || (decide (q = s) && decide (off = 0))

def okCall1 (num : Nat → Option Nat) (b : Builtin) (x : AO) (c : Call) (ty : TypeId → Bool) : Bool :=
  match c with
  | ⟨.builtin b', ⟨[y]⟩, ⟨[t]⟩⟩ => decide (b = b') && ty t && okO num x y
  | _ => false

def okOp (P : Program) (num : Nat → Option Nat) (pt : Nat → Nat → Nat → Bool) (x : AOp) (o : Op) : Bool :=
  match x with
  | .mov x => (match o with | .move y => okO num x y | .assign y => okO num x y | _ => false)
  | .mvs n => (match o with | .move (.tmp t) => decide (n = t) | .assign (.tmp t) => decide (n = t) | _ => false)
  | .box x => (match o with | .box _ y => okO num x y | _ => false)
  | .alloc zs => (match o with | .alloc t => zeroIs P t zs | _ => false)
  | .gbox x => (match o with | .box _ y => okO num x y | _ => false)
  | .galloc zs => (match o with | .alloc t => zeroIs P t zs | _ => false)
  | .fad s off => (match o with
    | .fieldAddr ty (.tmp q) f => (decide (q = s) && fieldIs P ty f off) || (List.range (off + 1)).any fun o2 => pt q s o2 && fieldIs P ty f (off - o2)
    | _ => false)
  | .fadr p off => (match o with | .fieldAddr ty (.tmp q) f => decide (p = q) && fieldIs P ty f off | _ => false)
  | .ldf s off sz ag => (match o with | .load t (.tmp q) => sizeIs P t sz && aggIs P t ag && dirOr pt q s off | _ => false)
  | .ldfm s off => (match o with | .load t (.tmp q) => aggIs P t false && dirOr pt q s off | _ => false)
  | .ld p sz ag => (match o with | .load t (.tmp q) => decide (p = q) && sizeIs P t sz && aggIs P t ag | _ => false)
  | .ldg p sz ag => (match o with | .load t (.tmp q) => decide (p = q) && sizeIs P t sz && aggIs P t ag | _ => false)
  | .ldm p => (match o with | .load t (.tmp q) => decide (p = q) && aggIs P t false | _ => false)
  | .stf s off sz x => (match o with | .store t (.tmp q) y => sizeIs P t sz && okO num x y && dirOr pt q s off | _ => false)
  | .stfm s off n => (match o with | .store t (.tmp q) (.tmp n2) => decide (n = n2) && sizeIs P t 1 && dirOr pt q s off | _ => false)
  | .st p sz x => (match o with | .store t (.tmp q) y => decide (p = q) && sizeIs P t sz && okO num x y | _ => false)
  | .stm p n => (match o with | .store t (.tmp q) (.tmp n2) => decide (p = q) && decide (n = n2) && sizeIs P t 1 | _ => false)
  | .bin op x y => (match o with | .binOp op2 _ x2 y2 _ => decide (op = op2) && okO num x x2 && okO num y y2 | _ => false)
  | .eqb ne x y => (match o with | .binOp op2 t x2 y2 _ => decide (op2 = if ne then .neq else .eql) && boolT P t && okO num x x2 && okO num y y2 | _ => false)
  | .eqn ne x => (match o with | .binOp op2 t x2 (.const .nilIface) _ => decide (op2 = if ne then .neq else .eql) && ifaceT P t && okO num x x2 | _ => false)
  | .eqa ne ks x y => (match o with | .binOp op2 t x2 y2 _ => decide (op2 = if ne then .neq else .eql) && eqaT P t ks && okO num x x2 && okO num y y2 | _ => false)
  | .isn ne x => (match o with | .binOp op2 t x2 (.const (.slice none 0 0)) _ => decide (op2 = if ne then .neq else .eql) && slT P t && okO num x x2 | _ => false)
  | .un op x => (match o with | .unOp op2 _ x2 => decide (op = op2) && okO num x x2 | _ => false)
  | .conv k x => (match o with | .convert s t x2 => intT P s t k && okO num x x2 | _ => false)
  | .call f args => (match o with | .call ⟨.value (.func g), ⟨ys⟩, _⟩ => decide (num f = some g) && okOs num args ys | _ => false)
  | .callv g args => (match o with | .call ⟨.value x2, ⟨ys⟩, _⟩ => okO num g x2 && okOs num args ys | _ => false)
  | .lens x => (match o with | .call c => okCall1 num .len x c (strT P) | _ => false)
  | .lenl x => (match o with | .call c => okCall1 num .len x c (slT P) | _ => false)
  | .app bytes sz s x => (match o with | .call ⟨.builtin .append, ⟨[s2, x2]⟩, ⟨[t, t2]⟩⟩ => decide (t = t2) && appT P t bytes sz && okO num s s2 && okO num x x2 | _ => false)
  | .appg bytes sz s x => (match o with | .call ⟨.builtin .append, ⟨[s2, x2]⟩, ⟨[t, t2]⟩⟩ => decide (t = t2) && appT P t bytes sz && okO num s s2 && okO num x x2 | _ => false)
  | .appz bytes sz n x => (match o with | .call ⟨.builtin .append, ⟨[.tmp n2, x2]⟩, ⟨[t, t2]⟩⟩ => decide (t = t2) && decide (n = n2) && appT P t bytes sz && okO num x x2 | _ => false)
  | .zlit => (match o with | .buildSlice t 0 ⟨[]⟩ => (match P.underlying t with | some (.slice e) => (match P.info? e with | some i => slLit P t i.size 0 | none => false) | _ => false) | _ => false)
  | .appzz s x => (match o with | .call ⟨.builtin .append, ⟨[s2, x2]⟩, ⟨[t, t2]⟩⟩ => decide (t = t2) && (match P.underlying t with | some (.slice e) => (match P.info? e with | some i => appT P t i.bytes i.size | none => false) | _ => false) && okO num s s2 && okO num x x2 | _ => false)
  | .frz n _ => (match o with | .move (.tmp t) => decide (n = t) | .assign (.tmp t) => decide (n = t) | _ => false)
  | .clr sz x => (match o with | .call c => okCall1 num .clear x c (fun t => clrT P t sz) | _ => false)
  | .mx x y => (match o with | .call ⟨.builtin .max, ⟨[x2, y2]⟩, _⟩ => okO num x x2 && okO num y y2 | _ => false)
  | .mn x y => (match o with | .call ⟨.builtin .min, ⟨[x2, y2]⟩, _⟩ => okO num x x2 && okO num y y2 | _ => false)
  | .mksl sz parts => (match o with | .buildSlice t n ⟨ps⟩ => decide (n = ps.length) && decide (ps.map (·.1) = List.range n) && slLit P t sz n && okOs num parts (ps.map (·.2)) | _ => false)
  | .mkst zs parts => (match o with | .build t ⟨ps⟩ => stOk P num t zs parts ps | _ => false)
  | .idxa sz x i => (match o with | .indexAddr t x2 i2 => elemIs P t sz && okO num x x2 && okO num i i2 | _ => false)
  | .idx x i => (match o with | .index t x2 i2 => strT P t && okO num x x2 && okO num i i2 | _ => false)
  | .slcs x lo hi => (match o with | .slice t x2 lo2 hi2 none => strT P t && okO num x x2 && okOpt num lo lo2 && okOpt num hi hi2 | _ => false)
  | .slcl sz x lo hi => (match o with | .slice t x2 lo2 hi2 none => elemIs P t sz && okO num x x2 && okOpt num lo lo2 && okOpt num hi hi2 | _ => false)
  | .slz sz x => (match o with | .slice t x2 none (some (.const (.int _ 0))) (some (.const (.int _ 0))) => elemIs P t sz && okO num x x2 | _ => false)
  | .pick c x y => (match o with | .pick c2 x2 y2 => okO num c c2 && okO num x x2 && okO num y y2 | _ => false)
  | .ext x i => (match o with | .extract x2 i2 => decide (i = i2) && okO num x x2 | _ => false)
  | .mkfn f caps => (match o with | .makeFunc (.func g) ⟨[]⟩ ⟨cs⟩ => decide (num f = some g) && okOs num caps cs | _ => false)
  | .nilck x => (match o with | .nilCheck x2 => okO num x x2 | _ => false)
  | .mkm => (match o with | .makeMap _ none => true | _ => false)
  | .lkm s ok x i z => (match o with | .lookup t x2 i2 ok2 => decide (ok = ok2) && lkT P s t z && okO num x x2 && okO num i i2 | _ => false)
  | .upm s x k y => (match o with | .mapUpdate t x2 k2 y2 => mapT P s t && okO num x x2 && okO num k k2 && okO num y y2 | _ => false)

theorem zip_of {ps : List (Nat × Operand)} (h : ps.map (·.1) = List.range ps.length) : (ps.map (·.2)).zipIdx.map (fun p => (p.2, p.1)) = ps := by
  apply List.ext_getElem?
  intro i
  rw [List.getElem?_map, List.getElem?_zipIdx, List.getElem?_map]
  cases hp : ps[i]? with
  | none => rfl
  | some p =>
    have hlt : i < ps.length := by
      rcases Nat.lt_or_ge i ps.length with h | h
      · exact h
      · rw [List.getElem?_eq_none h] at hp; cases hp
    have := congrArg (fun l => l[i]?) h
    simp only [List.getElem?_map, hp, Option.map_some, List.getElem?_range hlt, Option.some.injEq] at this
    simp [← this]

section
variable {P : Program} {num : Nat → Option Nat} {β : List Blk} {w w' : World} {m : Nat → Nat} {ν : Own} {N : Nat} {w0 : World} {m0 : Nat → Nat} {T : Nat → Prop} {β0 : List Blk} {σ σ1 : St} {a : Act}
  {o : Oper} {next : Act → World → Prop} {Q : Exit → Act → World → Prop} {K : CallF} {v : AV} {Γ : Glob}

theorem dirOr_of {pt : Nat → Nat → Nat → Bool} {q s off : Nat} (h : dirOr pt q s off = true) (hpt : ∀ q s off, pt q s off = true → PtrAt a q s off) : PtrAt a q s off ∨ (q = s ∧ off = 0) := by
  unfold dirOr at h
  simp only [Bool.or_eq_true, Bool.and_eq_true, decide_eq_true_eq] at h
  exact h.imp (hpt _ _ _) id

theorem op_sound (hI : Inv num N w0 m0 T β0 σ a w m β ν) (hE : Enters P num) (hK : KOk P num Γ K) (hG : Γ.G w0) (hGb : Γ.Gb ≤ w0.heap.size) (hT : ∀ b, T b → Γ.Gb ≤ b)
    {pt : Nat → Nat → Nat → Bool} (hpt : ∀ q s off, pt q s off = true → PtrAt a q s off) {x : AOp} (hok : okOp P num pt x o.op = true) (he : exec K x σ = some (v, σ1))
    (h : ∀ (u : Value) (w' : World) (m' : Nat → Nat) (β' : List Blk) (ν' : Own), Inv num N w0 m0 T β0 σ1 a w' m' β' ν' → SlotV num β' w' m' ν' .f (fun i => .fc i) v u →
      (∀ s off, x = .fad s off → ∃ b, a.tmps.getD s undef = .pointer (some ⟨b, 0, none⟩) ∧ u = .pointer (some ⟨b, off, none⟩)) → next (a.put o.dst u) w') : o.wp P a w next Q := by
  have hA : (∀ s off, x ≠ .fad s off) → Aft num N w0 m0 T β0 σ1 a v fun u w' => next (a.put o.dst u) w' := fun hne u w' m' β' ν' k1 k2 => h u w' m' β' ν' k1 k2 fun s off e => absurd e (hne s off)
  have hS : (∀ s off, x ≠ .fad s off) → ∀ w' m' β' ν', Inv num N w0 m0 T β0 σ1 a w' m' β' ν' → v = .undef → next (a.put o.dst undef) w' := fun hne w' m' β' ν' k1 k2 => h undef w' m' β' ν' k1 (by subst k2; exact trivial) fun s off e => absurd e (hne s off)
  cases x <;> simp only [okOp] at hok
  case mov x =>
    split at hok
    · rename_i y ho; exact ex_mov hI (.inl ho) hok he (hA (by simp))
    · rename_i y ho; exact ex_mov hI (.inr ho) hok he (hA (by simp))
    · cases hok
  case mvs n =>
    split at hok
    · rename_i y ho; simp only [decide_eq_true_eq] at hok; subst hok; exact ex_mvs hI (.inl ho) he (hA (by simp))
    · rename_i y ho; simp only [decide_eq_true_eq] at hok; subst hok; exact ex_mvs hI (.inr ho) he (hA (by simp))
    · cases hok
  case box x =>
    split at hok
    · rename_i t y ho; exact ex_box hI ho hok he (hA (by simp))
    · cases hok
  case alloc zs =>
    split at hok
    · rename_i t ho; exact ex_alloc hI ho hok he (hA (by simp))
    · cases hok
  case gbox x =>
    split at hok
    · rename_i t y ho; exact ex_gbox hI ho hok he (hA (by simp))
    · cases hok
  case galloc zs =>
    split at hok
    · rename_i t ho; exact ex_galloc hI ho hok he (hA (by simp))
    · cases hok
  case fad s off =>
    split at hok
    · rename_i ty q f ho
      have hbx : ∃ cs, σ.env s = .bx cs := by
        simp only [exec] at he
        split at he
        · exact ⟨_, by assumption⟩
        · cases he
      obtain ⟨cs, hcs⟩ := hbx
      obtain ⟨b, cur, e, h1, h2, _⟩ := hI.box_at (q := s) (off := 0) hcs (.inr ⟨rfl, rfl⟩)
      simp only [Bool.or_eq_true, Bool.and_eq_true, decide_eq_true_eq, List.any_eq_true, List.mem_range] at hok
      rcases hok with ⟨rfl, hf⟩ | ⟨o2, ho2, hp, hf⟩
      · refine ex_fad hI ho hf h2 he fun k1 k2 => ?_
        rw [Nat.zero_add]
        refine h _ w m β ν k1 (by subst k2; exact trivial) fun s2 off2 e => ?_
        injection e with e1 e2
        subst e1 e2
        exact ⟨b, h2, rfl⟩
      · obtain ⟨b2, p1, p2⟩ := hpt _ _ _ hp
        refine ex_fad hI ho hf (show a.eval (.tmp q) = _ from p2) he fun k1 k2 => ?_
        rw [show o2 + (off - o2) = off by omega]
        refine h _ w m β ν k1 (by subst k2; exact trivial) fun s2 off2 e => ?_
        injection e with e1 e2
        subst e1 e2
        exact ⟨b2, p1, rfl⟩
    · cases hok
  case fadr p off =>
    split at hok
    · rename_i ty q f ho
      simp only [Bool.and_eq_true, decide_eq_true_eq] at hok
      obtain ⟨rfl, hf⟩ := hok
      exact ex_fadr hI ho hf he (hA (by simp))
    · cases hok
  case ldf s off sz ag =>
    split at hok
    · rename_i t q ho
      simp only [Bool.and_eq_true] at hok
      exact ex_ldf hI ho hok.1.1 hok.1.2 (dirOr_of hok.2 hpt) he (hA (by simp))
    · cases hok
  case ldfm s off =>
    split at hok
    · rename_i t q ho
      simp only [Bool.and_eq_true] at hok
      exact ex_ldfm hI ho hok.1 (dirOr_of hok.2 hpt) he (hA (by simp))
    · cases hok
  case ld p sz ag =>
    split at hok
    · rename_i t q ho
      simp only [Bool.and_eq_true, decide_eq_true_eq] at hok
      obtain ⟨⟨rfl, h1⟩, h2⟩ := hok
      exact ex_ld hI ho h1 h2 he (hA (by simp))
    · cases hok
  case ldg p sz ag =>
    split at hok
    · rename_i t q ho
      simp only [Bool.and_eq_true, decide_eq_true_eq] at hok
      obtain ⟨⟨rfl, h1⟩, h2⟩ := hok
      exact ex_ldg hI ho h1 h2 he (hA (by simp))
    · cases hok
  case ldm p =>
    split at hok
    · rename_i t q ho
      simp only [Bool.and_eq_true, decide_eq_true_eq] at hok
      obtain ⟨rfl, h2⟩ := hok
      exact ex_ldm hI ho h2 he (hA (by simp))
    · cases hok
  case stf s off sz x =>
    split at hok
    · rename_i t q y ho
      simp only [Bool.and_eq_true] at hok
      exact ex_stf hI ho hok.1.1 hok.1.2 (dirOr_of hok.2 hpt) he (hS (by simp))
    · cases hok
  case stfm s off n =>
    split at hok
    · rename_i t q n2 ho
      simp only [Bool.and_eq_true, decide_eq_true_eq] at hok
      obtain ⟨⟨rfl, h1⟩, h2⟩ := hok
      exact ex_stfm hI ho h1 (dirOr_of h2 hpt) he (hS (by simp))
    · cases hok
  case st p sz x =>
    split at hok
    · rename_i t q y ho
      simp only [Bool.and_eq_true, decide_eq_true_eq] at hok
      obtain ⟨⟨rfl, h1⟩, h2⟩ := hok
      exact ex_st hI ho h1 h2 he (hS (by simp))
    · cases hok
  case stm p n =>
    split at hok
    · rename_i t q n2 ho
      simp only [Bool.and_eq_true, decide_eq_true_eq] at hok
      obtain ⟨⟨rfl, rfl⟩, h1⟩ := hok
      exact ex_stm hI ho h1 he (hS (by simp))
    · cases hok
  case bin op x y =>
    split at hok
    · rename_i op2 t x2 y2 t2 ho
      simp only [Bool.and_eq_true, decide_eq_true_eq] at hok
      obtain ⟨⟨rfl, h1⟩, h2⟩ := hok
      exact ex_bin hI ho h1 h2 he (hA (by simp))
    · cases hok
  case eqb ne x y =>
    split at hok
    · rename_i op2 t x2 y2 t2 ho
      simp only [Bool.and_eq_true, decide_eq_true_eq] at hok
      obtain ⟨⟨⟨rfl, h1⟩, h2⟩, h3⟩ := hok
      exact ex_eqb hI ho h1 h2 h3 he (hA (by simp))
    · cases hok
  case eqn ne x =>
    split at hok
    · rename_i op2 t x2 t2 ho
      simp only [Bool.and_eq_true, decide_eq_true_eq] at hok
      obtain ⟨⟨rfl, h1⟩, h2⟩ := hok
      exact ex_eqn hI ho h1 h2 he (hA (by simp))
    · cases hok
  case eqa ne ks x y =>
    split at hok
    · rename_i op2 t x2 y2 t2 ho
      simp only [Bool.and_eq_true, decide_eq_true_eq] at hok
      obtain ⟨⟨⟨rfl, h1⟩, h2⟩, h3⟩ := hok
      exact ex_eqa hI ho h1 h2 h3 he (hA (by simp))
    · cases hok
  case isn ne x =>
    split at hok
    · rename_i op2 t x2 t2 ho
      simp only [Bool.and_eq_true, decide_eq_true_eq] at hok
      obtain ⟨⟨rfl, h1⟩, h2⟩ := hok
      exact ex_isn hI ho h1 h2 he (hA (by simp))
    · cases hok
  case un op x =>
    split at hok
    · rename_i op2 t x2 ho
      simp only [Bool.and_eq_true, decide_eq_true_eq] at hok
      obtain ⟨rfl, h1⟩ := hok
      exact ex_un hI ho h1 he (hA (by simp))
    · cases hok
  case conv k x =>
    split at hok
    · rename_i s t x2 ho
      simp only [Bool.and_eq_true] at hok
      exact ex_conv hI ho hok.1 hok.2 he (hA (by simp))
    · cases hok
  case call f args =>
    split at hok
    · rename_i g ys ts ho
      simp only [Bool.and_eq_true, decide_eq_true_eq] at hok
      exact ex_call hI hE hK hG hGb hT ho hok.1 hok.2 he (hA (by simp))
    · cases hok
  case callv g args =>
    split at hok
    · rename_i x2 ys ts ho
      simp only [Bool.and_eq_true] at hok
      exact ex_callv hI hE hK hG hGb hT ho hok.1 hok.2 he (hA (by simp))
    · cases hok
  case lens x =>
    split at hok
    · rename_i c ho
      unfold okCall1 at hok
      split at hok
      · rename_i b2 y t
        simp only [Bool.and_eq_true, decide_eq_true_eq] at hok
        obtain ⟨⟨rfl, h1⟩, h2⟩ := hok
        exact ex_lens hI ho h1 h2 he (hA (by simp))
      · cases hok
    · cases hok
  case lenl x =>
    split at hok
    · rename_i c ho
      unfold okCall1 at hok
      split at hok
      · rename_i b2 y t
        simp only [Bool.and_eq_true, decide_eq_true_eq] at hok
        obtain ⟨⟨rfl, h1⟩, h2⟩ := hok
        exact ex_lenl hI ho h1 h2 he (hA (by simp))
      · cases hok
    · cases hok
  case app bytes sz s x =>
    split at hok
    · rename_i s2 x2 t t2 ho
      simp only [Bool.and_eq_true, decide_eq_true_eq] at hok
      obtain ⟨⟨⟨rfl, h1⟩, h2⟩, h3⟩ := hok
      exact ex_app hI ho h1 h2 h3 he (hA (by simp))
    · cases hok
  case appg bytes sz s x =>
    split at hok
    · rename_i s2 x2 t t2 ho
      simp only [Bool.and_eq_true, decide_eq_true_eq] at hok
      obtain ⟨⟨⟨rfl, h1⟩, h2⟩, h3⟩ := hok
      exact ex_appg hI ho h1 h2 h3 he (hA (by simp))
    · cases hok
  case appz bytes sz n x =>
    split at hok
    · rename_i n2 x2 t t2 ho
      simp only [Bool.and_eq_true, decide_eq_true_eq] at hok
      obtain ⟨⟨⟨rfl, rfl⟩, h2⟩, h3⟩ := hok
      exact ex_appz hI ho h2 h3 he (hA (by simp))
    · cases hok
  case zlit =>
    split at hok
    · rename_i t ho
      split at hok
      · split at hok
        · exact ex_zlit hI ho hok he (hA (by simp))
        · cases hok
      · cases hok
    · cases hok
  case appzz s x =>
    split at hok
    · rename_i s2 x2 t t2 ho
      simp only [Bool.and_eq_true, decide_eq_true_eq] at hok
      obtain ⟨⟨⟨rfl, h1⟩, h2⟩, h3⟩ := hok
      split at h1
      · split at h1
        · exact ex_appzz hI ho h1 h2 h3 he (hA (by simp))
        · cases h1
      · cases h1
    · cases hok
  case frz n sz =>
    split at hok
    · rename_i y ho; simp only [decide_eq_true_eq] at hok; subst hok; exact ex_frz hI (.inl ho) he (hA (by simp))
    · rename_i y ho; simp only [decide_eq_true_eq] at hok; subst hok; exact ex_frz hI (.inr ho) he (hA (by simp))
    · cases hok
  case clr sz x =>
    split at hok
    · rename_i c ho
      unfold okCall1 at hok
      split at hok
      · rename_i b2 y t
        simp only [Bool.and_eq_true, decide_eq_true_eq] at hok
        obtain ⟨⟨rfl, h1⟩, h2⟩ := hok
        exact ex_clr hI ho h1 h2 he (hA (by simp))
      · cases hok
    · cases hok
  case mx x y =>
    split at hok
    · rename_i x2 y2 ts ho
      simp only [Bool.and_eq_true] at hok
      exact ex_mx hI ho hok.1 hok.2 he (hA (by simp))
    · cases hok
  case mn x y =>
    split at hok
    · rename_i x2 y2 ts ho
      simp only [Bool.and_eq_true] at hok
      exact ex_mn hI ho hok.1 hok.2 he (hA (by simp))
    · cases hok
  case mksl sz parts =>
    split at hok
    · rename_i t n ps ho
      simp only [Bool.and_eq_true, decide_eq_true_eq] at hok
      obtain ⟨⟨⟨rfl, h1⟩, h2⟩, h3⟩ := hok
      have hz := zip_of h1
      refine ex_mksl (ps := ps.map (·.2)) (t := t) hI ?_ (by simpa using h2) h3 he (hA (by simp))
      rw [ho, hz, List.length_map]
    · cases hok
  case mkst zs parts =>
    split at hok
    · rename_i t ps ho
      exact ex_mkst hI ho hok he (hA (by simp))
    · cases hok
  case idxa sz x i =>
    split at hok
    · rename_i t x2 i2 ho
      simp only [Bool.and_eq_true] at hok
      exact ex_idxa hI ho hok.1.1 hok.1.2 hok.2 he (hA (by simp))
    · cases hok
  case idx x i =>
    split at hok
    · rename_i t x2 i2 ho
      simp only [Bool.and_eq_true] at hok
      exact ex_idx hI ho hok.1.1 hok.1.2 hok.2 he (hA (by simp))
    · cases hok
  case slcs x lo hi =>
    split at hok
    · rename_i t x2 lo2 hi2 ho
      simp only [Bool.and_eq_true] at hok
      exact ex_slcs hI ho hok.1.1.1 hok.1.1.2 hok.1.2 hok.2 he (hA (by simp))
    · cases hok
  case slcl sz x lo hi =>
    split at hok
    · rename_i t x2 lo2 hi2 ho
      simp only [Bool.and_eq_true] at hok
      exact ex_slcl hI ho hok.1.1.1 hok.1.1.2 hok.1.2 hok.2 he (hA (by simp))
    · cases hok
  case slz sz x =>
    split at hok
    · rename_i t x2 k1 k2 ho
      simp only [Bool.and_eq_true] at hok
      exact ex_slz hI ho hok.1 hok.2 he (hA (by simp))
    · cases hok
  case pick c x y =>
    split at hok
    · rename_i c2 x2 y2 ho
      simp only [Bool.and_eq_true] at hok
      exact ex_pick hI ho hok.1.1 hok.1.2 hok.2 he (hA (by simp))
    · cases hok
  case ext x i =>
    split at hok
    · rename_i x2 i2 ho
      simp only [Bool.and_eq_true, decide_eq_true_eq] at hok
      obtain ⟨rfl, h1⟩ := hok
      exact ex_ext hI ho h1 he (hA (by simp))
    · cases hok
  case mkfn f caps =>
    split at hok
    · rename_i g cs ho
      simp only [Bool.and_eq_true, decide_eq_true_eq] at hok
      exact ex_mkfn hI ho hok.1 hok.2 he (hA (by simp))
    · cases hok
  case nilck x =>
    split at hok
    · rename_i x2 ho
      exact ex_nilck hI ho hok he (hA (by simp))
    · cases hok
  case mkm =>
    split at hok
    · rename_i t ho
      exact ex_mkm hI ho he (hA (by simp))
    · cases hok
  case lkm s ok x i z =>
    split at hok
    · rename_i t x2 i2 ok2 ho
      simp only [Bool.and_eq_true, decide_eq_true_eq] at hok
      obtain ⟨⟨⟨rfl, h1⟩, h2⟩, h3⟩ := hok
      exact ex_lkm hI ho h1 h2 h3 he (hA (by simp))
    · cases hok
  case upm s x k y =>
    split at hok
    · rename_i t x2 k2 y2 ho
      simp only [Bool.and_eq_true] at hok
      obtain ⟨⟨⟨h1, h2⟩, h3⟩, h4⟩ := hok
      exact ex_upm hI ho h1 h2 h3 h4 he (hS (by simp))
    · cases hok
end
end Go.Am
