/-
  Am6, Am7.
-/
import Derived.Test.YteahheknpdcoeaaGreatDoorG01
set_option linter.unusedVariables false
set_option linter.unusedSimpArgs false
namespace Go.Am
def sizeIs (P : Program) (t : TypeId) (sz : Nat) : Bool := match P.info? t with
 | some i => decide (i.size = sz)
 | none => false
def aggIs (P : Program) (t : TypeId) (ag : Bool) : Bool := match P.underlying t with
 | some (.struct _) => ag
 | some (.array _ _) => ag
 | some _ => !ag
 | none => false
def fieldIs (P : Program) (s : TypeId) (f off : Nat) : Bool := match P.underlying s with
 | some (.struct fs) => match fs[f]? with
  | some fl => decide (fl.offset = off) && (match P.info? fl.type with
   | some i => decide (i.size ≠ 0)
   | none => false)
  | none => false
 | _ => false
def PtrAt (a : Act) (q s off : Nat) : Prop := ∃ b,a.tmps.getD s undef = .pointer (some ⟨b,0,none⟩) ∧ a.tmps.getD q undef = .pointer (some ⟨b,off,none⟩)
section
variable {P : Program} {num : Nat → Option Nat} {β : List Blk} {w w' : World} {m : Nat → Nat} {ν : Own} {N : Nat} {w0 : World} {m0 : Nat → Nat} {T : Nat → Prop} {β0 : List Blk} {σ σ1 : St} {a : Act}
 {o : Oper} {next : Act → World → Prop} {Q : Exit → Act → World → Prop} {K : CallF} {v : AV}
theorem run_sizeOf {t : TypeId} {sz : Nat} (h : sizeIs P t sz = true) : (sizeOf t).run P w = .ok sz w := by
 unfold sizeIs at h
 split at h
 ·rename_i i hi
  simp only [decide_eq_true_eq] at h
  simp [sizeOf,typeInfo,hi,h]
 ·cases h
theorem run_isAgg {t : TypeId} {ag : Bool} (h : aggIs P t ag = true) : (isAgg t).run P w = .ok ag w := by
 unfold aggIs at h
 split at h
 ·rename_i hu; subst h; simp [isAgg,run_underlying hu]
 ·rename_i hu; subst h; simp [isAgg,run_underlying hu]
 ·rename_i d hu h1 h2
  have : ag = false := by simpa using h
  subst this
  simp only [isAgg,Sem.run_bind,run_underlying h2,Result.andThen_ok]
  rfl
 ·cases h
theorem add_none (b o n : Nat) : Addr.add ⟨b,o,none⟩ n = ⟨b,o + n,none⟩ := Addr.add_lit b o n
theorem run_load_cells [Dr] {t : TypeId} {off sz : Nat} {ag : Bool} (hs : sizeIs P t sz = true) (ha : aggIs P t ag = true) {b o : Nat} {cs : List AV} (hrd : rdCells cs off sz ag = some v)
  (hc : ∀ (i : Nat) (c : AV),cs[i]? = some c → ∃ u,w.cell? ⟨b,o + i,none⟩ = some u ∧ u.oneCell' = true ∧ RepV num β w m c u) :
  ∃ u,(loadVar t ⟨b,o + off,none⟩).run P w = .ok u w ∧ v.ok = true ∧ RepV num β w m v u ∧ ∀ p,OwnV w m ν p v u := by
 unfold rdCells at hrd
 split at hrd
 ·rename_i hle
  cases ag
  ·simp only [Bool.false_eq_true,if_false] at hrd
   split at hrd
   ·cases hco : cs[off]? with
    | none => rw [hco] at hrd; cases hrd
    | some c =>
     rw [hco] at hrd
     simp only [Option.bind_some] at hrd
     split at hrd
     ·rename_i h1
      injection hrd with hrd
      subst hrd
      obtain ⟨u,g1,g2,g3⟩ := hc off c hco
      refine ⟨u,?_,?_,by rw [RepV_strip]; exact g3,fun p => OwnV_strip _ _ _⟩
      ·simp only [loadVar,Sem.run_bind,run_isAgg ha,Result.andThen_ok,Bool.false_eq_true,if_false,run_load,g1]
      ·rw [strip_ok]; cases c <;> first | rfl | simp [AV.one] at h1
     ·cases hrd
   ·cases hrd
  ·simp only [if_true] at hrd
   injection hrd with hrd
   subst hrd
   have hget : ∀ j,j < sz → ∃ c,cs[off + j]? = some c := fun j hj => ⟨_,List.getElem?_eq_getElem (by omega)⟩
   let f : Nat → Value := fun j => (w.cell? ⟨b,o + off + j,none⟩).getD undef
   have hf : ∀ j,j < sz → w.cell? ((⟨b,o + off,none⟩ : Addr).add j) = some (f j) := fun j hj => by
    obtain ⟨c,hcj⟩ := hget j hj
    obtain ⟨u,g1,_,_⟩ := hc _ c hcj
    rw [add_none]
    rw [show o + (off + j) = o + off + j by omega] at g1
    simp [f,g1]
   refine ⟨.agg ((List.range sz).map f).toArray,?_,rfl,?_,fun p => trivial⟩
   ·simp only [loadVar,Sem.run_bind,run_isAgg ha,run_sizeOf hs,Result.andThen_ok,if_true]
    rw [run_loadCells w _ sz f hf]
    rfl
   ·simp only [RepV]
    refine ⟨_,rfl,by simp; omega,?_⟩
    rw [RepC_get]
    intro i c hci
    obtain ⟨d,hd,rfl⟩ := map_strip_get hci
    have hisz : i < sz := by
     rcases Nat.lt_or_ge i sz with h | h
     ·exact h
     ·rw [List.getElem?_eq_none (by simp; omega)] at hd; cases hd
    rw [List.getElem?_take_of_lt hisz,List.getElem?_drop] at hd
    obtain ⟨u,g1,g2,g3⟩ := hc _ d hd
    refine ⟨u,?_,g2,by rw [RepV_strip]; exact g3⟩
    rw [show o + (off + i) = o + off + i by omega] at g1
    simp [f,hisz,g1]
 ·cases hrd
theorem Inv.box_at [Dr] (hI : Inv num N w0 m0 T β0 σ a w m β ν) {s q off : Nat} {cs : List AV} (hs : σ.env s = .bx cs) (hp : PtrAt a q s off ∨ (q = s ∧ off = 0)) :
  ∃ b cur e,a.tmps[s]? = some (.pointer (some ⟨b,0,none⟩)) ∧ a.eval (.tmp q) = .pointer (some ⟨b,off,none⟩) ∧ w.heap[b]? = some (.cells cur e (0,0)) ∧ cur.size = cs.length ∧
   ∀ (i : Nat) (c : AV),cs[i]? = some c → ∃ u,cur[i]? = some u ∧ u.oneCell' = true ∧ RepV num β w m c u ∧ OwnV w m ν (.c s i) c u := by
 obtain ⟨_,h2⟩ := hI.at_ (n := s) (by rw [hs]; simp)
 have h3 := hI.slots s _ h2
 rw [hs] at h3
 obtain ⟨b,h4,cur,e,h5,h6,h7,h8,h9⟩ := h3
 refine ⟨b,cur,e,by rw [h2,h4],?_,h5,h6.1,h9⟩
 rcases hp with ⟨b2,p1,p2⟩ | ⟨rfl,rfl⟩
 ·rw [h4] at p1
  injection p1 with p1
  injection p1 with p1
  injection p1 with p1
  subst p1
  exact p2
 ·exact h4
theorem ex_ldf [Dr] {s q off sz : Nat} {ag : Bool} {t : TypeId} (hI : Inv num N w0 m0 T β0 σ a w m β ν) (ho : o.op = .load t (.tmp q)) (hs : sizeIs P t sz = true) (ha : aggIs P t ag = true)
  (hp : PtrAt a q s off ∨ (q = s ∧ off = 0)) (he : exec K (.ldf s off sz ag) σ = some (v,σ1)) (h : Aft num N w0 m0 T β0 σ1 a v fun u w' => next (a.put o.dst u) w') : o.wp P a w next Q := by
 simp only [exec] at he
 split at he
 ·rename_i cs hcs
  cases hr : rdCells cs off sz ag with
  | none => rw [hr] at he; cases he
  | some v2 =>
   rw [hr] at he
   injection he with he
   injection he with h1 h2
   subst h1 h2
   obtain ⟨b,cur,e,_,hq,hb,hz,hc⟩ := hI.box_at hcs hp
   obtain ⟨u,g1,g2,g3,g4⟩ := run_load_cells (w := w) (num := num) (β := β) (m := m) (ν := ν) (o := 0) (b := b) hs ha hr (fun i c hi => by
    obtain ⟨u,k1,k2,k3,_⟩ := hc i c hi
    exact ⟨u,by rw [Nat.zero_add,cell_of_row w b i cur e (0,0) hb]; exact k1,k2,k3⟩)
   refine wp_value (u := u) (w' := w) ?_ (h.same hI g2 g3 (g4 _))
   rw [Nat.zero_add] at g1
   simp only [execOp,ho,Instr.loadAt,hq,Instr.sureAddr,Sem.run_bind,Sem.run_pure,Result.andThen_ok,g1]
 ·cases he
theorem ex_ld [Dr] {p sz : Nat} {ag : Bool} {t : TypeId} (hI : Inv num N w0 m0 T β0 σ a w m β ν) (ho : o.op = .load t (.tmp p)) (hs : sizeIs P t sz = true) (ha : aggIs P t ag = true)
  (he : exec K (.ld p sz ag) σ = some (v,σ1)) (h : Aft num N w0 m0 T β0 σ1 a v fun u w' => next (a.put o.dst u) w') : o.wp P a w next Q := by
 simp only [exec] at he
 split at he
 ·rename_i cs hcs
  cases hr : rdCells cs 0 sz ag with
  | none => rw [hr] at he; cases he
  | some v2 =>
   rw [hr] at he
   injection he with he
   injection he with h1 h2
   subst h1 h2
   obtain ⟨_,h2⟩ := hI.at_ (n := p) (by rw [hcs]; simp)
   have h3 := hI.slots p _ h2
   rw [hcs] at h3
   obtain ⟨h3,_⟩ := h3
   simp only [RepV] at h3
   obtain ⟨b,o2,h4,h5⟩ := h3
   rw [RepC_get] at h5
   obtain ⟨u,g1,g2,g3,g4⟩ := run_load_cells (w := w) (num := num) (β := β) (m := m) (ν := ν) (o := o2) (b := b) hs ha hr (fun i c hi => by
    obtain ⟨u,k1,k2,k3⟩ := h5 i c hi
    exact ⟨u,(hg_some k1).2.1,k2,k3⟩)
   refine wp_value (u := u) (w' := w) ?_ (h.same hI g2 g3 (g4 _))
   rw [Nat.add_zero] at g1
   have hq : a.eval (.tmp p) = .pointer (some ⟨b,o2,none⟩) := h4
   simp only [execOp,ho,Instr.loadAt,hq,Instr.sureAddr,Sem.run_bind,Sem.run_pure,Result.andThen_ok,g1]
 ·cases he
theorem ne_of_get {α : Type} {cs : List α} {i : Nat} {c : α} (h : cs[i]? = some c) : cs ≠ [] := fun e => by rw [e] at h; simp at h
theorem ex_ldg [Dr] {p sz : Nat} {ag : Bool} {t : TypeId} (hI : Inv num N w0 m0 T β0 σ a w m β ν) (ho : o.op = .load t (.tmp p)) (hs : sizeIs P t sz = true) (ha : aggIs P t ag = true)
  (he : exec K (.ldg p sz ag) σ = some (v,σ1)) (h : Aft num N w0 m0 T β0 σ1 a v fun u w' => next (a.put o.dst u) w') : o.wp P a w next Q := by
 simp only [exec] at he
 split at he
 ·rename_i i off hcs
  cases hbs : σ.bs[i]? with
  | none => rw [hbs] at he; cases he
  | some cs =>
   rw [hbs] at he
   simp only [Option.bind_some] at he
   cases hr : rdCells cs off sz ag with
   | none => rw [hr] at he; cases he
   | some v2 =>
    rw [hr] at he
    injection he with he
    injection he with h1 h2
    subst h1 h2
    obtain ⟨_,h2⟩ := hI.at_ (n := p) (by rw [hcs]; simp)
    have h3 := hI.slots p _ h2
    rw [hcs] at h3
    obtain ⟨h3,_⟩ := h3
    simp only [RepV] at h3
    obtain ⟨⟨b,z,mp⟩,h4,h5⟩ := h3
    obtain ⟨u,g1,g2,g3,g4⟩ := run_load_cells (w := w) (num := num) (β := β) (m := m) (ν := ν) (o := 0) (b := b) hs ha hr (fun j c hi => by
     obtain ⟨cur,e,k1,k2,_,_,hc⟩ := (hI.boxes i cs _ hbs h4.1 (ne_of_get hi)).1 h4.2
     obtain ⟨u,c1,c2,c3,_⟩ := hc j c hi
     exact ⟨u,by rw [Nat.zero_add,cell_of_row w b j cur e (0,0) k1]; exact c1,c2,c3⟩)
    refine wp_value (u := u) (w' := w) ?_ (h.same hI g2 g3 (g4 _))
    rw [Nat.zero_add] at g1
    have hq : a.eval (.tmp p) = .pointer (some ⟨b,off,none⟩) := h5
    simp only [execOp,ho,Instr.loadAt,hq,Instr.sureAddr,Sem.run_bind,Sem.run_pure,Result.andThen_ok,g1]
 ·cases he
theorem one_ok {c : AV} (h : c.one = true) : c.ok = true := by cases c <;> first | rfl | simp [AV.one] at h
theorem ex_ldfm [Dr] {s q off : Nat} {t : TypeId} (hI : Inv num N w0 m0 T β0 σ a w m β ν) (ho : o.op = .load t (.tmp q)) (ha : aggIs P t false = true)
  (hp : PtrAt a q s off ∨ (q = s ∧ off = 0)) (he : exec K (.ldfm s off) σ = some (v,σ1)) (h : Aft num N w0 m0 T β0 σ1 a v fun u w' => next (a.put o.dst u) w') : o.wp P a w next Q := by
 simp only [exec] at he
 split at he
 ·rename_i cs hcs
  cases hr : cs[off]? with
  | none => rw [hr] at he; cases he
  | some c =>
   rw [hr] at he
   simp only [Option.bind_some] at he
   split at he
   ·rename_i h1c
    injection he with he
    injection he with h1 h2
    subst h1 h2
    obtain ⟨b,cur,e,_,hq,hb,hz,hc⟩ := hI.box_at hcs hp
    obtain ⟨u,k1,k2,k3,k4⟩ := hc off c hr
    have hcell : w.cell? ⟨b,off,none⟩ = some u := by rw [cell_of_row w b off cur e (0,0) hb]; exact k1
    refine wp_value (u := u) (w' := w) ?_ ?_
    ·simp only [execOp,ho,Instr.loadAt,hq,Instr.sureAddr,Sem.run_bind,Sem.run_pure,Result.andThen_ok,loadVar,run_isAgg ha,Bool.false_eq_true,if_false,run_load,hcell]
    ·refine h u w m β _ (hI.takeCell s off hcs) ((SlotV_ok (one_ok h1c)).2 ⟨k3,?_⟩)
     have := OwnV_map (θ := mv (.c s off) .f) k4
     rwa [show mv (.c s off) .f (.c s off) = .f by simp [mv]] at this
   ·cases he
 ·cases he
theorem ex_ldm [Dr] {p : Nat} {t : TypeId} (hI : Inv num N w0 m0 T β0 σ a w m β ν) (ho : o.op = .load t (.tmp p)) (ha : aggIs P t false = true)
  (he : exec K (.ldm p) σ = some (v,σ1)) (h : Aft num N w0 m0 T β0 σ1 a v fun u w' => next (a.put o.dst u) w') : o.wp P a w next Q := by
 simp only [exec] at he
 split at he
 ·rename_i i off hcs
  cases hbs : σ.bs[i]? with
  | none => rw [hbs] at he; cases he
  | some cs =>
   rw [hbs] at he
   simp only [Option.bind_some] at he
   cases hr : cs[off]? with
   | none => rw [hr] at he; cases he
   | some c =>
    rw [hr] at he
    simp only [Option.bind_some] at he
    split at he
    ·rename_i h1c
     injection he with he
     injection he with h1 h2
     subst h1 h2
     obtain ⟨_,h2⟩ := hI.at_ (n := p) (by rw [hcs]; simp)
     have h3 := hI.slots p _ h2
     rw [hcs] at h3
     obtain ⟨h3,_⟩ := h3
     simp only [RepV] at h3
     obtain ⟨⟨b,z,mp⟩,h4,h5⟩ := h3
     obtain ⟨cur,e,k1,k2,_,_,hc⟩ := (hI.boxes i cs _ hbs h4.1 (ne_of_get hr)).1 h4.2
     obtain ⟨u,c1,c2,c3,c4⟩ := hc off c hr
     have hcell : w.cell? ⟨b,off,none⟩ = some u := by rw [cell_of_row w b off cur e (0,0) k1]; exact c1
     have hq : a.eval (.tmp p) = .pointer (some ⟨b,off,none⟩) := h5
     refine wp_value (u := u) (w' := w) ?_ ?_
     ·simp only [execOp,ho,Instr.loadAt,hq,Instr.sureAddr,Sem.run_bind,Sem.run_pure,Result.andThen_ok,loadVar,run_isAgg ha,Bool.false_eq_true,if_false,run_load,hcell]
     ·refine h u w m β _ (hI.takeG i off hbs h4) ((SlotV_ok (one_ok h1c)).2 ⟨c3,?_⟩)
      have := OwnV_map (θ := mv (.gc i off) .f) c4
      rwa [show mv (.gc i off) .f (.gc i off) = .f by simp [mv]] at this
    ·cases he
 ·cases he
theorem run_fieldAt [Dr] {s : TypeId} {f off b o2 : Nat} (h : fieldIs P s f off = true) : (Instr.fieldAt s (.pointer (some ⟨b,o2,none⟩)) f).run P w = .ok (.pointer (some ⟨b,o2 + off,none⟩)) w := by
 unfold fieldIs at h
 split at h
 ·rename_i fs hu
  split at h
  ·rename_i fl hf
   simp only [Bool.and_eq_true,decide_eq_true_eq] at h
   obtain ⟨h1,h2⟩ := h
   split at h2
   ·rename_i i hi
    simp only [ne_eq,decide_eq_true_eq] at h2
    simp [Instr.fieldAt,run_underlying hu,hf,Instr.sureAddr,fieldPlace,sizeOf,typeInfo,hi,h2,add_none,h1]
   ·cases h2
  ·cases h
 ·cases h
theorem ex_fad [Dr] {s : TypeId} {q f off b o2 : Nat} (hI : Inv num N w0 m0 T β0 σ a w m β ν) (ho : o.op = .fieldAddr s (.tmp q) f) (hf : fieldIs P s f off = true)
  {s2 off2 : Nat} (hq : a.eval (.tmp q) = .pointer (some ⟨b,o2,none⟩)) (he : exec K (.fad s2 off2) σ = some (v,σ1))
  (h : Inv num N w0 m0 T β0 σ1 a w m β ν → v = .undef → next (a.put o.dst (.pointer (some ⟨b,o2 + off,none⟩))) w) : o.wp P a w next Q := by
 simp only [exec] at he
 split at he
 ·injection he with he
  injection he with h1 h2
  subst h1 h2
  exact wp_value (u := .pointer (some ⟨b,o2 + off,none⟩)) (w' := w) (by simp only [execOp,ho,hq,Sem.run_bind,run_fieldAt hf,Result.andThen_ok,Sem.run_pure]) (h hI rfl)
 ·cases he
theorem ex_fadr [Dr] {s : TypeId} {p f off : Nat} (hI : Inv num N w0 m0 T β0 σ a w m β ν) (ho : o.op = .fieldAddr s (.tmp p) f) (hf : fieldIs P s f off = true)
  (he : exec K (.fadr p off) σ = some (v,σ1)) (h : Aft num N w0 m0 T β0 σ1 a v fun u w' => next (a.put o.dst u) w') : o.wp P a w next Q := by
 simp only [exec] at he
 split at he
 ·rename_i i o2 hcs
  injection he with he
  injection he with h1 h2
  subst h1 h2
  obtain ⟨_,h2⟩ := hI.at_ (n := p) (by rw [hcs]; simp)
  have h3 := hI.slots p _ h2
  rw [hcs] at h3
  obtain ⟨h3,_⟩ := h3
  simp only [RepV] at h3
  obtain ⟨⟨b,z,mp⟩,h4,h5⟩ := h3
  have hq : a.eval (.tmp p) = .pointer (some ⟨b,o2,none⟩) := h5
  refine wp_value (u := .pointer (some ⟨b,o2 + off,none⟩)) (w' := w) (by simp only [execOp,ho,hq,Sem.run_bind,run_fieldAt hf,Result.andThen_ok,Sem.run_pure]) (h.same hI rfl ?_ trivial)
  simp only [RepV]
  exact ⟨⟨b,z,mp⟩,h4,rfl⟩
 ·rename_i cs hcs
  injection he with he
  injection he with h1 h2
  subst h1 h2
  obtain ⟨_,h2⟩ := hI.at_ (n := p) (by rw [hcs]; simp)
  have h3 := hI.slots p _ h2
  rw [hcs] at h3
  obtain ⟨h3,_⟩ := h3
  simp only [RepV] at h3
  obtain ⟨b,o2,h4,h5⟩ := h3
  have hq : a.eval (.tmp p) = .pointer (some ⟨b,o2,none⟩) := h4
  refine wp_value (u := .pointer (some ⟨b,o2 + off,none⟩)) (w' := w) (by simp only [execOp,ho,hq,Sem.run_bind,run_fieldAt hf,Result.andThen_ok,Sem.run_pure]) (h.same hI rfl ?_ trivial)
  simp only [RepV]
  refine ⟨b,o2 + off,rfl,?_⟩
  rw [RepC_get] at h5 ⊢
  intro i c hc
  rw [List.getElem?_drop] at hc
  obtain ⟨u,g1,g2,g3⟩ := h5 _ c hc
  exact ⟨u,by rw [Nat.add_assoc]; exact g1,g2,g3⟩
 ·cases he
end
end Go.Am
namespace Go.Am
theorem put_get {α : Type} (cs : List α) (off : Nat) (vs : List α) (h : off + vs.length ≤ cs.length) (i : Nat) :
  (cs.take off ++ vs ++ cs.drop (off + vs.length))[i]? = if i < off then cs[i]? else if i < off + vs.length then vs[i - off]? else cs[i]? := by
 have hl : (cs.take off).length = off := by rw [List.length_take]; omega
 by_cases h1 : i < off
 ·rw [if_pos h1,List.append_assoc,List.getElem?_append_left (by omega),List.getElem?_take_of_lt h1]
 ·rw [if_neg h1]
  by_cases h2 : i < off + vs.length
  ·rw [if_pos h2,List.append_assoc,List.getElem?_append_right (by omega),hl,List.getElem?_append_left (by omega)]
  ·rw [if_neg h2,List.getElem?_append_right (by rw [List.length_append,hl]; omega),List.length_append,hl,List.getElem?_drop]
   congr 1
   omega
theorem put_len {α : Type} (cs : List α) (off : Nat) (vs : List α) (h : off + vs.length ≤ cs.length) : (cs.take off ++ vs ++ cs.drop (off + vs.length)).length = cs.length := by
 simp only [List.length_append,List.length_take,List.length_drop]; omega
section
variable {P : Program} {num : Nat → Option Nat} {β : List Blk} {w w' : World} {m : Nat → Nat} {ν : Own} {N : Nat} {w0 : World} {m0 : Nat → Nat} {T : Nat → Prop} {β0 : List Blk} {σ σ1 : St} {a : Act}
 {o : Oper} {next : Act → World → Prop} {Q : Exit → Act → World → Prop} {K : CallF} {v : AV}
theorem run_storeVar_at {t : TypeId} {sz b off : Nat} {e : TypeId} {cur : Array Value} {u : Value} (hs : sizeIs P t sz = true) (hb : w.heap[b]? = some (.cells cur e (0,0))) (hu : u.cells.size = sz)
  (hl : off + sz ≤ cur.size) (h1 : ∀ x ∈ u.cells.toList,x.oneCell' = true) :
  (storeVar t ⟨b,off,none⟩ u).run P w = .ok () (w.setRow b (cur.toList.take off ++ u.cells.toList ++ cur.toList.drop (off + u.cells.toList.length)).toArray) := by
 have := run_storeCells_at P b off e u.cells.toList 0 cur w hb (by simpa [hu] using hl) h1
 simp only [storeVar,Sem.run_bind,run_sizeOf hs,Result.andThen_ok,hu,ne_eq,not_true_eq_false,if_false]
 exact this
theorem cells_one {cs : List AV} {u : Value} (hz : u.cells.size = cs.length) (hc : ∀ (i : Nat) (c : AV),cs[i]? = some c → ∃ x,u.cells[i]? = some x ∧ x.oneCell' = true ∧ RepV num β w m c x) :
  ∀ x ∈ u.cells.toList,x.oneCell' = true := by
 intro x hx
 obtain ⟨i,hi⟩ := List.getElem?_of_mem hx
 have hlt : i < u.cells.toList.length := by
  rcases Nat.lt_or_ge i u.cells.toList.length with h | h
  ·exact h
  ·rw [List.getElem?_eq_none h] at hi; cases hi
 obtain ⟨y,g1,g2,_⟩ := hc i _ (List.getElem?_eq_getElem (by rw [← hz]; simpa using hlt))
 rw [Array.getElem?_toList,g1] at hi
 injection hi with hi
 subst hi
 exact g2
theorem ok_of_cells {x : AV} {cs : List AV} (hc : cellsOf x = some cs) : x.ok = true := by
 cases x <;> simp [cellsOf,AV.one] at hc <;> rfl
theorem put_length [Dr] (cs : List AV) (off : Nat) (vs : List AV) (h : off + vs.length ≤ cs.length) : (put cs off vs).length = cs.length := by
 unfold put
 rw [put_len _ _ _ h]
theorem put_row [Dr] {cs vs : List AV} {cur : Array Value} {us : List Value} {off : Nat} (hz : cs.length ≤ cur.size) (hl : off + vs.length ≤ cs.length) (hu : us.length = vs.length) {R S : Nat → AV → Value → Prop}
  (hcs : ∀ (i : Nat) (c : AV),cs[i]? = some c → ∃ u,cur[i]? = some u ∧ R i c u) (hvs : ∀ (i : Nat) (c : AV),vs[i]? = some c → ∃ u,us[i]? = some u ∧ S i c u) :
  (cur.toList.take off ++ us ++ cur.toList.drop (off + us.length)).toArray.size = cur.size ∧
  ∀ (i : Nat) (c : AV),(put cs off vs)[i]? = some c → ∃ u,(cur.toList.take off ++ us ++ cur.toList.drop (off + us.length)).toArray[i]? = some u ∧ (R i c u ∨ (off ≤ i ∧ i < off + vs.length ∧ S (i - off) c u)) := by
 have hl2 : off + us.length ≤ cur.toList.length := by simp; omega
 refine ⟨?_,fun i c hc => ?_⟩
 ·rw [List.size_toArray,put_len _ _ _ hl2]
  simp
 ·unfold put at hc
  rw [put_get _ _ _ hl] at hc
  rw [List.getElem?_toArray,put_get _ _ _ hl2,hu]
  split at hc
  ·rename_i h1
   obtain ⟨u,g1,g2⟩ := hcs i c hc
   exact ⟨u,by rw [if_pos h1]; simpa using g1,.inl g2⟩
  ·rename_i h1
   split at hc
   ·rename_i h2
    obtain ⟨u,g1,g2⟩ := hvs _ c hc
    exact ⟨u,by rw [if_neg h1,if_pos h2]; exact g1,.inr ⟨by omega,h2,g2⟩⟩
   ·rename_i h2
    obtain ⟨u,g1,g2⟩ := hcs i c hc
    exact ⟨u,by rw [if_neg h1,if_neg h2]; simpa using g1,.inl g2⟩
theorem store_run {t : TypeId} {x y : Operand} {A : Addr} (ho : o.op = .store t x y) (hq : a.eval x = .pointer (some A)) (hr : (storeVar t A (a.eval y)).run P w = .ok () w') :
  (execOp a.eval o).run P w = .ok .skip w' := by
 simp only [execOp,ho,Instr.storeAt,hq,Instr.sureAddr,Sem.run_bind,Sem.run_pure,Result.andThen_ok,hr]
theorem stV_rep {ρ : Nat → AV} {x : AO} {y : Operand} {vs : List AV} {us : Array Value} (ho : okO num x y = true) (hc : cellsOf (val ρ x) = some vs) (hu : us = (a.eval y).cells)
  (hvs : ∀ (i : Nat) (c : AV),vs[i]? = some c → ∃ u,us[i]? = some u ∧ u.oneCell' = true ∧ RepV num β w m c u) :
  ∀ (i : Nat) (c : AV),(stV x vs)[i]? = some c → ∃ u,us[i]? = some u ∧ u.oneCell' = true ∧ RepV num β w m c u ∧ ∀ p ν,OwnV w m ν p c u := by
 intro i c hi
 unfold stV at hi
 split at hi
 ·rename_i z vs
  cases y <;> try (simp [okO] at ho; done)
  rename_i u
  simp only [okO,constOk] at ho
  have h1 : ∀ ν,_ := fun ν => constCell_rep (num := num) (β := β) (w := w) (m := m) (ν := ν) ho
  simp [val,cellsOf,AV.one,AV.strip] at hc
  subst hc
  match i with
  | 0 =>
   simp at hi
   subst hi
   obtain ⟨v,g1,g2,g3⟩ := hvs 0 _ rfl
   have h4 : (a.eval (.const u)).cells = #[u] := by
    have := (h1 fun _ => none).2.1
    show u.cells = #[u]
    cases u <;> first | rfl | simp [Value.oneCell'] at this
   refine ⟨u,by rw [hu,h4]; rfl,(h1 fun _ => none).2.1,(h1 fun _ => none).1,fun p ν => (h1 ν).2.2 p⟩
  | i + 1 => simp at hi
 ·obtain ⟨d,hd,rfl⟩ := map_strip_get hi
  obtain ⟨u,g,k1,k2⟩ := hvs i d hd
  exact ⟨u,g,k1,by rw [RepV_strip]; exact k2,fun p ν => OwnV_strip _ _ _⟩
theorem ex_stf [Dr] {s q off sz : Nat} {x : AO} {y : Operand} {t : TypeId} (hI : Inv num N w0 m0 T β0 σ a w m β ν) (ho : o.op = .store t (.tmp q) y) (hs : sizeIs P t sz = true) (hxy : okO num x y = true)
  (hp : PtrAt a q s off ∨ (q = s ∧ off = 0)) (he : exec K (.stf s off sz x) σ = some (v,σ1)) (h : ∀ w' m' β' ν',Inv num N w0 m0 T β0 σ1 a w' m' β' ν' → v = .undef → next (a.put o.dst undef) w') :
  o.wp P a w next Q := by
 simp only [exec] at he
 split at he
 ·rename_i cs hcs
  cases hc : cellsOf (val σ.env x) with
  | none => rw [hc] at he; cases he
  | some vs =>
   rw [hc] at he
   simp only [Option.bind_some] at he
   split at he
   ·rename_i hsz
    injection he with he
    injection he with h1 h2
    subst h1 h2
    obtain ⟨hz1,hl⟩ := hsz
    have hv := (hI.val hxy (ok_of_cells hc)).1
    obtain ⟨_,hz,hvs⟩ := cellsOf_rep hc hv
    obtain ⟨b0,cur0,e0,hx0,hq,hb0,hz0,hcur0⟩ := hI.box_at hcs hp
    obtain ⟨b,cur,e,hxb,hb,hzc,hcur,hfin⟩ := hI.setBox (cs' := put cs off (stV x vs)) s hcs hx0
    injection hxb with hxb
    injection hxb with hxb
    injection hxb with hxb
    subst hxb
    have hrun := run_storeVar_at (w := w) (off := off) hs hb (hz.trans hz1) (by omega) (cells_one hz hvs)
    have hex := store_run ho hq hrun
    refine wp_skipv hex (h _ m β _ (hfin id _ (fun _ => rfl) (fun _ _ => rfl) (fun _ => rfl) (fun _ _ => rfl) ?_ ?_) rfl)
    ·exact (put_row (vs := stV x vs) (Nat.le_of_eq hzc.symm) (by rw [stV_length]; exact hl) (by rw [Array.length_toList,hz,stV_length]) (R := fun _ _ _ => True) (S := fun _ _ _ => True) (fun i c hi => by obtain ⟨u,g,_⟩ := hcur i c hi; exact ⟨u,g,trivial⟩)
      (fun i c hi => by obtain ⟨u,g,_⟩ := stV_rep (ρ := σ.env) (a := a) hxy hc rfl hvs i c hi; exact ⟨u,by simpa using g,trivial⟩)).1.trans (by rw [put_length _ _ _ (by rw [stV_length]; exact hl)]; exact hzc)
    ·intro i c hi
     obtain ⟨u,g1,g2⟩ := (put_row (vs := stV x vs) (Nat.le_of_eq hzc.symm) (by rw [stV_length]; exact hl) (by rw [Array.length_toList,hz,stV_length]) (R := fun i c u => u.oneCell' = true ∧ RepV num β w m c u ∧ OwnV w m ν (.c s i) c u)
      (S := fun _ c u => u.oneCell' = true ∧ RepV num β w m c u ∧ ∀ p,OwnV w m ν p c u) hcur
      (fun i c hi => by obtain ⟨u,g,k1,k2,k3⟩ := stV_rep (ρ := σ.env) (a := a) hxy hc rfl hvs i c hi; exact ⟨u,by simpa using g,k1,k2,fun p => k3 p ν⟩)).2 i c hi
     refine ⟨u,g1,?_⟩
     have hne : ν b0 ≠ some (.c s i) := by
      obtain ⟨_,h2⟩ := hI.at_ (n := s) (by rw [hcs]; simp)
      have h3 := hI.slots s _ h2
      rw [hcs] at h3
      obtain ⟨b2,hxb2,_,_,_,_,_,hν,_⟩ := h3
      rw [h2] at hx0
      injection hx0 with hx0
      rw [hxb2] at hx0
      injection hx0 with hx0
      injection hx0 with hx0
      injection hx0 with hx0
      subst hx0
      rw [hν]; simp
     rcases g2 with ⟨k1,k2,k3⟩ | ⟨_,_,k1,k2,k3⟩
     ·exact ⟨k1,k2,_,k3,rfl,hne⟩
     ·exact ⟨k1,k2,.c s i,k3 _,rfl,hne⟩
   ·cases he
 ·cases he
theorem nilC_rep {c z : AV} {u : Value} (h : RepV num β w m c u) : RepV num β w m (nilC c z) u ∧ ∀ p ν,OwnV w m ν p (nilC c z) u := by
 unfold nilC
 split
 ·rename_i i o k
  simp only [RepV] at h ⊢
  obtain ⟨a,cap,rfl,h2,h3,h4⟩ := h
  have hc : cap = 0 := by
   rcases h4 with h4 | ⟨_,_,_,_,h5⟩
   ·exact h4.2.1
   ·omega
  subst hc
  exact ⟨⟨a,0,0,rfl,rfl,h2,h3,.inl trivial⟩,fun p ν => .inl ⟨a,rfl⟩⟩
 ·exact ⟨by rw [RepV_strip]; exact h,fun p ν => OwnV_strip _ _ _⟩
theorem nilCs_get : ∀ (vs zs : List AV) (i : Nat) (c : AV),(nilCs vs zs)[i]? = some c → ∃ d,vs[i]? = some d ∧ (c = d.strip ∨ ∃ z,c = nilC d z)
 | [],_,i,c,h => by simp [nilCs] at h
 | v :: vs,[],0,c,h => ⟨v,rfl,.inl (by simpa [nilCs] using h.symm)⟩
 | v :: vs,[],i + 1,c,h => by
  obtain ⟨d,h1,h2⟩ := nilCs_get vs [] i c (by simpa [nilCs] using h)
  exact ⟨d,by simpa using h1,h2⟩
 | v :: vs,z :: zs,0,c,h => ⟨v,rfl,.inr ⟨z,by simpa [nilCs] using h.symm⟩⟩
 | v :: vs,z :: zs,i + 1,c,h => by
  obtain ⟨d,h1,h2⟩ := nilCs_get vs zs i c (by simpa [nilCs] using h)
  exact ⟨d,by simpa using h1,h2⟩
theorem nilCs_rep {us : Array Value} (vs zs : List AV) (h : ∀ (i : Nat) (c : AV),vs[i]? = some c → ∃ u,us[i]? = some u ∧ u.oneCell' = true ∧ RepV num β w m c u) (i : Nat) (c : AV) (hc : (nilCs vs zs)[i]? = some c) :
  ∃ u,us[i]? = some u ∧ u.oneCell' = true ∧ RepV num β w m c u ∧ ∀ p ν,OwnV w m ν p c u := by
 obtain ⟨d,h1,h2⟩ := nilCs_get vs zs i c hc
 obtain ⟨u,g1,g2,g3⟩ := h i d h1
 rcases h2 with rfl | ⟨z,rfl⟩
 ·exact ⟨u,g1,g2,by rw [RepV_strip]; exact g3,fun p ν => OwnV_strip _ _ _⟩
 ·exact ⟨u,g1,g2,(nilC_rep g3).1,(nilC_rep g3).2⟩
theorem ex_stn [Dr] {s q off sz : Nat} {x : AO} {zs : List AV} {y : Operand} {t : TypeId} (hI : Inv num N w0 m0 T β0 σ a w m β ν) (ho : o.op = .store t (.tmp q) y) (hs : sizeIs P t sz = true) (hxy : okO num x y = true)
  (hp : PtrAt a q s off ∨ (q = s ∧ off = 0)) (he : exec K (.stn s off sz x zs) σ = some (v,σ1)) (h : ∀ w' m' β' ν',Inv num N w0 m0 T β0 σ1 a w' m' β' ν' → v = .undef → next (a.put o.dst undef) w') :
  o.wp P a w next Q := by
 simp only [exec] at he
 split at he
 ·rename_i cs hcs
  cases hc : cellsOf (val σ.env x) with
  | none => rw [hc] at he; cases he
  | some vs =>
   rw [hc] at he
   simp only [Option.bind_some] at he
   split at he
   ·rename_i hsz
    injection he with he
    injection he with h1 h2
    subst h1 h2
    obtain ⟨hz1,hl⟩ := hsz
    have hv := (hI.val hxy (ok_of_cells hc)).1
    obtain ⟨_,hz,hvs⟩ := cellsOf_rep hc hv
    obtain ⟨b0,cur0,e0,hx0,hq,hb0,hz0,hcur0⟩ := hI.box_at hcs hp
    obtain ⟨b,cur,e,hxb,hb,hzc,hcur,hfin⟩ := hI.setBox (cs' := put cs off (nilCs vs zs)) s hcs hx0
    injection hxb with hxb
    injection hxb with hxb
    injection hxb with hxb
    subst hxb
    have hrun := run_storeVar_at (w := w) (off := off) hs hb (hz.trans hz1) (by omega) (cells_one hz hvs)
    have hex := store_run ho hq hrun
    refine wp_skipv hex (h _ m β _ (hfin id _ (fun _ => rfl) (fun _ _ => rfl) (fun _ => rfl) (fun _ _ => rfl) ?_ ?_) rfl)
    ·exact (put_row (vs := nilCs vs zs) (Nat.le_of_eq hzc.symm) (by rw [nilCs_length]; exact hl) (by rw [Array.length_toList,hz,nilCs_length]) (R := fun _ _ _ => True) (S := fun _ _ _ => True) (fun i c hi => by obtain ⟨u,g,_⟩ := hcur i c hi; exact ⟨u,g,trivial⟩)
      (fun i c hi => by obtain ⟨u,g,_⟩ := nilCs_rep vs zs (fun i c hi => hvs i c hi) i c hi; exact ⟨u,by simpa using g,trivial⟩)).1.trans (by rw [put_length _ _ _ (by rw [nilCs_length]; exact hl)]; exact hzc)
    ·intro i c hi
     obtain ⟨u,g1,g2⟩ := (put_row (vs := nilCs vs zs) (Nat.le_of_eq hzc.symm) (by rw [nilCs_length]; exact hl) (by rw [Array.length_toList,hz,nilCs_length]) (R := fun i c u => u.oneCell' = true ∧ RepV num β w m c u ∧ OwnV w m ν (.c s i) c u)
      (S := fun _ c u => u.oneCell' = true ∧ RepV num β w m c u ∧ ∀ p,OwnV w m ν p c u) hcur
      (fun i c hi => by obtain ⟨u,g,k1,k2,k3⟩ := nilCs_rep vs zs (fun i c hi => hvs i c hi) i c hi; exact ⟨u,by simpa using g,k1,k2,fun p => k3 p ν⟩)).2 i c hi
     refine ⟨u,g1,?_⟩
     have hne : ν b0 ≠ some (.c s i) := by
      obtain ⟨_,h2⟩ := hI.at_ (n := s) (by rw [hcs]; simp)
      have h3 := hI.slots s _ h2
      rw [hcs] at h3
      obtain ⟨b2,hxb2,_,_,_,_,_,hν,_⟩ := h3
      rw [h2] at hx0
      injection hx0 with hx0
      rw [hxb2] at hx0
      injection hx0 with hx0
      injection hx0 with hx0
      injection hx0 with hx0
      subst hx0
      rw [hν]; simp
     rcases g2 with ⟨k1,k2,k3⟩ | ⟨_,_,k1,k2,k3⟩
     ·exact ⟨k1,k2,_,k3,rfl,hne⟩
     ·exact ⟨k1,k2,.c s i,k3 _,rfl,hne⟩
   ·cases he
 ·cases he
theorem ex_st [Dr] {p sz : Nat} {x : AO} {y : Operand} {t : TypeId} (hI : Inv num N w0 m0 T β0 σ a w m β ν) (ho : o.op = .store t (.tmp p) y) (hs : sizeIs P t sz = true) (hxy : okO num x y = true)
  (he : exec K (.st p sz x) σ = some (v,σ1)) (h : ∀ w' m' β' ν',Inv num N w0 m0 T β0 σ1 a w' m' β' ν' → v = .undef → next (a.put o.dst undef) w') :
  o.wp P a w next Q := by
 simp only [exec] at he
 split at he
 ·rename_i i0 off hcs
  cases hbs : σ.bs[i0]? with
  | none => rw [hbs] at he; cases he
  | some cs =>
   rw [hbs] at he
   simp only [Option.bind_some] at he
   cases hc : cellsOf (val σ.env x) with
   | none => rw [hc] at he; cases he
   | some vs =>
    rw [hc] at he
    simp only [Option.bind_some] at he
    split at he
    ·rename_i hsz
     injection he with he
     injection he with h1 h2
     subst h1 h2
     obtain ⟨hz1,hl,h0⟩ := hsz
     have hv := (hI.val hxy (ok_of_cells hc)).1
     obtain ⟨_,hz,hvs⟩ := cellsOf_rep hc hv
     obtain ⟨_,h2⟩ := hI.at_ (n := p) (by rw [hcs]; simp)
     have h3 := hI.slots p _ h2
     rw [hcs] at h3
     obtain ⟨h3,_⟩ := h3
     simp only [RepV] at h3
     obtain ⟨⟨b,z,mp⟩,h4,h5⟩ := h3
     have hq : a.eval (.tmp p) = .pointer (some ⟨b,off,none⟩) := h5
     have hne0 : cs ≠ [] := fun e => by rw [e] at hl; simp only [List.length_nil] at hl; omega
     obtain ⟨cur,e,hb,⟨hzc,hzl⟩,hcur,hfin⟩ := hI.setG (cs' := put cs off (vs.map AV.strip)) i0 hbs h4 hne0
     simp only at hb hzc hzl
     have hrun := run_storeVar_at (w := w) (off := off) hs hb (hz.trans hz1) (by omega) (cells_one hz hvs)
     have hex := store_run ho hq hrun
     refine wp_skipv hex (h _ m β _ (hfin id _ (fun _ => rfl) (fun _ _ => rfl) (fun _ => rfl) (fun _ _ => rfl) ?_ ?_ ?_) rfl)
     ·exact (put_row (cs := cs) (vs := vs.map AV.strip) (by omega) (by simpa using hl) (by rw [Array.length_toList,hz]; simp) (R := fun _ _ _ => True) (S := fun _ _ _ => True) (fun i c hi => by obtain ⟨u,g,_⟩ := hcur i c hi; exact ⟨u,g,trivial⟩)
       (fun i c hi => by obtain ⟨d,hd,_⟩ := map_strip_get hi; obtain ⟨u,g,_⟩ := hvs i d hd; exact ⟨u,by simpa using g,trivial⟩)).1.trans hzc
     ·rw [put_length _ _ _ (by simpa using hl)]; exact hzl
     ·intro i c hi
      obtain ⟨u,g1,g2⟩ := (put_row (vs := vs.map AV.strip) (by omega) (by simpa using hl) (by rw [Array.length_toList,hz]; simp) (R := fun i c u => u.oneCell' = true ∧ RepV num β w m c u ∧ OwnV w m ν (.gc i0 i) c u)
       (S := fun _ c u => u.oneCell' = true ∧ RepV num β w m c u ∧ ∀ p,OwnV w m ν p c u) hcur
       (fun i c hi => by obtain ⟨d,hd,rfl⟩ := map_strip_get hi; obtain ⟨u,g,k1,k2⟩ := hvs i d hd; exact ⟨u,by simpa using g,k1,by rw [RepV_strip]; exact k2,fun p => OwnV_strip _ _ _⟩)).2 i c hi
      refine ⟨u,g1,?_⟩
      have hne : ν b ≠ some (.gc i0 i) := by
       obtain ⟨_,_,_,_,_,hν,_⟩ := (hI.boxes i0 cs _ hbs h4.1 hne0).1 h4.2
       rw [hν]; simp
      rcases g2 with ⟨k1,k2,k3⟩ | ⟨_,_,k1,k2,k3⟩
      ·exact ⟨k1,k2,_,k3,rfl,hne⟩
      ·exact ⟨k1,k2,.gc i0 i,k3 _,rfl,hne⟩
    ·cases he
 ·cases he
theorem ex_stfm [Dr] {s q off n : Nat} {t : TypeId} (hI : Inv num N w0 m0 T β0 σ a w m β ν) (ho : o.op = .store t (.tmp q) (.tmp n)) (hs : sizeIs P t 1 = true)
  (hp : PtrAt a q s off ∨ (q = s ∧ off = 0)) (he : exec K (.stfm s off n) σ = some (v,σ1)) (h : ∀ w' m' β' ν',Inv num N w0 m0 T β0 σ1 a w' m' β' ν' → v = .undef → next (a.put o.dst undef) w') :
  o.wp P a w next Q := by
 simp only [exec] at he
 split at he
 ·rename_i cs hcs
  split at he
  ·rename_i hsz
   injection he with he
   injection he with h1 h2
   subst h1 h2
   obtain ⟨hsn,h1n,hl⟩ := hsz
   obtain ⟨_,hn2⟩ := hI.at_ (n := n) (fun e => by rw [e] at h1n; cases h1n)
   have hn3 := hI.slots n _ hn2
   rw [SlotV_ok (one_ok h1n)] at hn3
   have hI2 := hI.takeSlot n
   have hcs2 : ({ σ with env := upd σ.env n .undef } : St).env s = .bx cs := by simp only [upd]; rw [if_neg hsn]; exact hcs
   obtain ⟨b0,cur0,e0,hx0,hq,hb0,hz0,hcur0⟩ := hI.box_at hcs hp
   obtain ⟨b,cur,e,hxb,hb,hzc,hcur,hfin⟩ := hI2.setBox (cs' := cs.set off (σ.env n)) s hcs2 hx0
   injection hxb with hxb
   injection hxb with hxb
   injection hxb with hxb
   subst hxb
   have h1 : (a.eval (.tmp n)).oneCell' = true := oneCell_of h1n hn3.1
   have hce : (a.eval (.tmp n)).cells = #[a.eval (.tmp n)] := by
    cases hu : a.eval (.tmp n) <;> first | rfl | (rw [hu] at h1; simp [Value.oneCell'] at h1)
   have hrun := run_storeVar_at (w := w) (off := off) hs hb (u := a.eval (.tmp n)) (by rw [hce]; rfl) (by omega) (by rw [hce]; simpa using h1)
   have hνb : ownMap ν (mv (.s n) .f) b0 = some (.s s) := by
    obtain ⟨_,h2⟩ := hI2.at_ (n := s) (by rw [hcs2]; simp)
    have h3 := hI2.slots s _ h2
    rw [hcs2] at h3
    obtain ⟨b2,hxb2,_,_,_,_,_,hν,_⟩ := h3
    rw [h2] at hx0
    injection hx0 with hx0
    rw [hxb2] at hx0
    injection hx0 with hx0
    injection hx0 with hx0
    injection hx0 with hx0
    subst hx0
    exact hν
   have hown : OwnV w m (ownMap ν (mv (.s n) .f)) .f (σ.env n) (a.eval (.tmp n)) := by
    have := OwnV_map (θ := mv (.s n) .f) hn3.2
    rwa [show mv (.s n) .f (.s n) = .f by simp [mv]] at this
   have hex := store_run ho hq hrun
   refine wp_skipv hex (h _ m β _ (hfin (mv .f (.c s off)) _ (fun _ => by simp [mv]) (fun _ _ => by simp [mv]) (fun _ => by simp [mv]) (fun _ _ => by simp [mv]) ?_ ?_) rfl)
   ·rw [hce,List.size_toArray,put_len _ _ _ (by simp; omega)]
    simpa using hzc
   ·intro i c hi
    rw [hce,List.getElem?_toArray,put_get _ _ _ (by simp; omega)]
    rw [List.getElem?_set] at hi
    split at hi
    ·rename_i hio
     subst hio
     injection hi with hi
     subst hi
     refine ⟨a.eval (.tmp n),by rw [if_neg (by omega),if_pos (by simp)]; simp,h1,hn3.1,.f,hown,by simp [mv],by rw [hνb]; simp⟩
    ·rename_i hio
     obtain ⟨u,g1,g2,g3,g4⟩ := hcur i c hi
     refine ⟨u,?_,g2,g3,.c s i,g4,by simp [mv],by rw [hνb]; simp⟩
     simp only [List.length_singleton]
     split
     ·simpa using g1
     ·rw [if_neg (by omega)]; simpa using g1
  ·cases he
 ·cases he
theorem ex_stm [Dr] {p n : Nat} {t : TypeId} (hI : Inv num N w0 m0 T β0 σ a w m β ν) (ho : o.op = .store t (.tmp p) (.tmp n)) (hs : sizeIs P t 1 = true)
  (he : exec K (.stm p n) σ = some (v,σ1)) (h : ∀ w' m' β' ν',Inv num N w0 m0 T β0 σ1 a w' m' β' ν' → v = .undef → next (a.put o.dst undef) w') :
  o.wp P a w next Q := by
 simp only [exec] at he
 split at he
 ·rename_i i0 off hcs
  cases hbs : σ.bs[i0]? with
  | none => rw [hbs] at he; cases he
  | some cs =>
   rw [hbs] at he
   simp only [Option.bind_some] at he
   split at he
   ·rename_i hsz
    injection he with he
    injection he with h1 h2
    subst h1 h2
    obtain ⟨h1n,hl⟩ := hsz
    obtain ⟨_,hn2⟩ := hI.at_ (n := n) (fun e => by rw [e] at h1n; cases h1n)
    have hn3 := hI.slots n _ hn2
    rw [SlotV_ok (one_ok h1n)] at hn3
    obtain ⟨_,h2⟩ := hI.at_ (n := p) (by rw [hcs]; simp)
    have h3 := hI.slots p _ h2
    rw [hcs] at h3
    obtain ⟨h3,_⟩ := h3
    simp only [RepV] at h3
    obtain ⟨⟨b,z,mp⟩,h4,h5⟩ := h3
    have hq : a.eval (.tmp p) = .pointer (some ⟨b,off,none⟩) := h5
    have hI2 := hI.takeSlot n
    have hne0 : cs ≠ [] := fun e => by rw [e] at hl; simp at hl
    obtain ⟨cur,e,hb,⟨hzc,hzl⟩,hcur,hfin⟩ := hI2.setG (cs' := cs.set off (σ.env n)) i0 hbs h4 hne0
    simp only at hb hzc hzl
    have h1 : (a.eval (.tmp n)).oneCell' = true := oneCell_of h1n hn3.1
    have hce : (a.eval (.tmp n)).cells = #[a.eval (.tmp n)] := by
     cases hu : a.eval (.tmp n) <;> first | rfl | (rw [hu] at h1; simp [Value.oneCell'] at h1)
    have hrun := run_storeVar_at (w := w) (off := off) hs hb (u := a.eval (.tmp n)) (by rw [hce]; rfl) (by omega) (by rw [hce]; simpa using h1)
    have hνb : ownMap ν (mv (.s n) .f) b = some (.g i0) := by
     obtain ⟨_,_,_,_,_,hν,_⟩ := (hI2.boxes i0 cs _ hbs h4.1 hne0).1 h4.2
     exact hν
    have hown : OwnV w m (ownMap ν (mv (.s n) .f)) .f (σ.env n) (a.eval (.tmp n)) := by
     have := OwnV_map (θ := mv (.s n) .f) hn3.2
     rwa [show mv (.s n) .f (.s n) = .f by simp [mv]] at this
    have hex := store_run ho hq hrun
    refine wp_skipv hex (h _ m β _ (hfin (mv .f (.gc i0 off)) _ (fun _ => by simp [mv]) (fun _ _ => by simp [mv]) (fun _ => by simp [mv]) (fun _ _ => by simp [mv]) ?_ ?_ ?_) rfl)
    ·rw [hce,List.size_toArray,put_len _ _ _ (by simp; omega)]
     simpa using hzc
    ·simpa using hzl
    ·intro i c hi
     rw [hce,List.getElem?_toArray,put_get _ _ _ (by simp; omega)]
     rw [List.getElem?_set] at hi
     split at hi
     ·rename_i hio
      subst hio
      injection hi with hi
      subst hi
      refine ⟨a.eval (.tmp n),by rw [if_neg (by omega),if_pos (by simp)]; simp,h1,hn3.1,.f,hown,by simp [mv],by rw [hνb]; simp⟩
     ·rename_i hio
      obtain ⟨u,g1,g2,g3,g4⟩ := hcur i c hi
      refine ⟨u,?_,g2,g3,.gc i0 i,g4,by simp [mv],by rw [hνb]; simp⟩
      simp only [List.length_singleton]
      split
      ·simpa using g1
      ·rw [if_neg (by omega)]; simpa using g1
   ·cases he
 ·cases he
end
end Go.Am
