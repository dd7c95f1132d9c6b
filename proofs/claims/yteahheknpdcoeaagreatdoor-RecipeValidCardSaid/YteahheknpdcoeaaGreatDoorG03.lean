/-
  Am8.
-/
import Derived.Test.YteahheknpdcoeaaGreatDoorG02
set_option linter.unusedVariables false
set_option linter.unusedSimpArgs false
namespace Go.Am
def boolT (P : Program) (t : TypeId) : Bool := match P.underlying t with
 | some .bool => true
 | _ => false
def ifaceT (P : Program) (t : TypeId) : Bool := match P.underlying t with
 | some (.interface _) => true
 | _ => false
def strT (P : Program) (t : TypeId) : Bool := match P.underlying t with
 | some .string => true
 | _ => false
def slT (P : Program) (t : TypeId) : Bool := match P.underlying t with
 | some (.slice _) => true
 | _ => false
def elemIs (P : Program) (t : TypeId) (sz : Nat) : Bool := match P.underlying t with
 | some (.slice e) => sizeIs P e sz
 | _ => false
def intT (P : Program) (src dst : TypeId) (k : IntKind) : Bool := match P.underlying src, P.underlying dst with
 | some _, some (.int k') => decide (k = k')
 | _, _ => false
theorem boolT_of {P : Program} {t : TypeId} (h : boolT P t = true) : P.underlying t = some .bool := by
 unfold boolT at h
 split at h
 ·assumption
 ·cases h
theorem strT_of {P : Program} {t : TypeId} (h : strT P t = true) : P.underlying t = some .string := by
 unfold strT at h
 split at h
 ·assumption
 ·cases h
theorem ifaceT_of {P : Program} {t : TypeId} (h : ifaceT P t = true) : ∃ ms, P.underlying t = some (.interface ms) := by
 unfold ifaceT at h
 split at h
 ·exact ⟨_, by assumption⟩
 ·cases h
theorem slT_of {P : Program} {t : TypeId} (h : slT P t = true) : ∃ e, P.underlying t = some (.slice e) := by
 unfold slT at h
 split at h
 ·exact ⟨_, by assumption⟩
 ·cases h
section
variable {P : Program} {num : Nat → Option Nat} {β : List Blk} {w w' : World} {m : Nat → Nat} {ν : Own} {N : Nat} {w0 : World} {m0 : Nat → Nat} {T : Nat → Prop} {β0 : List Blk} {σ σ1 : St} {a : Act}
 {o : Oper} {next : Act → World → Prop} {Q : Exit → Act → World → Prop} {K : CallF} {v : AV}
theorem abin_ok {op : BinOp} {X Y : AV} (h : abin op X Y = some v) : X.ok = true ∧ Y.ok = true := by
 unfold abin at h
 split at h <;> first | exact ⟨rfl, rfl⟩ | cases h
theorem abin_run {op : BinOp} {X Y : AV} {u u' : Value} {t : TypeId} {xo yo : Operand} (h : abin op X Y = some v) (hx : RepV num β w m X u) (hy : RepV num β w m Y u') :
  ∃ r, ((do eqGuard op t xo yo u u'; binOp op t u u') : Sem Value).run P w = .ok r w ∧ v.ok = true ∧ RepV num β w m v r ∧ ∀ p, OwnV w m ν p v r := by
 unfold abin at h
 split at h <;> (try simp only [RepV] at hx hy) <;> (try subst hx) <;> (try subst hy)
 all_goals try (cases h; done)
 all_goals try split at h
 all_goals try (cases h; done)
 all_goals (injection h with h; subst h)
 all_goals first
  | (rename_i hk; refine ⟨_, ?_, rfl, by simp only [toI, RepV]; rfl, fun _ => trivial⟩; simp [go_sem, shift_shr_any _ _ _ _ hk]; done)
  | (rename_i hk; refine ⟨_, ?_, rfl, by simp only [toI, RepV]; rfl, fun _ => trivial⟩; simp [go_sem, shift_shl_any _ _ _ _ hk]; done)
  | (rename_i hk; obtain ⟨rfl, hb⟩ := hk; refine ⟨_, ?_, rfl, by simp only [toI, RepV]; rfl, fun _ => trivial⟩; simp [go_sem, Op.intDiv, hb]; done)
  | (rename_i hk; subst hk; refine ⟨_, ?_, rfl, by simp only [toI, RepV]; rfl, fun _ => trivial⟩; simp [go_sem, Op.intArith]; done)
  | (rename_i hk; subst hk; refine ⟨_, ?_, rfl, by simp only [toI, RepV]; rfl, fun _ => trivial⟩; simp [go_sem, Op.intBits]; done)
  | (rename_i hk; refine ⟨_, ?_, rfl, by simp only [RepV]; rfl, fun _ => trivial⟩; simp [go_sem, binOp, Op.stringOp]; rw [if_neg (by omega), ByteArray.mk_append_mk]; done)
  | (refine ⟨_, ?_, rfl, by simp only [RepV]; rfl, fun _ => trivial⟩; simp [go_sem, binOp, Op.stringOp]; done)
theorem ex_bin [Dr] {op : BinOp} {x y : AO} {x' y' : Operand} {t t2 : TypeId} (hI : Inv num N w0 m0 T β0 σ a w m β ν) (ho : o.op = .binOp op t x' y' t2) (hx : okO num x x' = true) (hy : okO num y y' = true)
  (he : exec K (.bin op x y) σ = some (v, σ1)) (h : Aft num N w0 m0 T β0 σ1 a v fun u w' => next (a.put o.dst u) w') : o.wp P a w next Q := by
 simp only [exec] at he
 cases hr : abin op (val σ.env x) (val σ.env y) with
 | none => rw [hr] at he; cases he
 | some v2 =>
  rw [hr] at he
  injection he with he
  injection he with h1 h2
  subst h1 h2
  obtain ⟨k1, k2⟩ := abin_ok hr
  obtain ⟨r, g1, g2, g3, g4⟩ := abin_run (P := P) (ν := ν) (t := t) (xo := x') (yo := y') hr (hI.val hx k1).1 (hI.val hy k2).1
  refine wp_value (u := r) (w' := w) ?_ (h.same hI g2 g3 (g4 _))
  simp only [execOp, ho, Sem.run_bind] at g1 ⊢
  rw [g1]
  rfl
theorem ex_eqb [Dr] {ne : Bool} {x y : AO} {x' y' : Operand} {t t2 : TypeId} (hI : Inv num N w0 m0 T β0 σ a w m β ν) (ho : o.op = .binOp (if ne then .neq else .eql) t x' y' t2) (ht : boolT P t = true) (hx : okO num x x' = true) (hy : okO num y y' = true)
  (he : exec K (.eqb ne x y) σ = some (v, σ1)) (h : Aft num N w0 m0 T β0 σ1 a v fun u w' => next (a.put o.dst u) w') : o.wp P a w next Q := by
 simp only [exec] at he
 split at he
 ·rename_i A B hA hB
  injection he with he
  injection he with h1 h2
  subst h1 h2
  have g1 := (hI.val hx (by rw [hA]; rfl)).1
  have g2 := (hI.val hy (by rw [hB]; rfl)).1
  rw [hA] at g1
  rw [hB] at g2
  simp only [RepV] at g1 g2
  have hu := boolT_of ht
  refine wp_value (u := .bool (if ne then !(A == B) else A == B)) (w' := w) ?_ (h.same hI rfl (by simp only [RepV]) trivial)
  have hq : ∀ d, (Op.equalIn (d + 1) t (.bool A) (.bool B)).run P w = .ok (A == B) w := fun d => by
   simp only [Op.equalIn, Sem.run_bind, run_underlying hu, Result.andThen_ok, Sem.run_pure]
  have hq2 : (Op.equal t (.bool A) (.bool B)).run P w = .ok (A == B) w := hq 9999
  cases ne
  ·simp only [Bool.false_eq_true, if_false] at ho ⊢
   simp only [execOp, ho, g1, g2, eqGuard_at_bool, binOp, Sem.run_bind, Sem.run_pure, Result.andThen_ok, hq2]
  ·simp only [if_true] at ho ⊢
   simp only [execOp, ho, g1, g2, eqGuard_at_bool, binOp, Sem.run_bind, Sem.run_pure, Result.andThen_ok, hq2]
 ·cases he
theorem ex_eqn [Dr] {ne : Bool} {x : AO} {x' : Operand} {t t2 : TypeId} (hI : Inv num N w0 m0 T β0 σ a w m β ν) (ho : o.op = .binOp (if ne then .neq else .eql) t x' (.const .nilIface) t2) (ht : ifaceT P t = true) (hx : okO num x x' = true)
  (he : exec K (.eqn ne x) σ = some (v, σ1)) (h : Aft num N w0 m0 T β0 σ1 a v fun u w' => next (a.put o.dst u) w') : o.wp P a w next Q := by
 simp only [exec] at he
 split at he
 ·rename_i A hA
  injection he with he
  injection he with h1 h2
  subst h1 h2
  have g1 := (hI.val hx (by rw [hA]; rfl)).1
  rw [hA] at g1
  simp only [RepV] at g1
  obtain ⟨ms, hu⟩ := ifaceT_of ht
  refine wp_value (u := .bool (if ne then !A else A)) (w' := w) ?_ (h.same hI rfl (by simp only [RepV]) trivial)
  have hc : a.eval (.const .nilIface) = .nilIface := rfl
  rcases g1 with ⟨rfl, g1⟩ | ⟨rfl, t3, x3, g1⟩
  ·have hq : ∀ d, (Op.equalIn (d + 1) t .nilIface .nilIface).run P w = .ok true w := fun d => by
    simp only [Op.equalIn, Sem.run_bind, run_underlying hu, Result.andThen_ok, Sem.run_pure]
   have hq2 : (Op.equal t .nilIface .nilIface).run P w = .ok true w := hq 9999
   cases ne
   ·simp only [Bool.false_eq_true, if_false] at ho ⊢
    simp only [execOp, ho, g1, hc, eqGuard_nil_constR, binOp, Sem.run_bind, Sem.run_pure, Result.andThen_ok, hq2]
   ·simp only [if_true] at ho ⊢
    simp only [execOp, ho, g1, hc, eqGuard_nil_constR, binOp, Sem.run_bind, Sem.run_pure, Result.andThen_ok, hq2]
  ·have hq : ∀ d, (Op.equalIn (d + 1) t (.iface t3 x3) .nilIface).run P w = .ok false w := fun d => by
    simp only [Op.equalIn, Sem.run_bind, run_underlying hu, Result.andThen_ok, Sem.run_pure]
   have hq2 : (Op.equal t (.iface t3 x3) .nilIface).run P w = .ok false w := hq 9999
   cases ne
   ·simp only [Bool.false_eq_true, if_false] at ho ⊢
    simp only [execOp, ho, g1, hc, eqGuard_at_iface, binOp, Sem.run_bind, Sem.run_pure, Result.andThen_ok, hq2]
   ·simp only [if_true] at ho ⊢
    simp only [execOp, ho, g1, hc, eqGuard_at_iface, binOp, Sem.run_bind, Sem.run_pure, Result.andThen_ok, hq2]
 ·cases he
def flatT (P : Program) : Nat → List Nat → List Field → Bool
 | _, [], [] => true
 | i, k :: ks, f :: fs => decide (f.name ≠ "_") && decide (f.offset = i) && (match P.underlying f.type, k with
  | some (.int _), 0 => true
  | some .bool, 1 => true
  | some .string, 2 => true
  | _, _ => false) && flatT P (i + 1) ks fs
 | _, _, _ => false
def eqaT (P : Program) (t : TypeId) (ks : List Nat) : Bool := (match P.underlying t with
 | some (.struct fs) => flatT P 0 ks fs.toList
 | _ => false) && !P.stoodInHeld t && !P.eqGuardType P.depth t
theorem run_eqFields (d : Nat) (xs ys : Array Value) : ∀ (fs : List Field) (i : Nat) (ks : List Nat) (cs ds : List AV) (b : Bool), flatT P i ks fs = true → eqCells ks cs ds = some b →
  (∀ (j : Nat) (c : AV), cs[j]? = some c → ∃ u, xs[i + j]? = some u ∧ RepV num β w m c u) → (∀ (j : Nat) (c : AV), ds[j]? = some c → ∃ u, ys[i + j]? = some u ∧ RepV num β w m c u) →
  (Op.eqFields (d + 1) xs ys fs).run P w = .ok b w
 | [], i, ks, cs, ds, b, hf, he, _, _ => by
  cases ks with
  | cons k ks => simp [flatT] at hf
  | nil =>
   cases cs with
   | cons c cs => simp [eqCells] at he
   | nil =>
    cases ds with
    | cons e ds => simp [eqCells] at he
    | nil => simp only [eqCells, Option.some.injEq] at he; subst he; rfl
 | f :: fs, i, [], cs, ds, b, hf, he, _, _ => by simp [flatT] at hf
 | f :: fs, i, k :: ks, [], ds, b, hf, he, _, _ => by simp [eqCells] at he
 | f :: fs, i, k :: ks, c :: cs, [], b, _, he, _, _ => by simp [eqCells] at he
 | f :: fs, i, k :: ks, c :: cs, e :: ds, b, hf, he, hx, hy => by
  simp only [flatT, Bool.and_eq_true, decide_eq_true_eq] at hf
  obtain ⟨⟨⟨h1, h2⟩, h3⟩, h4⟩ := hf
  subst h2
  simp only [eqCells] at he
  split at he
  ·rename_i b1 b2 e1 e2
   injection he with he
   subst he
   obtain ⟨u, hu1, hu2⟩ := hx 0 c rfl
   obtain ⟨v, hv1, hv2⟩ := hy 0 e rfl
   rw [Nat.add_zero] at hu1 hv1
   have hag : aggIs P f.type false = true := by
    unfold aggIs
    split at h3
    ·rename_i hun; rw [hun]; rfl
    ·rename_i hun; rw [hun]; rfl
    ·rename_i hun; rw [hun]; rfl
    ·cases h3
   have hp1 : (part f.type xs f.offset).run P w = .ok u w := by
    simp only [part, Sem.run_bind, run_isAgg hag, Result.andThen_ok, Bool.false_eq_true, if_false, hu1, Sem.run_pure]
   have hp2 : (part f.type ys f.offset).run P w = .ok v w := by
    simp only [part, Sem.run_bind, run_isAgg hag, Result.andThen_ok, Bool.false_eq_true, if_false, hv1, Sem.run_pure]
   have hq : (Op.equalIn (d + 1) f.type u v).run P w = .ok b1 w := by
    split at h3
    ·rename_i hun
     unfold eqCell at e1
     split at e1
     ·rename_i hk
      split at e1
      ·rename_i hk2
       subst hk2
       injection e1 with e1
       subst e1
       simp only [RepV] at hu2 hv2
       subst hu2 hv2
       exact run_equalIn_int w d _ _ _ _ _ hun
      ·cases e1
     ·rename_i hk; cases hk
     ·rename_i hk; cases hk
     ·cases e1
    ·rename_i hun
     unfold eqCell at e1
     split at e1
     ·rename_i hk; cases hk
     ·injection e1 with e1
      subst e1
      simp only [RepV] at hu2 hv2
      subst hu2 hv2
      exact run_equalIn_bool' w d _ _ _ hun
     ·rename_i hk; cases hk
     ·cases e1
    ·rename_i hun
     unfold eqCell at e1
     split at e1
     ·rename_i hk; cases hk
     ·rename_i hk; cases hk
     ·injection e1 with e1
      subst e1
      simp only [RepV] at hu2 hv2
      subst hu2 hv2
      rw [run_equalIn_string w d _ _ _ hun, ByteArray.toList_eq, ByteArray.toList_eq]
     ·cases e1
    ·cases h3
   simp only [Op.eqFields, h1, ne_eq, not_false_eq_true, if_true, Sem.run_bind, hp1, hp2, hq, Result.andThen_ok]
   cases b1
   ·rfl
   ·simp only [Bool.not_true, Bool.false_eq_true, if_false, Bool.true_and]
    exact run_eqFields d xs ys fs (f.offset + 1) ks cs ds b2 h4 e2 (fun j c hj => by rw [Nat.add_assoc, Nat.add_comm 1]; exact hx (j + 1) c (by simpa using hj))
     (fun j c hj => by rw [Nat.add_assoc, Nat.add_comm 1]; exact hy (j + 1) c (by simpa using hj))
  ·cases he
theorem ex_eqa [Dr] {ne : Bool} {ks : List Nat} {x y : AO} {x' y' : Operand} {t t2 : TypeId} (hI : Inv num N w0 m0 T β0 σ a w m β ν) (ho : o.op = .binOp (if ne then .neq else .eql) t x' y' t2) (ht : eqaT P t ks = true) (hx : okO num x x' = true) (hy : okO num y y' = true)
  (he : exec K (.eqa ne ks x y) σ = some (v, σ1)) (h : Aft num N w0 m0 T β0 σ1 a v fun u w' => next (a.put o.dst u) w') : o.wp P a w next Q := by
 simp only [exec] at he
 split at he
 ·rename_i cs ds hA hB
  cases hr : eqCells ks cs ds with
  | none => rw [hr] at he; cases he
  | some b =>
   rw [hr] at he
   injection he with he
   injection he with h1 h2
   subst h1 h2
   have g1 := (hI.val hx (by rw [hA]; rfl)).1
   have g2 := (hI.val hy (by rw [hB]; rfl)).1
   rw [hA] at g1
   rw [hB] at g2
   simp only [RepV] at g1 g2
   obtain ⟨us, g1, g3, g4⟩ := g1
   obtain ⟨vs, g2, g5, g6⟩ := g2
   rw [RepC_get] at g4 g6
   unfold eqaT at ht
   simp only [Bool.and_eq_true, Bool.not_eq_true'] at ht
   obtain ⟨⟨ht1, ht2⟩, ht3⟩ := ht
   split at ht1
   ·rename_i fs hun
    have hfs : P.fieldsOf t = fs := by unfold Program.fieldsOf; rw [hun]
    have hq : (Op.equalIn 10000 t (.agg us) (.agg vs)).run P w = .ok b w := by
     rw [run_equalIn_struct w 9999 t us vs (by rw [hfs]; exact hun) ht2, hfs]
     exact run_eqFields (num := num) (β := β) (m := m) 9998 us vs _ 0 ks cs ds b ht1 hr (fun j c hj => by obtain ⟨u, k1, _, k2⟩ := g4 j c hj; exact ⟨u, k1, k2⟩) (fun j c hj => by obtain ⟨u, k1, _, k2⟩ := g6 j c hj; exact ⟨u, k1, k2⟩)
    refine wp_value (u := .bool (if ne then !b else b)) (w' := w) ?_ (h.same hI rfl (by simp only [RepV]) trivial)
    cases ne
    ·simp only [Bool.false_eq_true, if_false] at ho ⊢
     simp only [execOp, ho, g1, g2, Sem.run_bind, run_eqGuard_agg w _ t x' y' us vs ht3, Result.andThen_ok, run_eql_struct, hq, Sem.run_pure]
    ·simp only [if_true] at ho ⊢
     simp only [execOp, ho, g1, g2, Sem.run_bind, run_eqGuard_agg w _ t x' y' us vs ht3, Result.andThen_ok, run_neq_struct, hq, Sem.run_pure]
   ·cases ht1
 ·cases he
theorem run_nil_slice (w : World) (t e : TypeId) (a : Option Addr) (l c : Nat) (h : P.underlying t = some (.slice e)) : (Op.equal t (.slice a l c) (.slice none 0 0)).run P w = .ok a.isNone w := by
 have : ∀ d, (Op.equalIn (d + 1) t (.slice a l c) (.slice none 0 0)).run P w = .ok a.isNone w := fun d => by
  cases a <;> simp [Op.equalIn, run_underlying h]
 exact this 9999
theorem ex_isn [Dr] {ne : Bool} {x : AO} {x' : Operand} {t t2 : TypeId} (hI : Inv num N w0 m0 T β0 σ a w m β ν) (ho : o.op = .binOp (if ne then .neq else .eql) t x' (.const (.slice none 0 0)) t2) (ht : slT P t = true) (hx : okO num x x' = true)
  (he : exec K (.isn ne x) σ = some (v, σ1)) (h : Aft num N w0 m0 T β0 σ1 a v fun u w' => next (a.put o.dst u) w') : o.wp P a w next Q := by
 obtain ⟨e, hu⟩ := slT_of ht
 have key : ∀ A len cap, a.eval x' = .slice A len cap → (execOp a.eval o).run P w = .ok (.value (.bool (if ne then !A.isNone else A.isNone))) w := fun A len cap hA => by
  have hc : a.eval (.const (.slice none 0 0)) = .slice none 0 0 := rfl
  cases ne
  ·simp only [Bool.false_eq_true, if_false] at ho ⊢
   simp only [execOp, ho, hA, hc, eqGuard_at_slice, binOp, Sem.run_bind, Sem.run_pure, Result.andThen_ok, run_nil_slice w t e A len cap hu]
  ·simp only [if_true] at ho ⊢
   simp only [execOp, ho, hA, hc, eqGuard_at_slice, binOp, Sem.run_bind, Sem.run_pure, Result.andThen_ok, run_nil_slice w t e A len cap hu]
 simp only [exec] at he
 split at he
 ·rename_i o2 sz hA
  injection he with he
  injection he with h1 h2
  subst h1 h2
  have g1 := (hI.val hx (by rw [hA]; rfl)).1
  rw [hA] at g1
  simp only [RepV] at g1
  obtain ⟨A, len, cap, g1, _⟩ := g1
  exact wp_value (key A len cap g1) (h.same hI rfl (by simp only [RepV]; exact ⟨_, rfl⟩) trivial)
 ·rename_i o2 sz x0 xs hA
  injection he with he
  injection he with h1 h2
  subst h1 h2
  have g1 := (hI.val hx (by rw [hA]; rfl)).1
  rw [hA] at g1
  simp only [RepV] at g1
  obtain ⟨A, len, cap, g1, _, _, _, g2⟩ := g1
  rcases g2 with g2 | ⟨b, of, rfl, _⟩
  ·cases g2
  ·refine wp_value (key _ len cap g1) (h.same hI rfl (by simp only [RepV]; cases ne <;> rfl) trivial)
 ·cases he
theorem ex_un [Dr] {op : UnOp} {x : AO} {x' : Operand} {t : TypeId} (hI : Inv num N w0 m0 T β0 σ a w m β ν) (ho : o.op = .unOp op t x') (hx : okO num x x' = true)
  (he : exec K (.un op x) σ = some (v, σ1)) (h : Aft num N w0 m0 T β0 σ1 a v fun u w' => next (a.put o.dst u) w') : o.wp P a w next Q := by
 simp only [exec] at he
 cases hr : aun op (val σ.env x) with
 | none => rw [hr] at he; cases he
 | some v2 =>
  rw [hr] at he
  injection he with he
  injection he with h1 h2
  subst h1 h2
  unfold aun at hr
  split at hr
  ·rename_i b hb
   injection hr with hr
   subst hr
   have g1 := (hI.val hx (by rw [hb]; rfl)).1
   rw [hb] at g1
   simp only [RepV] at g1
   exact wp_value (u := .bool !b) (w' := w) (by simp [execOp, ho, g1, Op.unary]) (h.same hI rfl (by simp only [RepV]) trivial)
  ·rename_i k n hb
   injection hr with hr
   subst hr
   have g1 := (hI.val hx (by rw [hb]; rfl)).1
   rw [hb] at g1
   simp only [RepV] at g1
   exact wp_value (u := .int k (k.wrap (0 - n))) (w' := w) (by simp [execOp, ho, g1, Op.unary, Op.intArith]) (h.same hI rfl (by simp only [toI, RepV]) trivial)
  ·cases hr
theorem ex_conv [Dr] {k : IntKind} {x : AO} {x' : Operand} {t t2 : TypeId} (hI : Inv num N w0 m0 T β0 σ a w m β ν) (ho : o.op = .convert t t2 x') (ht : intT P t t2 k = true) (hx : okO num x x' = true)
  (he : exec K (.conv k x) σ = some (v, σ1)) (h : Aft num N w0 m0 T β0 σ1 a v fun u w' => next (a.put o.dst u) w') : o.wp P a w next Q := by
 simp only [exec] at he
 split at he
 ·rename_i k2 n hb
  injection he with he
  injection he with h1 h2
  subst h1 h2
  have g1 := (hI.val hx (by rw [hb]; rfl)).1
  rw [hb] at g1
  simp only [RepV] at g1
  unfold intT at ht
  split at ht
  ·rename_i d k' hu1 hu2
   simp only [decide_eq_true_eq] at ht
   subst ht
   refine wp_value (u := .int k (k.wrap n)) (w' := w) ?_ (h.same hI rfl (by simp only [toI, RepV]) trivial)
   simp [execOp, ho, g1, convert, run_underlying hu1, run_underlying hu2, Conv.intToInt]
  ·cases ht
 ·cases he
theorem ex_lens [Dr] {x : AO} {x' : Operand} {t : TypeId} (hI : Inv num N w0 m0 T β0 σ a w m β ν) (ho : o.op = .call { callee := .builtin .len, args := #[x'], argTypes := #[t] }) (ht : strT P t = true) (hx : okO num x x' = true)
  (he : exec K (.lens x) σ = some (v, σ1)) (h : Aft num N w0 m0 T β0 σ1 a v fun u w' => next (a.put o.dst u) w') : o.wp P a w next Q := by
 simp only [exec] at he
 split at he
 ·rename_i s hb
  injection he with he
  injection he with h1 h2
  subst h1 h2
  have g1 := (hI.val hx (by rw [hb]; rfl)).1
  rw [hb] at g1
  simp only [RepV] at g1
  have hu := strT_of ht
  refine wp_value (u := .int .i64 s.length) (w' := w) ?_ (h.same hI rfl (by simp only [RepV]) trivial)
  simp [execOp, ho, resolve, invoke, builtin, g1, Builtin.len_, run_underlying hu, goInt, ByteArray.size_mk']
 ·cases he
theorem ex_lenl [Dr] {x : AO} {x' : Operand} {t : TypeId} (hI : Inv num N w0 m0 T β0 σ a w m β ν) (ho : o.op = .call { callee := .builtin .len, args := #[x'], argTypes := #[t] }) (ht : slT P t = true) (hx : okO num x x' = true)
  (he : exec K (.lenl x) σ = some (v, σ1)) (h : Aft num N w0 m0 T β0 σ1 a v fun u w' => next (a.put o.dst u) w') : o.wp P a w next Q := by
 simp only [exec] at he
 split at he
 ·rename_i o2 sz xs hb
  injection he with he
  injection he with h1 h2
  subst h1 h2
  have g1 := (hI.val hx (by rw [hb]; rfl)).1
  rw [hb] at g1
  simp only [RepV] at g1
  obtain ⟨a2, len, cap, g1, g2, _⟩ := g1
  obtain ⟨e, hu⟩ := slT_of ht
  refine wp_value (u := .int .i64 xs.length) (w' := w) ?_ (h.same hI rfl (by simp only [RepV]) trivial)
  simp [execOp, ho, resolve, invoke, builtin, g1, Builtin.len_, run_underlying hu, goInt, g2]
 ·rename_i id off sz n hb
  injection he with he
  injection he with h1 h2
  subst h1 h2
  have g1 := (hI.val hx (by rw [hb]; rfl)).1
  rw [hb] at g1
  simp only [RepV] at g1
  obtain ⟨a2, cap, g1, g2, _⟩ := g1
  obtain ⟨e, hu⟩ := slT_of ht
  refine wp_value (u := .int .i64 n) (w' := w) ?_ (h.same hI rfl (by simp only [RepV]) trivial)
  simp [execOp, ho, resolve, invoke, builtin, g1, Builtin.len_, run_underlying hu, goInt]
 ·cases he
theorem ex_mx [Dr] {x y : AO} {x' y' : Operand} {ts : Array TypeId} (hI : Inv num N w0 m0 T β0 σ a w m β ν) (ho : o.op = .call { callee := .builtin .max, args := #[x', y'], argTypes := ts }) (hx : okO num x x' = true) (hy : okO num y y' = true)
  (he : exec K (.mx x y) σ = some (v, σ1)) (h : Aft num N w0 m0 T β0 σ1 a v fun u w' => next (a.put o.dst u) w') : o.wp P a w next Q := by
 simp only [exec] at he
 split at he
 ·rename_i k A k' B hA hB
  split at he
  ·rename_i hk
   subst hk
   injection he with he
   injection he with h1 h2
   subst h1 h2
   have g1 := (hI.val hx (by rw [hA]; rfl)).1
   have g2 := (hI.val hy (by rw [hB]; rfl)).1
   rw [hA] at g1
   rw [hB] at g2
   simp only [RepV] at g1 g2
   refine wp_value (u := .int k (if B > A then B else A)) (w' := w) ?_ (h.same hI rfl (by simp only [RepV]) trivial)
   simp [execOp, ho, resolve, invoke, builtin, g1, g2, Builtin.max_, Builtin.max2]
  ·cases he
 ·cases he
theorem ex_mn [Dr] {x y : AO} {x' y' : Operand} {ts : Array TypeId} (hI : Inv num N w0 m0 T β0 σ a w m β ν) (ho : o.op = .call { callee := .builtin .min, args := #[x', y'], argTypes := ts }) (hx : okO num x x' = true) (hy : okO num y y' = true)
  (he : exec K (.mn x y) σ = some (v, σ1)) (h : Aft num N w0 m0 T β0 σ1 a v fun u w' => next (a.put o.dst u) w') : o.wp P a w next Q := by
 simp only [exec] at he
 split at he
 ·rename_i k A k' B hA hB
  split at he
  ·rename_i hk
   subst hk
   injection he with he
   injection he with h1 h2
   subst h1 h2
   have g1 := (hI.val hx (by rw [hA]; rfl)).1
   have g2 := (hI.val hy (by rw [hB]; rfl)).1
   rw [hA] at g1
   rw [hB] at g2
   simp only [RepV] at g1 g2
   refine wp_value (u := .int k (if B < A then B else A)) (w' := w) ?_ (h.same hI rfl (by simp only [RepV]) trivial)
   simp [execOp, ho, resolve, invoke, builtin, g1, g2, Builtin.min_, Builtin.min2]
  ·cases he
 ·cases he
theorem ex_idxa [Dr] {sz : Nat} {x i : AO} {x' i' : Operand} {t : TypeId} (hI : Inv num N w0 m0 T β0 σ a w m β ν) (ho : o.op = .indexAddr t x' i') (ht : elemIs P t sz = true) (hx : okO num x x' = true) (hi : okO num i i' = true)
  (he : exec K (.idxa sz x i) σ = some (v, σ1)) (h : Aft num N w0 m0 T β0 σ1 a v fun u w' => next (a.put o.dst u) w') : o.wp P a w next Q := by
 simp only [exec] at he
 split at he
 ·rename_i o2 sz1 xs k n hA hB
  split at he
  ·rename_i hk
   obtain ⟨rfl, hn⟩ := hk
   cases hxn : xs[n.toNat]? with
   | none => rw [hxn] at he; cases he
   | some e =>
    rw [hxn] at he
    injection he with he
    injection he with h1 h2
    subst h1 h2
    have g1 := (hI.val hx (by rw [hA]; rfl)).1
    have g2 := (hI.val hi (by rw [hB]; rfl)).1
    rw [hA] at g1
    rw [hB] at g2
    simp only [RepV] at g1 g2
    obtain ⟨a2, len, cap, g1, g3, _, _, g4⟩ := g1
    have hlt : n.toNat < xs.length := by
     rcases Nat.lt_or_ge n.toNat xs.length with h | h
     ·exact h
     ·rw [List.getElem?_eq_none h] at hxn; cases hxn
    rcases g4 with g4 | ⟨b, of, g4, g5⟩
    ·subst g4; simp at hlt
    rw [RepE_get] at g5
    obtain ⟨_, g6⟩ := g5 _ e hxn
    unfold elemIs at ht
    split at ht
    ·rename_i el hu
     refine wp_value (u := .pointer (some ⟨b, of + n.toNat * sz1, none⟩)) (w' := w) ?_ (h.same hI rfl (by simp only [RepV]; exact ⟨b, _, rfl, g6⟩) trivial)
     have hc : 0 ≤ n ∧ n < (len : Int) := by omega
     simp [execOp, ho, g1, g2, Instr.indexAt, asIntOf, run_underlying hu, g4, hc, run_sizeOf ht, add_none]
    ·cases ht
  ·cases he
 ·rename_i id of sz1 kn k n hA hB
  split at he
  ·rename_i hk
   obtain ⟨rfl, hn, hlt⟩ := hk
   injection he with he
   injection he with h1 h2
   subst h1 h2
   have g1 := (hI.val hx (by rw [hA]; rfl)).1
   have g2 := (hI.val hi (by rw [hB]; rfl)).1
   rw [hA] at g1
   rw [hB] at g2
   simp only [RepV] at g1 g2
   obtain ⟨a2, cap, g1, _, _, g4⟩ := g1
   rcases g4 with g4 | ⟨kb, g4, rfl, g5⟩
   ·omega
   unfold elemIs at ht
   split at ht
   ·rename_i el hu
    refine wp_value (u := .pointer (some ⟨kb.b, of + n.toNat * sz1, none⟩)) (w' := w) ?_ (h.same hI rfl (by simp only [RepV]; exact ⟨kb, g4, rfl⟩) trivial)
    have hc : 0 ≤ n ∧ n < (kn : Int) := by omega
    simp [execOp, ho, g1, g2, Instr.indexAt, asIntOf, run_underlying hu, hc, run_sizeOf ht, add_none]
   ·cases ht
  ·cases he
 ·cases he
theorem ex_idx [Dr] {x i : AO} {x' i' : Operand} {t : TypeId} (hI : Inv num N w0 m0 T β0 σ a w m β ν) (ho : o.op = .index t x' i') (ht : strT P t = true) (hx : okO num x x' = true) (hi : okO num i i' = true)
  (he : exec K (.idx x i) σ = some (v, σ1)) (h : Aft num N w0 m0 T β0 σ1 a v fun u w' => next (a.put o.dst u) w') : o.wp P a w next Q := by
 simp only [exec] at he
 split at he
 ·rename_i s k n hA hB
  split at he
  ·rename_i hn
   cases hxn : s[n.toNat]? with
   | none => rw [hxn] at he; cases he
   | some e =>
    rw [hxn] at he
    injection he with he
    injection he with h1 h2
    subst h1 h2
    have g1 := (hI.val hx (by rw [hA]; rfl)).1
    have g2 := (hI.val hi (by rw [hB]; rfl)).1
    rw [hA] at g1
    rw [hB] at g2
    simp only [RepV] at g1 g2
    have hu := strT_of ht
    have hlt : n.toNat < s.length := by
     rcases Nat.lt_or_ge n.toNat s.length with h | h
     ·exact h
     ·rw [List.getElem?_eq_none h] at hxn; cases hxn
    have hb : (⟨s.toArray⟩ : ByteArray)[n.toNat]? = some e := by
     rw [ByteArray.getElem?_lt' _ _ (by simpa [ByteArray.size] using hlt)]
     rw [List.getElem?_eq_getElem hlt] at hxn
     injection hxn with hxn
     rw [← hxn]
     rfl
    refine wp_value (u := .int .u8 e.toNat) (w' := w) ?_ (h.same hI rfl (by simp only [RepV]) trivial)
    simp [execOp, ho, g1, g2, Instr.index, asIntOf, run_underlying hu, hn, hb]
  ·cases he
 ·cases he
theorem ex_pick [Dr] {c x y : AO} {c' x' y' : Operand} (hI : Inv num N w0 m0 T β0 σ a w m β ν) (ho : o.op = .pick c' x' y') (hc : okO num c c' = true) (hx : okO num x x' = true) (hy : okO num y y' = true)
  (he : exec K (.pick c x y) σ = some (v, σ1)) (h : Aft num N w0 m0 T β0 σ1 a v fun u w' => next (a.put o.dst u) w') : o.wp P a w next Q := by
 simp only [exec] at he
 split at he
 ·rename_i hA
  have g1 := (hI.val hc (by rw [hA]; rfl)).1
  rw [hA] at g1
  simp only [RepV] at g1
  split at he
  ·rename_i hk
   injection he with he
   injection he with h1 h2
   subst h1 h2
   exact wp_value (u := a.eval x') (w' := w) (by simp [execOp, ho, g1, asBool]) (h.same hI hk (hI.val hx hk).1 ((hI.val hx hk).2 _))
  ·cases he
 ·rename_i hA
  have g1 := (hI.val hc (by rw [hA]; rfl)).1
  rw [hA] at g1
  simp only [RepV] at g1
  split at he
  ·rename_i hk
   injection he with he
   injection he with h1 h2
   subst h1 h2
   exact wp_value (u := a.eval y') (w' := w) (by simp [execOp, ho, g1, asBool]) (h.same hI hk (hI.val hy hk).1 ((hI.val hy hk).2 _))
  ·cases he
 ·cases he
theorem ex_ext [Dr] {x : AO} {i : Nat} {x' : Operand} (hI : Inv num N w0 m0 T β0 σ a w m β ν) (ho : o.op = .extract x' i) (hx : okO num x x' = true)
  (he : exec K (.ext x i) σ = some (v, σ1)) (h : Aft num N w0 m0 T β0 σ1 a v fun u w' => next (a.put o.dst u) w') : o.wp P a w next Q := by
 simp only [exec] at he
 split at he
 ·rename_i vs hA
  have g1 := (hI.val hx (by rw [hA]; rfl)).1
  rw [hA] at g1
  simp only [RepV] at g1
  obtain ⟨us, g1, g2, g3⟩ := g1
  cases hv : vs[i]? with
  | none => rw [hv] at he; cases he
  | some c =>
   rw [hv] at he
   simp only [Option.bind_some] at he
   split at he
   ·rename_i hk
    injection he with he
    injection he with h1 h2
    subst h1 h2
    rw [RepT_get] at g3
    obtain ⟨u, k1, k2⟩ := g3 i c hv
    rw [Nat.zero_add] at k1
    exact wp_value (u := u) (w' := w) (by simp [execOp, ho, g1, Instr.extract, k1]) (h.same hI (by rw [strip_ok]; exact hk) (by rw [RepV_strip]; exact k2) (OwnV_strip _ _ _))
   ·cases he
 ·cases he
theorem ex_nilck [Dr] {x : AO} {x' : Operand} (hI : Inv num N w0 m0 T β0 σ a w m β ν) (ho : o.op = .nilCheck x') (hx : okO num x x' = true)
  (he : exec K (.nilck x) σ = some (v, σ1)) (h : Aft num N w0 m0 T β0 σ1 a v fun u w' => next (a.put o.dst u) w') : o.wp P a w next Q := by
 simp only [exec] at he
 split at he
 ·rename_i f cs hA
  injection he with he
  injection he with h1 h2
  subst h1 h2
  have g1 := (hI.val hx (by rw [hA]; rfl)).1
  rw [hA] at g1
  have g2 := g1
  simp only [RepV] at g1
  obtain ⟨g, us, _, g1, _⟩ := g1
  refine wp_value (u := a.eval x') (w' := w) (by simp [execOp, ho, g1]) (h.same hI (by rw [hA]; rfl) (by rw [hA]; exact g2) (by rw [hA]; exact trivial))
 ·rename_i i of hA
  injection he with he
  injection he with h1 h2
  subst h1 h2
  have g1 := (hI.val hx (by rw [hA]; rfl)).1
  rw [hA] at g1
  have g2 := g1
  simp only [RepV] at g1
  obtain ⟨b, _, g1⟩ := g1
  refine wp_value (u := a.eval x') (w' := w) (by simp [execOp, ho, g1]) (h.same hI (by rw [hA]; rfl) (by rw [hA]; exact g2) (by rw [hA]; exact trivial))
 ·rename_i cs hA
  injection he with he
  injection he with h1 h2
  subst h1 h2
  have g1 := (hI.val hx (by rw [hA]; rfl)).1
  rw [hA] at g1
  have g2 := g1
  simp only [RepV] at g1
  obtain ⟨b, of, g1, _⟩ := g1
  refine wp_value (u := a.eval x') (w' := w) (by simp [execOp, ho, g1]) (h.same hI (by rw [hA]; rfl) (by rw [hA]; exact g2) (by rw [hA]; exact trivial))
 ·cases he
end
end Go.Am
