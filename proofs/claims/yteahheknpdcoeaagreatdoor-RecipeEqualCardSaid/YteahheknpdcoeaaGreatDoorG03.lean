/-
  Am8, Am9.
-/
import Derived.Test.YteahheknpdcoeaaGreatDoorG02
set_option linter.unusedVariables false
set_option linter.unusedSimpArgs false
namespace Go.Am
def boolT (P : Program) (t : TypeId) : Bool := match P.underlying t with
 | some .bool => true
 | _ => false
def ifaceT (P : Program) (t : TypeId) : Bool := match P.underlying t with
 | some (.interface _) => true
 | _ => false
def strT (P : Program) (t : TypeId) : Bool := match P.underlying t with
 | some .string => true
 | _ => false
def slT (P : Program) (t : TypeId) : Bool := match P.underlying t with
 | some (.slice _) => true
 | _ => false
def elemIs (P : Program) (t : TypeId) (sz : Nat) : Bool := match P.underlying t with
 | some (.slice e) => sizeIs P e sz
 | _ => false
def intT (P : Program) (src dst : TypeId) (k : IntKind) : Bool := match P.underlying src,P.underlying dst with
 | some _,some (.int k') => decide (k = k')
 | _,_ => false
theorem boolT_of {P : Program} {t : TypeId} (h : boolT P t = true) : P.underlying t = some .bool := by
 unfold boolT at h
 split at h
 ·assumption
 ·cases h
theorem strT_of {P : Program} {t : TypeId} (h : strT P t = true) : P.underlying t = some .string := by
 unfold strT at h
 split at h
 ·assumption
 ·cases h
theorem ifaceT_of {P : Program} {t : TypeId} (h : ifaceT P t = true) : ∃ ms,P.underlying t = some (.interface ms) := by
 unfold ifaceT at h
 split at h
 ·exact ⟨_,by assumption⟩
 ·cases h
theorem slT_of {P : Program} {t : TypeId} (h : slT P t = true) : ∃ e,P.underlying t = some (.slice e) := by
 unfold slT at h
 split at h
 ·exact ⟨_,by assumption⟩
 ·cases h
section
variable {P : Program} {num : Nat → Option Nat} {β : List Blk} {w w' : World} {m : Nat → Nat} {ν : Own} {N : Nat} {w0 : World} {m0 : Nat → Nat} {T : Nat → Prop} {β0 : List Blk} {σ σ1 : St} {a : Act}
 {o : Oper} {next : Act → World → Prop} {Q : Exit → Act → World → Prop} {K : CallF} {v : AV}
theorem abin_ok {op : BinOp} {X Y : AV} (h : abin op X Y = some v) : X.ok = true ∧ Y.ok = true := by
 unfold abin at h
 split at h <;> first | exact ⟨rfl,rfl⟩ | cases h
theorem abin_run {op : BinOp} {X Y : AV} {u u' : Value} {t : TypeId} {xo yo : Operand} (h : abin op X Y = some v) (hx : RepV num β w m X u) (hy : RepV num β w m Y u') :
  ∃ r,((do eqGuard op t xo yo u u'; binOp op t u u') : Sem Value).run P w = .ok r w ∧ v.ok = true ∧ RepV num β w m v r ∧ ∀ p,OwnV w m ν p v r := by
 unfold abin at h
 split at h <;> (try simp only [RepV] at hx hy) <;> (try subst hx) <;> (try subst hy)
 all_goals try (cases h; done)
 all_goals try split at h
 all_goals try (cases h; done)
 all_goals (injection h with h; subst h)
 all_goals first
  | (rename_i hk; refine ⟨_,?_,rfl,by simp only [toI,RepV]; rfl,fun _ => trivial⟩; simp [go_sem,shift_shr_any _ _ _ _ hk]; done)
  | (rename_i hk; refine ⟨_,?_,rfl,by simp only [toI,RepV]; rfl,fun _ => trivial⟩; simp [go_sem,shift_shl_any _ _ _ _ hk]; done)
  | (rename_i hk; obtain ⟨rfl,hb⟩ := hk; refine ⟨_,?_,rfl,by simp only [toI,RepV]; rfl,fun _ => trivial⟩; simp [go_sem,Op.intDiv,hb]; done)
  | (rename_i hk; subst hk; refine ⟨_,?_,rfl,by simp only [toI,RepV]; rfl,fun _ => trivial⟩; simp [go_sem,Op.intArith]; done)
  | (rename_i hk; subst hk; refine ⟨_,?_,rfl,by simp only [toI,RepV]; rfl,fun _ => trivial⟩; simp [go_sem,Op.intBits]; done)
  | (rename_i hk; refine ⟨_,?_,rfl,by simp only [RepV]; rfl,fun _ => trivial⟩; simp [go_sem,binOp,Op.stringOp]; rw [if_neg (by omega),ByteArray.mk_append_mk]; done)
  | (refine ⟨_,?_,rfl,by simp only [RepV]; rfl,fun _ => trivial⟩; simp [go_sem,binOp,Op.stringOp]; done)
theorem ex_bin [Dr] {op : BinOp} {x y : AO} {x' y' : Operand} {t t2 : TypeId} (hI : Inv num N w0 m0 T β0 σ a w m β ν) (ho : o.op = .binOp op t x' y' t2) (hx : okO num x x' = true) (hy : okO num y y' = true)
  (he : exec K (.bin op x y) σ = some (v,σ1)) (h : Aft num N w0 m0 T β0 σ1 a v fun u w' => next (a.put o.dst u) w') : o.wp P a w next Q := by
 simp only [exec] at he
 cases hr : abin op (val σ.env x) (val σ.env y) with
 | none => rw [hr] at he; cases he
 | some v2 =>
  rw [hr] at he
  injection he with he
  injection he with h1 h2
  subst h1 h2
  obtain ⟨k1,k2⟩ := abin_ok hr
  obtain ⟨r,g1,g2,g3,g4⟩ := abin_run (P := P) (ν := ν) (t := t) (xo := x') (yo := y') hr (hI.val hx k1).1 (hI.val hy k2).1
  refine wp_value (u := r) (w' := w) ?_ (h.same hI g2 g3 (g4 _))
  simp only [execOp,ho,Sem.run_bind] at g1 ⊢
  rw [g1]
  rfl
theorem ex_eqb [Dr] {ne : Bool} {x y : AO} {x' y' : Operand} {t t2 : TypeId} (hI : Inv num N w0 m0 T β0 σ a w m β ν) (ho : o.op = .binOp (if ne then .neq else .eql) t x' y' t2) (ht : boolT P t = true) (hx : okO num x x' = true) (hy : okO num y y' = true)
  (he : exec K (.eqb ne x y) σ = some (v,σ1)) (h : Aft num N w0 m0 T β0 σ1 a v fun u w' => next (a.put o.dst u) w') : o.wp P a w next Q := by
 simp only [exec] at he
 split at he
 ·rename_i A B hA hB
  injection he with he
  injection he with h1 h2
  subst h1 h2
  have g1 := (hI.val hx (by rw [hA]; rfl)).1
  have g2 := (hI.val hy (by rw [hB]; rfl)).1
  rw [hA] at g1
  rw [hB] at g2
  simp only [RepV] at g1 g2
  have hu := boolT_of ht
  refine wp_value (u := .bool (if ne then !(A == B) else A == B)) (w' := w) ?_ (h.same hI rfl (by simp only [RepV]) trivial)
  have hq : ∀ d,(Op.equalIn (d + 1) t (.bool A) (.bool B)).run P w = .ok (A == B) w := fun d => by
   simp only [Op.equalIn,Sem.run_bind,run_underlying hu,Result.andThen_ok,Sem.run_pure]
  have hq2 : (Op.equal t (.bool A) (.bool B)).run P w = .ok (A == B) w := hq 9999
  cases ne
  ·simp only [Bool.false_eq_true,if_false] at ho ⊢
   simp only [execOp,ho,g1,g2,eqGuard_at_bool,binOp,Sem.run_bind,Sem.run_pure,Result.andThen_ok,hq2]
  ·simp only [if_true] at ho ⊢
   simp only [execOp,ho,g1,g2,eqGuard_at_bool,binOp,Sem.run_bind,Sem.run_pure,Result.andThen_ok,hq2]
 ·cases he
theorem ex_eqn [Dr] {ne : Bool} {x : AO} {x' : Operand} {t t2 : TypeId} (hI : Inv num N w0 m0 T β0 σ a w m β ν) (ho : o.op = .binOp (if ne then .neq else .eql) t x' (.const .nilIface) t2) (ht : ifaceT P t = true) (hx : okO num x x' = true)
  (he : exec K (.eqn ne x) σ = some (v,σ1)) (h : Aft num N w0 m0 T β0 σ1 a v fun u w' => next (a.put o.dst u) w') : o.wp P a w next Q := by
 simp only [exec] at he
 split at he
 ·rename_i A hA
  injection he with he
  injection he with h1 h2
  subst h1 h2
  have g1 := (hI.val hx (by rw [hA]; rfl)).1
  rw [hA] at g1
  simp only [RepV] at g1
  obtain ⟨ms,hu⟩ := ifaceT_of ht
  refine wp_value (u := .bool (if ne then !A else A)) (w' := w) ?_ (h.same hI rfl (by simp only [RepV]) trivial)
  have hc : a.eval (.const .nilIface) = .nilIface := rfl
  rcases g1 with ⟨rfl,g1⟩ | ⟨rfl,t3,x3,g1⟩
  ·have hq : ∀ d,(Op.equalIn (d + 1) t .nilIface .nilIface).run P w = .ok true w := fun d => by
    simp only [Op.equalIn,Sem.run_bind,run_underlying hu,Result.andThen_ok,Sem.run_pure]
   have hq2 : (Op.equal t .nilIface .nilIface).run P w = .ok true w := hq 9999
   cases ne
   ·simp only [Bool.false_eq_true,if_false] at ho ⊢
    simp only [execOp,ho,g1,hc,eqGuard_nil_constR,binOp,Sem.run_bind,Sem.run_pure,Result.andThen_ok,hq2]
   ·simp only [if_true] at ho ⊢
    simp only [execOp,ho,g1,hc,eqGuard_nil_constR,binOp,Sem.run_bind,Sem.run_pure,Result.andThen_ok,hq2]
  ·have hq : ∀ d,(Op.equalIn (d + 1) t (.iface t3 x3) .nilIface).run P w = .ok false w := fun d => by
    simp only [Op.equalIn,Sem.run_bind,run_underlying hu,Result.andThen_ok,Sem.run_pure]
   have hq2 : (Op.equal t (.iface t3 x3) .nilIface).run P w = .ok false w := hq 9999
   cases ne
   ·simp only [Bool.false_eq_true,if_false] at ho ⊢
    simp only [execOp,ho,g1,hc,eqGuard_at_iface,binOp,Sem.run_bind,Sem.run_pure,Result.andThen_ok,hq2]
   ·simp only [if_true] at ho ⊢
    simp only [execOp,ho,g1,hc,eqGuard_at_iface,binOp,Sem.run_bind,Sem.run_pure,Result.andThen_ok,hq2]
 ·cases he
def flatT (P : Program) : Nat → List Nat → List Field → Bool
 | _,[],[] => true
 | i,k :: ks,f :: fs => decide (f.name ≠ "_") && decide (f.offset = i) && (match P.underlying f.type,k with
  | some (.int _),0 => true
  | some .bool,1 => true
  | some .string,2 => true
  | _,_ => false) && flatT P (i + 1) ks fs
 | _,_,_ => false
def eqaT (P : Program) (t : TypeId) (ks : List Nat) : Bool := (match P.underlying t with
 | some (.struct fs) => flatT P 0 ks fs.toList
 | _ => false) && !P.stoodInHeld t && !P.eqGuardType P.depth t
theorem run_eqFields (d : Nat) (xs ys : Array Value) : ∀ (fs : List Field) (i : Nat) (ks : List Nat) (cs ds : List AV) (b : Bool),flatT P i ks fs = true → eqCells ks cs ds = some b →
  (∀ (j : Nat) (c : AV),cs[j]? = some c → ∃ u,xs[i + j]? = some u ∧ RepV num β w m c u) → (∀ (j : Nat) (c : AV),ds[j]? = some c → ∃ u,ys[i + j]? = some u ∧ RepV num β w m c u) →
  (Op.eqFields (d + 1) xs ys fs).run P w = .ok b w
 | [],i,ks,cs,ds,b,hf,he,_,_ => by
  cases ks with
  | cons k ks => simp [flatT] at hf
  | nil =>
   cases cs with
   | cons c cs => simp [eqCells] at he
   | nil =>
    cases ds with
    | cons e ds => simp [eqCells] at he
    | nil => simp only [eqCells,Option.some.injEq] at he; subst he; rfl
 | f :: fs,i,[],cs,ds,b,hf,he,_,_ => by simp [flatT] at hf
 | f :: fs,i,k :: ks,[],ds,b,hf,he,_,_ => by simp [eqCells] at he
 | f :: fs,i,k :: ks,c :: cs,[],b,_,he,_,_ => by simp [eqCells] at he
 | f :: fs,i,k :: ks,c :: cs,e :: ds,b,hf,he,hx,hy => by
  simp only [flatT,Bool.and_eq_true,decide_eq_true_eq] at hf
  obtain ⟨⟨⟨h1,h2⟩,h3⟩,h4⟩ := hf
  subst h2
  simp only [eqCells] at he
  split at he
  ·rename_i b1 b2 e1 e2
   injection he with he
   subst he
   obtain ⟨u,hu1,hu2⟩ := hx 0 c rfl
   obtain ⟨v,hv1,hv2⟩ := hy 0 e rfl
   rw [Nat.add_zero] at hu1 hv1
   have hag : aggIs P f.type false = true := by
    unfold aggIs
    split at h3
    ·rename_i hun; rw [hun]; rfl
    ·rename_i hun; rw [hun]; rfl
    ·rename_i hun; rw [hun]; rfl
    ·cases h3
   have hp1 : (part f.type xs f.offset).run P w = .ok u w := by
    simp only [part,Sem.run_bind,run_isAgg hag,Result.andThen_ok,Bool.false_eq_true,if_false,hu1,Sem.run_pure]
   have hp2 : (part f.type ys f.offset).run P w = .ok v w := by
    simp only [part,Sem.run_bind,run_isAgg hag,Result.andThen_ok,Bool.false_eq_true,if_false,hv1,Sem.run_pure]
   have hq : (Op.equalIn (d + 1) f.type u v).run P w = .ok b1 w := by
    split at h3
    ·rename_i hun
     unfold eqCell at e1
     split at e1
     ·rename_i hk
      split at e1
      ·rename_i hk2
       subst hk2
       injection e1 with e1
       subst e1
       simp only [RepV] at hu2 hv2
       subst hu2 hv2
       exact run_equalIn_int w d _ _ _ _ _ hun
      ·cases e1
     ·rename_i hk; cases hk
     ·rename_i hk; cases hk
     ·cases e1
    ·rename_i hun
     unfold eqCell at e1
     split at e1
     ·rename_i hk; cases hk
     ·injection e1 with e1
      subst e1
      simp only [RepV] at hu2 hv2
      subst hu2 hv2
      exact run_equalIn_bool' w d _ _ _ hun
     ·rename_i hk; cases hk
     ·cases e1
    ·rename_i hun
     unfold eqCell at e1
     split at e1
     ·rename_i hk; cases hk
     ·rename_i hk; cases hk
     ·injection e1 with e1
      subst e1
      simp only [RepV] at hu2 hv2
      subst hu2 hv2
      rw [run_equalIn_string w d _ _ _ hun,ByteArray.toList_eq,ByteArray.toList_eq]
     ·cases e1
    ·cases h3
   simp only [Op.eqFields,h1,ne_eq,not_false_eq_true,if_true,Sem.run_bind,hp1,hp2,hq,Result.andThen_ok]
   cases b1
   ·rfl
   ·simp only [Bool.not_true,Bool.false_eq_true,if_false,Bool.true_and]
    exact run_eqFields d xs ys fs (f.offset + 1) ks cs ds b2 h4 e2 (fun j c hj => by rw [Nat.add_assoc,Nat.add_comm 1]; exact hx (j + 1) c (by simpa using hj))
     (fun j c hj => by rw [Nat.add_assoc,Nat.add_comm 1]; exact hy (j + 1) c (by simpa using hj))
  ·cases he
theorem ex_eqa [Dr] {ne : Bool} {ks : List Nat} {x y : AO} {x' y' : Operand} {t t2 : TypeId} (hI : Inv num N w0 m0 T β0 σ a w m β ν) (ho : o.op = .binOp (if ne then .neq else .eql) t x' y' t2) (ht : eqaT P t ks = true) (hx : okO num x x' = true) (hy : okO num y y' = true)
  (he : exec K (.eqa ne ks x y) σ = some (v,σ1)) (h : Aft num N w0 m0 T β0 σ1 a v fun u w' => next (a.put o.dst u) w') : o.wp P a w next Q := by
 simp only [exec] at he
 split at he
 ·rename_i cs ds hA hB
  cases hr : eqCells ks cs ds with
  | none => rw [hr] at he; cases he
  | some b =>
   rw [hr] at he
   injection he with he
   injection he with h1 h2
   subst h1 h2
   have g1 := (hI.val hx (by rw [hA]; rfl)).1
   have g2 := (hI.val hy (by rw [hB]; rfl)).1
   rw [hA] at g1
   rw [hB] at g2
   simp only [RepV] at g1 g2
   obtain ⟨us,g1,g3,g4⟩ := g1
   obtain ⟨vs,g2,g5,g6⟩ := g2
   rw [RepC_get] at g4 g6
   unfold eqaT at ht
   simp only [Bool.and_eq_true,Bool.not_eq_true'] at ht
   obtain ⟨⟨ht1,ht2⟩,ht3⟩ := ht
   split at ht1
   ·rename_i fs hun
    have hfs : P.fieldsOf t = fs := by unfold Program.fieldsOf; rw [hun]
    have hq : (Op.equalIn 10000 t (.agg us) (.agg vs)).run P w = .ok b w := by
     rw [run_equalIn_struct w 9999 t us vs (by rw [hfs]; exact hun) ht2,hfs]
     exact run_eqFields (num := num) (β := β) (m := m) 9998 us vs _ 0 ks cs ds b ht1 hr (fun j c hj => by obtain ⟨u,k1,_,k2⟩ := g4 j c hj; exact ⟨u,k1,k2⟩) (fun j c hj => by obtain ⟨u,k1,_,k2⟩ := g6 j c hj; exact ⟨u,k1,k2⟩)
    refine wp_value (u := .bool (if ne then !b else b)) (w' := w) ?_ (h.same hI rfl (by simp only [RepV]) trivial)
    cases ne
    ·simp only [Bool.false_eq_true,if_false] at ho ⊢
     simp only [execOp,ho,g1,g2,Sem.run_bind,run_eqGuard_agg w _ t x' y' us vs ht3,Result.andThen_ok,run_eql_struct,hq,Sem.run_pure]
    ·simp only [if_true] at ho ⊢
     simp only [execOp,ho,g1,g2,Sem.run_bind,run_eqGuard_agg w _ t x' y' us vs ht3,Result.andThen_ok,run_neq_struct,hq,Sem.run_pure]
   ·cases ht1
 ·cases he
theorem run_nil_slice (w : World) (t e : TypeId) (a : Option Addr) (l c : Nat) (h : P.underlying t = some (.slice e)) : (Op.equal t (.slice a l c) (.slice none 0 0)).run P w = .ok a.isNone w := by
 have : ∀ d,(Op.equalIn (d + 1) t (.slice a l c) (.slice none 0 0)).run P w = .ok a.isNone w := fun d => by
  cases a <;> simp [Op.equalIn,run_underlying h]
 exact this 9999
theorem ex_isn [Dr] {ne : Bool} {x : AO} {x' : Operand} {t t2 : TypeId} (hI : Inv num N w0 m0 T β0 σ a w m β ν) (ho : o.op = .binOp (if ne then .neq else .eql) t x' (.const (.slice none 0 0)) t2) (ht : slT P t = true) (hx : okO num x x' = true)
  (he : exec K (.isn ne x) σ = some (v,σ1)) (h : Aft num N w0 m0 T β0 σ1 a v fun u w' => next (a.put o.dst u) w') : o.wp P a w next Q := by
 obtain ⟨e,hu⟩ := slT_of ht
 have key : ∀ A len cap,a.eval x' = .slice A len cap → (execOp a.eval o).run P w = .ok (.value (.bool (if ne then !A.isNone else A.isNone))) w := fun A len cap hA => by
  have hc : a.eval (.const (.slice none 0 0)) = .slice none 0 0 := rfl
  cases ne
  ·simp only [Bool.false_eq_true,if_false] at ho ⊢
   simp only [execOp,ho,hA,hc,eqGuard_at_slice,binOp,Sem.run_bind,Sem.run_pure,Result.andThen_ok,run_nil_slice w t e A len cap hu]
  ·simp only [if_true] at ho ⊢
   simp only [execOp,ho,hA,hc,eqGuard_at_slice,binOp,Sem.run_bind,Sem.run_pure,Result.andThen_ok,run_nil_slice w t e A len cap hu]
 simp only [exec] at he
 split at he
 ·rename_i o2 sz hA
  injection he with he
  injection he with h1 h2
  subst h1 h2
  have g1 := (hI.val hx (by rw [hA]; rfl)).1
  rw [hA] at g1
  simp only [RepV] at g1
  obtain ⟨A,len,cap,g1,_⟩ := g1
  exact wp_value (key A len cap g1) (h.same hI rfl (by simp only [RepV]; exact ⟨_,rfl⟩) trivial)
 ·rename_i o2 sz x0 xs hA
  injection he with he
  injection he with h1 h2
  subst h1 h2
  have g1 := (hI.val hx (by rw [hA]; rfl)).1
  rw [hA] at g1
  simp only [RepV] at g1
  obtain ⟨A,len,cap,g1,_,_,_,g2⟩ := g1
  rcases g2 with g2 | ⟨b,of,rfl,_⟩
  ·cases g2
  ·refine wp_value (key _ len cap g1) (h.same hI rfl (by simp only [RepV]; cases ne <;> rfl) trivial)
 ·cases he
theorem ex_un [Dr] {op : UnOp} {x : AO} {x' : Operand} {t : TypeId} (hI : Inv num N w0 m0 T β0 σ a w m β ν) (ho : o.op = .unOp op t x') (hx : okO num x x' = true)
  (he : exec K (.un op x) σ = some (v,σ1)) (h : Aft num N w0 m0 T β0 σ1 a v fun u w' => next (a.put o.dst u) w') : o.wp P a w next Q := by
 simp only [exec] at he
 cases hr : aun op (val σ.env x) with
 | none => rw [hr] at he; cases he
 | some v2 =>
  rw [hr] at he
  injection he with he
  injection he with h1 h2
  subst h1 h2
  unfold aun at hr
  split at hr
  ·rename_i b hb
   injection hr with hr
   subst hr
   have g1 := (hI.val hx (by rw [hb]; rfl)).1
   rw [hb] at g1
   simp only [RepV] at g1
   exact wp_value (u := .bool !b) (w' := w) (by simp [execOp,ho,g1,Op.unary]) (h.same hI rfl (by simp only [RepV]) trivial)
  ·rename_i k n hb
   injection hr with hr
   subst hr
   have g1 := (hI.val hx (by rw [hb]; rfl)).1
   rw [hb] at g1
   simp only [RepV] at g1
   exact wp_value (u := .int k (k.wrap (0 - n))) (w' := w) (by simp [execOp,ho,g1,Op.unary,Op.intArith]) (h.same hI rfl (by simp only [toI,RepV]) trivial)
  ·cases hr
theorem ex_conv [Dr] {k : IntKind} {x : AO} {x' : Operand} {t t2 : TypeId} (hI : Inv num N w0 m0 T β0 σ a w m β ν) (ho : o.op = .convert t t2 x') (ht : intT P t t2 k = true) (hx : okO num x x' = true)
  (he : exec K (.conv k x) σ = some (v,σ1)) (h : Aft num N w0 m0 T β0 σ1 a v fun u w' => next (a.put o.dst u) w') : o.wp P a w next Q := by
 simp only [exec] at he
 split at he
 ·rename_i k2 n hb
  injection he with he
  injection he with h1 h2
  subst h1 h2
  have g1 := (hI.val hx (by rw [hb]; rfl)).1
  rw [hb] at g1
  simp only [RepV] at g1
  unfold intT at ht
  split at ht
  ·rename_i d k' hu1 hu2
   simp only [decide_eq_true_eq] at ht
   subst ht
   refine wp_value (u := .int k (k.wrap n)) (w' := w) ?_ (h.same hI rfl (by simp only [toI,RepV]) trivial)
   simp [execOp,ho,g1,convert,run_underlying hu1,run_underlying hu2,Conv.intToInt]
  ·cases ht
 ·cases he
theorem ex_lens [Dr] {x : AO} {x' : Operand} {t : TypeId} (hI : Inv num N w0 m0 T β0 σ a w m β ν) (ho : o.op = .call { callee := .builtin .len,args := #[x'],argTypes := #[t] }) (ht : strT P t = true) (hx : okO num x x' = true)
  (he : exec K (.lens x) σ = some (v,σ1)) (h : Aft num N w0 m0 T β0 σ1 a v fun u w' => next (a.put o.dst u) w') : o.wp P a w next Q := by
 simp only [exec] at he
 split at he
 ·rename_i s hb
  injection he with he
  injection he with h1 h2
  subst h1 h2
  have g1 := (hI.val hx (by rw [hb]; rfl)).1
  rw [hb] at g1
  simp only [RepV] at g1
  have hu := strT_of ht
  refine wp_value (u := .int .i64 s.length) (w' := w) ?_ (h.same hI rfl (by simp only [RepV]) trivial)
  simp [execOp,ho,resolve,invoke,builtin,g1,Builtin.len_,run_underlying hu,goInt,ByteArray.size_mk']
 ·cases he
theorem ex_lenl [Dr] {x : AO} {x' : Operand} {t : TypeId} (hI : Inv num N w0 m0 T β0 σ a w m β ν) (ho : o.op = .call { callee := .builtin .len,args := #[x'],argTypes := #[t] }) (ht : slT P t = true) (hx : okO num x x' = true)
  (he : exec K (.lenl x) σ = some (v,σ1)) (h : Aft num N w0 m0 T β0 σ1 a v fun u w' => next (a.put o.dst u) w') : o.wp P a w next Q := by
 simp only [exec] at he
 split at he
 ·rename_i o2 sz xs hb
  injection he with he
  injection he with h1 h2
  subst h1 h2
  have g1 := (hI.val hx (by rw [hb]; rfl)).1
  rw [hb] at g1
  simp only [RepV] at g1
  obtain ⟨a2,len,cap,g1,g2,_⟩ := g1
  obtain ⟨e,hu⟩ := slT_of ht
  refine wp_value (u := .int .i64 xs.length) (w' := w) ?_ (h.same hI rfl (by simp only [RepV]) trivial)
  simp [execOp,ho,resolve,invoke,builtin,g1,Builtin.len_,run_underlying hu,goInt,g2]
 ·rename_i id off sz n hb
  injection he with he
  injection he with h1 h2
  subst h1 h2
  have g1 := (hI.val hx (by rw [hb]; rfl)).1
  rw [hb] at g1
  simp only [RepV] at g1
  obtain ⟨a2,cap,g1,g2,_⟩ := g1
  obtain ⟨e,hu⟩ := slT_of ht
  refine wp_value (u := .int .i64 n) (w' := w) ?_ (h.same hI rfl (by simp only [RepV]) trivial)
  simp [execOp,ho,resolve,invoke,builtin,g1,Builtin.len_,run_underlying hu,goInt]
 ·cases he
theorem ex_mx [Dr] {x y : AO} {x' y' : Operand} {ts : Array TypeId} (hI : Inv num N w0 m0 T β0 σ a w m β ν) (ho : o.op = .call { callee := .builtin .max,args := #[x',y'],argTypes := ts }) (hx : okO num x x' = true) (hy : okO num y y' = true)
  (he : exec K (.mx x y) σ = some (v,σ1)) (h : Aft num N w0 m0 T β0 σ1 a v fun u w' => next (a.put o.dst u) w') : o.wp P a w next Q := by
 simp only [exec] at he
 split at he
 ·rename_i k A k' B hA hB
  split at he
  ·rename_i hk
   subst hk
   injection he with he
   injection he with h1 h2
   subst h1 h2
   have g1 := (hI.val hx (by rw [hA]; rfl)).1
   have g2 := (hI.val hy (by rw [hB]; rfl)).1
   rw [hA] at g1
   rw [hB] at g2
   simp only [RepV] at g1 g2
   refine wp_value (u := .int k (if B > A then B else A)) (w' := w) ?_ (h.same hI rfl (by simp only [RepV]) trivial)
   simp [execOp,ho,resolve,invoke,builtin,g1,g2,Builtin.max_,Builtin.max2]
  ·cases he
 ·cases he
theorem ex_mn [Dr] {x y : AO} {x' y' : Operand} {ts : Array TypeId} (hI : Inv num N w0 m0 T β0 σ a w m β ν) (ho : o.op = .call { callee := .builtin .min,args := #[x',y'],argTypes := ts }) (hx : okO num x x' = true) (hy : okO num y y' = true)
  (he : exec K (.mn x y) σ = some (v,σ1)) (h : Aft num N w0 m0 T β0 σ1 a v fun u w' => next (a.put o.dst u) w') : o.wp P a w next Q := by
 simp only [exec] at he
 split at he
 ·rename_i k A k' B hA hB
  split at he
  ·rename_i hk
   subst hk
   injection he with he
   injection he with h1 h2
   subst h1 h2
   have g1 := (hI.val hx (by rw [hA]; rfl)).1
   have g2 := (hI.val hy (by rw [hB]; rfl)).1
   rw [hA] at g1
   rw [hB] at g2
   simp only [RepV] at g1 g2
   refine wp_value (u := .int k (if B < A then B else A)) (w' := w) ?_ (h.same hI rfl (by simp only [RepV]) trivial)
   simp [execOp,ho,resolve,invoke,builtin,g1,g2,Builtin.min_,Builtin.min2]
  ·cases he
 ·cases he
theorem ex_idxa [Dr] {sz : Nat} {x i : AO} {x' i' : Operand} {t : TypeId} (hI : Inv num N w0 m0 T β0 σ a w m β ν) (ho : o.op = .indexAddr t x' i') (ht : elemIs P t sz = true) (hx : okO num x x' = true) (hi : okO num i i' = true)
  (he : exec K (.idxa sz x i) σ = some (v,σ1)) (h : Aft num N w0 m0 T β0 σ1 a v fun u w' => next (a.put o.dst u) w') : o.wp P a w next Q := by
 simp only [exec] at he
 split at he
 ·rename_i o2 sz1 xs k n hA hB
  split at he
  ·rename_i hk
   obtain ⟨rfl,hn⟩ := hk
   cases hxn : xs[n.toNat]? with
   | none => rw [hxn] at he; cases he
   | some e =>
    rw [hxn] at he
    injection he with he
    injection he with h1 h2
    subst h1 h2
    have g1 := (hI.val hx (by rw [hA]; rfl)).1
    have g2 := (hI.val hi (by rw [hB]; rfl)).1
    rw [hA] at g1
    rw [hB] at g2
    simp only [RepV] at g1 g2
    obtain ⟨a2,len,cap,g1,g3,_,_,g4⟩ := g1
    have hlt : n.toNat < xs.length := by
     rcases Nat.lt_or_ge n.toNat xs.length with h | h
     ·exact h
     ·rw [List.getElem?_eq_none h] at hxn; cases hxn
    rcases g4 with g4 | ⟨b,of,g4,g5⟩
    ·subst g4; simp at hlt
    rw [RepE_get] at g5
    obtain ⟨_,g6⟩ := g5 _ e hxn
    unfold elemIs at ht
    split at ht
    ·rename_i el hu
     refine wp_value (u := .pointer (some ⟨b,of + n.toNat * sz1,none⟩)) (w' := w) ?_ (h.same hI rfl (by simp only [RepV]; exact ⟨b,_,rfl,g6⟩) trivial)
     have hc : 0 ≤ n ∧ n < (len : Int) := by omega
     simp [execOp,ho,g1,g2,Instr.indexAt,asIntOf,run_underlying hu,g4,hc,run_sizeOf ht,add_none]
    ·cases ht
  ·cases he
 ·rename_i id of sz1 kn k n hA hB
  split at he
  ·rename_i hk
   obtain ⟨rfl,hn,hlt⟩ := hk
   injection he with he
   injection he with h1 h2
   subst h1 h2
   have g1 := (hI.val hx (by rw [hA]; rfl)).1
   have g2 := (hI.val hi (by rw [hB]; rfl)).1
   rw [hA] at g1
   rw [hB] at g2
   simp only [RepV] at g1 g2
   obtain ⟨a2,cap,g1,_,_,g4⟩ := g1
   rcases g4 with g4 | ⟨kb,g4,rfl,g5⟩
   ·omega
   unfold elemIs at ht
   split at ht
   ·rename_i el hu
    refine wp_value (u := .pointer (some ⟨kb.b,of + n.toNat * sz1,none⟩)) (w' := w) ?_ (h.same hI rfl (by simp only [RepV]; exact ⟨kb,g4,rfl⟩) trivial)
    have hc : 0 ≤ n ∧ n < (kn : Int) := by omega
    simp [execOp,ho,g1,g2,Instr.indexAt,asIntOf,run_underlying hu,hc,run_sizeOf ht,add_none]
   ·cases ht
  ·cases he
 ·cases he
theorem ex_idx [Dr] {x i : AO} {x' i' : Operand} {t : TypeId} (hI : Inv num N w0 m0 T β0 σ a w m β ν) (ho : o.op = .index t x' i') (ht : strT P t = true) (hx : okO num x x' = true) (hi : okO num i i' = true)
  (he : exec K (.idx x i) σ = some (v,σ1)) (h : Aft num N w0 m0 T β0 σ1 a v fun u w' => next (a.put o.dst u) w') : o.wp P a w next Q := by
 simp only [exec] at he
 split at he
 ·rename_i s k n hA hB
  split at he
  ·rename_i hn
   cases hxn : s[n.toNat]? with
   | none => rw [hxn] at he; cases he
   | some e =>
    rw [hxn] at he
    injection he with he
    injection he with h1 h2
    subst h1 h2
    have g1 := (hI.val hx (by rw [hA]; rfl)).1
    have g2 := (hI.val hi (by rw [hB]; rfl)).1
    rw [hA] at g1
    rw [hB] at g2
    simp only [RepV] at g1 g2
    have hu := strT_of ht
    have hlt : n.toNat < s.length := by
     rcases Nat.lt_or_ge n.toNat s.length with h | h
     ·exact h
     ·rw [List.getElem?_eq_none h] at hxn; cases hxn
    have hb : (⟨s.toArray⟩ : ByteArray)[n.toNat]? = some e := by
     rw [ByteArray.getElem?_lt' _ _ (by simpa [ByteArray.size] using hlt)]
     rw [List.getElem?_eq_getElem hlt] at hxn
     injection hxn with hxn
     rw [← hxn]
     rfl
    refine wp_value (u := .int .u8 e.toNat) (w' := w) ?_ (h.same hI rfl (by simp only [RepV]) trivial)
    simp [execOp,ho,g1,g2,Instr.index,asIntOf,run_underlying hu,hn,hb]
  ·cases he
 ·cases he
theorem ex_pick [Dr] {c x y : AO} {c' x' y' : Operand} (hI : Inv num N w0 m0 T β0 σ a w m β ν) (ho : o.op = .pick c' x' y') (hc : okO num c c' = true) (hx : okO num x x' = true) (hy : okO num y y' = true)
  (he : exec K (.pick c x y) σ = some (v,σ1)) (h : Aft num N w0 m0 T β0 σ1 a v fun u w' => next (a.put o.dst u) w') : o.wp P a w next Q := by
 simp only [exec] at he
 split at he
 ·rename_i hA
  have g1 := (hI.val hc (by rw [hA]; rfl)).1
  rw [hA] at g1
  simp only [RepV] at g1
  split at he
  ·rename_i hk
   injection he with he
   injection he with h1 h2
   subst h1 h2
   exact wp_value (u := a.eval x') (w' := w) (by simp [execOp,ho,g1,asBool]) (h.same hI hk (hI.val hx hk).1 ((hI.val hx hk).2 _))
  ·cases he
 ·rename_i hA
  have g1 := (hI.val hc (by rw [hA]; rfl)).1
  rw [hA] at g1
  simp only [RepV] at g1
  split at he
  ·rename_i hk
   injection he with he
   injection he with h1 h2
   subst h1 h2
   exact wp_value (u := a.eval y') (w' := w) (by simp [execOp,ho,g1,asBool]) (h.same hI hk (hI.val hy hk).1 ((hI.val hy hk).2 _))
  ·cases he
 ·cases he
theorem ex_ext [Dr] {x : AO} {i : Nat} {x' : Operand} (hI : Inv num N w0 m0 T β0 σ a w m β ν) (ho : o.op = .extract x' i) (hx : okO num x x' = true)
  (he : exec K (.ext x i) σ = some (v,σ1)) (h : Aft num N w0 m0 T β0 σ1 a v fun u w' => next (a.put o.dst u) w') : o.wp P a w next Q := by
 simp only [exec] at he
 split at he
 ·rename_i vs hA
  have g1 := (hI.val hx (by rw [hA]; rfl)).1
  rw [hA] at g1
  simp only [RepV] at g1
  obtain ⟨us,g1,g2,g3⟩ := g1
  cases hv : vs[i]? with
  | none => rw [hv] at he; cases he
  | some c =>
   rw [hv] at he
   simp only [Option.bind_some] at he
   split at he
   ·rename_i hk
    injection he with he
    injection he with h1 h2
    subst h1 h2
    rw [RepT_get] at g3
    obtain ⟨u,k1,k2⟩ := g3 i c hv
    rw [Nat.zero_add] at k1
    exact wp_value (u := u) (w' := w) (by simp [execOp,ho,g1,Instr.extract,k1]) (h.same hI (by rw [strip_ok]; exact hk) (by rw [RepV_strip]; exact k2) (OwnV_strip _ _ _))
   ·cases he
 ·cases he
theorem ex_nilck [Dr] {x : AO} {x' : Operand} (hI : Inv num N w0 m0 T β0 σ a w m β ν) (ho : o.op = .nilCheck x') (hx : okO num x x' = true)
  (he : exec K (.nilck x) σ = some (v,σ1)) (h : Aft num N w0 m0 T β0 σ1 a v fun u w' => next (a.put o.dst u) w') : o.wp P a w next Q := by
 simp only [exec] at he
 split at he
 ·rename_i f cs hA
  injection he with he
  injection he with h1 h2
  subst h1 h2
  have g1 := (hI.val hx (by rw [hA]; rfl)).1
  rw [hA] at g1
  have g2 := g1
  simp only [RepV] at g1
  obtain ⟨g,us,_,g1,_⟩ := g1
  refine wp_value (u := a.eval x') (w' := w) (by simp [execOp,ho,g1]) (h.same hI (by rw [hA]; rfl) (by rw [hA]; exact g2) (by rw [hA]; exact trivial))
 ·rename_i i of hA
  injection he with he
  injection he with h1 h2
  subst h1 h2
  have g1 := (hI.val hx (by rw [hA]; rfl)).1
  rw [hA] at g1
  have g2 := g1
  simp only [RepV] at g1
  obtain ⟨b,_,g1⟩ := g1
  refine wp_value (u := a.eval x') (w' := w) (by simp [execOp,ho,g1]) (h.same hI (by rw [hA]; rfl) (by rw [hA]; exact g2) (by rw [hA]; exact trivial))
 ·rename_i cs hA
  injection he with he
  injection he with h1 h2
  subst h1 h2
  have g1 := (hI.val hx (by rw [hA]; rfl)).1
  rw [hA] at g1
  have g2 := g1
  simp only [RepV] at g1
  obtain ⟨b,of,g1,_⟩ := g1
  refine wp_value (u := a.eval x') (w' := w) (by simp [execOp,ho,g1]) (h.same hI (by rw [hA]; rfl) (by rw [hA]; exact g2) (by rw [hA]; exact trivial))
 ·cases he
end
end Go.Am
namespace Go.Am
def okOpt (num : Nat → Option Nat) : Option AO → Option Operand → Bool
 | none,none => true
 | some x,some y => okO num x y
 | _,_ => false
section
variable {P : Program} {num : Nat → Option Nat} {β : List Blk} {w w' : World} {m : Nat → Nat} {ν : Own} {N : Nat} {w0 : World} {m0 : Nat → Nat} {T : Nat → Prop} {β0 : List Blk} {σ σ1 : St} {a : Act}
 {o : Oper} {next : Act → World → Prop} {Q : Exit → Act → World → Prop} {K : CallF} {v : AV}
theorem fold_put (off : Nat) : ∀ (vs : List Value) (k : Nat) (cs : Array Value),off + k + vs.length ≤ cs.size →
  ((vs.zipIdx k).foldl (fun cs (p : Value × Nat) => cs.setIfInBounds (off + p.2) p.1) cs).size = cs.size ∧
  ∀ (i : Nat),((vs.zipIdx k).foldl (fun cs (p : Value × Nat) => cs.setIfInBounds (off + p.2) p.1) cs)[i]? = if off + k ≤ i ∧ i < off + k + vs.length then vs[i - (off + k)]? else cs[i]?
 | [],k,cs,_ => ⟨rfl,fun i => by rw [if_neg (by simp)]; rfl⟩
 | v :: vs,k,cs,h => by
  simp only [List.length_cons] at h
  have ih := fold_put off vs (k + 1) (cs.setIfInBounds (off + k) v) (by simp; omega)
  simp only [List.zipIdx_cons,List.foldl_cons]
  refine ⟨by rw [ih.1]; simp,fun i => ?_⟩
  rw [ih.2 i]
  by_cases h1 : off + (k + 1) ≤ i ∧ i < off + (k + 1) + vs.length
  ·rw [if_pos h1,if_pos (by simp only [List.length_cons]; omega)]
   rw [show i - (off + k) = (i - (off + (k + 1))) + 1 by omega]
   rfl
  ·rw [if_neg h1]
   by_cases h2 : i = off + k
   ·subst h2
    rw [if_pos (by simp only [List.length_cons]; omega),Array.getElem?_setIfInBounds_self_of_lt (by omega)]
    simp
   ·rw [Array.getElem?_setIfInBounds_ne (fun e => h2 e.symm),if_neg (by simp only [List.length_cons]; omega)]
theorem fold_put' [Dr] (off : Nat) (u : Array Value) (cs : Array Value) (h : off + u.size ≤ cs.size) :
  (u.zipIdx.foldl (fun cs (p : Value × Nat) => cs.setIfInBounds (off + p.2) p.1) cs).size = cs.size ∧
  ∀ (i : Nat),(u.zipIdx.foldl (fun cs (p : Value × Nat) => cs.setIfInBounds (off + p.2) p.1) cs)[i]? = if off ≤ i ∧ i < off + u.size then u[i - off]? else cs[i]? := by
 have := fold_put off u.toList 0 cs (by simpa using h)
 rw [← Array.foldl_toList,Array.toList_zipIdx]
 simpa using this
theorem fill_slice [Dr] (hI : Inv num N w0 m0 T β0 σ a w m β ν) (sz n : Nat) : ∀ (xs : List AO) (ys : List Operand) (k : Nat) (cells : Array Value) (vs : List (List AV)),
  okOs num xs ys = true → elemsOf sz (xs.map (Am.val σ.env)) = some vs → cells.size = n * sz → k + xs.length = n →
  ∃ cells',Instr.fill (fun i => some (i * sz,sz)) cells ((ys.zipIdx k).map fun p => (p.2,a.eval p.1)) = some cells' ∧ cells'.size = n * sz ∧ (∀ i,i < k * sz → cells'[i]? = cells[i]?) ∧
   ∀ (i : Nat) (x : List AV),vs[i]? = some x → x.length = sz ∧ ∀ (j : Nat) (c : AV),x[j]? = some c → ∃ u,cells'[(k + i) * sz + j]? = some u ∧ u.oneCell' = true ∧ RepV num β w m c u
 | [],[],k,cells,vs,_,hv,hc,_ => by
  simp only [List.map_nil,elemsOf] at hv
  injection hv with hv
  subst hv
  exact ⟨cells,rfl,hc,fun _ _ => rfl,fun i x h => by simp at h⟩
 | x :: xs,y :: ys,k,cells,vs,ho,hv,hc,hk => by
  simp only [okOs,Bool.and_eq_true] at ho
  simp only [List.map_cons,elemsOf] at hv
  split at hv
  ·rename_i e es he hes
   split at hv
   ·rename_i hl
    injection hv with hv
    subst hv
    have hr := (hI.val ho.1 (ok_of_cells he)).1
    obtain ⟨_,hz,hcs⟩ := cellsOf_rep he hr
    simp only [List.length_cons] at hk
    have hle : (k + 1) * sz ≤ n * sz := Nat.mul_le_mul_right _ (by omega)
    rw [Nat.succ_mul] at hle
    have hfit : k * sz + (a.eval y).cells.size ≤ cells.size := by rw [hz,hl,hc]; exact hle
    have hp := fold_put' (k * sz) (a.eval y).cells cells hfit
    obtain ⟨cells',f1,f2,f3,f4⟩ := fill_slice hI sz n xs ys (k + 1) _ es ho.2 hes (hp.1.trans hc) (by omega)
    refine ⟨cells',?_,f2,fun i hi => ?_,fun i z hz2 => ?_⟩
    ·simp only [List.zipIdx_cons,List.map_cons,Instr.fill]
     rw [if_neg (by rw [hz,hl]; simp; omega)]
     exact f1
    ·rw [f3 i (by rw [Nat.succ_mul]; omega),hp.2 i,if_neg (by omega)]
    ·cases i with
     | zero =>
      simp at hz2
      subst hz2
      refine ⟨by simpa using hl,fun j c hj => ?_⟩
      obtain ⟨d,hd,rfl⟩ := map_strip_get hj
      obtain ⟨u,g1,g2,g3⟩ := hcs j d hd
      have hjl : j < sz := by
       rcases Nat.lt_or_ge j e.length with h | h
       ·omega
       ·rw [List.getElem?_eq_none h] at hd; cases hd
      refine ⟨u,?_,g2,by rw [RepV_strip]; exact g3⟩
      rw [Nat.add_zero,f3 _ (by rw [Nat.succ_mul]; omega),hp.2,if_pos (by rw [hz,hl]; omega),Nat.add_sub_cancel_left]
      exact g1
     | succ i =>
      simp at hz2
      have := f4 i z hz2
      rwa [show k + 1 + i = k + (i + 1) by omega] at this
   ·cases hv
  ·cases hv
 | [],_ :: _,_,_,_,h,_,_,_ => by simp [okOs] at h
 | _ :: _,[],_,_,_,h,_,_,_ => by simp [okOs] at h
def slLit (P : Program) (t : TypeId) (sz n : Nat) : Bool := match P.underlying t with
 | some (.slice e) => sizeIs P e sz && (match P.info? e with
  | some i => i.zero.isSome
  | none => false) && decide (n * sz ≤ 2 ^ 24) && decide (0 < sz)
 | _ => false
theorem ex_mksl [Dr] {sz : Nat} {parts : List AO} {ps : List Operand} {t : TypeId} (hI : Inv num N w0 m0 T β0 σ a w m β ν) (ho : o.op = .buildSlice t ps.length (ps.zipIdx.map fun p => (p.2,p.1)).toArray)
  (ht : slLit P t sz ps.length = true) (hp : okOs num parts ps = true)
  (he : exec K (.mksl sz parts) σ = some (v,σ1)) (h : Aft num N w0 m0 T β0 σ1 a v fun u w' => next (a.put o.dst u) w') : o.wp P a w next Q := by
 simp only [exec] at he
 cases hr : elemsOf sz (parts.map (val σ.env)) with
 | none => rw [hr] at he; cases he
 | some xs =>
  rw [hr] at he
  injection he with he
  injection he with h1 h2
  subst h1 h2
  have hlen : ∀ (parts : List AO) (ps : List Operand),okOs num parts ps = true → parts.length = ps.length := by
   intro parts
   induction parts with
   | nil => intro ps hp; cases ps <;> simp [okOs] at hp ⊢
   | cons x xs ih => intro ps hp; cases ps with
    | nil => simp [okOs] at hp
    | cons y ys => simp only [okOs,Bool.and_eq_true] at hp; simp [ih ys hp.2]
  have hlen2 : ∀ (vs : List AV) (xs : List (List AV)),elemsOf sz vs = some xs → xs.length = vs.length := by
   intro vs
   induction vs with
   | nil => intro xs h; simp [elemsOf] at h; subst h; rfl
   | cons v vs ih =>
    intro xs h
    simp only [elemsOf] at h
    split at h
    ·rename_i e es h1 h2
     split at h
     ·injection h with h; subst h; simp [ih es h2]
     ·cases h
    ·cases h
  have hL := hlen parts ps hp
  have hX : xs.length = ps.length := by rw [hlen2 _ _ hr]; simpa using hL
  unfold slLit at ht
  split at ht
  ·rename_i e hu
   simp only [Bool.and_eq_true,decide_eq_true_eq] at ht
   obtain ⟨⟨⟨ht1,ht2⟩,ht3⟩,ht4⟩ := ht
   split at ht2
   ·rename_i i hi
    obtain ⟨z,hz⟩ := Option.isSome_iff_exists.1 ht2
    have hsz : i.size = sz := by unfold sizeIs at ht1; rw [hi] at ht1; simpa using ht1
    obtain ⟨zc,hzc⟩ : ∃ zc : Array Value,zc = (if ps.length * sz = 0 then #[] else z.cells) := ⟨_,rfl⟩
    obtain ⟨cells',f1,f2,_,f4⟩ := fill_slice hI sz ps.length parts ps 0 ((Array.range (ps.length * sz)).map (zc[· % zc.size]!)) xs hp hr (by simp) (by omega)
    refine wp_value (u := .slice (some ⟨w.heap.size,0,none⟩) ps.length ps.length) (w' := w.alloc (.cells cells' e)) ?_ ?_
    ·have hps : (Array.map (fun x : Nat × Operand => (x.fst,a.eval x.snd)) (ps.zipIdx.map fun p => (p.2,p.1)).toArray).toList = (ps.zipIdx 0).map fun p => (p.2,a.eval p.1) := by
      simp [List.map_map,Function.comp_def]
     simp only [execOp,ho,Instr.buildSlice,Sem.run_bind,run_underlying hu,Result.andThen_ok,run_sizeOf ht1]
     rw [if_neg (by omega)]
     by_cases h0 : ps.length * sz = 0
     ·rw [if_pos h0] at hzc
      simp only [h0,if_true,Sem.run_bind,Sem.run_pure,Result.andThen_ok,hps]
      rw [hzc,h0] at f1
      rw [f1]
      simp [newRow]
     ·rw [if_neg h0] at hzc
      simp only [h0,if_false,Sem.run_pure,Sem.run_bind,Result.andThen_ok,zeroValue,typeInfo,run_program,hi,hz,hps]
      rw [hzc] at f1
      rw [f1]
      simp [newRow]
    ·refine h _ _ _ β _ (hI.fresh cells' e (ps.length * sz) .f) ((SlotV_ok rfl).2 ⟨?_,.inr ⟨w.heap.size,ps.length,cells',e,by rw [hX],heap_alloc_new w _,by rw [f2],by simp [m1,hX],by simp [own1]⟩⟩)
     simp only [RepV]
     refine ⟨_,_,_,rfl,hX,Nat.le_refl _,?_,.inr ⟨w.heap.size,0,rfl,?_⟩⟩
     ·have : ps.length ≤ 2 ^ 24 := Nat.le_trans (Nat.le_mul_of_pos_right _ ht4) ht3
      unfold maxLen; omega
     ·rw [RepE_get]
      intro i2 x hx
      obtain ⟨g1,g2⟩ := f4 i2 x hx
      refine ⟨g1,?_⟩
      rw [RepC_get]
      intro j c hc
      obtain ⟨u,k1,k2,k3⟩ := g2 j c hc
      have hlt : i2 * sz + j < ps.length * sz := by
       have hjl : j < sz := by
        rcases Nat.lt_or_ge j x.length with h | h
        ·omega
        ·rw [List.getElem?_eq_none h] at hc; cases hc
       have hil : i2 < ps.length := by
        rcases Nat.lt_or_ge i2 xs.length with h | h
        ·omega
        ·rw [List.getElem?_eq_none h] at hx; cases hx
       have : (i2 + 1) * sz ≤ ps.length * sz := Nat.mul_le_mul_right _ hil
       rw [Nat.succ_mul] at this
       omega
      refine ⟨u,?_,k2,RepV_mono (Ge.refl β) (Step.alloc (fun _ => False) w m cells' e _).le c u k3⟩
      unfold hg
      rw [if_pos (by simp [m1]; omega),cell_of_row _ _ _ cells' e (0,0) (heap_alloc_new w _)]
      rw [Nat.zero_add] at k1 ⊢
      exact k1
   ·cases ht2
  ·cases ht
theorem run_mapM_list {α γ : Type} (f : α → Sem γ) (g : α → γ) : ∀ (l : List α),(∀ x ∈ l,(f x).run P w = .ok (g x) w) → (l.mapM f).run P w = .ok (l.map g) w
 | [],_ => by simp
 | x :: l,h => by
  rw [List.mapM_cons]
  simp only [Sem.run_bind,h x (by simp),Result.andThen_ok,run_mapM_list f g l (fun y hy => h y (by simp [hy])),Sem.run_pure,List.map_cons]
def fieldsOk (P : Program) (fs : Array Field) : Bool := fs.all fun f => (P.info? f.type).isSome
def partOk (P : Program) (fs : Array Field) (i off sz : Nat) : Bool := match fs[i]? with
 | some f => decide (f.offset = off) && sizeIs P f.type sz
 | none => false
def stParts (P : Program) (num : Nat → Option Nat) (fs : Array Field) : List (Nat × Nat × AO) → List (Nat × Operand) → Bool
 | [],[] => true
 | (off,sz,x) :: r,(i,y) :: r' => partOk P fs i off sz && okO num x y && stParts P num fs r r'
 | _,_ => false
def stOk (P : Program) (num : Nat → Option Nat) (t : TypeId) (zs : List AV) (parts : List (Nat × Nat × AO)) (ps : List (Nat × Operand)) : Bool := match P.underlying t with
 | some (.struct fs) => zeroIs P t zs && fieldsOk P fs && stParts P num fs parts ps
 | _ => false
def placesOf (P : Program) (fs : Array Field) : Array (Nat × Nat) := (fs.toList.map fun f => (f.offset,((P.info? f.type).map (·.size)).getD 0)).toArray
theorem fill_struct [Dr] (hI : Inv num N w0 m0 T β0 σ a w m β ν) (fs : Array Field) : ∀ (parts : List (Nat × Nat × AO)) (ps : List (Nat × Operand)) (zs cs : List AV) (cells : Array Value),
  stParts P num fs parts ps = true → fillSt zs (parts.map fun p => (p.1,p.2.1,Am.val σ.env p.2.2)) = some cs → cells.size = zs.length →
  (∀ (i : Nat) (c : AV),zs[i]? = some c → ∃ u,cells[i]? = some u ∧ u.oneCell' = true ∧ RepV num β w m c u) →
  ∃ cells',Instr.fill (fun i => (placesOf P fs)[i]?) cells (ps.map fun p => (p.1,a.eval p.2)) = some cells' ∧ cells'.size = cs.length ∧
   ∀ (i : Nat) (c : AV),cs[i]? = some c → ∃ u,cells'[i]? = some u ∧ u.oneCell' = true ∧ RepV num β w m c u
 | [],[],zs,cs,cells,_,hv,hz,hc => by
  simp only [List.map_nil,fillSt] at hv
  injection hv with hv
  subst hv
  exact ⟨cells,rfl,hz,hc⟩
 | (off,sz,x) :: r,(i,y) :: r',zs,cs,cells,ho,hv,hz,hc => by
  simp only [stParts,Bool.and_eq_true] at ho
  obtain ⟨⟨ho1,ho2⟩,ho3⟩ := ho
  simp only [List.map_cons,fillSt] at hv
  split at hv
  ·rename_i vs hvs
   split at hv
   ·rename_i hl
    obtain ⟨hl1,hl2⟩ := hl
    have hr := (hI.val ho2 (ok_of_cells hvs)).1
    obtain ⟨_,hz2,hcs⟩ := cellsOf_rep hvs hr
    have hpl : (placesOf P fs)[i]? = some (off,sz) := by
     unfold partOk at ho1
     split at ho1
     ·rename_i f hf
      simp only [Bool.and_eq_true,decide_eq_true_eq] at ho1
      obtain ⟨rfl,ho1⟩ := ho1
      unfold sizeIs at ho1
      split at ho1
      ·rename_i inf hinf
       simp only [decide_eq_true_eq] at ho1
       simp [placesOf,hf,hinf,ho1]
      ·cases ho1
     ·cases ho1
    have hfit : off + (a.eval y).cells.size ≤ cells.size := by rw [hz2,hz]; exact hl2
    have hp := fold_put' off (a.eval y).cells cells hfit
    have hlen : (put zs off (vs.map AV.strip)).length = zs.length := by unfold put; rw [put_len _ _ _ (by simpa using hl2)]
    obtain ⟨cells',f1,f2,f3⟩ := fill_struct hI fs r r' _ cs _ ho3 hv (by rw [hp.1,hz,hlen]) (fun j c hj => by
     unfold put at hj
     rw [put_get _ _ _ (by simpa using hl2)] at hj
     rw [hp.2 j]
     simp only [List.length_map] at hj
     split at hj
     ·rename_i h1
      obtain ⟨u,g1,g2⟩ := hc j c hj
      exact ⟨u,by rw [if_neg (by omega)]; exact g1,g2⟩
     ·rename_i h1
      split at hj
      ·rename_i h2
       obtain ⟨d,hd,rfl⟩ := map_strip_get hj
       obtain ⟨u,g1,g2,g3⟩ := hcs _ d hd
       exact ⟨u,by rw [if_pos (by rw [hz2]; omega)]; exact g1,g2,by rw [RepV_strip]; exact g3⟩
      ·rename_i h2
       obtain ⟨u,g1,g2⟩ := hc j c hj
       exact ⟨u,by rw [if_neg (by rw [hz2]; omega)]; exact g1,g2⟩)
    refine ⟨cells',?_,f2,f3⟩
    simp only [List.map_cons,Instr.fill,hpl]
    rw [if_neg (by rw [hz2,hl1,hz]; simp; omega)]
    exact f1
   ·cases hv
  ·cases hv
 | [],_ :: _,_,_,_,h,_,_,_ => by simp [stParts] at h
 | _ :: _,[],_,_,_,h,_,_,_ => by simp [stParts] at h
theorem ex_mkst [Dr] {zs : List AV} {parts : List (Nat × Nat × AO)} {ps : List (Nat × Operand)} {t : TypeId} (hI : Inv num N w0 m0 T β0 σ a w m β ν) (ho : o.op = .build t ps.toArray)
  (ht : stOk P num t zs parts ps = true)
  (he : exec K (.mkst zs parts) σ = some (v,σ1)) (h : Aft num N w0 m0 T β0 σ1 a v fun u w' => next (a.put o.dst u) w') : o.wp P a w next Q := by
 simp only [exec] at he
 cases hr : fillSt zs (parts.map fun p => (p.1,p.2.1,val σ.env p.2.2)) with
 | none => rw [hr] at he; cases he
 | some cs =>
  rw [hr] at he
  injection he with he
  injection he with h1 h2
  subst h1 h2
  unfold stOk at ht
  split at ht
  ·rename_i fs hu
   simp only [Bool.and_eq_true] at ht
   obtain ⟨⟨ht1,ht2⟩,ht3⟩ := ht
   obtain ⟨z,hz,hzc⟩ := zeroIs_run (w := w) ht1
   obtain ⟨hl,hcs⟩ := constCells_get _ _ hzc
   obtain ⟨cells',f1,f2,f3⟩ := fill_struct hI fs parts ps zs cs z.cells ht3 hr (by simpa using hl) (fun i c hc => by
    obtain ⟨u,g1,g2⟩ := hcs i c hc
    have := constCell_rep (num := num) (β := β) (w := w) (m := m) (ν := ν) g2
    exact ⟨u,by simpa using g1,this.2.1,this.1⟩)
   have hpl : (fs.mapM fun f => do pure (f.offset,← sizeOf f.type) : Sem _).run P w = .ok (placesOf P fs) w := by
    rw [Array.mapM_eq_mapM_toList]
    simp only [Sem.run_map]
    rw [run_mapM_list (fun f => do pure (f.offset,← sizeOf f.type)) (fun f : Field => (f.offset,((P.info? f.type).map (·.size)).getD 0)) fs.toList (fun f hf => by
     have := Array.all_eq_true_iff_forall_mem.1 ht2 f (by simpa using hf)
     obtain ⟨i,hi⟩ := Option.isSome_iff_exists.1 this
     simp [sizeOf,typeInfo,hi])]
    rfl
   refine wp_value (u := .agg cells') (w' := w) ?_ (h.same hI rfl ?_ trivial)
   ·have hps : (Array.map (fun x : Nat × Operand => (x.fst,a.eval x.snd)) ps.toArray).toList = ps.map fun p => (p.1,a.eval p.2) := by simp
    simp only [execOp,ho,Instr.build,Sem.run_bind,hz,Result.andThen_ok,run_underlying hu]
    simp only [hpl,Result.andThen_ok,hps]
    have f1' : Instr.fill (fun x => (placesOf P fs)[x]?) z.cells (ps.map fun p => (p.1,a.eval p.2)) = some cells' := f1
    simp only [f1',Sem.run_pure,Result.andThen_ok]
   ·simp only [RepV]
    exact ⟨cells',rfl,f2,by rw [RepC_get]; intro i c hc; rw [Nat.zero_add]; exact f3 i c hc⟩
  ·cases ht
theorem run_bound [Dr] {k : Nat} {n d : Nat} {x : Option AO} {y : Option Operand} (hI : Inv num N w0 m0 T β0 σ a w m β ν) (ho : okOpt num x y = true) (h : bound n d (x.map (Am.val σ.env)) = some k) :
  (y = none ∧ k = d) ∨ ∃ y',y = some y' ∧ k ≤ n ∧ ∃ kd,a.eval y' = .int kd (k : Int) := by
 cases x with
 | none =>
  cases y with
  | none => simp only [Option.map_none,bound] at h; injection h with h; exact .inl ⟨rfl,h.symm⟩
  | some y => simp [okOpt] at ho
 | some x =>
  cases y with
  | none => simp [okOpt] at ho
  | some y =>
   simp only [okOpt] at ho
   simp only [Option.map_some] at h
   unfold bound at h
   split at h
   ·rename_i h2; cases h2
   ·rename_i kd i h2
    injection h2 with h2
    split at h
    ·rename_i h3
     injection h with h
     have g1 := (hI.val ho (by rw [h2]; rfl)).1
     rw [h2] at g1
     simp only [RepV] at g1
     exact .inr ⟨y,rfl,by omega,kd,by rw [g1]; congr 1; omega⟩
    ·cases h
   ·cases h
theorem run_sliceBounds {l h len cap : Nat} {isSl : Bool} {lo hi : Option Value} (hh : (hi = none ∧ h = len) ∨ ∃ kd,hi = some (.int kd (h : Int))) (hl : (lo = none ∧ l = 0) ∨ ∃ kd,lo = some (.int kd (l : Int)))
  (h1 : h ≤ cap) (h2 : l ≤ h) : (Instr.sliceBounds isSl len cap lo hi none).run P w = .ok (l,h,cap) w := by
 have hb : ∀ (kd : IntKind) (n y : Nat) (c : BoundsCode),n ≤ y → (Instr.sliceBound (.int kd (n : Int)) y c).run P w = .ok n w := fun kd n y c hn => by
  simp only [Instr.sliceBound,asIntOf,Sem.run_bind,Sem.run_pure,Result.andThen_ok]
  rw [if_pos (by omega)]
  rfl
 rcases hh with ⟨rfl,rfl⟩ | ⟨kd,rfl⟩ <;> rcases hl with ⟨rfl,rfl⟩ | ⟨kd2,rfl⟩ <;> simp only [Instr.sliceBounds,Sem.run_bind,Sem.run_pure,Result.andThen_ok,hb _ _ _ _ h1,hb _ _ _ _ h2,Option.isSome_none,Bool.false_eq_true,if_false]
theorem ex_slcs [Dr] {x : AO} {lo hi : Option AO} {x' : Operand} {lo' hi' : Option Operand} {t : TypeId} (hI : Inv num N w0 m0 T β0 σ a w m β ν) (ho : o.op = .slice t x' lo' hi' none) (ht : strT P t = true) (hx : okO num x x' = true)
  (hlo : okOpt num lo lo' = true) (hhi : okOpt num hi hi' = true)
  (he : exec K (.slcs x lo hi) σ = some (v,σ1)) (h : Aft num N w0 m0 T β0 σ1 a v fun u w' => next (a.put o.dst u) w') : o.wp P a w next Q := by
 simp only [exec] at he
 split at he
 ·rename_i s hA
  cases hb1 : bound s.length s.length (hi.map (val σ.env)) with
  | none => rw [hb1] at he; cases he
  | some H =>
   rw [hb1] at he
   simp only [Option.bind_some] at he
   cases hb2 : bound H 0 (lo.map (val σ.env)) with
   | none => rw [hb2] at he; cases he
   | some L =>
    rw [hb2] at he
    injection he with he
    injection he with h1 h2
    subst h1 h2
    have g1 := (hI.val hx (by rw [hA]; rfl)).1
    rw [hA] at g1
    simp only [RepV] at g1
    have hH : H ≤ s.length := by
     rcases run_bound hI hhi hb1 with ⟨_,rfl⟩ | ⟨_,_,h,_⟩ <;> omega
    have hL : L ≤ H := by
     rcases run_bound hI hlo hb2 with ⟨_,rfl⟩ | ⟨_,_,h,_⟩ <;> omega
    have e1 : (hi'.map a.eval = none ∧ H = s.length) ∨ ∃ kd,hi'.map a.eval = some (.int kd (H : Int)) := by
     rcases run_bound hI hhi hb1 with ⟨rfl,rfl⟩ | ⟨y',rfl,_,kd,hk⟩
     ·exact .inl ⟨rfl,rfl⟩
     ·exact .inr ⟨kd,by simp [hk]⟩
    have e2 : (lo'.map a.eval = none ∧ L = 0) ∨ ∃ kd,lo'.map a.eval = some (.int kd (L : Int)) := by
     rcases run_bound hI hlo hb2 with ⟨rfl,rfl⟩ | ⟨y',rfl,_,kd,hk⟩
     ·exact .inl ⟨rfl,rfl⟩
     ·exact .inr ⟨kd,by simp [hk]⟩
    have hu := strT_of ht
    refine wp_value (u := .string ((⟨s.toArray⟩ : ByteArray).extract L H)) (w' := w) ?_ (h.same hI rfl ?_ trivial)
    ·simp only [execOp,ho,g1,Instr.sliceAt,Instr.slice,Sem.run_bind,run_underlying hu,Result.andThen_ok,Option.map_none,Option.isSome_none,Bool.false_eq_true,if_false]
     rw [run_sliceBounds (len := (⟨s.toArray⟩ : ByteArray).size) e1 e2 (by simpa [ByteArray.size_mk'] using hH) hL]
     rfl
    ·simp only [RepV]
     rw [ByteArray.extract_mk,List.drop_take]
 ·cases he
theorem ex_slcl [Dr] {sz : Nat} {x : AO} {lo hi : Option AO} {x' : Operand} {lo' hi' : Option Operand} {t : TypeId} (hI : Inv num N w0 m0 T β0 σ a w m β ν) (ho : o.op = .slice t x' lo' hi' none) (ht : elemIs P t sz = true) (hx : okO num x x' = true)
  (hlo : okOpt num lo lo' = true) (hhi : okOpt num hi hi' = true)
  (he : exec K (.slcl sz x lo hi) σ = some (v,σ1)) (h : Aft num N w0 m0 T β0 σ1 a v fun u w' => next (a.put o.dst u) w') : o.wp P a w next Q := by
 simp only [exec] at he
 split at he
 ·rename_i o2 sz1 xs hA
  split at he
  ·rename_i hsz
   subst hsz
   cases hb1 : bound xs.length xs.length (hi.map (val σ.env)) with
   | none => rw [hb1] at he; cases he
   | some H =>
    rw [hb1] at he
    simp only [Option.bind_some] at he
    cases hb2 : bound H 0 (lo.map (val σ.env)) with
    | none => rw [hb2] at he; cases he
    | some L =>
     rw [hb2] at he
     injection he with he
     injection he with h1 h2
     subst h1 h2
     have g1 := (hI.val hx (by rw [hA]; rfl)).1
     rw [hA] at g1
     simp only [RepV] at g1
     obtain ⟨A,len,cap,g1,g2,g3,g4,g5⟩ := g1
     have hH : H ≤ xs.length := by
      rcases run_bound hI hhi hb1 with ⟨_,rfl⟩ | ⟨_,_,h,_⟩ <;> omega
     have hL : L ≤ H := by
      rcases run_bound hI hlo hb2 with ⟨_,rfl⟩ | ⟨_,_,h,_⟩ <;> omega
     have e1 : (hi'.map a.eval = none ∧ H = len) ∨ ∃ kd,hi'.map a.eval = some (.int kd (H : Int)) := by
      rcases run_bound hI hhi hb1 with ⟨rfl,rfl⟩ | ⟨y',rfl,_,kd,hk⟩
      ·exact .inl ⟨rfl,g2⟩
      ·exact .inr ⟨kd,by simp [hk]⟩
     have e2 : (lo'.map a.eval = none ∧ L = 0) ∨ ∃ kd,lo'.map a.eval = some (.int kd (L : Int)) := by
      rcases run_bound hI hlo hb2 with ⟨rfl,rfl⟩ | ⟨y',rfl,_,kd,hk⟩
      ·exact .inl ⟨rfl,rfl⟩
      ·exact .inr ⟨kd,by simp [hk]⟩
     unfold elemIs at ht
     split at ht
     ·rename_i e hu
      refine wp_value (u := .slice (if cap = L then A else A.map (·.add (L * sz1))) (H - L) (cap - L)) (w' := w) ?_ (h.same hI rfl ?_ trivial)
      ·simp only [execOp,ho,g1,Instr.sliceAt,Instr.slice,Sem.run_bind,run_underlying hu,Result.andThen_ok,Option.map_none]
       rw [run_sliceBounds e1 e2 (by omega) hL]
       simp only [Result.andThen_ok,run_sizeOf ht]
       rfl
      ·simp only [RepV]
       refine ⟨_,_,_,rfl,by simp; omega,by omega,by omega,?_⟩
       by_cases hLH : L = H
       ·left
        subst hLH
        simp
       ·right
        rcases g5 with g5 | ⟨b,of,rfl,g5⟩
        ·subst g5; simp at hH; omega
        ·refine ⟨b,of + L * sz1,by rw [if_neg (by omega)]; simp [add_none],?_⟩
         rw [RepE_get] at g5 ⊢
         intro i z hz
         rw [List.getElem?_drop] at hz
         have hz2 : xs[L + i]? = some z := by
          rw [List.getElem?_take] at hz
          split at hz
          ·exact hz
          ·cases hz
         obtain ⟨k1,k2⟩ := g5 _ z hz2
         refine ⟨k1,?_⟩
         rwa [show of + L * sz1 + i * sz1 = of + (L + i) * sz1 by rw [Nat.add_mul]; omega]
     ·cases ht
  ·cases he
 ·rename_i id of sz1 kn hA
  split at he
  ·rename_i hsz
   obtain ⟨rfl,hszp⟩ := hsz
   cases hb1 : bound kn kn (hi.map (val σ.env)) with
   | none => rw [hb1] at he; cases he
   | some H =>
    rw [hb1] at he
    simp only [Option.bind_some] at he
    cases hb2 : bound H 0 (lo.map (val σ.env)) with
    | none => rw [hb2] at he; cases he
    | some L =>
     rw [hb2] at he
     injection he with he
     injection he with h1 h2
     subst h1 h2
     have g1 := (hI.val hx (by rw [hA]; rfl)).1
     rw [hA] at g1
     simp only [RepV] at g1
     obtain ⟨A,cap,g1,g3,g4,g5⟩ := g1
     have hH : H ≤ kn := by
      rcases run_bound hI hhi hb1 with ⟨_,rfl⟩ | ⟨_,_,h,_⟩ <;> omega
     have hL : L ≤ H := by
      rcases run_bound hI hlo hb2 with ⟨_,rfl⟩ | ⟨_,_,h,_⟩ <;> omega
     have e1 : (hi'.map a.eval = none ∧ H = kn) ∨ ∃ kd,hi'.map a.eval = some (.int kd (H : Int)) := by
      rcases run_bound hI hhi hb1 with ⟨rfl,rfl⟩ | ⟨y',rfl,_,kd,hk⟩
      ·exact .inl ⟨rfl,rfl⟩
      ·exact .inr ⟨kd,by simp [hk]⟩
     have e2 : (lo'.map a.eval = none ∧ L = 0) ∨ ∃ kd,lo'.map a.eval = some (.int kd (L : Int)) := by
      rcases run_bound hI hlo hb2 with ⟨rfl,rfl⟩ | ⟨y',rfl,_,kd,hk⟩
      ·exact .inl ⟨rfl,rfl⟩
      ·exact .inr ⟨kd,by simp [hk]⟩
     unfold elemIs at ht
     split at ht
     ·rename_i e hu
      refine wp_value (u := .slice (if cap = L then A else A.map (·.add (L * sz1))) (H - L) (cap - L)) (w' := w) ?_ (h.same hI rfl ?_ trivial)
      ·simp only [execOp,ho,g1,Instr.sliceAt,Instr.slice,Sem.run_bind,run_underlying hu,Result.andThen_ok,Option.map_none]
       rw [run_sliceBounds e1 e2 (by omega) hL]
       simp only [Result.andThen_ok,run_sizeOf ht]
       rfl
      ·simp only [RepV]
       refine ⟨_,_,rfl,by omega,by omega,?_⟩
       by_cases hLH : cap = L
       ·left
        refine ⟨by omega,by omega,?_⟩
        rcases g5 with g5 | ⟨kb,g5,_,g6,_⟩
        ·exact g5.2.2.imp (fun h => h) fun ⟨kb,g6,g7⟩ => ⟨kb,g6,by omega⟩
        ·exact .inr ⟨kb,g5,by rw [hLH] at g6; omega⟩
       ·rcases g5 with g5 | ⟨kb,g5,rfl,g6,_⟩
        ·left; exact ⟨by omega,by omega,g5.2.2.imp (fun h => h) fun ⟨kb,g6,g7⟩ => ⟨kb,g6,by omega⟩⟩
        ·right
         have hmul : L * sz1 + (cap - L) * sz1 = cap * sz1 := by rw [← Nat.add_mul]; congr 1; omega
         exact ⟨kb,g5,by rw [if_neg (by omega)]; simp [add_none],by omega,hszp⟩
     ·cases ht
  ·split at he
   ·rename_i hz
    obtain ⟨rfl,rfl⟩ := hz
    cases hb1 : bound 0 0 (hi.map (val σ.env)) with
    | none => rw [hb1] at he; cases he
    | some H =>
     rw [hb1] at he
     simp only [Option.bind_some] at he
     cases hb2 : bound H 0 (lo.map (val σ.env)) with
     | none => rw [hb2] at he; cases he
     | some L =>
      rw [hb2] at he
      injection he with he
      injection he with h1 h2
      subst h1 h2
      have g1 := (hI.val hx (by rw [hA]; rfl)).1
      rw [hA] at g1
      simp only [RepV] at g1
      obtain ⟨A,cap,g1,g3,g4,g5⟩ := g1
      have hcap : cap = 0 := by
       rcases g5 with g5 | ⟨_,_,_,_,g6⟩
       ·simpa using g5.2
       ·omega
      subst hcap
      have hH : H = 0 := by
       rcases run_bound hI hhi hb1 with ⟨_,rfl⟩ | ⟨_,_,h,_⟩ <;> omega
      subst hH
      have hL : L = 0 := by
       rcases run_bound hI hlo hb2 with ⟨_,rfl⟩ | ⟨_,_,h,_⟩ <;> omega
      subst hL
      have e1 : (hi'.map a.eval = none ∧ (0 : Nat) = 0) ∨ ∃ kd,hi'.map a.eval = some (.int kd ((0 : Nat) : Int)) := by
       rcases run_bound hI hhi hb1 with ⟨rfl,_⟩ | ⟨y',rfl,_,kd,hk⟩
       ·exact .inl ⟨rfl,rfl⟩
       ·exact .inr ⟨kd,by simp [hk]⟩
      have e2 : (lo'.map a.eval = none ∧ (0 : Nat) = 0) ∨ ∃ kd,lo'.map a.eval = some (.int kd ((0 : Nat) : Int)) := by
       rcases run_bound hI hlo hb2 with ⟨rfl,_⟩ | ⟨y',rfl,_,kd,hk⟩
       ·exact .inl ⟨rfl,rfl⟩
       ·exact .inr ⟨kd,by simp [hk]⟩
      unfold elemIs at ht
      split at ht
      ·rename_i e hu
       refine wp_value (u := .slice (if 0 = 0 then A else A.map (·.add (0 * sz))) (0 - 0) (0 - 0)) (w' := w) ?_ (h.same hI rfl ?_ trivial)
       ·simp only [execOp,ho,g1,Instr.sliceAt,Instr.slice,Sem.run_bind,run_underlying hu,Result.andThen_ok,Option.map_none]
        rw [run_sliceBounds e1 e2 (by omega) (by omega)]
        simp only [Result.andThen_ok,run_sizeOf ht]
        rfl
       ·simp only [RepV]
        exact ⟨_,_,rfl,by omega,by unfold maxLen; omega,.inl (by simp)⟩
      ·cases ht
   ·cases he
 ·cases he
theorem ex_slz [Dr] {sz : Nat} {x : AO} {x' : Operand} {t : TypeId} {k1 k2 : IntKind} (hI : Inv num N w0 m0 T β0 σ a w m β ν) (ho : o.op = .slice t x' none (some (.const (.int k1 0))) (some (.const (.int k2 0)))) (ht : elemIs P t sz = true) (hx : okO num x x' = true)
  (he : exec K (.slz sz x) σ = some (v,σ1)) (h : Aft num N w0 m0 T β0 σ1 a v fun u w' => next (a.put o.dst u) w') : o.wp P a w next Q := by
 simp only [exec] at he
 split at he
 ·rename_i o2 sz1 xs hA
  split at he
  ·rename_i hsz
   subst hsz
   injection he with he
   injection he with h1 h2
   subst h1 h2
   have g1 := (hI.val hx (by rw [hA]; rfl)).1
   rw [hA] at g1
   simp only [RepV] at g1
   obtain ⟨A,len,cap,g1,g2,g3,g4,g5⟩ := g1
   unfold elemIs at ht
   split at ht
   ·rename_i e hu
    refine wp_value (u := .slice A 0 0) (w' := w) ?_ (h.same hI rfl ?_ (.inl ⟨A,rfl⟩))
    ·have c1 : a.eval (.const (.int k1 0)) = .int k1 0 := rfl
     have c2 : a.eval (.const (.int k2 0)) = .int k2 0 := rfl
     simp [execOp,ho,g1,c1,c2,Instr.sliceAt,Instr.slice,run_underlying hu,Instr.sliceBounds,Instr.sliceBound,asIntOf,run_sizeOf ht]
    ·simp only [RepV]
     exact ⟨A,0,0,rfl,rfl,Nat.le_refl _,Nat.zero_le _,.inl trivial⟩
   ·cases ht
  ·cases he
 ·cases he
theorem ex_mkfn [Dr] {f g : Nat} {caps : List AO} {cs : List Operand} (hI : Inv num N w0 m0 T β0 σ a w m β ν) (ho : o.op = .makeFunc (.func g) #[] cs.toArray) (hf : num f = some g) (hc : okOs num caps cs = true)
  (he : exec K (.mkfn f caps) σ = some (v,σ1)) (h : Aft num N w0 m0 T β0 σ1 a v fun u w' => next (a.put o.dst u) w') : o.wp P a w next Q := by
 simp only [exec] at he
 split at he
 ·rename_i h1c
  injection he with he
  injection he with h1 h2
  subst h1 h2
  have hok : okVals (caps.map (val σ.env)) = true := by
   unfold okVals
   rw [List.all_eq_true] at h1c ⊢
   intro x hx
   exact one_ok (h1c x hx)
  obtain ⟨hl,hv⟩ := hI.vals hc hok
  refine wp_value (u := .func (.func g) #[] (cs.toArray.map a.eval)) (w' := w) (by simp [execOp,ho,Instr.makeFunc]) (h.same hI rfl ?_ trivial)
  simp only [RepV]
  refine ⟨g,_,hf,rfl,by simp [hl],?_⟩
  rw [RepC_get]
  intro i c hci
  obtain ⟨y,k1,k2,k3⟩ := hv i c hci
  have h1 : c.one = true := by
   rw [List.all_eq_true] at h1c
   exact h1c c (List.mem_of_getElem? hci)
  exact ⟨a.eval y,by simp [k1],oneCell_of h1 k3,k3⟩
 ·cases he
end
end Go.Am
