/-
  Rc8, Rc9, Rc10, Rc11, Rc12.
-/
import Derived.Test.YteahheknpdcoeaaGreatDoorG17
set_option linter.unusedVariables false
set_option linter.unusedSimpArgs false
namespace Go.Am
set_option maxRecDepth 8000
def hasT (l : List Tm) (t : Tm) : Bool := l.any fun x => decide (cmpT x t = 0)
theorem hasT_iff {l : List Tm} {t : Tm} : hasT l t = true ↔ t ∈ l := by
 simp only [hasT,List.any_eq_true,decide_eq_true_eq]
 constructor
 ·rintro ⟨x,hx,h⟩; rw [← cmpT_eq0 _ _ h]; exact hx
 ·intro h; exact ⟨t,h,cmpT_refl t⟩
def togT (l : List Tm) (t : Tm) : List Tm := if hasT l t then l.filter (fun x => !decide (cmpT x t = 0)) else addS t l
def plusR (a b : List Tm) : List Tm := b.foldl togT a
theorem asc_filter {l : List Tm} (p : Tm → Bool) (h : Asc l) : Asc (l.filter p) := List.Pairwise.filter _ h
theorem asc_togT {l : List Tm} (t : Tm) (h : Asc l) : Asc (togT l t) := by
 unfold togT
 split
 ·exact asc_filter _ h
 ·exact asc_addS h
theorem mem_togT {l : List Tm} {t y : Tm} : y ∈ togT l t ↔ (y ∈ l ∧ y ≠ t) ∨ (y = t ∧ t ∉ l) := by
 unfold togT
 split
 ·rename_i h
  rw [hasT_iff] at h
  simp only [List.mem_filter,Bool.not_eq_true',decide_eq_false_iff_not,cmpT_iff]
  constructor
  ·rintro ⟨h1,h2⟩; exact .inl ⟨h1,h2⟩
  ·rintro (⟨h1,h2⟩ | ⟨rfl,h2⟩)
   ·exact ⟨h1,h2⟩
   ·exact absurd h h2
 ·rename_i h
  rw [hasT_iff] at h
  rw [mem_addS]
  constructor
  ·rintro (rfl | h1)
   ·exact .inr ⟨rfl,h⟩
   ·refine .inl ⟨h1,fun e => ?_⟩
    subst e; exact h h1
  ·rintro (⟨h1,h2⟩ | ⟨h1,h2⟩)
   ·exact .inr h1
   ·exact .inl h1
theorem asc_plusR : ∀ (b a : List Tm),Asc a → Asc (plusR a b)
 | [],_,h => h
 | x :: b,a,h => asc_plusR b _ (asc_togT x h)
theorem mem_plusR {y : Tm} : ∀ {b a : List Tm},Asc b → (y ∈ plusR a b ↔ (y ∈ a ∧ y ∉ b) ∨ (y ∉ a ∧ y ∈ b))
 | [],a,_ => by simp [plusR]
 | x :: b,a,h => by
  rw [asc_cons] at h
  have ih := mem_plusR (y := y) (b := b) (a := togT a x) h.2
  have hxb : x ∉ b := fun hm => lt_irr x (h.1 x hm)
  simp only [plusR,List.foldl_cons] at ih ⊢
  rw [ih,mem_togT]
  simp only [List.mem_cons]
  by_cases e : y = x
  ·subst e
   by_cases hy : y ∈ a <;> simp [hy,hxb]
  ·by_cases hy : y ∈ a <;> by_cases hb : y ∈ b <;> simp [hy,hb,e]
theorem plusR_len : ∀ (b a : List Tm),(plusR a b).length ≤ a.length + b.length
 | [],a => by simp [plusR]
 | x :: b,a => by
  have ih := plusR_len b (togT a x)
  have : (togT a x).length ≤ a.length + 1 := by
   unfold togT
   split
   ·have := List.length_filter_le (fun y => !decide (cmpT y x = 0)) a; omega
   ·exact addS_len x a
  simp only [plusR,List.foldl_cons,List.length_cons] at ih ⊢
  omega
def plusM : List Tm → List Tm → List Tm
 | [],b => b
 | a,[] => a
 | x :: a,y :: b => if cmpT x y < 0 then x :: plusM a (y :: b) else if 0 < cmpT x y then y :: plusM (x :: a) b else plusM a b
termination_by a b => a.length + b.length
theorem plusM_nil (b : List Tm) : plusM [] b = b := by rw [plusM]
theorem plusM_nil' (a : List Tm) : plusM a [] = a := by cases a <;> rw [plusM]; simp
theorem plusM_cons (x y : Tm) (a b : List Tm) : plusM (x :: a) (y :: b) = if cmpT x y < 0 then x :: plusM a (y :: b) else if 0 < cmpT x y then y :: plusM (x :: a) b else plusM a b := by rw [plusM]
theorem mem_plusM {y : Tm} : ∀ (n : Nat) (a b : List Tm),a.length + b.length ≤ n → Asc a → Asc b → (y ∈ plusM a b ↔ (y ∈ a ∧ y ∉ b) ∨ (y ∉ a ∧ y ∈ b))
 | _,[],b,_,_,_ => by rw [plusM_nil]; simp
 | _,x :: a,[],_,_,_ => by rw [plusM_nil']; simp
 | 0,x :: a,z :: b,h,_,_ => by simp at h
 | n + 1,x :: a,z :: b,h,ha,hb => by
  have ha0 := ha
  have hb0 := hb
  rw [asc_cons] at ha hb
  simp only [List.length_cons] at h
  rw [plusM_cons]
  split
  ·rename_i h1
   rw [List.mem_cons,mem_plusM n a (z :: b) (by simp; omega) ha.2 hb0]
   have hxb : x ∉ z :: b := fun hm => by
    rcases List.mem_cons.1 hm with e | e
    ·subst e; exact lt_irr x h1
    ·exact lt_irr x (lt_trans' h1 (hb.1 x e))
   have hxa : x ∉ a := fun hm => lt_irr x (ha.1 x hm)
   by_cases e : y = x
   ·subst e; simp [hxb]
   ·simp [e]
  ·rename_i h1
   split
   ·rename_i h2
    have h2' := gt_iff.1 h2
    rw [List.mem_cons,mem_plusM n (x :: a) b (by simp; omega) ha0 hb.2]
    have hza : z ∉ x :: a := fun hm => by
     rcases List.mem_cons.1 hm with e | e
     ·subst e; exact lt_irr z h2'
     ·exact lt_irr z (lt_trans' h2' (ha.1 z e))
    have hzb : z ∉ b := fun hm => lt_irr z (hb.1 z hm)
    by_cases e : y = z
    ·subst e; simp [hza]
    ·simp [e]
   ·rename_i h2
    have e0 := cmpT_eq0 x z (by omega)
    subst e0
    rw [mem_plusM n a b (by omega) ha.2 hb.2]
    have hxa : x ∉ a := fun hm => lt_irr x (ha.1 x hm)
    have hxb : x ∉ b := fun hm => lt_irr x (hb.1 x hm)
    by_cases e : y = x
    ·subst e; simp [hxa,hxb]
    ·simp [e]
theorem asc_plusM : ∀ (n : Nat) (a b : List Tm),a.length + b.length ≤ n → Asc a → Asc b → Asc (plusM a b)
 | _,[],b,_,_,hb => by rw [plusM_nil]; exact hb
 | _,x :: a,[],_,ha,_ => by rw [plusM_nil']; exact ha
 | 0,x :: a,z :: b,h,_,_ => by simp at h
 | n + 1,x :: a,z :: b,h,ha,hb => by
  have ha0 := ha
  have hb0 := hb
  rw [asc_cons] at ha hb
  simp only [List.length_cons] at h
  rw [plusM_cons]
  split
  ·rename_i h1
   rw [asc_cons]
   refine ⟨fun y hy => ?_,asc_plusM n a (z :: b) (by simp; omega) ha.2 hb0⟩
   rw [mem_plusM n a (z :: b) (by simp; omega) ha.2 hb0] at hy
   rcases hy with ⟨hy,_⟩ | ⟨_,hy⟩
   ·exact ha.1 y hy
   ·rcases List.mem_cons.1 hy with e | e
    ·subst e; exact h1
    ·exact lt_trans' h1 (hb.1 y e)
  ·rename_i h1
   split
   ·rename_i h2
    have h2' := gt_iff.1 h2
    rw [asc_cons]
    refine ⟨fun y hy => ?_,asc_plusM n (x :: a) b (by simp; omega) ha0 hb.2⟩
    rw [mem_plusM n (x :: a) b (by simp; omega) ha0 hb.2] at hy
    rcases hy with ⟨hy,_⟩ | ⟨_,hy⟩
    ·rcases List.mem_cons.1 hy with e | e
     ·subst e; exact h2'
     ·exact lt_trans' h2' (ha.1 y e)
    ·exact hb.1 y hy
   ·exact asc_plusM n a b (by omega) ha.2 hb.2
theorem plusM_eq {a b : List Tm} (ha : Asc a) (hb : Asc b) : plusM a b = plusR a b :=
 asc_ext (asc_plusM _ a b (Nat.le_refl _) ha hb) (asc_plusR b a ha) fun x => by rw [mem_plusM _ a b (Nat.le_refl _) ha hb,mem_plusR hb]
def ZERO : List UInt8 := [122,101,114,111]
def XOR : List UInt8 := [120,111,114]
mutual
def sumS : Tm → List Tm
 | .mk k n s ks => if k = 3 ∧ n = ZERO ∧ ks = [] then [] else if k = 3 ∧ n = XOR then sumL [] ks else [.mk k n s ks]
def sumL (acc : List Tm) : List Tm → List Tm
 | [] => acc
 | t :: ts => sumL (plusR acc (sumS t)) ts
end
mutual
theorem asc_sumS : ∀ t : Tm,Asc (sumS t)
 | .mk k n s ks => by
  simp only [sumS]
  split
  ·exact Asc.nil
  ·split
   ·exact asc_sumL ks [] Asc.nil
   ·exact asc_one _
theorem asc_sumL : ∀ (ts acc : List Tm),Asc acc → Asc (sumL acc ts)
 | [],_,h => h
 | t :: ts,acc,h => asc_sumL ts _ (asc_plusR _ _ h)
end
theorem mem_plusR_or {y : Tm} {b a : List Tm} (hb : Asc b) (h : y ∈ plusR a b) : y ∈ a ∨ y ∈ b := by
 rw [mem_plusR hb] at h
 rcases h with h | h
 ·exact .inl h.1
 ·exact .inr h.2
mutual
theorem sumS_mem : ∀ (t y : Tm),y ∈ sumS t → y ∈ allT t
 | .mk k n s ks,y,h => by
  simp only [sumS] at h
  simp only [allT,List.mem_cons]
  split at h
  ·simp at h
  ·split at h
   ·rcases sumL_mem ks [] y h with h | h
    ·simp at h
    ·exact .inr h
   ·simp at h; exact .inl h
theorem sumL_mem : ∀ (ts acc : List Tm) (y : Tm),y ∈ sumL acc ts → y ∈ acc ∨ y ∈ allL ts
 | [],acc,y,h => .inl h
 | t :: ts,acc,y,h => by
  simp only [allL,List.mem_append]
  rcases sumL_mem ts _ y h with h | h
  ·rcases mem_plusR_or (asc_sumS t) h with h | h
   ·exact .inl h
   ·exact .inr (.inl (sumS_mem t y h))
  ·exact .inr (.inr h)
end
mutual
theorem sumS_len : ∀ t : Tm,(sumS t).length ≤ t.nodes
 | .mk k n s ks => by
  simp only [sumS,Tm.nodes]
  split
  ·simp
  ·split
   ·have := sumL_len ks []; simp at this; omega
   ·simp
theorem sumL_len : ∀ (ts acc : List Tm),(sumL acc ts).length ≤ acc.length + nodesL ts
 | [],acc => by simp [sumL,nodesL]
 | t :: ts,acc => by
  have h1 := sumL_len ts (plusR acc (sumS t))
  have h2 := plusR_len (sumS t) acc
  have h3 := sumS_len t
  simp only [sumL,nodesL] at *
  omega
end
theorem call_Has_loop (l : List Tm) (t : Tm) (bs : List (List AV)) (hl : l.length < 100000000) (hm : ∀ x ∈ l,x.mass < big) (ht : t.mass < big) :
  ∀ (post pre : List Tm) (ρ : Nat → AV),l = pre ++ post → ρ 0 = .sl false 4 (encTs l) → ρ 3 = .bx (encT t) → ρ 5 = .int .i64 pre.length →
  R F.tb (.loop F.f250l0) ρ bs (blockK 0 (seqK F.tb F.f250r0 (finK F.f250 bs))) = some (.bool (hasT post t),bs) := by
 intro post
 induction post with
 | nil =>
  intro pre ρ hk h0 h3 h5
  simp only [List.append_nil] at hk
  rw [← hk] at h5
  rw [R_loop' F.f250l0.eq_1]
  simp [h0,h3,h5,F.f250r0,F.f250R,F.f250K,hasT]
 | cons x post IH =>
  intro pre ρ hk h0 h3 h5
  have hg := get_pre hk
  have hll : l.length = pre.length + (post.length + 1) := by rw [hk]; simp
  have hw1 : IntKind.i64.wrap ((pre.length : Int) + 1) = (pre.length : Int) + 1 := wrap64 (by omega) (by omega)
  have hlt : (pre.length : Int) < (l.length : Int) := by omega
  have hc := call_RSame x t bs (hm x (by rw [hk]; simp)) ht
  rw [R_loop' F.f250l0.eq_1]
  by_cases he : cmpT x t = 0
  ·simp [h0,h3,h5,hg,hlt,hw1,hc,he,encT_take,hasT,F.f250R,F.f250K]
  ·have e : hasT (x :: post) t = hasT post t := by simp [hasT,he]
   rw [e]
   simp [h0,h3,h5,hg,hlt,hw1,hc,he,encT_take]
   rw [IH (pre ++ [x])] <;> simp [h0,h3,hk]
theorem call_Has (l : List Tm) (t : Tm) (o : Bool) (bs : List (List AV)) (hl : l.length < 100000000) (hm : ∀ x ∈ l,x.mass < big) (ht : t.mass < big) :
  call F.tb 250 [.sl o 4 (encTs l),.agg (encT t)] bs = some (.bool (hasT l t),bs) := by
 have h := fun ρ => call_Has_loop l t bs hl hm ht l [] ρ rfl
 rw [call_code F.tb_250 _ _ rfl]
 simp [F.f250B,F.f250C]
 refine h _ ?_ ?_ ?_ <;> simp
theorem tog_loop (l : List Tm) (t : Tm) (bs : List (List AV)) (hl : l.length < 100000000) (hm : ∀ x ∈ l,x.mass < big) (ht : t.mass < big) :
  ∀ (post pre : List Tm) (ρ : Nat → AV),l = pre ++ post → ρ 0 = .sl false 4 (encTs l) → ρ 3 = .bx (encT t) → ρ 5 = .sl true 4 (encTs (pre.filter (fun x => !decide (cmpT x t = 0)))) → ρ 6 = .int .i64 pre.length →
  R F.tb (.loop F.f249l0) ρ bs (blockK 0 (seqK F.tb F.f249r0 (finK F.f249 bs))) = some (.sl false 4 (encTs (l.filter (fun x => !decide (cmpT x t = 0)))),bs) := by
 intro post
 induction post with
 | nil =>
  intro pre ρ hk h0 h3 h5 h6
  simp only [List.append_nil] at hk
  rw [← hk] at h5 h6
  rw [R_loop' F.f249l0.eq_1]
  simp [h0,h3,h5,h6,F.f249r0,F.f249R,F.f249K]
 | cons x post IH =>
  intro pre ρ hk h0 h3 h5 h6
  have hg := get_pre hk
  have hll : l.length = pre.length + (post.length + 1) := by rw [hk]; simp
  have hw1 : IntKind.i64.wrap ((pre.length : Int) + 1) = (pre.length : Int) + 1 := wrap64 (by omega) (by omega)
  have hlt : (pre.length : Int) < (l.length : Int) := by omega
  have hfl := List.length_filter_le (fun x => !decide (cmpT x t = 0)) pre
  have hb : ((pre.filter (fun x => !decide (cmpT x t = 0))).length + 1) * 56 ≤ 140737488355328 := lim56 (by omega)
  have hc := call_RSame x t bs (hm x (by rw [hk]; simp)) ht
  have h2 := IH (pre ++ [x])
  rw [R_loop' F.f249l0.eq_1]
  by_cases he : cmpT x t = 0
  ·have hf : (pre ++ [x]).filter (fun x => !decide (cmpT x t = 0)) = pre.filter (fun x => !decide (cmpT x t = 0)) := by simp [List.filter_cons,he]
   rw [hf] at h2
   generalize pre.filter (fun x => !decide (cmpT x t = 0)) = pf at *
   generalize l.filter (fun x => !decide (cmpT x t = 0)) = lf at *
   simp [h0,h3,h5,h6,hg,hlt,hw1,hc,he,encT_take]
   rw [h2] <;> simp [h0,h3,h5,hk]
  ·have hf : (pre ++ [x]).filter (fun x => !decide (cmpT x t = 0)) = pre.filter (fun x => !decide (cmpT x t = 0)) ++ [x] := by simp [List.filter_cons,he]
   rw [hf] at h2
   generalize pre.filter (fun x => !decide (cmpT x t = 0)) = pf at *
   generalize l.filter (fun x => !decide (cmpT x t = 0)) = lf at *
   simp [h0,h3,h5,h6,hg,hlt,hw1,hc,he,hb,encT_take,encTs_one,encTs_append]
   rw [h2] <;> simp [h0,h3,hk]
theorem call_toggle (l : List Tm) (t : Tm) (o : Bool) (bs : List (List AV)) (hl : l.length < 100000000) (hm : ∀ x ∈ l,x.mass < big) (ht : t.mass < big) :
  call F.tb 249 [.sl o 4 (encTs l),.agg (encT t)] bs = some (.sl false 4 (encTs (togT l t)),bs) := by
 have h := fun ρ => tog_loop l t bs hl hm ht l [] ρ rfl
 have hh := call_Has l t false bs hl hm ht
 have ha := call_Add l t false bs hl hm ht
 rw [call_code F.tb_249 _ _ rfl]
 cases hb : hasT l t
 ·have e : togT l t = addS t l := by simp [togT,hb]
  rw [e]
  simp [F.f249B,F.f249C,encT_take,hh,hb,ha,F.f249R,F.f249K]
 ·have e : togT l t = l.filter (fun x => !decide (cmpT x t = 0)) := by simp [togT,hb]
  rw [e]
  generalize l.filter (fun x => !decide (cmpT x t = 0)) = lf at *
  simp [F.f249B,F.f249C,encT_take,hh,hb]
  refine h _ ?_ ?_ ?_ ?_ <;> simp [encTs]
theorem RPlus_loop (b : List Tm) (bs : List (List AV)) (hl : b.length < 40000000) (hm : ∀ x ∈ b,x.mass < big) :
  ∀ (post pre acc : List Tm) (o : Bool) (ρ : Nat → AV),b = pre ++ post → acc.length + post.length < 90000000 → (∀ x ∈ acc,x.mass < big) → ρ 1 = .sl false 4 (encTs b) → ρ 5 = .sl o 4 (encTs acc) → ρ 6 = .int .i64 pre.length →
  R F.tb (.loop F.f248l0) ρ bs (blockK 0 (seqK F.tb F.f248r0 (finK F.f248 bs))) = some (.sl false 4 (encTs (plusR acc post)),bs) := by
 intro post
 induction post with
 | nil =>
  intro pre acc o ρ hk ha hma h1 h5 h6
  simp only [List.append_nil] at hk
  rw [← hk] at h6
  rw [R_loop' F.f248l0.eq_1]
  simp [h1,h5,h6,F.f248r0,F.f248R,F.f248K,plusR]
 | cons x post IH =>
  intro pre acc o ρ hk ha hma h1 h5 h6
  have hg := get_pre hk
  have hll : b.length = pre.length + (post.length + 1) := by rw [hk]; simp
  have hw1 : IntKind.i64.wrap ((pre.length : Int) + 1) = (pre.length : Int) + 1 := wrap64 (by omega) (by omega)
  have hlt : (pre.length : Int) < (b.length : Int) := by omega
  have hx := hm x (by rw [hk]; simp)
  have hal : acc.length + (post.length + 1) < 90000000 := by simpa using ha
  have hc := call_toggle acc x false bs (by omega) hma hx
  have htl : (togT acc x).length ≤ acc.length + 1 := by
   have := plusR_len [x] acc; simpa [plusR] using this
  have htm : ∀ y ∈ togT acc x,y.mass < big := fun y hy => by
   rcases mem_togT.1 hy with h | h
   ·exact hma y h.1
   ·rw [h.1]; exact hx
  have h2 := fun ρ => IH (pre ++ [x]) (togT acc x) false ρ (by rw [hk]; simp) (by omega) htm
  rw [R_loop' F.f248l0.eq_1]
  simp [h1,h5,h6,hg,hlt,hw1,hc]
  rw [show plusR acc (x :: post) = plusR (togT acc x) post from rfl]
  refine h2 _ ?_ ?_ ?_ <;> simp [h1]
theorem call_RPlus (a b : List Tm) (o o2 : Bool) (bs : List (List AV)) (ha : a.length < 40000000) (hb : b.length < 40000000) (hma : ∀ x ∈ a,x.mass < big) (hmb : ∀ x ∈ b,x.mass < big) :
  call F.tb 248 [.sl o 4 (encTs a),.sl o2 4 (encTs b)] bs = some (.sl false 4 (encTs (plusR a b)),bs) := by
 have h := fun o ρ => RPlus_loop b bs hb hmb b [] a o ρ rfl (by omega) hma
 have hlim : a.length * 56 ≤ 140737488355328 := lim56 (by omega)
 rw [call_code F.tb_248 _ _ rfl]
 simp [F.f248B,F.f248C,hlim]
 refine h true _ ?_ ?_ ?_ <;> simp
theorem RSum_loop (t : Tm) (bs : List (List AV)) (hm : t.mass < 30000000) (ih : ∀ x ∈ t.kids,∀ bs,∃ o,call F.tb 247 [.agg (encT x)] bs = some (.sl o 4 (encTs (sumS x)),bs)) :
  ∀ (post pre acc : List Tm) (o : Bool) (ρ : Nat → AV),t.kids = pre ++ post → acc.length + nodesL post < 30000000 → (∀ x ∈ acc,x.mass < big) → ρ 1 = .bx (encT t) → ρ 3 = .sl o 4 (encTs acc) → ρ 4 = .int .i64 pre.length →
  R F.tb (.loop F.f247l0) ρ bs (blockK 0 (seqK F.tb F.f247r0 (finK F.f247 bs))) = some (.sl false 4 (encTs (sumL acc post)),bs) := by
 have hmk := mass_eq t
 intro post
 induction post with
 | nil =>
  intro pre acc o ρ hk ha hma h1 h3 h4
  simp only [List.append_nil] at hk
  rw [← hk] at h4
  rw [R_loop' F.f247l0.eq_1]
  simp [h1,h3,h4,F.f247r0,F.f247R,F.f247K,sumL]
 | cons x post IH =>
  intro pre acc o ρ hk ha hma h1 h3 h4
  have hg := get_pre hk
  have hll : t.kids.length = pre.length + (post.length + 1) := by rw [hk]; simp
  have hgl : t.kids[pre.length]'(by omega) = x := by
   have := List.getElem?_eq_getElem (l := t.kids) (i := pre.length) (by omega)
   rw [hg] at this; injection this with this; exact this.symm
  have hw1 : IntKind.i64.wrap ((pre.length : Int) + 1) = (pre.length : Int) + 1 := wrap64 (by omega) (by omega)
  have hlt : (pre.length : Int) < (t.kids.length : Int) := by omega
  have hxk : x ∈ t.kids := by rw [hk]; simp
  have hxm := massL_mem hxk
  have hxn := nodes_le_mass x
  have hsl := sumS_len x
  simp only [nodesL] at ha
  obtain ⟨o1,hc1⟩ := ih x hxk bs
  have hsm : ∀ y ∈ sumS x,y.mass < big := fun y hy => by have := allT_mass x y (sumS_mem x y hy); unfold big; omega
  have hc2 := call_RPlus acc (sumS x) false false bs (by omega) (by omega) hma hsm
  have hpl := plusR_len (sumS x) acc
  have hpm : ∀ y ∈ plusR acc (sumS x),y.mass < big := fun y hy => by
   rcases mem_plusR_or (asc_sumS x) hy with h | h
   ·exact hma y h
   ·exact hsm y h
  have h2 := fun ρ => IH (pre ++ [x]) (plusR acc (sumS x)) false ρ (by rw [hk]; simp) (by omega) hpm
  rw [R_loop' F.f247l0.eq_1]
  simp [h1,h3,h4,hg,hgl,hlt,hw1,hc1,hc2,sumL]
  refine h2 _ ?_ ?_ ?_ <;> simp [h1]
theorem call_RSummands : ∀ (t : Tm) (bs : List (List AV)),t.mass < 30000000 → ∃ o,call F.tb 247 [.agg (encT t)] bs = some (.sl o 4 (encTs (sumS t)),bs) := by
 refine tm_ind ?_
 intro k n s ks ih bs hm
 have hmk := mass_eq (.mk k n s ks)
 have hnm := nodesL_le_mass ks
 simp only [mk_kids,mk_name] at hmk
 have hl := fun ρ => RSum_loop (.mk k n s ks) bs hm (fun x hx bs => ih x hx bs (by have := massL_mem hx; simp at this; omega)) ks [] [] true ρ rfl (by simp; omega) (by simp)
 rw [call_code F.tb_247 _ _ rfl]
 by_cases hk : k = 3
 ·by_cases hz : n = ZERO
  ·cases ks with
   | nil =>
    refine ⟨true,?_⟩
    simp [F.f247B,F.f247C,encT,encTs,sumS,hk,hz,ZERO,F.f247R,F.f247K]
   | cons x xs =>
    refine ⟨true,?_⟩
    simp only [ZERO] at hz
    have : ¬ ((xs.length : Int) + 1 = 0) := by omega
    simp [F.f247B,F.f247C,encT,sumS,hk,hz,ZERO,XOR,this,F.f247R,F.f247K,encTs]
  ·by_cases hx : n = XOR
   ·refine ⟨false,?_⟩
    have e : sumS (.mk k n s ks) = sumL [] ks := by simp [sumS,hk,hx,ZERO,XOR]
    rw [e]
    have hb1 : (n == [122,101,114,111]) = false := by simpa [ZERO] using hz
    simp only [XOR] at hx
    simp [F.f247B,F.f247C,encT,hk,hx]
    refine hl _ ?_ ?_ ?_ <;> simp [encT,encTs,hk,hx]
   ·refine ⟨true,?_⟩
    have e : sumS (.mk k n s ks) = [.mk k n s ks] := by simp [sumS,hk,hx,hz]
    rw [e]
    have hb1 : (n == [122,101,114,111]) = false := by simpa [ZERO] using hz
    have hb2 : (n == [120,111,114]) = false := by simpa [XOR] using hx
    have hb3 : (n != [120,111,114]) = true := by simpa [XOR] using hx
    simp [F.f247B,F.f247C,encT,hk,hb1,hb2,hb3,F.f247R,F.f247K,encTs]
 ·refine ⟨true,?_⟩
  have e : sumS (.mk k n s ks) = [.mk k n s ks] := by simp [sumS,hk]
  rw [e]
  have hb : (k != 3) = true := by simp [hk]
  simp [F.f247B,F.f247C,encT,hk,hb,F.f247R,F.f247K,encTs]
end Go.Am
namespace Go.Am
set_option maxRecDepth 8000
@[simp] theorem encTs_g0 (x : Tm) (a : List Tm) (h : 0 < (encTs (x :: a)).length) : (encTs (x :: a))[0] = encT x := by simp [encTs]
def PlusOk (l : List Tm) (bs : List (List AV)) (r : Option (AV × List (List AV))) : Prop := ∃ o,r = some (.sl o 4 (encTs l),bs)
theorem plus_loop (bs : List (List AV)) : ∀ (n : Nat) (a b acc : List Tm) (o1 o2 : Bool) (ρ : Nat → AV),a.length + b.length ≤ n → acc.length + a.length + b.length < 100000000 → (∀ x ∈ a,x.mass < big) → (∀ x ∈ b,x.mass < big) →
   ρ 0 = .sl o1 4 (encTs a) → ρ 1 = .sl o2 4 (encTs b) → ρ 5 = .sl true 4 (encTs acc) →
  PlusOk (acc ++ plusM a b) bs (R F.tb (.loop F.f183l0) ρ bs (blockK 0 (seqK F.tb F.f183r0 (finK F.f183 bs)))) := by
 have hend : ∀ (a b acc : List Tm) (o1 o2 : Bool) (ρ : Nat → AV),(a = [] ∨ b = []) → acc.length + a.length + b.length < 100000000 → ρ 0 = .sl o1 4 (encTs a) → ρ 1 = .sl o2 4 (encTs b) → ρ 5 = .sl true 4 (encTs acc) →
   PlusOk (acc ++ plusM a b) bs (R F.tb F.f183r0 ρ bs (finK F.f183 bs)) := by
  intro a b acc o1 o2 ρ hab hl h0 h1 h5
  have e : plusM a b = a ++ b := by
   rcases hab with rfl | rfl
   ·rw [plusM_nil]; simp
   ·rw [plusM_nil']; simp
  have hb1 : (acc.length + a.length) * 56 ≤ 140737488355328 := lim56 (by omega)
  have hb2 : (acc.length + (a.length + b.length)) * 56 ≤ 140737488355328 := lim56 (by clear hb1; omega)
  rw [e]
  refine ⟨true,?_⟩
  simp [h0,h1,h5,hb1,hb2,F.f183r0,F.f183R,F.f183K,encTs_append,Nat.add_assoc]
 intro n
 induction n with
 | zero =>
  intro a b acc o1 o2 ρ hn hl hma hmb h0 h1 h5
  have ha : a = [] := List.eq_nil_of_length_eq_zero (by omega)
  subst ha
  have h2 := fun ρ => hend [] b acc o1 o2 ρ (.inl rfl) hl
  rw [R_loop' F.f183l0.eq_1]
  simp [h0,h1,h5,encTs]
  refine h2 _ ?_ ?_ ?_ <;> simp [h0,h1,h5]
 | succ n IH =>
  intro a b acc o1 o2 ρ hn hl hma hmb h0 h1 h5
  match a,b with
  | [],b =>
   have h2 := fun ρ => hend [] b acc o1 o2 ρ (.inl rfl) hl
   rw [R_loop' F.f183l0.eq_1]
   simp [h0,h1,h5,encTs]
   refine h2 _ ?_ ?_ ?_ <;> simp [h0,h1,h5]
  | x :: a,[] =>
   have h2 := fun ρ => hend (x :: a) [] acc o1 o2 ρ (.inr rfl) hl
   have hp : (0 : Int) < (a.length : Int) + 1 := by omega
   rw [R_loop' F.f183l0.eq_1]
   simp [h0,h1,h5,hp]
   refine h2 _ ?_ ?_ ?_ <;> simp [h0,h1,h5]
  | x :: a,y :: b =>
   simp only [List.length_cons] at hn hl
   have hp : (0 : Int) < (a.length : Int) + 1 := by omega
   have hp2 : (0 : Int) < (b.length : Int) + 1 := by omega
   have hp3 : (1 : Int) ≤ (a.length : Int) + 1 := by omega
   have hp4 : (1 : Int) ≤ (b.length : Int) + 1 := by omega
   have hc := call_Compare x y bs (hma x (by simp)) (hmb y (by simp))
   have hb : (acc.length + 1) * 56 ≤ 140737488355328 := lim56 (by omega)
   have et : (encTs (x :: a)).take ((encTs (x :: a)).length) = encTs (x :: a) := List.take_length
   have i1 := fun ρ => IH a (y :: b) (acc ++ [x]) false o2 ρ (by simp; omega) (by simp; omega) (fun z hz => hma z (by simp [hz])) hmb
   have i2 := fun ρ => IH (x :: a) b (acc ++ [y]) o1 false ρ (by simp; omega) (by simp; omega) hma (fun z hz => hmb z (by simp [hz]))
   have i3 := fun ρ => IH a b acc false false ρ (by omega) (by omega) (fun z hz => hma z (by simp [hz])) (fun z hz => hmb z (by simp [hz]))
   rw [R_loop' F.f183l0.eq_1,plusM_cons]
   clear hn
   by_cases h1' : cmpT x y < 0
   ·simp only [h1',if_true]
    simp only [List.append_assoc,List.cons_append,List.nil_append] at i1
    simp [h0,h1,h5,hp,hp2,hp3,hc,h1',hb,encTs_one,encTs_append,encTs_drop,encTs_take]
    refine i1 _ ?_ ?_ ?_ <;> simp [h1]
   ·by_cases h2' : 0 < cmpT x y
    ·simp only [h1',h2',if_true,if_false]
     simp only [List.append_assoc,List.cons_append,List.nil_append] at i2
     simp [h0,h1,h5,hp,hp2,hp4,hc,h1',h2',hb,encTs_one,encTs_append,encTs_drop,encTs_take]
     refine i2 _ ?_ ?_ ?_ <;> simp [h0]
    ·simp only [h1',h2',if_false]
     simp [h0,h1,h5,hp,hp2,hp3,hp4,hc,h1',h2',encTs_drop,encTs_take]
     refine i3 _ ?_ ?_ ?_ <;> simp [h5]
theorem call_plus (a b : List Tm) (o1 o2 : Bool) (bs : List (List AV)) (hl : a.length + b.length < 100000000) (hma : ∀ x ∈ a,x.mass < big) (hmb : ∀ x ∈ b,x.mass < big) :
  PlusOk (plusM a b) bs (call F.tb 183 [.sl o1 4 (encTs a),.sl o2 4 (encTs b)] bs) := by
 have h := fun ρ => plus_loop bs _ a b [] false false ρ (Nat.le_refl _) (by simp; omega) hma hmb
 simp only [List.nil_append] at h
 rw [call_code F.tb_183 _ _ rfl]
 simp [F.f183B,F.f183C]
 refine h _ ?_ ?_ ?_ <;> simp [encTs]
theorem sum_loop (t : Tm) (bs : List (List AV)) (hm : t.mass < 30000000) (ih : ∀ x ∈ t.kids,∀ bs,PlusOk (sumS x) bs (call F.tb 182 [.agg (encT x)] bs)) :
  ∀ (post pre acc : List Tm) (o : Bool) (ρ : Nat → AV),t.kids = pre ++ post → acc.length + nodesL post < 30000000 → Asc acc → (∀ x ∈ acc,x.mass < big) → ρ 3 = .sl o 4 (encTs acc) → ρ 31 = .sl false 4 (encTs t.kids) → ρ 32 = .int .i64 t.kids.length → ρ 33 = .int .i64 pre.length →
  R F.tb (.loop F.f182l0) ρ bs (blockK 1 (seqK F.tb F.f182r0 (blockK 0 (seqK F.tb F.f182r1 (finK F.f182 bs))))) = some (.sl false 4 (encTs (sumL acc post)),bs) := by
 have hmk := mass_eq t
 intro post
 induction post with
 | nil =>
  intro pre acc o ρ hk ha has hma h3 h31 h32 h33
  simp only [List.append_nil] at hk
  rw [← hk] at h33
  rw [R_loop' F.f182l0.eq_1]
  simp [h3,h31,h32,h33,F.f182r0,F.f182R,F.f182K,sumL]
 | cons x post IH =>
  intro pre acc o ρ hk ha has hma h3 h31 h32 h33
  have hg := get_pre hk
  have hll : t.kids.length = pre.length + (post.length + 1) := by rw [hk]; simp
  have hw1 : IntKind.i64.wrap ((pre.length : Int) + 1) = (pre.length : Int) + 1 := wrap64 (by omega) (by omega)
  have hlt : (pre.length : Int) < (t.kids.length : Int) := by omega
  have hxk : x ∈ t.kids := by rw [hk]; simp
  have hxm := massL_mem hxk
  have hxn := nodes_le_mass x
  have hsl := sumS_len x
  simp only [nodesL] at ha
  obtain ⟨o1,hc1⟩ := ih x hxk bs
  have hsm : ∀ y ∈ sumS x,y.mass < big := fun y hy => by have := allT_mass x y (sumS_mem x y hy); unfold big; omega
  obtain ⟨o2,hc2⟩ := call_plus acc (sumS x) false false bs (by omega) hma hsm
  rw [plusM_eq has (asc_sumS x)] at hc2
  have hpl := plusR_len (sumS x) acc
  have hpm : ∀ y ∈ plusR acc (sumS x),y.mass < big := fun y hy => by
   rcases mem_plusR_or (asc_sumS x) hy with h | h
   ·exact hma y h
   ·exact hsm y h
  have h2 := fun ρ => IH (pre ++ [x]) (plusR acc (sumS x)) o2 ρ (by rw [hk]; simp) (by omega) (asc_plusR _ _ has) hpm
  rw [R_loop' F.f182l0.eq_1]
  simp [h3,h31,h32,h33,hg,hlt,hw1,encT_take,hc1,hc2,sumL]
  refine h2 _ ?_ ?_ ?_ ?_ <;> simp [h31,h32]
theorem call_summands : ∀ (t : Tm) (bs : List (List AV)),t.mass < 30000000 → PlusOk (sumS t) bs (call F.tb 182 [.agg (encT t)] bs) := by
 refine tm_ind ?_
 intro k n s ks ih bs hm
 have hmk := mass_eq (.mk k n s ks)
 have hnm := nodesL_le_mass ks
 simp only [mk_kids,mk_name] at hmk
 have hl := fun ρ => sum_loop (.mk k n s ks) bs hm (fun x hx bs => ih x hx bs (by have := massL_mem hx; simp at this; omega)) ks [] [] true ρ rfl (by simp; omega) Asc.nil (by simp)
 simp only [mk_kids] at hl
 rw [call_code F.tb_182 _ _ rfl]
 by_cases hk : k = 3
 ·by_cases hz : n = ZERO
  ·cases ks with
   | nil =>
    refine ⟨true,?_⟩
    simp [F.f182B,F.f182C,encT,encTs,sumS,hk,hz,ZERO,F.f182R,F.f182K]
   | cons x xs =>
    refine ⟨true,?_⟩
    simp only [ZERO] at hz
    have : ¬ ((xs.length : Int) + 1 = 0) := by omega
    simp [F.f182B,F.f182C,encT,sumS,hk,hz,ZERO,XOR,this,F.f182R,F.f182K,encTs,F.f182r1]
  ·by_cases hx : n = XOR
   ·refine ⟨false,?_⟩
    have e : sumS (.mk k n s ks) = sumL [] ks := by simp [sumS,hk,hx,ZERO,XOR]
    rw [e]
    simp only [XOR] at hx
    simp [F.f182B,F.f182C,encT,hk,hx]
    refine hl _ ?_ ?_ ?_ ?_ <;> simp [encTs]
   ·refine ⟨true,?_⟩
    have e : sumS (.mk k n s ks) = [.mk k n s ks] := by simp [sumS,hk,hx,hz]
    rw [e]
    have hb1 : (n == [122,101,114,111]) = false := by simpa [ZERO] using hz
    have hb2 : (n == [120,111,114]) = false := by simpa [XOR] using hx
    simp [F.f182B,F.f182C,encT,hk,hb1,hb2,F.f182R,F.f182K,encTs,F.f182r1]
 ·refine ⟨true,?_⟩
  have e : sumS (.mk k n s ks) = [.mk k n s ks] := by simp [sumS,hk]
  rw [e]
  simp [F.f182B,F.f182C,encT,hk,F.f182R,F.f182K,encTs,F.f182r1]
theorem call_Replace0 (t u : Tm) (o : Bool) (bs : List (List AV)) (ht : t.mass < big) (hu : u.mass < big) : call F.tb 185 [.agg (encT t),.sl o 1 [],.agg (encT u)] bs = some (.tup [.agg (encT u),.int .i64 0],bs) := by
 have h1 := fun bs => call_clone t bs ht
 have h2 := fun bs => call_clone u bs hu
 rw [call_code F.tb_185 _ _ rfl]
 have e1 : ∀ x y : List AV,(bs ++ [x]).set bs.length y = bs ++ [y] := fun x y => by rw [List.set_append]; simp
 simp [F.f185B,F.f185C,h1,encT_take,e1,put]
 rw [R_loop' F.f185l0.eq_1]
 simp [F.f185r0,h2,encT_take,e1,put,F.f185R,F.f185K]
end Go.Am
namespace Go.Am
set_option maxRecDepth 8000
def encLs (ls : List (List Tm)) : List (List AV) := ls.map fun l => [AV.sl false 4 (encTs l)]
theorem encLs_get {ls pre post : List (List Tm)} {x : List Tm} (h : ls = pre ++ x :: post) : (encLs ls)[pre.length]? = some [AV.sl false 4 (encTs x)] := by subst h; simp [encLs]
theorem encLs_len (ls : List (List Tm)) : (encLs ls).length = ls.length := by simp [encLs]
theorem call_Grow (n : Nat) (bs : List (List AV)) (hn : n < 100000000) : call F.tb 181 [.gs 0 0 0 0,.int .i64 n] bs = some (.sl true 4 [],bs) := by
 rw [call_orc F.tb_181]
 simp only [growO]
 rw [if_pos]
 refine ⟨by omega,?_,by omega⟩
 simp
 exact lim56 (by omega)
theorem Concat_l1 (ls : List (List Tm)) (bs : List (List AV)) (hl : ls.length < 1000) (hf : ls.flatten.length < 100000000) :
  ∀ (post pre : List (List Tm)) (ρ : Nat → AV),ls = pre ++ post → ρ 6 = .sl true 4 (encTs pre.flatten) → ρ 25 = .sl false 1 (encLs ls) → ρ 26 = .int .i64 ls.length → ρ 27 = .int .i64 pre.length →
  R F.tb (.loop F.f180l1) ρ bs (blockK 2 (seqK F.tb F.f180r0 (finK F.f180 bs))) = some (.sl false 4 (encTs ls.flatten),bs) := by
 intro post
 induction post with
 | nil =>
  intro pre ρ hk h6 h25 h26 h27
  simp only [List.append_nil] at hk
  rw [← hk] at h27 h6
  rw [R_loop' F.f180l1.eq_1]
  simp [h6,h25,h26,h27,F.f180r0,F.f180R,F.f180K]
 | cons x post IH =>
  intro pre ρ hk h6 h25 h26 h27
  have hg := encLs_get hk
  have hll : ls.length = pre.length + (post.length + 1) := by rw [hk]; simp
  have hw1 : IntKind.i64.wrap ((pre.length : Int) + 1) = (pre.length : Int) + 1 := wrap64 (by omega) (by omega)
  have hlt : (pre.length : Int) < (ls.length : Int) := by omega
  have hfl : ls.flatten.length = pre.flatten.length + (x.length + post.flatten.length) := by rw [hk]; simp
  have hb : (pre.flatten.length + x.length) * 56 ≤ 140737488355328 := lim56 (by omega)
  have h2 := IH (pre ++ [x])
  have e : (pre ++ [x]).flatten = pre.flatten ++ x := by simp
  rw [e] at h2
  generalize pre.flatten = pf at *
  rw [R_loop' F.f180l1.eq_1]
  simp [h6,h25,h26,h27,hg,hlt,hw1,hb,encTs_append]
  rw [h2] <;> simp [h25,h26,hk]
theorem Concat_l0 (ls : List (List Tm)) (bs : List (List AV)) (hl : ls.length < 1000) (hf : ls.flatten.length < 100000000) :
  ∀ (post pre : List (List Tm)) (ρ : Nat → AV),ls = pre ++ post → ρ 0 = .sl false 1 (encLs ls) → ρ 3 = .int .i64 pre.flatten.length → ρ 9 = .sl false 1 (encLs ls) → ρ 10 = .int .i64 ls.length → ρ 11 = .int .i64 pre.length →
  R F.tb (.loop F.f180l0) ρ bs (blockK 0 (seqK F.tb F.f180r1 (finK F.f180 bs))) = some (.sl false 4 (encTs ls.flatten),bs) := by
 intro post
 induction post with
 | nil =>
  intro pre ρ hk h0 h3 h9 h10 h11
  simp only [List.append_nil] at hk
  rw [← hk] at h11 h3
  have hc := call_Grow ls.flatten.length bs hf
  have h1 := fun ρ => Concat_l1 ls bs hl hf ls [] ρ rfl
  generalize ls.flatten = lf at *
  rw [R_loop' F.f180l0.eq_1]
  simp [h0,h3,h9,h10,h11,F.f180r1,hc]
  refine h1 _ ?_ ?_ ?_ ?_ <;> simp [h0,encTs,encLs_len]
 | cons x post IH =>
  intro pre ρ hk h0 h3 h9 h10 h11
  have hg := encLs_get hk
  have hll : ls.length = pre.length + (post.length + 1) := by rw [hk]; simp
  have hw1 : IntKind.i64.wrap ((pre.length : Int) + 1) = (pre.length : Int) + 1 := wrap64 (by omega) (by omega)
  have hlt : (pre.length : Int) < (ls.length : Int) := by omega
  have hfl : ls.flatten.length = pre.flatten.length + (x.length + post.flatten.length) := by rw [hk]; simp
  have hw2 : IntKind.i64.wrap ((pre.flatten.length : Int) + (x.length : Int)) = (pre.flatten.length : Int) + (x.length : Int) := wrap64 (by omega) (by omega)
  have hnn : ¬ ((pre.flatten.length : Int) + (x.length : Int) < 0) := by omega
  have h2 := IH (pre ++ [x])
  have e : ((pre ++ [x]).flatten.length : Int) = (pre.flatten.length : Int) + (x.length : Int) := by simp
  rw [e] at h2
  generalize (pre.flatten.length : Int) = pf at *
  rw [R_loop' F.f180l0.eq_1]
  simp [h0,h3,h9,h10,h11,hg,hlt,hw1,hw2,hnn]
  rw [h2] <;> simp [h0,h9,h10,hk]
theorem call_Concat (ls : List (List Tm)) (o : Bool) (bs : List (List AV)) (hl : ls.length < 1000) (hf : ls.flatten.length < 100000000) :
  call F.tb 180 [.sl o 1 (encLs ls)] bs = some (.sl false 4 (encTs ls.flatten),bs) := by
 have h := fun ρ => Concat_l0 ls bs hl hf ls [] ρ rfl
 rw [call_code F.tb_180 _ _ rfl]
 simp [F.f180B,F.f180C]
 refine h _ ?_ ?_ ?_ ?_ ?_ <;> simp [encLs_len]
def errsT : List Tm → Int
 | [] => 0
 | t :: ts => if validT t ≠ 0 then validT t else errsT ts
theorem right_loop (l : List Tm) (bs : List (List AV)) (hl : l.length < 100000000) (hm : ∀ x ∈ l,x.mass < big) : ∀ (post pre : List Tm) (ρ : Nat → AV),l = pre ++ post → ρ 14 = .sl false 4 (encTs l) → ρ 15 = .int .i64 l.length → ρ 16 = .int .i64 pre.length →
  R F.tb (.loop F.f179l0) ρ bs (blockK 0 (seqK F.tb F.f179r0 (finK F.f179 bs))) = some (.int .i64 (errsT post),bs) := by
 intro post
 induction post with
 | nil =>
  intro pre ρ hk h14 h15 h16
  simp only [List.append_nil] at hk
  rw [← hk] at h16
  rw [R_loop' F.f179l0.eq_1]
  simp [h14,h15,h16,F.f179r0,F.f179R,F.f179K,errsT]
 | cons x post IH =>
  intro pre ρ hk h14 h15 h16
  have hg := get_pre hk
  have hll : l.length = pre.length + (post.length + 1) := by rw [hk]; simp
  have hw1 : IntKind.i64.wrap ((pre.length : Int) + 1) = (pre.length : Int) + 1 := wrap64 (by omega) (by omega)
  have hlt : (pre.length : Int) < (l.length : Int) := by omega
  have hc := call_Valid x bs (hm x (by rw [hk]; simp))
  rw [R_loop' F.f179l0.eq_1]
  by_cases hv : validT x = 0
  ·simp [h14,h15,h16,hg,hlt,hw1,encT_take,hc,hv,errsT]
   rw [IH (pre ++ [x])] <;> simp [h14,h15,hk]
  ·simp [h14,h15,h16,hg,hlt,hw1,encT_take,hc,hv,errsT,F.f179R,F.f179K]
def rightE (l : List Tm) : Int := if 200 < l.length then 3 else errsT l
theorem call_right (l : List Tm) (o o2 : Bool) (bs : List (List AV)) (hl : l.length < 100000000) (hm : ∀ x ∈ l,x.mass < big) : call F.tb 179 [.sl o 4 (encTs l),.sl o2 4 []] bs = some (.int .i64 (rightE l),bs) := by
 have h := fun ρ => right_loop l bs hl hm l [] ρ rfl
 have hc := call_Concat [l,[]] false bs (by simp) (by simpa using hl)
 simp only [encLs,List.map_cons,List.map_nil,List.flatten_cons,List.flatten_nil,List.append_nil,encTs] at hc
 rw [call_code F.tb_179 _ _ rfl]
 by_cases h2 : 200 < l.length
 ·have h2' : (200 : Int) < (l.length : Int) := by omega
  simp [F.f179B,F.f179C,h2',h2,rightE,F.f179R,F.f179K]
 ·have h2' : ¬ (200 : Int) < (l.length : Int) := by omega
  simp [F.f179B,F.f179C,h2',h2,rightE,hc]
  refine h _ ?_ ?_ ?_ <;> simp
end Go.Am
namespace Go.Am
set_option maxRecDepth 8000
theorem own_put {c : List AV} {n p : Nat} {pre : List Tm} {x : Tm} {v : AV} (hc : c.length = n * 4) (hp : p = pre.length) (hlt : p < n) (ht : (c.map AV.strip).take (p * 4) = rowT pre) (hv : v.strip = .sl false 4 (encTs x.kids)) :
  ((c.take (p * 4) ++ (encT x ++ c.drop (p * 4 + 4))).set (p * 4 + 3) v).length = n * 4 ∧
  ((((c.take (p * 4) ++ (encT x ++ c.drop (p * 4 + 4))).set (p * 4 + 3) v).map AV.strip).take ((p + 1) * 4)) = rowT (pre ++ [x]) := by
 have h1 : (c.take (p * 4)).length = p * 4 := by rw [List.length_take]; omega
 have h2 := encT_len4 x
 refine ⟨by simp [h1,h2,hc]; omega,?_⟩
 have e : (c.take (p * 4) ++ (encT x ++ c.drop (p * 4 + 4))).set (p * 4 + 3) v = c.take (p * 4) ++ ([.int .i64 x.kind,.str x.name,.int .i64 x.sort,v] ++ c.drop (p * 4 + 4)) := by
  rw [List.set_append,if_neg (by omega),h1,show p * 4 + 3 - p * 4 = 3 by omega,encT_eq]
  simp
 rw [e,List.map_append,List.map_append,List.map_take,ht]
 have h3 : [AV.int .i64 x.kind,.str x.name,.int .i64 x.sort,v].map AV.strip = encT x := by rw [encT_eq]; simp [hv]
 have hr : (rowT pre).length = p * 4 := by rw [row_len encT_len4,hp]
 rw [h3,← List.append_assoc,List.take_append_of_le_length (by simp [hr,h2]; omega),List.take_of_length_le (by simp [hr,h2]; omega)]
 simp [rowT,row_app,row_one]
theorem own_put0 {c : List AV} {n p : Nat} {pre : List Tm} {x : Tm} (hc : c.length = n * 4) (hp : p = pre.length) (hlt : p < n) (ht : (c.map AV.strip).take ((p + 1) * 4) = rowT (pre ++ [x])) (hx : x.kids = []) :
  (c.take (p * 4 + 3) ++ ([AV.sl false 4 []] ++ c.drop (p * 4 + 3 + 1))).length = n * 4 ∧
  ((c.take (p * 4 + 3) ++ ([AV.sl false 4 []] ++ c.drop (p * 4 + 3 + 1))).map AV.strip).take ((p + 1) * 4) = rowT (pre ++ [x]) := by
 have h1 : (c.take (p * 4 + 3)).length = p * 4 + 3 := by rw [List.length_take]; omega
 refine ⟨by simp [h1,hc]; omega,?_⟩
 have hr : rowT (pre ++ [x]) = rowT pre ++ [.int .i64 x.kind,.str x.name,.int .i64 x.sort] ++ [.sl false 4 []] := by
  simp [rowT,row_app,row_one,encT_eq,hx,encTs]
 have hl0 : (rowT pre).length = p * 4 := by rw [row_len encT_len4,hp]
 have e1 : (c.take (p * 4 + 3)).map AV.strip = rowT pre ++ [.int .i64 x.kind,.str x.name,.int .i64 x.sort] := by
  have h2 : ((c.map AV.strip).take ((p + 1) * 4)).take (p * 4 + 3) = (c.map AV.strip).take (p * 4 + 3) := by rw [List.take_take]; congr 1; omega
  rw [List.map_take,← h2,ht,hr,List.take_append_of_le_length (by simp [hl0]),List.take_of_length_le (by simp [hl0])]
 rw [List.map_append,List.map_append,e1,← List.append_assoc,List.take_append_of_le_length (by simp [hl0]; omega),List.take_of_length_le (by simp [hl0]; omega),hr]
 simp
theorem own_loop (l : List Tm) (B : List (List AV)) (hl : l.length < 100000000) (hne : l ≠ []) (hm : ∀ x ∈ l,x.mass < big) (ih : ∀ x ∈ l,∀ bs,PlusOk x.kids bs (call F.tb 184 [.sl false 4 (encTs x.kids)] bs)) :
  ∀ (post pre : List Tm) (c : List AV) (ρ : Nat → AV),l = pre ++ post → c.length = l.length * 4 → (c.map AV.strip).take (pre.length * 4) = rowT pre → ρ 3 = .gs B.length 0 4 l.length → ρ 9 = .sl false 4 (encTs l) → ρ 10 = .int .i64 l.length → ρ 11 = .int .i64 pre.length →
  PlusOk l B (R F.tb (.loop F.f184l0) ρ (B ++ [c]) (blockK 0 (seqK F.tb F.f184r0 (finK F.f184 B)))) := by
 have es : ∀ x y : List AV,(B ++ [x]).set B.length y = B ++ [y] := fun x y => by rw [List.set_append]; simp
 have eg : ∀ x : List AV,(B ++ [x])[B.length]? = some x := fun x => List.getElem?_concat_length
 intro post
 induction post with
 | nil =>
  intro pre c ρ hk hc ht h3 h9 h10 h11
  simp only [List.append_nil] at hk
  rw [← hk] at h11 ht
  have hz : ¬ l.length = 0 := fun e => hne (List.eq_nil_of_length_eq_zero e)
  have hch : chunks c 0 4 l.length = encTs l := by
   have e1 : c.map AV.strip = rowT l := by rw [← ht,List.take_of_length_le (by simp [hc])]
   have e2 : chunks c 0 4 l.length = chunks (c.map AV.strip) 0 4 l.length := by
    unfold chunks
    apply List.map_congr_left
    intro k _
    rw [← List.map_drop,← List.map_take,List.map_map]
    apply List.map_congr_left
    intro v _
    exact (strip_strip v).symm
   rw [e2,e1]
   have := row_chunks (f := encT) (k := 4) encT_len4 encT_strip l []
   rw [rowT_map,List.append_nil] at this
   exact this
  have hg : gpfreeE (encTs l) = true := encTs_gp l
  have hle : l.length * 4 ≤ c.length := by omega
  refine ⟨true,?_⟩
  rw [R_loop' F.f184l0.eq_1]
  simp [h3,h9,h10,h11,F.f184r0,frzAt,hz,hne,hle,es,hch,F.f184R,F.f184K]
 | cons x post IH =>
  intro pre c ρ hk hc ht h3 h9 h10 h11
  have hg := get_pre hk
  have hll : l.length = pre.length + (post.length + 1) := by rw [hk]; simp
  have hw1 : IntKind.i64.wrap ((pre.length : Int) + 1) = (pre.length : Int) + 1 := wrap64 (by omega) (by omega)
  have hlt : (pre.length : Int) < (l.length : Int) := by omega
  have hlt' : pre.length < l.length := by omega
  have hx := hm x (by rw [hk]; simp)
  have hc1 := fun bs => call_Replace0 x x true bs hx hx
  obtain ⟨o,hc2⟩ := ih x (by rw [hk]; simp) (B ++ [c.take (pre.length * 4) ++ (encT x ++ c.drop (pre.length * 4 + 4))])
  have hle : pre.length * 4 + 4 ≤ c.length := by omega
  obtain ⟨p1,p2⟩ := own_put (v := .sl o 4 (encTs x.kids)) hc rfl hlt' ht rfl
  have hle2 : pre.length * 4 + 3 < (c.take (pre.length * 4) ++ (encT x ++ c.drop (pre.length * 4 + 4))).length := by simp [encT_len4]; omega
  generalize hcc : c.take (pre.length * 4) ++ (encT x ++ c.drop (pre.length * 4 + 4)) = cc at *
  have hgl : ∀ h : pre.length < (encTs l).length,(encTs l)[pre.length] = encT x := fun h => by
   have := List.getElem?_eq_getElem h
   rw [encTs_get,hg] at this; injection this with this; exact this.symm
  rw [R_loop' F.f184l0.eq_1]
  by_cases hkz : x.kids = []
  ·obtain ⟨p3,p4⟩ := own_put0 p1 rfl hlt' p2 hkz
   have hle3 : pre.length * 4 + 3 + 1 ≤ (cc.set (pre.length * 4 + 3) (.sl o 4 (encTs x.kids))).length := by rw [p1]; omega
   have i1 := fun ρ => IH (pre ++ [x]) _ ρ (by rw [hk]; simp) p3 (by simpa using p4)
   rw [hkz] at hc2 hle3 i1
   have hle3' : pre.length * 4 + 3 + 1 ≤ cc.length := by simpa using hle3
   simp only [encTs,List.cons_append,List.nil_append] at hc2 hle3 i1
   simp [h3,h9,h10,h11,hg,hgl,hlt,hlt',hw1,encT_take,hc1,eg,es,hle,hcc,hc2,hle2,hkz,encTs,hle3',encT_len4]
   refine i1 _ ?_ ?_ ?_ ?_ <;> simp [h3,h9,h10]
  ·have hkl : ¬ (x.kids.length : Int) = 0 := by
    intro e
    exact hkz (List.eq_nil_of_length_eq_zero (by omega))
   have i1 := fun ρ => IH (pre ++ [x]) _ ρ (by rw [hk]; simp) p1 (by simpa using p2)
   simp [h3,h9,h10,h11,hg,hgl,hlt,hlt',hw1,encT_take,hc1,eg,es,hle,hcc,hc2,hle2,hkz,hkl,encT_len4]
   refine i1 _ ?_ ?_ ?_ ?_ <;> simp [h3,h9,h10]
theorem own_of (l : List Tm) (o : Bool) (bs : List (List AV)) (hl : l.length < 100000000) (hm : ∀ x ∈ l,x.mass < big) (ih : ∀ x ∈ l,∀ bs,PlusOk x.kids bs (call F.tb 184 [.sl false 4 (encTs x.kids)] bs)) :
  PlusOk l bs (call F.tb 184 [.sl o 4 (encTs l)] bs) := by
 have hb : l.length * 56 ≤ 140737488355328 := lim56 (by omega)
 have hb2 : (l.length : Int) ≤ 4611686018427387904 := by omega
 rw [call_code F.tb_184 _ _ rfl]
 by_cases hne : l = []
 ·subst hne
  refine ⟨false,?_⟩
  simp [F.f184B,F.f184C,encTs]
  rw [R_loop' F.f184l0.eq_1]
  simp [F.f184r0,frzAt,F.f184R,F.f184K]
 ·have h := fun c hc ρ => own_loop l bs hl hne hm ih l [] c ρ rfl hc (by simp [rowOf])
  have hlen : (List.replicate l.length [AV.int .i64 0,.str [],.int .i64 0,.sl true 4 []]).flatten.length = l.length * 4 := by simp
  have h2 := h _ hlen
  simp [F.f184B,F.f184C,hb,hb2]
  refine h2 _ ?_ ?_ ?_ ?_ <;> simp
theorem own_kids : ∀ (t : Tm) (bs : List (List AV)),t.mass < 100000000 → PlusOk t.kids bs (call F.tb 184 [.sl false 4 (encTs t.kids)] bs) := by
 refine tm_ind ?_
 intro k n s ks ih bs hm
 have hmk := mass_eq (.mk k n s ks)
 simp only [mk_kids,mk_name] at hmk ⊢
 exact own_of ks false bs (by omega) (fun x hx => by have := massL_mem hx; unfold big; omega) fun x hx bs => ih x hx bs (by have := massL_mem hx; omega)
theorem call_own (l : List Tm) (o : Bool) (bs : List (List AV)) (hl : l.length < 100000000) (hm : ∀ x ∈ l,x.mass < 100000000) : PlusOk l bs (call F.tb 184 [.sl o 4 (encTs l)] bs) :=
 own_of l o bs hl (fun x hx => by have := hm x hx; unfold big; omega) fun x hx bs => own_kids x bs (hm x hx)
end Go.Am
namespace Go.Am
set_option maxRecDepth 8000
def zeroT : Tm := .mk 0 [] 0 []
theorem encT_zero : encT zeroT = [.int .i64 0,.str [],.int .i64 0,.sl false 4 []] := by simp [zeroT,encT,encTs]
def tmX : List Tm → Tm
 | [] => .mk 3 ZERO 0 []
 | [p] => p
 | p :: q :: r => .mk 3 XOR 0 (p :: q :: r)
def sumX (l : List Tm) : Tm × Int := if rightE l ≠ 0 then (zeroT,rightE l) else if validT (tmX (sumL [] l)) ≠ 0 then (zeroT,3) else (tmX (sumL [] l),0)
def encR (r : Tm × Int) : AV := .tup [.agg (encT r.1),.int .i64 r.2]
theorem massL_addS (t : Tm) : ∀ l : List Tm,massL (addS t l) ≤ massL l + t.mass
 | [] => by simp [addS,massL]
 | x :: xs => by
  have := massL_addS t xs
  simp only [addS]
  split
  ·simp only [massL]; omega
  ·split
   ·simp only [massL]; omega
   ·simp only [massL]; omega
theorem massL_togT (l : List Tm) (t : Tm) : massL (togT l t) ≤ massL l + t.mass := by
 unfold togT
 split
 ·have : ∀ (l : List Tm) (p : Tm → Bool),massL (l.filter p) ≤ massL l := by
   intro l p
   induction l with
   | nil => simp
   | cons x xs ih =>
    rw [List.filter_cons]
    split <;> simp only [massL] <;> omega
  have := this l (fun x => !decide (cmpT x t = 0))
  omega
 ·exact massL_addS t l
theorem massL_plusR : ∀ (b a : List Tm),massL (plusR a b) ≤ massL a + massL b
 | [],a => by simp [plusR,massL]
 | x :: b,a => by
  have h1 := massL_plusR b (togT a x)
  have h2 := massL_togT a x
  simp only [plusR,List.foldl_cons,massL] at *
  omega
mutual
theorem massL_sumS : ∀ t : Tm,massL (sumS t) ≤ t.mass
 | .mk k n s ks => by
  simp only [sumS]
  split
  ·simp [massL]
  ·split
   ·have := massL_sumL ks []; simp only [massL,Tm.mass] at *; omega
   ·simp [massL]
theorem massL_sumL : ∀ (ts acc : List Tm),massL (sumL acc ts) ≤ massL acc + massL ts
 | [],acc => by simp [sumL,massL]
 | t :: ts,acc => by
  have h1 := massL_sumL ts (plusR acc (sumS t))
  have h2 := massL_plusR (sumS t) acc
  have h3 := massL_sumS t
  simp only [sumL,massL] at *
  omega
end
theorem tmX_mass (l : List Tm) : (tmX l).mass ≤ 10 + l.length + massL l := by
 unfold tmX
 split
 ·simp [Tm.mass,massL,ZERO]
 ·simp [massL]
 ·simp [Tm.mass,massL,XOR]
theorem Sum_loop (l : List Tm) (bs : List (List AV)) (hm : massL l < 20000000) (hl : l.length < 20000000) (k : Kn)
  (hk0 : ∀ (o : Bool) (ρ : Nat → AV),ρ 2 = .bx [.int .i64 0,.str [],.int .i64 0,.sl true 4 []] → ρ 5 = .sl o 4 (encTs (sumL [] l)) → R F.tb F.f178r0 ρ bs (finK F.f178 bs) = some (encR (sumX l),bs)) :
  ∀ (post pre acc : List Tm) (o : Bool) (ρ : Nat → AV),l = pre ++ post → sumL acc post = sumL [] l → acc.length + nodesL post < 25000000 → Asc acc → (∀ x ∈ acc,x.mass < big) → ρ 2 = .bx [.int .i64 0,.str [],.int .i64 0,.sl true 4 []] → ρ 5 = .sl o 4 (encTs acc) → ρ 15 = .sl false 4 (encTs l) → ρ 16 = .int .i64 l.length → ρ 17 = .int .i64 pre.length →
  R F.tb (.loop F.f178l0) ρ bs (blockK 0 (seqK F.tb F.f178r0 (finK F.f178 bs))) = some (encR (sumX l),bs) := by
 intro post
 induction post with
 | nil =>
  intro pre acc o ρ hk he ha has hma h2 h5 h15 h16 h17
  simp only [List.append_nil] at hk
  rw [← hk] at h17
  simp only [sumL] at he
  subst he
  rw [R_loop' F.f178l0.eq_1]
  simp [h5,h15,h16,h17]
  refine hk0 o _ ?_ ?_ <;> simp [h2,h5]
 | cons x post IH =>
  intro pre acc o ρ hk he ha has hma h2 h5 h15 h16 h17
  have hg := get_pre hk
  have hll : l.length = pre.length + (post.length + 1) := by rw [hk]; simp
  have hw1 : IntKind.i64.wrap ((pre.length : Int) + 1) = (pre.length : Int) + 1 := wrap64 (by omega) (by omega)
  have hlt : (pre.length : Int) < (l.length : Int) := by omega
  have hxl : x ∈ l := by rw [hk]; simp
  have hxm := massL_mem hxl
  have hxn := nodes_le_mass x
  have hsl := sumS_len x
  simp only [nodesL] at ha
  obtain ⟨o1,hc1⟩ := call_summands x bs (by omega)
  have hsm : ∀ y ∈ sumS x,y.mass < big := fun y hy => by have := allT_mass x y (sumS_mem x y hy); unfold big; omega
  obtain ⟨o2,hc2⟩ := call_plus acc (sumS x) false false bs (by omega) hma hsm
  rw [plusM_eq has (asc_sumS x)] at hc2
  have hpl := plusR_len (sumS x) acc
  have hpm : ∀ y ∈ plusR acc (sumS x),y.mass < big := fun y hy => by
   rcases mem_plusR_or (asc_sumS x) hy with h | h
   ·exact hma y h
   ·exact hsm y h
  have i2 := fun ρ => IH (pre ++ [x]) (plusR acc (sumS x)) o2 ρ (by rw [hk]; simp) he (by omega) (asc_plusR _ _ has) hpm
  rw [R_loop' F.f178l0.eq_1]
  simp [h5,h15,h16,h17,hg,hlt,hw1,encT_take,hc1,hc2]
  refine i2 _ ?_ ?_ ?_ ?_ ?_ <;> simp [h2,h15,h16]
theorem call_Sum (l : List Tm) (o : Bool) (bs : List (List AV)) (hm : massL l < 20000000) (hl : l.length < 20000000) : call F.tb 178 [.sl o 4 (encTs l)] bs = some (encR (sumX l),bs) := by
 have hr := call_right l false true bs (by omega) (fun x hx => by have := massL_mem hx; unfold big; omega)
 have hn := nodesL_le_mass l
 have hk0 : rightE l = 0 → ∀ (o : Bool) (ρ : Nat → AV),ρ 2 = .bx [.int .i64 0,.str [],.int .i64 0,.sl true 4 []] → ρ 5 = .sl o 4 (encTs (sumL [] l)) → R F.tb F.f178r0 ρ bs (finK F.f178 bs) = some (encR (sumX l),bs) := by
  intro hr0 o ρ h2 h5
  have h1 := sumL_len l []
  have h3 := massL_sumL l []
  have h4 := tmX_mass (sumL [] l)
  simp only [massL,List.length_nil,Nat.zero_add] at h1 h3
  obtain ⟨o3,ho⟩ := call_own (sumL [] l) false bs (by omega) (fun x hx => by have := massL_mem hx; omega)
  have hv := call_Valid (tmX (sumL [] l)) bs (by unfold big; omega)
  have es : sumX l = if validT (tmX (sumL [] l)) ≠ 0 then (zeroT,3) else (tmX (sumL [] l),0) := by simp [sumX,hr0]
  rw [es]
  generalize sumL [] l = ps at *
  match ps with
  | [] =>
   have e1 : encT (tmX []) = [.int .i64 3,.str ZERO,.int .i64 0,.sl false 4 []] := by simp [tmX,encT,encTs]
   rw [e1] at hv
   simp only [ZERO] at hv e1
   simp only [encTs] at ho h5
   by_cases h : validT (tmX []) = 0
   ·simp [F.f178r0,h5,ho,h2,hv,h,F.f178R,F.f178K,encR,e1]
   ·simp [F.f178r0,h5,ho,h2,hv,h,F.f178R,F.f178K,encR,encT_zero]
  | [p] =>
   simp only [tmX] at hv ⊢
   by_cases h : validT p = 0
   ·simp [F.f178r0,h5,ho,h2,hv,h,F.f178R,F.f178K,encR,encT_take]
   ·simp [F.f178r0,h5,ho,h2,hv,h,F.f178R,F.f178K,encR,encT_zero,encT_take]
  | p :: q :: r =>
   have e1 : encT (tmX (p :: q :: r)) = [.int .i64 3,.str XOR,.int .i64 0,.sl false 4 (encTs (p :: q :: r))] := by simp [tmX,encT]
   rw [e1] at hv
   simp only [XOR] at hv e1
   have n1 : ¬ ((r.length : Int) + 1 + 1 = 0) := by omega
   have n2 : ¬ ((r.length : Int) + 1 + 1 = 1) := by omega
   by_cases h : validT (tmX (p :: q :: r)) = 0
   ·simp [F.f178r0,h5,ho,h2,hv,h,n1,n2,F.f178R,F.f178K,encR,e1]
   ·simp [F.f178r0,h5,ho,h2,hv,h,n1,n2,F.f178R,F.f178K,encR,encT_zero]
 rw [call_code F.tb_178 _ _ rfl]
 by_cases h0 : rightE l = 0
 ·have h := fun ρ => Sum_loop l bs hm hl (finK F.f178 bs) (hk0 h0) l [] [] true ρ rfl rfl (by simp; omega) Asc.nil (by simp)
  simp [F.f178B,F.f178C,hr,h0]
  refine h _ ?_ ?_ ?_ ?_ ?_ <;> simp [encTs]
 ·have hb : (rightE l != 0) = true := by simp [h0]
  simp [F.f178B,F.f178C,hr,h0,hb,F.f178R,F.f178K,sumX,encR,encT_zero]
theorem call_Rzero (bs : List (List AV)) : call F.tb 245 [] bs = some (.agg (encT (.mk 3 ZERO 0 [])),bs) := by
 have h := call_RApp ZERO [] true bs (by simp)
 simp only [ZERO,encTs] at h
 rw [call_code F.tb_245 _ _ rfl]
 simp [F.f245,F.f245C,h,ZERO,encT_take]
theorem call_RTerm8 (l : List Tm) (o : Bool) (bs : List (List AV)) (hl : l.length < 100000000) : call F.tb 251 [.sl o 4 (encTs l)] bs = some (.agg (encT (tmX l)),bs) := by
 have h := call_RApp ZERO [] true bs (by simp)
 simp only [ZERO,encTs] at h
 rw [call_code F.tb_251 _ _ rfl]
 match l with
 | [] => simp [F.f251B,F.f251C,h,ZERO,encT_take,tmX,F.f251R,F.f251K]
 | [p] => simp [F.f251B,F.f251C,encT_take,tmX,F.f251R,F.f251K]
 | p :: q :: r =>
  have n1 : ¬ ((r.length : Int) + 1 + 1 = 0) := by omega
  have n2 : ¬ ((r.length : Int) + 1 + 1 = 1) := by omega
  have hb : (r.length + 1 + 1) * 56 ≤ 140737488355328 := lim56 (by simp at hl; omega)
  simp [F.f251B,F.f251C,n1,n2,hb,tmX,encT,XOR,F.f251R,F.f251K]
theorem Rvalid8_loop (l : List Tm) (t : Tm) (bs : List (List AV)) (hl : l.length < 100000000) (hm : ∀ x ∈ l,x.mass < big) (ht : t.mass < big) : ∀ (post pre : List Tm) (ρ : Nat → AV),l = pre ++ post → ρ 0 = .sl false 4 (encTs l) → ρ 3 = .bx (encT t) → ρ 5 = .int .i64 pre.length →
  R F.tb (.loop F.f246l0) ρ bs (blockK 0 (seqK F.tb F.f246r0 (finK F.f246 bs))) = some (.int .i64 (if errsT post ≠ 0 then errsT post else validT t),bs) := by
 intro post
 induction post with
 | nil =>
  intro pre ρ hk h0 h3 h5
  simp only [List.append_nil] at hk
  rw [← hk] at h5
  have hc := call_RValid1 t bs ht
  rw [R_loop' F.f246l0.eq_1]
  simp [h0,h3,h5,F.f246r0,F.f246R,F.f246K,errsT,encT_take,hc]
 | cons x post IH =>
  intro pre ρ hk h0 h3 h5
  have hg := get_pre hk
  have hll : l.length = pre.length + (post.length + 1) := by rw [hk]; simp
  have hw1 : IntKind.i64.wrap ((pre.length : Int) + 1) = (pre.length : Int) + 1 := wrap64 (by omega) (by omega)
  have hlt : (pre.length : Int) < (l.length : Int) := by omega
  have hc := call_RValid1 x bs (hm x (by rw [hk]; simp))
  rw [R_loop' F.f246l0.eq_1]
  by_cases hv : validT x = 0
  ·simp only [errsT,hv,ne_eq,not_true_eq_false,if_false]
   simp [h0,h3,h5,hg,hlt,hw1,encT_take,hc,hv]
   have := fun ρ => IH (pre ++ [x]) ρ (by rw [hk]; simp)
   simp only [ne_eq] at this
   rw [this] <;> simp [h0,h3]
  ·simp [h0,h3,h5,hg,hlt,hw1,encT_take,hc,hv,errsT,F.f246R,F.f246K]
theorem zero_valid : validT (.mk 3 ZERO 0 []) = 0 := by decide
theorem call_Rvalid8 (l : List Tm) (o : Bool) (bs : List (List AV)) (hl : l.length < 100000000) (hm : ∀ x ∈ l,x.mass < big) : call F.tb 246 [.sl o 4 (encTs l),.agg (encT (.mk 3 ZERO 0 []))] bs = some (.int .i64 (rightE l),bs) := by
 have h := fun ρ => Rvalid8_loop l (.mk 3 ZERO 0 []) bs hl hm (by simp [Tm.mass,massL,ZERO,big]) l [] ρ rfl
 rw [zero_valid] at h
 have e : (if errsT l ≠ 0 then errsT l else 0) = errsT l := by split <;> simp_all
 rw [e] at h
 rw [call_code F.tb_246 _ _ rfl]
 by_cases h2 : 200 < l.length
 ·have h2' : (200 : Int) < (l.length : Int) := by omega
  simp [F.f246B,F.f246C,h2',h2,rightE,F.f246R,F.f246K]
 ·have h2' : ¬ (200 : Int) < (l.length : Int) := by omega
  simp [F.f246B,F.f246C,h2',h2,rightE]
  refine h _ ?_ ?_ ?_ <;> simp
theorem RSum8_loop (l : List Tm) (bs : List (List AV)) (hm : massL l < 20000000) (hl : l.length < 20000000)
  (hk0 : ∀ (o : Bool) (ρ : Nat → AV),ρ 2 = .bx [.int .i64 0,.str [],.int .i64 0,.sl true 4 []] → ρ 5 = .sl o 4 (encTs (sumL [] l)) → R F.tb F.f244r0 ρ bs (finK F.f244 bs) = some (encR (sumX l),bs)) :
  ∀ (post pre acc : List Tm) (o : Bool) (ρ : Nat → AV),l = pre ++ post → sumL acc post = sumL [] l → acc.length + nodesL post < 25000000 → (∀ x ∈ acc,x.mass < big) → ρ 0 = .sl false 4 (encTs l) → ρ 2 = .bx [.int .i64 0,.str [],.int .i64 0,.sl true 4 []] → ρ 5 = .sl o 4 (encTs acc) → ρ 6 = .int .i64 pre.length →
  R F.tb (.loop F.f244l0) ρ bs (blockK 0 (seqK F.tb F.f244r0 (finK F.f244 bs))) = some (encR (sumX l),bs) := by
 intro post
 induction post with
 | nil =>
  intro pre acc o ρ hk he ha hma h0 h2 h5 h6
  simp only [List.append_nil] at hk
  rw [← hk] at h6
  simp only [sumL] at he
  subst he
  rw [R_loop' F.f244l0.eq_1]
  simp [h0,h5,h6]
  refine hk0 o _ ?_ ?_ <;> simp [h2,h5]
 | cons x post IH =>
  intro pre acc o ρ hk he ha hma h0 h2 h5 h6
  have hg := get_pre hk
  have hll : l.length = pre.length + (post.length + 1) := by rw [hk]; simp
  have hw1 : IntKind.i64.wrap ((pre.length : Int) + 1) = (pre.length : Int) + 1 := wrap64 (by omega) (by omega)
  have hlt : (pre.length : Int) < (l.length : Int) := by omega
  have hxl : x ∈ l := by rw [hk]; simp
  have hxm := massL_mem hxl
  have hxn := nodes_le_mass x
  have hsl := sumS_len x
  simp only [nodesL] at ha
  obtain ⟨o1,hc1⟩ := call_RSummands x bs (by omega)
  have hsm : ∀ y ∈ sumS x,y.mass < big := fun y hy => by have := allT_mass x y (sumS_mem x y hy); unfold big; omega
  have hc2 := call_RPlus acc (sumS x) false false bs (by omega) (by omega) hma hsm
  have hpl := plusR_len (sumS x) acc
  have hpm : ∀ y ∈ plusR acc (sumS x),y.mass < big := fun y hy => by
   rcases mem_plusR_or (asc_sumS x) hy with h | h
   ·exact hma y h
   ·exact hsm y h
  have i2 := fun ρ => IH (pre ++ [x]) (plusR acc (sumS x)) false ρ (by rw [hk]; simp) he (by omega) hpm
  rw [R_loop' F.f244l0.eq_1]
  simp [h0,h5,h6,hg,hlt,hw1,encT_take,hc1,hc2]
  refine i2 _ ?_ ?_ ?_ ?_ <;> simp [h0,h2]
theorem call_RSum8 (l : List Tm) (o : Bool) (bs : List (List AV)) (hm : massL l < 20000000) (hl : l.length < 20000000) : call F.tb 244 [.sl o 4 (encTs l)] bs = some (encR (sumX l),bs) := by
 have hr := call_Rvalid8 l false bs (by omega) (fun x hx => by have := massL_mem hx; unfold big; omega)
 have hz := call_Rzero bs
 have hn := nodesL_le_mass l
 have hk0 : rightE l = 0 → ∀ (o : Bool) (ρ : Nat → AV),ρ 2 = .bx [.int .i64 0,.str [],.int .i64 0,.sl true 4 []] → ρ 5 = .sl o 4 (encTs (sumL [] l)) → R F.tb F.f244r0 ρ bs (finK F.f244 bs) = some (encR (sumX l),bs) := by
  intro hr0 o ρ h2 h5
  have h1 := sumL_len l []
  have h3 := massL_sumL l []
  have h4 := tmX_mass (sumL [] l)
  simp only [massL,List.length_nil,Nat.zero_add] at h1 h3
  have ht := call_RTerm8 (sumL [] l) false bs (by omega)
  have hv := call_RValid1 (tmX (sumL [] l)) bs (by unfold big; omega)
  have es : sumX l = if validT (tmX (sumL [] l)) ≠ 0 then (zeroT,3) else (tmX (sumL [] l),0) := by simp [sumX,hr0]
  rw [es]
  generalize tmX (sumL [] l) = u at *
  generalize sumL [] l = ps at *
  by_cases h : validT u = 0
  ·simp [F.f244r0,h5,ht,h2,hv,h,F.f244R,F.f244K,encR,encT_take]
  ·simp [F.f244r0,h5,ht,h2,hv,h,F.f244R,F.f244K,encR,encT_zero,encT_take]
 rw [call_code F.tb_244 _ _ rfl]
 by_cases h0 : rightE l = 0
 ·have h := fun ρ => RSum8_loop l bs hm hl (hk0 h0) l [] [] true ρ rfl rfl (by simp; omega) (by simp)
  simp [F.f244B,F.f244C,hz,hr,h0]
  refine h _ ?_ ?_ ?_ ?_ <;> simp [encTs]
 ·have hb : (rightE l != 0) = true := by simp [h0]
  simp [F.f244B,F.f244C,hz,hr,h0,hb,F.f244R,F.f244K,sumX,encR,encT_zero]
end Go.Am
