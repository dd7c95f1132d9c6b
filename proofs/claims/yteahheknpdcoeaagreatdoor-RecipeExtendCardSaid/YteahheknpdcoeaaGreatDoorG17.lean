/-
  Rc2, Rc3, Rc4, Rc5, Rc6, Rc7.
-/
import Derived.Test.YteahheknpdcoeaaGreatDoorG16
set_option linter.unusedVariables false
set_option linter.unusedSimpArgs false
namespace Go.Am
set_option maxRecDepth 8000
theorem gpfreeL_app : ∀ a b : List AV,gpfreeL (a ++ b) = (gpfreeL a && gpfreeL b)
 | [],b => by simp
 | x :: a,b => by simp [gpfreeL_app a b,Bool.and_assoc]
section
variable {α : Type} (f : α → List AV) (k : Nat)
def rowOf (f : α → List AV) (l : List α) : List AV := (l.map f).flatten
theorem row_cons (x : α) (l : List α) : rowOf f (x :: l) = f x ++ rowOf f l := by simp [rowOf]
theorem row_app (a b : List α) : rowOf f (a ++ b) = rowOf f a ++ rowOf f b := by simp [rowOf]
theorem row_one (x : α) : rowOf f [x] = f x := by simp [rowOf]
variable {f k}
theorem row_len (hk : ∀ x,(f x).length = k) : ∀ l : List α,(rowOf f l).length = l.length * k
 | [] => by simp [rowOf]
 | x :: l => by rw [row_cons,List.length_append,hk,row_len hk l,List.length_cons,Nat.succ_mul]; omega
theorem row_strip (hs : ∀ x,(f x).map AV.strip = f x) : ∀ l : List α,(rowOf f l).map AV.strip = rowOf f l
 | [] => rfl
 | x :: l => by rw [row_cons,List.map_append,hs,row_strip hs l]
theorem row_gp (hg : ∀ x,gpfreeL (f x) = true) : ∀ l : List α,gpfreeL (rowOf f l) = true
 | [] => rfl
 | x :: l => by
  rw [row_cons,gpfreeL_app,hg x,row_gp hg l]; rfl
theorem row_rd (hk : ∀ x,(f x).length = k) {l pre post : List α} {x : α} (h : l = pre ++ x :: post) (t : List AV) : ((rowOf f l ++ t).drop (pre.length * k)).take k = f x := by
 subst h
 rw [row_app,row_cons,List.append_assoc,← row_len hk pre,List.drop_left,List.append_assoc]
 have := hk x
 rw [List.take_append_of_le_length (by omega),List.take_of_length_le (by omega)]
theorem row_take (hk : ∀ x,(f x).length = k) {l pre post : List α} (h : l = pre ++ post) (t : List AV) : (rowOf f l ++ t).take (pre.length * k) = rowOf f pre := by
 subst h
 rw [row_app,List.append_assoc,← row_len hk pre,List.take_left]
theorem row_drop (hk : ∀ x,(f x).length = k) {l pre post : List α} (h : l = pre ++ post) (t : List AV) : (rowOf f l ++ t).drop (pre.length * k) = rowOf f post ++ t := by
 subst h
 rw [row_app,List.append_assoc,← row_len hk pre,List.drop_left]
theorem row_put (hk : ∀ x,(f x).length = k) {l pre post : List α} {x : α} (y : α) (h : l = pre ++ x :: post) (t : List AV) :
  (rowOf f l ++ t).take (pre.length * k) ++ (f y ++ (rowOf f l ++ t).drop (pre.length * k + k)) = rowOf f (pre ++ y :: post) ++ t := by
 rw [row_take hk h,row_app,row_cons]
 have h2 : l = (pre ++ [x]) ++ post := by rw [h]; simp
 have := row_drop hk h2 t
 rw [List.length_append,List.length_singleton,Nat.add_mul,Nat.one_mul] at this
 rw [this]
 simp
theorem row_chunks (hk : ∀ x,(f x).length = k) (hs : ∀ x,(f x).map AV.strip = f x) (l : List α) (t : List AV) : chunks (rowOf f l ++ t) 0 k l.length = l.map f := by
 apply List.ext_getElem?
 intro i
 cases hc : (chunks (rowOf f l ++ t) 0 k l.length)[i]? with
 | none =>
  rw [List.getElem?_eq_none_iff,chunks_len] at hc
  rw [List.getElem?_eq_none (by simpa using hc)]
 | some y =>
  obtain ⟨hi,rfl⟩ := chunks_get hc
  have hl : l = l.take i ++ l[i] :: l.drop (i + 1) := by rw [List.getElem_cons_drop,List.take_append_drop]
  have hr := row_rd hk hl t
  rw [List.length_take,Nat.min_eq_left (by omega)] at hr
  rw [Nat.zero_add,hr,hs]
  simp [List.getElem?_eq_getElem hi]
end
theorem encT_len4 (x : Tm) : (encT x).length = 4 := encT_length x
abbrev rowT (l : List Tm) : List AV := rowOf encT l
theorem rowT_map (l : List Tm) : l.map encT = encTs l := (encTs_map l).symm
theorem call_eq171 (x y : Tm) (bs : List (List AV)) (hx : x.mass < big) (hy : y.mass < big) : call F.tb 171 [.agg (encT x),.agg (encT y)] bs = some (.bool (decide (cmpT x y = 0)),bs) := by
 rw [call_code F.tb_171 _ _ rfl]
 have h := call_Compare x y bs hx hy
 simp [F.f171,F.f171C,encT_take,h]
def compF (prev : Tm) : List Tm → List Tm
 | [] => []
 | x :: r => if cmpT x prev = 0 then compF x r else x :: compF x r
theorem compT_cons (x : Tm) : ∀ (r : List Tm),compT (x :: r) = x :: compF x r
 | [] => by simp [compT,compF]
 | y :: r => by
  rw [compT]
  simp only [compF]
  split
  ·rename_i h
   have := cmpT_eq0 _ _ h
   subst this
   exact compT_cons y r
  ·rw [compT_cons y r]
theorem Comp_r0 (B : List (List AV)) (id n : Nat) (D : List Tm) (c : List AV) (hB : id < B.length) (hc : c.length = n * 4) (hD : D.length ≤ n) (hn : n < 100000000) (ht : c.take (D.length * 4) = rowT D)
  (ρ : Nat → AV) (h0 : ρ 0 = .gs id 0 4 n) (h5 : ρ 5 = .int .i64 D.length) :
  R F.tb F.f172r0 ρ (B.set id c) (blockK 1 (seqK F.tb F.f172r1 (seqK F.tb (.loop F.f172l1) (blockK 0 (seqK F.tb F.f172r2 (finK F.f172 B)))))) =
   some (.gs id 0 4 D.length,B.set id (rowT D ++ List.replicate ((n - D.length) * 4) .undef)) := by
 have e1 : (0 : Int) ≤ (D.length : Int) := by omega
 have e2 : (D.length : Int) ≤ (n : Int) := by omega
 have hput : c.take (D.length * 4) ++ (List.replicate ((n - D.length) * 4) AV.undef ++ c.drop (D.length * 4 + (n - D.length) * 4)) = rowT D ++ List.replicate ((n - D.length) * 4) .undef := by
  rw [ht,List.drop_eq_nil_of_le (by rw [hc,← Nat.add_mul]; exact Nat.mul_le_mul_right _ (by omega))]; simp
 have hle : D.length * 4 + (n - D.length) * 4 ≤ n * 4 := by rw [← Nat.add_mul]; exact Nat.mul_le_mul_right _ (by omega)
 by_cases hz : n - D.length = 0
 ·have hDn : D.length = n := by omega
  have hcc : c = rowT D := by rw [← ht,List.take_of_length_le (by omega)]
  simp [F.f172r0,h0,h5,e1,e2,hD,hz,F.f172R,F.f172K,hcc]
 ·simp [F.f172r0,h0,h5,e1,e2,hD,hz,hB,hc,hle,hput,F.f172R,F.f172K]
end Go.Am
namespace Go.Am
set_option maxRecDepth 8000
def CompOk (L : List Tm) (B : List (List AV)) (id : Nat) (r : Option (AV × List (List AV))) : Prop := ∃ t,r = some (.gs id 0 4 L.length,B.set id (rowT L ++ t))
theorem Comp_l0 (B : List (List AV)) (id n k0 : Nat) (hB : id < B.length) (hn : n < 100000000) : ∀ (post D mid : List Tm) (prev : Tm) (k2 : Nat) (ρ : Nat → AV),D.length + mid.length + 1 + post.length = n → k0 + k2 = D.length + mid.length + 1 → 0 < k2 →
   (∀ x ∈ prev :: post,x.mass < big) → ρ 0 = .gs id 0 4 n → ρ 1 = .fn 171 [] → ρ 5 = .int .i64 D.length → ρ 6 = .gs id (k0 * 4) 4 (n - k0) → ρ 7 = .int .i64 k2 →
  CompOk (D ++ compF prev post) B id (R F.tb (.loop F.f172l0) ρ (B.set id (rowT (D ++ mid ++ prev :: post)))
   (blockK 2 (seqK F.tb F.f172r0 (blockK 1 (seqK F.tb F.f172r1 (seqK F.tb (.loop F.f172l1) (blockK 0 (seqK F.tb F.f172r2 (finK F.f172 B))))))))) := by
 intro post
 induction post with
 | nil =>
  intro D mid prev k2 ρ hl hk hk2 hm h0 h1 h5 h6 h7
  have hlen : (rowT (D ++ mid ++ [prev])).length = n * 4 := by rw [row_len encT_len4]; simp at hl ⊢; omega
  have ht : (rowT (D ++ mid ++ [prev])).take (D.length * 4) = rowT D := by
   have := row_take (f := encT) (k := 4) encT_len4 (l := D ++ mid ++ [prev]) (pre := D) (post := mid ++ [prev]) (by simp) []
   simpa using this
  have hr := fun ρ a b => Comp_r0 B id n D (rowT (D ++ mid ++ [prev])) hB hlen (by omega) hn ht ρ a b
  have hl' : D.length + mid.length + 1 = n := by simpa using hl
  have hnl : ¬ ((k2 : Int) < ((n - k0 : Nat) : Int)) := by omega
  have hnl2 : ¬ (k2 < n - k0) := by omega
  rw [R_loop' F.f172l0.eq_1]
  simp only [compF,List.append_nil]
  refine ⟨List.replicate ((n - D.length) * 4) .undef,?_⟩
  simp [h0,h1,h5,h6,h7,hnl,hnl2]
  simp only [List.append_assoc] at hr
  refine hr _ ?_ ?_ <;> simp [h0,h5]
 | cons x post IH =>
  intro D mid prev k2 ρ hl hk hk2 hm h0 h1 h5 h6 h7
  have hlen : (rowT (D ++ mid ++ prev :: x :: post)).length = n * 4 := by rw [row_len encT_len4]; simp at hl ⊢; omega
  have hst : (rowT (D ++ mid ++ prev :: x :: post)).map AV.strip = rowT (D ++ mid ++ prev :: x :: post) := row_strip encT_strip _
  have r1 : ((rowT (D ++ mid ++ prev :: x :: post)).drop (k0 * 4 + k2 * 4)).take 4 = encT x := by
   have := row_rd (f := encT) (k := 4) encT_len4 (l := D ++ mid ++ prev :: x :: post) (pre := D ++ mid ++ [prev]) (post := post) (x := x) (by simp) []
   rw [← Nat.add_mul,hk]
   simpa [Nat.add_assoc] using this
  have r2 : ((rowT (D ++ mid ++ prev :: x :: post)).drop (k0 * 4 + (k2 - 1) * 4)).take 4 = encT prev := by
   have := row_rd (f := encT) (k := 4) encT_len4 (l := D ++ mid ++ prev :: x :: post) (pre := D ++ mid) (post := x :: post) (x := prev) (by simp) []
   rw [← Nat.add_mul,show k0 + (k2 - 1) = D.length + mid.length by omega]
   simpa [Nat.add_assoc] using this
  have hput : (rowT (D ++ mid ++ prev :: x :: post)).take (D.length * 4) ++ (encT x ++ (rowT (D ++ mid ++ prev :: x :: post)).drop (D.length * 4 + 4)) = rowT ((D ++ [x]) ++ (mid ++ [prev]).tail ++ x :: post) := by
   obtain ⟨y,m2,hy⟩ : ∃ y m2,mid ++ [prev] = y :: m2 := by cases mid <;> simp
   have := row_put (f := encT) (k := 4) encT_len4 (l := D ++ mid ++ prev :: x :: post) (pre := D) (post := m2 ++ x :: post) (x := y) x (by
    have : D ++ mid ++ prev :: x :: post = D ++ (mid ++ [prev]) ++ x :: post := by simp
    rw [this,hy]; simp) []
   rw [hy]
   simpa using this
  have hw1 : IntKind.i64.wrap ((k2 : Int) - 1) = ((k2 - 1 : Nat) : Int) := by rw [wrap64 (by omega) (by omega)]; omega
  have hw2 : IntKind.i64.wrap ((k2 : Int) + 1) = ((k2 + 1 : Nat) : Int) := by rw [wrap64 (by simp at hl; omega) (by simp at hl; omega)]; omega
  have hw3 : IntKind.i64.wrap ((D.length : Int) + 1) = ((D.length + 1 : Nat) : Int) := by rw [wrap64 (by simp at hl; omega) (by simp at hl; omega)]; omega
  have hlt : (k2 : Int) < ((n - k0 : Nat) : Int) := by simp at hl; omega
  have hlt1 : k2 < n - k0 := by simp at hl; omega
  have hlt2 : ((k2 - 1 : Nat) : Int) < ((n - k0 : Nat) : Int) := by simp at hl; omega
  have hlt2' : k2 - 1 < n - k0 := by simp at hl; omega
  have hlt3 : (D.length : Int) < (n : Int) := by simp at hl; omega
  have hlt3' : D.length < n := by simp at hl; omega
  have hb1 : k0 * 4 + k2 * 4 + 4 ≤ n * 4 := by simp at hl; omega
  have hb2 : k0 * 4 + (k2 - 1) * 4 + 4 ≤ n * 4 := by simp at hl; omega
  have hb3 : D.length * 4 + 4 ≤ n * 4 := by simp at hl; omega
  have hnn : (0 : Int) ≤ ((k2 - 1 : Nat) : Int) := by omega
  have hc := fun bs => call_eq171 x prev bs (hm x (by simp)) (hm prev (by simp))
  have hcast : ((k2 - 1 : Nat) : Int).toNat = k2 - 1 := by omega
  have ih1 := IH D (mid ++ [prev]) x (k2 + 1)
  have ih2 := IH (D ++ [x]) (mid ++ [prev]).tail x (k2 + 1)
  have htl : ((mid ++ [prev]).tail).length = mid.length := by simp
  rw [show D ++ (mid ++ [prev]) ++ x :: post = D ++ mid ++ prev :: x :: post by simp] at ih1
  rw [R_loop' F.f172l0.eq_1]
  generalize rowT (D ++ mid ++ prev :: x :: post) = c at *
  generalize hkm : k2 - 1 = km at *
  generalize n - k0 = nk at *
  by_cases he : cmpT x prev = 0
  ·have e : compF prev (x :: post) = compF x post := by simp [compF,he]
   rw [e]
   simp [h0,h1,h5,h6,h7,hlt,hlt1,hlt2,hlt2',hnn,hw1,hw2,hb1,hb2,hB,hlen,hst,r1,r2,hc,he,hcast]
   refine ih1 _ (by simp at hl ⊢; omega) (by simp; omega) (by omega) (fun y hy => hm y (by simp at hy ⊢; rcases hy with h | h <;> simp [h])) ?_ ?_ ?_ ?_ ?_ <;> simp [h0,h1,h5,h6]
  ·have e : D ++ compF prev (x :: post) = D ++ x :: compF x post := by simp [compF,he]
   rw [e]
   simp only [List.append_assoc,List.cons_append,List.nil_append] at ih2
   simp [h0,h1,h5,h6,h7,hlt,hlt1,hlt2,hlt2',hlt3,hlt3',hnn,hw1,hw2,hw3,hb1,hb2,hb3,hB,hlen,hst,r1,r2,hc,he,hcast,hput]
   refine ih2 _ (by simp at hl ⊢; omega) (by simp; omega) (by omega) (fun y hy => hm y (by simp at hy ⊢; rcases hy with h | h <;> simp [h])) ?_ ?_ ?_ ?_ ?_ <;> simp [h0,h1,h5,h6]
theorem Comp_l1 (B : List (List AV)) (id n : Nat) (hB : id < B.length) (hn : n < 100000000) : ∀ (post pre : List Tm) (prev : Tm) (ρ : Nat → AV),pre.length + 1 + post.length = n →
   (∀ x ∈ prev :: post,x.mass < big) → ρ 0 = .gs id 0 4 n → ρ 1 = .fn 171 [] → ρ 5 = .int .i64 (pre.length + 1 : Nat) →
  CompOk (pre ++ prev :: compF prev post) B id (R F.tb (.loop F.f172l1) ρ (B.set id (rowT (pre ++ prev :: post)))
   (blockK 0 (seqK F.tb F.f172r2 (finK F.f172 B)))) := by
 intro post
 induction post with
 | nil =>
  intro pre prev ρ hl hm h0 h1 h5
  have hl' : pre.length + 1 = n := by simpa using hl
  have hnl : ¬ ((pre.length : Int) + 1 < (n : Int)) := by omega
  rw [R_loop' F.f172l1.eq_1]
  refine ⟨[],?_⟩
  simp [h0,h1,h5,hnl,compF,F.f172r2,F.f172R,F.f172K,hl']
 | cons x post IH =>
  intro pre prev ρ hl hm h0 h1 h5
  have hl' : pre.length + 1 + (post.length + 1) = n := by simpa using hl
  have hlen : (rowT (pre ++ prev :: x :: post)).length = n * 4 := by rw [row_len encT_len4]; simp; omega
  have hst : (rowT (pre ++ prev :: x :: post)).map AV.strip = rowT (pre ++ prev :: x :: post) := row_strip encT_strip _
  have r1 : ((rowT (pre ++ prev :: x :: post)).drop ((pre.length + 1) * 4)).take 4 = encT x := by
   have := row_rd (f := encT) (k := 4) encT_len4 (l := pre ++ prev :: x :: post) (pre := pre ++ [prev]) (post := post) (x := x) (by simp) []
   simpa using this
  have r2 : ((rowT (pre ++ prev :: x :: post)).drop (pre.length * 4)).take 4 = encT prev := by
   have := row_rd (f := encT) (k := 4) encT_len4 (l := pre ++ prev :: x :: post) (pre := pre) (post := x :: post) (x := prev) (by simp) []
   simpa using this
  have hw1 : IntKind.i64.wrap (pre.length : Int) = (pre.length : Int) := wrap64 (by omega) (by omega)
  have hw2 : IntKind.i64.wrap ((pre.length : Int) + 1 + 1) = (pre.length : Int) + 1 + 1 := wrap64 (by omega) (by omega)
  have hlt : (pre.length : Int) + 1 < (n : Int) := by omega
  have hlt2 : (pre.length : Int) < (n : Int) := by omega
  have hb1 : (pre.length + 1) * 4 + 4 ≤ n * 4 := by omega
  have hb2 : pre.length * 4 + 4 ≤ n * 4 := by omega
  have hnn : (0 : Int) ≤ (pre.length : Int) + 1 := by omega
  have hle : (pre.length : Int) + 1 ≤ (n : Int) := by omega
  have hcast : ((pre.length : Int) + 1).toNat = pre.length + 1 := by omega
  have hc := fun bs => call_eq171 x prev bs (hm x (by simp)) (hm prev (by simp))
  have ih1 := IH (pre ++ [prev]) x
  have ih2 := Comp_l0 B id n (pre.length + 1) hB hn post (pre ++ [prev]) [] x 1
  simp only [List.append_assoc,List.cons_append,List.nil_append] at ih1 ih2
  rw [R_loop' F.f172l1.eq_1]
  generalize rowT (pre ++ prev :: x :: post) = c at *
  by_cases he : cmpT x prev = 0
  ·have e : compF prev (x :: post) = compF x post := by simp [compF,he]
   rw [e]
   simp [h0,h1,h5,hlt,hlt2,hnn,hle,hw1,hw2,hb1,hb2,hB,hlen,hst,r1,r2,hc,he,hcast]
   refine ih2 _ (by simp; omega) (by simp) (by omega) (fun y hy => hm y (by simp at hy ⊢; rcases hy with h | h <;> simp [h])) ?_ ?_ ?_ ?_ ?_ <;> simp [h0,h1,h5]
  ·have e : pre ++ prev :: compF prev (x :: post) = pre ++ prev :: x :: compF x post := by simp [compF,he]
   rw [e]
   simp [h0,h1,h5,hlt,hlt2,hnn,hle,hw1,hw2,hb1,hb2,hB,hlen,hst,r1,r2,hc,he,hcast,F.f172r1]
   refine ih1 _ (by simp; omega) (fun y hy => hm y (by simp at hy ⊢; rcases hy with h | h <;> simp [h])) ?_ ?_ ?_ <;> simp [h0,h1,h5]
theorem call_Compact (L : List Tm) (B : List (List AV)) (id : Nat) (hid : B[id]? = some (rowT L)) (hn : L.length < 100000000) (hm : ∀ x ∈ L,x.mass < big) :
  CompOk (compT L) B id (call F.tb 172 [.gs id 0 4 L.length,.fn 171 []] B) := by
 have hB : id < B.length := by
  rcases Nat.lt_or_ge id B.length with h | h
  ·exact h
  ·rw [List.getElem?_eq_none h] at hid; cases hid
 have hset : B.set id (rowT L) = B := by
  apply List.ext_getElem?
  intro i
  rw [List.getElem?_set]
  split
  ·rename_i h; subst h; rw [hid]
  ·rfl
 match L with
 | [] =>
  refine ⟨[],?_⟩
  rw [call_code F.tb_172 _ _ rfl]
  simp [F.f172B,F.f172C,F.f172R,F.f172K,compT]
  simpa using hset.symm
 | [x] =>
  refine ⟨[],?_⟩
  rw [call_code F.tb_172 _ _ rfl]
  simp [F.f172B,F.f172C,F.f172R,F.f172K,compT]
  simpa using hset.symm
 | x :: y :: r =>
  have h := Comp_l1 B id (r.length + 2) hB (by simpa using hn) (y :: r) [] x
  rw [call_code F.tb_172 _ _ rfl,compT_cons]
  simp only [List.nil_append,hset] at h
  have hge : ¬ ((r.length : Int) + 1 + 1 < 2) := by omega
  simp [F.f172B,F.f172C,hge]
  refine h _ (by simp; omega) (fun z hz => hm z hz) ?_ ?_ ?_ <;> simp
end Go.Am
namespace Go.Am
set_option maxRecDepth 8000
theorem set_self {α : Type} {B : List α} {i : Nat} {x : α} (h : B[i]? = some x) : B.set i x = B := by
 apply List.ext_getElem?
 intro j
 rw [List.getElem?_set]
 split
 ·rename_i e
  subst e
  split
  ·exact h.symm
  ·rename_i hl; rw [List.getElem?_eq_none (by omega)]
 ·rfl
theorem get_lt {α : Type} {B : List α} {i : Nat} {x : α} (h : B[i]? = some x) : i < B.length := by
 rcases Nat.lt_or_ge i B.length with h1 | h1
 ·exact h1
 ·rw [List.getElem?_eq_none h1] at h; cases h
theorem encTs_flat (l : List Tm) : (encTs l).flatten = rowT l := by rw [encTs_map]; rfl
theorem call_sort (L : List Tm) (B : List (List AV)) (g : Nat) (hg : B[g]? = some (rowT L)) (hn : L.length < 100000000) (hm : ∀ x ∈ L,x.mass < big) :
  call F.tb 170 [.gs g 0 4 L.length,.fn 30 []] B = some (.tup [],B.set g (rowT (sortT L))) := by
 rw [call_orc F.tb_170]
 have hlen : (rowT L).length = L.length * 4 := row_len encT_len4 L
 have hch : chunks (rowT L) 0 4 L.length = encTs L := by
  have := row_chunks (f := encT) (k := 4) encT_len4 encT_strip L []
  rw [List.append_nil,rowT_map] at this
  exact this
 have hall : L.all (fun t => decide (t.mass < big)) = true := by
  rw [List.all_eq_true]; intro x hx; simpa using hm x hx
 simp only [sortO]
 by_cases h0 : L.length = 0
 ·have : L = [] := List.eq_nil_of_length_eq_zero h0
  subst this
  simp [sortT]
  exact (set_self hg).symm
 ·have hsl : (rowT (sortT L)).length = (rowT L).length := by rw [row_len encT_len4,row_len encT_len4,sortT_len]
  have hput : put (rowT L) 0 (encTs (sortT L)).flatten = rowT (sortT L) := by
   rw [encTs_flat]
   simp only [put,List.take_zero,List.nil_append,Nat.zero_add]
   rw [hsl,List.drop_length,List.append_nil]
  rw [if_neg h0,if_pos ⟨trivial,by omega⟩,hg]
  simp only [Option.bind_some]
  rw [if_pos (by omega),hch,decE_enc]
  simp only [Option.bind_some]
  rw [if_pos hall,hput]
theorem ord_loop (C : List Tm) (t : List AV) (B : List (List AV)) (g : Nat) (hB : g < B.length) (hn : C.length < 100000000) (hne : C ≠ []) (hm : ∀ x ∈ C,x.mass < big) : ∀ (post pre : List Tm) (ρ : Nat → AV),C = pre ++ post → ρ 0 = .gs g 0 4 C.length → ρ 9 = .int .i64 C.length → ρ 10 = .int .i64 pre.length →
  R F.tb (.loop F.f169l0) ρ (B.set g (rowT C ++ t)) (blockK 0 (seqK F.tb F.f169r0 (finK F.f169 B))) = some (.sl true 4 (encTs C),B.set g []) := by
 have hch : chunks (rowT C ++ t) 0 4 C.length = encTs C := by
  have := row_chunks (f := encT) (k := 4) encT_len4 encT_strip C t
  rw [rowT_map] at this
  exact this
 have hlen : (rowT C).length = C.length * 4 := row_len encT_len4 C
 intro post
 induction post with
 | nil =>
  intro pre ρ hk h0 h9 h10
  simp only [List.append_nil] at hk
  rw [← hk] at h10
  have hz : ¬ C.length = 0 := fun e => hne (List.eq_nil_of_length_eq_zero e)
  have hle : C.length * 4 ≤ (rowT C ++ t).length := by rw [List.length_append,hlen]; omega
  have hg : gpfreeE (encTs C) = true := encTs_gp C
  rw [R_loop' F.f169l0.eq_1]
  generalize rowT C ++ t = c at *
  simp [h0,h9,h10,F.f169r0,frzAt,hz,hle,hB,hch,F.f169R,F.f169K,hne,List.take_of_length_le]
 | cons x post IH =>
  intro pre ρ hk h0 h9 h10
  have hl : C.length = pre.length + (post.length + 1) := by rw [hk]; simp
  have hst : (rowT C).map AV.strip = rowT C := row_strip encT_strip C
  have r1 := row_rd (f := encT) (k := 4) encT_len4 hk t
  have r1' : (((rowT C ++ t).drop (pre.length * 4)).take 4).map AV.strip = encT x := by rw [r1]; exact encT_strip x
  have hput := row_put (f := encT) (k := 4) encT_len4 x hk t
  rw [← hk] at hput
  have hw1 : IntKind.i64.wrap ((pre.length : Int) + 1) = (pre.length : Int) + 1 := wrap64 (by omega) (by omega)
  have hlt : (pre.length : Int) < (C.length : Int) := by omega
  have hlt' : pre.length < C.length := by omega
  have hle : pre.length * 4 + 4 ≤ (rowT C ++ t).length := by rw [List.length_append,hlen]; omega
  have hc := fun bs => call_clone x bs (hm x (by rw [hk]; simp))
  rw [R_loop' F.f169l0.eq_1]
  rw [List.map_take,List.map_drop] at r1'
  have ih := IH (pre ++ [x])
  change List.take (pre.length * 4) (rowT C ++ t) ++ (encT x ++ List.drop (pre.length * 4 + 4) (rowT C ++ t)) = rowT C ++ t at hput
  generalize rowT C ++ t = c at *
  simp [h0,h9,h10,hlt,hlt',hw1,hB,hle,r1',hc,hput]
  rw [ih] <;> simp [h0,h9,hk]
theorem call_ordered (L : List Tm) (B : List (List AV)) (g : Nat) (hg : B[g]? = some (rowT L)) (hne : L ≠ []) (hn : L.length < 100000000) (hm : ∀ x ∈ L,x.mass < big) :
  call F.tb 169 [.gs g 0 4 L.length] B = some (.sl true 4 (encTs (setT L)),B.set g []) := by
 have hB := get_lt hg
 have hs := call_sort L B g hg hn hm
 have hS : (B.set g (rowT (sortT L)))[g]? = some (rowT (sortT L)) := by simp [hB]
 obtain ⟨t,hc⟩ := call_Compact (sortT L) (B.set g (rowT (sortT L))) g hS (by rw [sortT_len]; exact hn) (fun x hx => hm x (mem_sortT.1 hx))
 rw [compT_sortT,sortT_len,List.set_set] at hc
 have hCne : setT L ≠ [] := by
  obtain ⟨x,hx⟩ := List.exists_mem_of_ne_nil L hne
  intro e
  have := mem_setT.2 hx
  rw [e] at this; simp at this
 have hl := ord_loop (setT L) t B g hB (by have := setT_len L; omega) hCne (fun x hx => hm x (mem_setT.1 hx)) (setT L) []
 rw [call_code F.tb_169 _ _ rfl]
 simp [F.f169B,F.f169C,hs,hc]
 refine hl _ rfl ?_ ?_ ?_ <;> simp
theorem call_ordered0 (B : List (List AV)) : call F.tb 169 [.gs 0 0 0 0] B = some (.sl true 4 [],B) := by
 rw [call_code F.tb_169 _ _ rfl]
 have hs : call F.tb 170 [.gs 0 0 0 0,.fn 30 []] B = some (.tup [],B) := by rw [call_orc F.tb_170]; simp [sortO]
 have hc : call F.tb 172 [.gs 0 0 0 0,.fn 171 []] B = some (.gs 0 0 0 0,B) := by
  rw [call_code F.tb_172 _ _ rfl]
  simp [F.f172B,F.f172C,F.f172R,F.f172K]
 simp [F.f169B,F.f169C,hs,hc]
 rw [R_loop' F.f169l0.eq_1]
 simp [F.f169r0,frzAt,F.f169R,F.f169K]
end Go.Am
namespace Go.Am
set_option maxRecDepth 8000
def Wst (B0 : List (List AV)) (k : Int) (acc : List Tm) (bs : List (List AV)) : Prop :=
 B0.length + 2 ≤ bs.length ∧ bs.take B0.length = B0 ∧ bs[B0.length]? = some [.int .i64 k] ∧
  ((acc = [] ∧ bs[B0.length + 1]? = some [.gs 0 0 0 0]) ∨ (acc ≠ [] ∧ ∃ g,B0.length + 1 < g ∧ bs[B0.length + 1]? = some [.gs g 0 4 acc.length] ∧ bs[g]? = some (rowT acc)))
theorem take_set_app {α : Type} {bs c : List α} {n i : Nat} {y : α} (h : n ≤ bs.length) (hi : n ≤ i) : ((bs ++ c).set i y).take n = bs.take n := by
 apply List.ext_getElem?
 intro j
 rw [List.getElem?_take,List.getElem?_take]
 split
 ·rw [List.getElem?_set_ne (by omega),List.getElem?_append_left (by omega)]
 ·rfl
def zrow : List AV := [.int .i64 0,.str [],.int .i64 0,.sl false 4 []]
theorem call_visit (B0 : List (List AV)) (k : Int) (acc : List Tm) (bs : List (List AV)) (x : Tm) (hw : Wst B0 k acc bs) (ha : acc.length < 100000000) :
  ∃ bs',call F.tb 167 [.agg (encT x),.gp B0.length 0,.gp (B0.length + 1) 0] bs = some (.tup [],bs') ∧ Wst B0 k (acc ++ if x.kind = k then [x] else []) bs' := by
 obtain ⟨h1,h2,h3,h4⟩ := hw
 have hgx := encT_take x
 by_cases hk : x.kind = k
 ·rcases h4 with ⟨rfl,h4⟩ | ⟨hne,g,hg,h4,h5⟩
  ·have hl1 : ¬ bs.length = B0.length + 1 := by omega
   refine ⟨((bs ++ [encT x]).set (B0.length + 1) [.gs bs.length 0 4 1]),?_,?_⟩
   ·rw [call_code F.tb_167 _ _ rfl]
    have e1 : (bs ++ [zrow])[bs.length]? = some zrow := List.getElem?_concat_length
    have e2 : (bs ++ [zrow]).set bs.length (encT x) = bs ++ [encT x] := by rw [List.set_append]; simp
    have e3 : (bs ++ [encT x])[B0.length + 1]? = some [.gs 0 0 0 0] := by rw [List.getElem?_append_left (by omega)]; exact h4
    simp only [zrow] at e1 e2
    simp [F.f167,F.f167C,hk,h3,h4,appM,srcOf,hl1,e1,e2,e3,encT_length]
   ·refine ⟨by simp; omega,?_,?_,.inr ⟨by simp [hk],bs.length,by omega,?_,?_⟩⟩
    ·rw [take_set_app (by omega) (by omega)]; exact h2
    ·rw [List.getElem?_set_ne (by omega),List.getElem?_append_left (by omega)]; exact h3
    ·rw [List.getElem?_set_self (by simp; omega)]; simp [hk]
    ·rw [List.getElem?_set_ne (by omega),List.getElem?_concat_length]; simp [hk,rowOf]
  ·have hl1 : ¬ bs.length = B0.length + 1 := by omega
   have hgl := get_lt h5
   have hlen : (rowT acc).length = acc.length * 4 := row_len encT_len4 acc
   have hst : (rowT acc).map AV.strip = rowT acc := row_strip encT_strip acc
   have htk : (rowT acc).take (acc.length * 4) = rowT acc := List.take_of_length_le (by omega)
   have hb : (acc.length + 1) * 56 ≤ 140737488355328 := by omega
   have hn1 : ¬ (acc.length + 1) * 4 ≤ acc.length * 4 := by omega
   have hput : (rowT acc ++ zrow).take (acc.length * 4) ++ (encT x ++ (rowT acc ++ zrow).drop (acc.length * 4 + 4)) = rowT (acc ++ [x]) := by
    rw [← hlen,List.take_left,List.drop_eq_nil_of_le (by simp [zrow])]; simp [rowT,row_app,row_one]
   have hzl : (rowT acc ++ zrow).length = acc.length * 4 + 4 := by rw [List.length_append,hlen]; rfl
   have hne0 : rowT acc ≠ [] := fun e => by rw [e] at hlen; cases acc with
    | nil => exact hne rfl
    | cons y ys => simp at hlen
   have hlt : (acc.length : Int) < (acc.length : Int) + 1 := by omega
   refine ⟨((bs.set g [] ++ [rowT (acc ++ [x])]).set (B0.length + 1) [.gs bs.length 0 4 (acc.length + 1)]),?_,?_⟩
   ·rw [call_code F.tb_167 _ _ rfl]
    have e1 : (bs.set g [] ++ [rowT acc ++ zrow])[bs.length]? = some (rowT acc ++ zrow) := by
     have : bs.length = (bs.set g []).length := by simp
     rw [this]; exact List.getElem?_concat_length
    have e2 : (bs.set g [] ++ [rowT acc ++ zrow]).set bs.length (rowT (acc ++ [x])) = bs.set g [] ++ [rowT (acc ++ [x])] := by rw [List.set_append]; simp
    have e3 : (bs.set g [] ++ [rowT (acc ++ [x])])[B0.length + 1]? = some [.gs g 0 4 acc.length] := by
     rw [List.getElem?_append_left (by simp; omega),List.getElem?_set_ne (by omega)]; exact h4
    have hz : zrow = [.int .i64 0,.str [],.int .i64 0,.sl false 4 []] := rfl
    rw [hz] at e1 e2 hput hzl
    generalize rowT (acc ++ [x]) = r2 at *
    generalize rowT acc = r1 at *
    simp [F.f167,F.f167C,hk,h3,h4,h5,appM,srcOf,hl1,hb,hne0,hlen,hn1,htk,hst,encT_length]
    generalize r1 ++ [AV.int IntKind.i64 0,AV.str [],AV.int IntKind.i64 0,AV.sl false 4 []] = r3 at *
    simp [hlt,e1,e2,e3,hput,hzl,hl1,encT_length,h3]
   ·refine ⟨by simp; omega,?_,?_,.inr ⟨by simp [hk],bs.length,by omega,?_,?_⟩⟩
    ·rw [take_set_app (by simp; omega) (by omega),List.take_set_of_le (by omega)]; exact h2
    ·rw [List.getElem?_set_ne (by omega),List.getElem?_append_left (by simp; omega),List.getElem?_set_ne (by omega)]; exact h3
    ·rw [List.getElem?_set_self (by simp; omega)]; simp [hk]
    ·rw [List.getElem?_set_ne (by omega)]
     have : bs.length = (bs.set g []).length := by simp
     rw [this,List.getElem?_concat_length]; simp [hk]
 ·refine ⟨bs,?_,by simpa [hk] using ⟨h1,h2,h3,h4⟩⟩
  rw [call_code F.tb_167 _ _ rfl]
  simp [F.f167,F.f167C,hk,h3]
end Go.Am
namespace Go.Am
set_option maxRecDepth 8000
mutual
def allT : Tm → List Tm
 | .mk k n s ks => .mk k n s ks :: allL ks
def allL : List Tm → List Tm
 | [] => []
 | t :: ts => allT t ++ allL ts
end
theorem allT_eq (t : Tm) : allT t = t :: allL t.kids := by cases t; simp [allT]
theorem allL_app (a b : List Tm) : allL (a ++ b) = allL a ++ allL b := by
 induction a with
 | nil => simp [allL]
 | cons t ts ih => simp [allL,ih]
mutual
theorem allT_len : ∀ t : Tm,(allT t).length = t.nodes
 | .mk k n s ks => by simp only [allT,List.length_cons,Tm.nodes,allL_len ks]; omega
theorem allL_len : ∀ ts : List Tm,(allL ts).length = nodesL ts
 | [] => by simp [allL,nodesL]
 | t :: ts => by simp only [allL,List.length_append,nodesL,allT_len t,allL_len ts]
end
mutual
theorem allT_mass : ∀ (t x : Tm),x ∈ allT t → x.mass ≤ t.mass
 | .mk k n s ks,x,h => by
  simp only [allT,List.mem_cons] at h
  rcases h with rfl | h
  ·exact Nat.le_refl _
  ·have := allL_mass ks x h
   simp only [Tm.mass]; omega
theorem allL_mass : ∀ (ts : List Tm) (x : Tm),x ∈ allL ts → x.mass ≤ massL ts
 | [],x,h => by simp [allL] at h
 | t :: ts,x,h => by
  simp only [allL,List.mem_append] at h
  simp only [massL]
  rcases h with h | h
  ·have := allT_mass t x h; omega
  ·have := allL_mass ts x h; omega
end
def kindB (k : Int) (x : Tm) : Bool := decide (x.kind = k)
def WOk (B0 : List (List AV)) (k : Int) (acc : List Tm) (r : Option (AV × List (List AV))) : Prop := ∃ bs',r = some (.tup [],bs') ∧ Wst B0 k acc bs'
theorem walk_loop (B0 : List (List AV)) (k : Int) (t : Tm) (B : List (List AV)) (hm : t.mass < 100000000)
  (ih : ∀ x ∈ t.kids,∀ acc bs,Wst B0 k acc bs → acc.length + x.nodes < 100000000 → WOk B0 k (acc ++ (allT x).filter (kindB k)) (call F.tb 168 [.agg (encT x),.fn 167 [.gp B0.length 0,.gp (B0.length + 1) 0]] bs)) :
  ∀ (post pre acc : List Tm) (bs : List (List AV)) (ρ : Nat → AV),t.kids = pre ++ post → Wst B0 k acc bs → acc.length + nodesL post < 100000000 → ρ 1 = .fn 167 [.gp B0.length 0,.gp (B0.length + 1) 0] → ρ 10 = .sl false 4 (encTs t.kids) → ρ 11 = .int .i64 t.kids.length → ρ 12 = .int .i64 pre.length →
  WOk B0 k (acc ++ (allL post).filter (kindB k)) (R F.tb (.loop F.f168l0) ρ bs (blockK 0 (finK F.f168 B))) := by
 have hmk := mass_eq t
 intro post
 induction post with
 | nil =>
  intro pre acc bs ρ hk hw ha h1 h10 h11 h12
  simp only [List.append_nil] at hk
  rw [← hk] at h12
  rw [R_loop' F.f168l0.eq_1]
  refine ⟨bs,?_,by simpa [allL] using hw⟩
  simp [h1,h10,h11,h12,F.f168R,F.f168K]
 | cons x post IH =>
  intro pre acc bs ρ hk hw ha h1 h10 h11 h12
  have hg := get_pre hk
  have hl : t.kids.length = pre.length + (post.length + 1) := by rw [hk]; simp
  have hw1 : IntKind.i64.wrap ((pre.length : Int) + 1) = (pre.length : Int) + 1 := wrap64 (by omega) (by omega)
  have hlt : (pre.length : Int) < (t.kids.length : Int) := by omega
  simp only [nodesL] at ha
  obtain ⟨bs',hc,hw'⟩ := ih x (by rw [hk]; simp) acc bs hw (by omega)
  have hfl : ((allT x).filter (kindB k)).length ≤ x.nodes := by rw [← allT_len]; exact List.length_filter_le _ _
  have h2 := fun ρ => IH (pre ++ [x]) _ bs' ρ (by rw [hk]; simp) hw' (by rw [List.length_append]; omega)
  rw [List.append_assoc,← List.filter_append,show allT x ++ allL post = allL (x :: post) by simp [allL]] at h2
  rw [R_loop' F.f168l0.eq_1]
  simp [h1,h10,h11,h12,hg,hlt,hw1,hc]
  refine h2 _ ?_ ?_ ?_ ?_ <;> simp [h1,h10,h11]
theorem call_walk (B0 : List (List AV)) (k : Int) : ∀ (t : Tm) (acc : List Tm) (bs : List (List AV)),t.mass < 100000000 → Wst B0 k acc bs → acc.length + t.nodes < 100000000 →
  WOk B0 k (acc ++ (allT t).filter (kindB k)) (call F.tb 168 [.agg (encT t),.fn 167 [.gp B0.length 0,.gp (B0.length + 1) 0]] bs) := by
 refine tm_ind ?_
 intro kk n s ks ih acc bs hm hw ha
 have hmk := mass_eq (.mk kk n s ks)
 have hnk := nodes_eq (.mk kk n s ks)
 simp only [mk_kids,mk_name] at hmk hnk
 obtain ⟨bs1,hc,hw1⟩ := call_visit B0 k acc bs (.mk kk n s ks) hw (by omega)
 have hl := fun ρ => walk_loop B0 k (.mk kk n s ks) bs hm (fun x hx acc bs hw ha => ih x hx acc bs (by have := massL_mem hx; simp at this; omega) hw ha) ks [] _ bs1 ρ rfl hw1 (by
  rw [List.length_append]; split <;> simp <;> omega)
 have he : acc ++ (allT (.mk kk n s ks)).filter (kindB k) = (acc ++ if (Tm.mk kk n s ks).kind = k then [.mk kk n s ks] else []) ++ (allL ks).filter (kindB k) := by
  simp only [allT,List.filter_cons,kindB,mk_kind]
  by_cases h : kk = k <;> simp [h]
 rw [he,call_code F.tb_168 _ _ rfl]
 simp [F.f168B,F.f168C,hc]
 simp only [mk_kind,mk_kids,List.append_assoc] at hl
 refine hl _ ?_ ?_ ?_ ?_ <;> simp [encT_eq]
theorem call_ofKind (t : Tm) (k : Int) (B : List (List AV)) (hm : t.mass < 100000000) :
  call F.tb 166 [.agg (encT t),.int .i64 k] B = some (.sl true 4 (encTs (setT ((allT t).filter (kindB k)))),B) := by
 have hn := nodes_le_mass t
 have hw0 : Wst B k [] (B ++ [[.int .i64 k],[.gs 0 0 0 0]]) := by
  refine ⟨by simp,by simp,by simp,.inl ⟨rfl,?_⟩⟩
  rw [List.getElem?_append_right (by omega)]; simp
 obtain ⟨bs',hc,h1,h2,h3,h4⟩ := call_walk B k t [] _ hm hw0 (by simp; omega)
 rw [call_code F.tb_166 _ _ rfl]
 have e1 : (B ++ [[AV.int .i64 k]]) ++ [[AV.gs 0 0 0 0]] = B ++ [[.int .i64 k],[.gs 0 0 0 0]] := by simp
 have e2 : (B ++ [[AV.int .i64 k]]).length = B.length + 1 := by simp
 generalize hF : (allT t).filter (kindB k) = A at *
 have hlen : A.length < 100000000 := by rw [← hF]; have := List.length_filter_le (kindB k) (allT t); rw [allT_len] at this; omega
 have hmm : ∀ x ∈ A,x.mass < big := fun x hx => by
  rw [← hF] at hx
  have := allT_mass t x (List.mem_filter.1 hx).1
  unfold big; omega
 have hgp : gpfreeE (encTs (setT A)) = true := encTs_gp _
 simp only [List.nil_append] at h4
 rcases h4 with ⟨h5,h6⟩ | ⟨h5,g,h6,h7,h8⟩
 ·have ho := call_ordered0 bs'
  subst h5
  simp [F.f166,F.f166C,encT_take,e1,e2,hc,h6,ho,h2,setT,addAll,encTs]
 ·have ho := call_ordered A bs' g h8 h5 hlen hmm
  have hgl := get_lt h8
  have ht : (bs'.set g []).take B.length = B := by rw [List.take_set_of_le (by omega)]; exact h2
  simp [F.f166,F.f166C,encT_take,e1,e2,hc,h7,ho,ht,hgp]
def varsT (t : Tm) : List Tm := setT ((allT t).filter (kindB 1))
def atomsT (t : Tm) : List Tm := setT ((allT t).filter (kindB 2))
theorem call_Vars (t : Tm) (B : List (List AV)) (hm : t.mass < 100000000) : call F.tb 165 [.agg (encT t)] B = some (.sl true 4 (encTs (varsT t)),B) := by
 rw [call_code F.tb_165 _ _ rfl]
 have h := call_ofKind t 1 B hm
 have hgp : gpfreeE (encTs (setT ((allT t).filter (kindB 1)))) = true := encTs_gp _
 simp [F.f165,F.f165C,encT_take,h,varsT]
theorem call_Atoms (t : Tm) (B : List (List AV)) (hm : t.mass < 100000000) : call F.tb 210 [.agg (encT t)] B = some (.sl true 4 (encTs (atomsT t)),B) := by
 rw [call_code F.tb_210 _ _ rfl]
 have h := call_ofKind t 2 B hm
 simp [F.f210,F.f210C,encT_take,h,atomsT]
end Go.Am
namespace Go.Am
set_option maxRecDepth 8000
theorem lim56 {n : Nat} (h : n ≤ 200000000) : n * 56 ≤ 140737488355328 := by omega
theorem All_loop (t : Tm) (bs : List (List AV)) (hm : t.mass < 100000000) (ih : ∀ x ∈ t.kids,∀ bs,call F.tb 237 [.agg (encT x)] bs = some (.sl false 4 (encTs (allT x)),bs)) :
  ∀ (post pre : List Tm) (ρ : Nat → AV),t.kids = pre ++ post → ρ 1 = .bx (encT t) → ρ 3 = .sl true 4 (encTs (t :: allL pre)) → ρ 4 = .int .i64 pre.length →
  R F.tb (.loop F.f237l0) ρ bs (blockK 0 (seqK F.tb F.f237r0 (finK F.f237 bs))) = some (.sl false 4 (encTs (allT t)),bs) := by
 have hmk := mass_eq t
 have hn := nodes_le_mass t
 have hnk := nodes_eq t
 intro post
 induction post with
 | nil =>
  intro pre ρ hk h1 h3 h4
  simp only [List.append_nil] at hk
  rw [← hk] at h3 h4
  rw [← allT_eq] at h3
  rw [R_loop' F.f237l0.eq_1]
  simp [h1,h3,h4,F.f237r0,F.f237R,F.f237K]
 | cons x post IH =>
  intro pre ρ hk h1 h3 h4
  have hg := get_pre hk
  have hl : t.kids.length = pre.length + (post.length + 1) := by rw [hk]; simp
  have hw1 : IntKind.i64.wrap ((pre.length : Int) + 1) = (pre.length : Int) + 1 := wrap64 (by omega) (by omega)
  have hlt : (pre.length : Int) < (t.kids.length : Int) := by omega
  have hnn : nodesL t.kids = nodesL pre + (x.nodes + nodesL post) := by rw [hk,nodesL_append]; simp [nodesL]
  have hb : ((allL pre).length + 1 + (allT x).length) * 56 ≤ 140737488355328 := by rw [allL_len,allT_len]; omega
  have hgl : t.kids[pre.length]'(by omega) = x := by
   have := List.getElem?_eq_getElem (l := t.kids) (i := pre.length) (by omega)
   rw [hg] at this; injection this with this; exact this.symm
  have hih := ih x (by rw [hk]; simp)
  have h2 := IH (pre ++ [x])
  rw [allL_app,show allL [x] = allT x by simp [allL]] at h2
  rw [R_loop' F.f237l0.eq_1]
  simp [h1,h3,h4,hg,hgl,hlt,hw1,hih,hb,encTs_append]
  rw [h2] <;> simp [h1,hk]
theorem call_All : ∀ (t : Tm) (bs : List (List AV)),t.mass < 100000000 → call F.tb 237 [.agg (encT t)] bs = some (.sl false 4 (encTs (allT t)),bs) := by
 refine tm_ind ?_
 intro k n s ks ih bs hm
 have hl := fun ρ => All_loop (.mk k n s ks) bs hm (fun x hx bs => ih x hx bs (by have := massL_mem hx; have := mass_eq (.mk k n s ks); simp at *; omega)) ks [] ρ rfl
 rw [call_code F.tb_237 _ _ rfl]
 simp [F.f237B,F.f237C,encT_take]
 refine hl _ ?_ ?_ ?_ <;> simp [allL,encTs]
theorem Add_loop (l : List Tm) (t : Tm) (bs : List (List AV)) (hl : l.length < 100000000) (hm : ∀ x ∈ l,x.mass < big) (ht : t.mass < big) :
  ∀ (post pre acc : List Tm) (d : Bool) (ρ : Nat → AV),l = pre ++ post → acc.length ≤ pre.length + 1 → (d = false → acc.length = pre.length) → ρ 0 = .sl false 4 (encTs l) → ρ 3 = .bx (encT t) → ρ 5 = .sl true 4 (encTs acc) → ρ 6 = .bool d → ρ 7 = .int .i64 pre.length →
  R F.tb (.loop F.f239l0) ρ bs (blockK 0 (seqK F.tb F.f239r0 (finK F.f239 bs))) = some (.sl false 4 (encTs (acc ++ if d then post else addS t post)),bs) := by
 intro post
 induction post with
 | nil =>
  intro pre acc d ρ hk ha hd h0 h3 h5 h6 h7
  simp only [List.append_nil] at hk
  rw [← hk] at h7 ha hd
  have hb : (acc.length + 1) * 56 ≤ 140737488355328 := by omega
  rw [R_loop' F.f239l0.eq_1]
  cases d
  ·simp [h0,h3,h5,h6,h7,F.f239r0,F.f239R,F.f239K,hb,addS,encT_take,encTs_one,encTs_append]
  ·simp [h0,h3,h5,h6,h7,F.f239r0,F.f239R,F.f239K,hb,addS]
 | cons x post IH =>
  intro pre acc d ρ hk ha hd h0 h3 h5 h6 h7
  have hg := get_pre hk
  have hll : l.length = pre.length + (post.length + 1) := by rw [hk]; simp
  have hw1 : IntKind.i64.wrap ((pre.length : Int) + 1) = (pre.length : Int) + 1 := wrap64 (by omega) (by omega)
  have hlt : (pre.length : Int) < (l.length : Int) := by omega
  have hb : (acc.length + 1) * 56 ≤ 140737488355328 := lim56 (by omega)
  have hb2 : (acc.length + 1 + 1) * 56 ≤ 140737488355328 := lim56 (by clear hb; omega)
  have hc := call_RCompare t x bs ht (hm x (by rw [hk]; simp))
  rw [R_loop' F.f239l0.eq_1]
  cases d
  ·have hd := hd rfl
   by_cases h1 : cmpT t x < 0
   ·have hle : cmpT t x ≤ 0 := by omega
    have e : acc ++ (if false = true then x :: post else addS t (x :: post)) = (acc ++ [t] ++ [x]) ++ (if true = true then post else addS t post) := by simp [addS,h1]
    rw [e]
    simp [h0,h3,h5,h6,h7,hg,hlt,hw1,hc,h1,hle,hb,hb2,encT_take,encTs_one,encTs_append]
    clear hb hb2
    rw [IH (pre ++ [x]) (acc ++ [t] ++ [x]) true] <;> simp [h0,h3,hk] <;> omega
   ·by_cases h2 : cmpT t x = 0
    ·have e : acc ++ (if false = true then x :: post else addS t (x :: post)) = (acc ++ [x]) ++ (if true = true then post else addS t post) := by simp [addS,h2]
     rw [e]
     simp [h0,h3,h5,h6,h7,hg,hlt,hw1,hc,h1,h2,hb,encT_take,encTs_one,encTs_append]
     clear hb hb2
     rw [IH (pre ++ [x]) (acc ++ [x]) true] <;> simp [h0,h3,hk] <;> omega
    ·have hle : ¬ cmpT t x ≤ 0 := by omega
     have e : acc ++ (if false = true then x :: post else addS t (x :: post)) = (acc ++ [x]) ++ (if false = true then post else addS t post) := by simp [addS,h1,h2]
     rw [e]
     simp [h0,h3,h5,h6,h7,hg,hlt,hw1,hc,h1,h2,hle,hb,encT_take,encTs_one,encTs_append]
     clear hb hb2
     rw [IH (pre ++ [x]) (acc ++ [x]) false] <;> simp [h0,h3,hk] <;> omega
  ·have e : acc ++ (if true = true then x :: post else addS t (x :: post)) = (acc ++ [x]) ++ (if true = true then post else addS t post) := by simp
   rw [e]
   simp [h0,h3,h5,h6,h7,hg,hlt,hw1,hc,hb,encT_take,encTs_one,encTs_append]
   clear hb hb2
   rw [IH (pre ++ [x]) (acc ++ [x]) true] <;> simp [h0,h3,hk] <;> omega
theorem call_Add (l : List Tm) (t : Tm) (o : Bool) (bs : List (List AV)) (hl : l.length < 100000000) (hm : ∀ x ∈ l,x.mass < big) (ht : t.mass < big) :
  call F.tb 239 [.sl o 4 (encTs l),.agg (encT t)] bs = some (.sl false 4 (encTs (addS t l)),bs) := by
 have h := fun ρ => Add_loop l t bs hl hm ht l [] [] false ρ rfl (by simp) (fun _ => rfl)
 rw [call_code F.tb_239 _ _ rfl]
 simp [F.f239B,F.f239C]
 simp at h
 refine h _ ?_ ?_ ?_ ?_ ?_ <;> simp [encTs]
theorem Set_loop (l : List Tm) (bs : List (List AV)) (hl : l.length < 100000000) (hm : ∀ x ∈ l,x.mass < big) :
  ∀ (post pre acc : List Tm) (o : Bool) (ρ : Nat → AV),l = pre ++ post → acc.length ≤ pre.length → (∀ x ∈ acc,x.mass < big) → ρ 0 = .sl false 4 (encTs l) → ρ 3 = .sl o 4 (encTs acc) → ρ 4 = .int .i64 pre.length →
  R F.tb (.loop F.f238l0) ρ bs (blockK 0 (seqK F.tb F.f238r0 (finK F.f238 bs))) = some (.sl false 4 (encTs (addAll acc post)),bs) := by
 intro post
 induction post with
 | nil =>
  intro pre acc o ρ hk ha hma h0 h3 h4
  simp only [List.append_nil] at hk
  rw [← hk] at h4
  rw [R_loop' F.f238l0.eq_1]
  simp [h0,h3,h4,F.f238r0,F.f238R,F.f238K,addAll]
 | cons x post IH =>
  intro pre acc o ρ hk ha hma h0 h3 h4
  have hg := get_pre hk
  have hll : l.length = pre.length + (post.length + 1) := by rw [hk]; simp
  have hw1 : IntKind.i64.wrap ((pre.length : Int) + 1) = (pre.length : Int) + 1 := wrap64 (by omega) (by omega)
  have hlt : (pre.length : Int) < (l.length : Int) := by omega
  have hx := hm x (by rw [hk]; simp)
  have hc := call_Add acc x false bs (by omega) hma hx
  have hln := addS_len x acc
  rw [R_loop' F.f238l0.eq_1]
  simp [h0,h3,h4,hg,hlt,hw1,hc]
  rw [IH (pre ++ [x]) (addS x acc) false] <;> (try simp [h0,hk,addAll])
  ·omega
  ·intro y hy
   rcases mem_addS.1 hy with rfl | hy
   ·exact hx
   ·exact hma y hy
theorem call_Set (l : List Tm) (o : Bool) (bs : List (List AV)) (hl : l.length < 100000000) (hm : ∀ x ∈ l,x.mass < big) :
  call F.tb 238 [.sl o 4 (encTs l)] bs = some (.sl false 4 (encTs (setT l)),bs) := by
 have h := fun ρ => Set_loop l bs hl hm l [] [] true ρ rfl (by simp) (by simp)
 rw [call_code F.tb_238 _ _ rfl]
 simp [F.f238B,F.f238C]
 refine h _ ?_ ?_ ?_ <;> simp [encTs]
theorem Subterms_loop (l : List Tm) (bs : List (List AV)) (hl : l.length < 100000000) (hm : massL l < 100000000) :
  ∀ (post pre : List Tm) (ρ : Nat → AV),l = pre ++ post → ρ 0 = .sl false 4 (encTs l) → ρ 3 = .sl true 4 (encTs (allL pre)) → ρ 4 = .int .i64 pre.length →
  R F.tb (.loop F.f265l0) ρ bs (blockK 0 (seqK F.tb F.f265r0 (finK F.f265 bs))) = some (.sl false 4 (encTs (setT (allL l))),bs) := by
 have hnm := nodesL_le_mass l
 intro post
 induction post with
 | nil =>
  intro pre ρ hk h0 h3 h4
  simp only [List.append_nil] at hk
  rw [← hk] at h4 h3
  have hc := fun o => call_Set (allL l) o bs (by rw [allL_len]; omega) (fun x hx => by have := allL_mass l x hx; unfold big; omega)
  rw [R_loop' F.f265l0.eq_1]
  simp [h0,h3,h4,F.f265r0,F.f265R,F.f265K,hc]
 | cons x post IH =>
  intro pre ρ hk h0 h3 h4
  have hg := get_pre hk
  have hll : l.length = pre.length + (post.length + 1) := by rw [hk]; simp
  have hw1 : IntKind.i64.wrap ((pre.length : Int) + 1) = (pre.length : Int) + 1 := wrap64 (by omega) (by omega)
  have hlt : (pre.length : Int) < (l.length : Int) := by omega
  have hxm : x ∈ l := by rw [hk]; simp
  have hc := call_All x bs (by have := massL_mem hxm; omega)
  have hnn : nodesL l = nodesL pre + (x.nodes + nodesL post) := by rw [hk,nodesL_append]; simp [nodesL]
  have hb : ((allL pre).length + (allT x).length) * 56 ≤ 140737488355328 := by rw [allL_len,allT_len]; omega
  have h2 := IH (pre ++ [x])
  rw [allL_app,show allL [x] = allT x by simp [allL]] at h2
  rw [R_loop' F.f265l0.eq_1]
  simp [h0,h3,h4,hg,hlt,hw1,hc,hb,encTs_append]
  rw [h2] <;> simp [h0,hk]
theorem call_Subterms (l : List Tm) (o : Bool) (bs : List (List AV)) (hl : l.length < 100000000) (hm : massL l < 100000000) :
  call F.tb 265 [.sl o 4 (encTs l)] bs = some (.sl false 4 (encTs (setT (allL l))),bs) := by
 have h := fun ρ => Subterms_loop l bs hl hm l [] ρ rfl
 rw [call_code F.tb_265 _ _ rfl]
 simp [F.f265B,F.f265C]
 refine h _ ?_ ?_ ?_ <;> simp [encTs,allL]
theorem kind_loop (t : Tm) (k : Int) (bs : List (List AV)) (hm : t.mass < 100000000) :
  ∀ (post pre : List Tm) (o : Bool) (ρ : Nat → AV),allT t = pre ++ post → ρ 1 = .int .i64 k → ρ 5 = .sl true 4 (encTs (pre.filter (kindB k))) → ρ 6 = .sl o 4 (encTs (allT t)) → ρ 7 = .int .i64 pre.length →
  R F.tb (.loop F.f236l0) ρ bs (blockK 0 (seqK F.tb F.f236r0 (finK F.f236 bs))) = some (.sl false 4 (encTs (setT ((allT t).filter (kindB k)))),bs) := by
 have hn := nodes_le_mass t
 have hal := allT_len t
 intro post
 induction post with
 | nil =>
  intro pre o ρ hk h1 h5 h6 h7
  simp only [List.append_nil] at hk
  rw [← hk] at h5 h7
  have hfl := List.length_filter_le (kindB k) (allT t)
  have hc := fun o => call_Set ((allT t).filter (kindB k)) o bs (by omega) (fun x hx => by have := allT_mass t x (List.mem_filter.1 hx).1; unfold big; omega)
  rw [R_loop' F.f236l0.eq_1]
  simp [h1,h5,h6,h7,F.f236r0,F.f236R,F.f236K,hc]
 | cons x post IH =>
  intro pre o ρ hk h1 h5 h6 h7
  have hg := get_pre hk
  have hll : (allT t).length = pre.length + (post.length + 1) := by rw [hk]; simp
  have hw1 : IntKind.i64.wrap ((pre.length : Int) + 1) = (pre.length : Int) + 1 := wrap64 (by omega) (by omega)
  have hlt : (pre.length : Int) < ((allT t).length : Int) := by omega
  have hfl := List.length_filter_le (kindB k) pre
  have hb : ((pre.filter (kindB k)).length + 1) * 56 ≤ 140737488355328 := by omega
  have h2 := IH (pre ++ [x]) o
  rw [R_loop' F.f236l0.eq_1]
  by_cases hx : x.kind = k
  ·have hf : (pre ++ [x]).filter (kindB k) = pre.filter (kindB k) ++ [x] := by simp [List.filter_cons,kindB,hx]
   rw [hf] at h2
   simp [h1,h5,h6,h7,hg,hlt,hw1,hx,hb,encT_take,encTs_one,encTs_append]
   rw [h2] <;> simp [h1,h6,hk]
  ·have hf : (pre ++ [x]).filter (kindB k) = pre.filter (kindB k) := by simp [List.filter_cons,kindB,hx]
   rw [hf] at h2
   simp [h1,h5,h6,h7,hg,hlt,hw1,hx]
   rw [h2] <;> simp [h1,h5,h6,hk]
theorem call_Rkind (t : Tm) (k : Int) (bs : List (List AV)) (hm : t.mass < 100000000) : call F.tb 236 [.agg (encT t),.int .i64 k] bs = some (.sl false 4 (encTs (setT ((allT t).filter (kindB k)))),bs) := by
 have h := fun o ρ => kind_loop t k bs hm (allT t) [] o ρ rfl
 have hc := call_All t bs hm
 rw [call_code F.tb_236 _ _ rfl]
 simp [F.f236B,F.f236C,encT_take,hc]
 refine h false _ ?_ ?_ ?_ ?_ <;> simp [encTs]
theorem call_RVars (t : Tm) (bs : List (List AV)) (hm : t.mass < 100000000) : call F.tb 235 [.agg (encT t)] bs = some (.sl false 4 (encTs (varsT t)),bs) := by
 have h := call_Rkind t 1 bs hm
 rw [call_code F.tb_235 _ _ rfl]
 simp [F.f235,F.f235C,encT_take,h,varsT]
theorem call_Ground (t : Tm) (bs : List (List AV)) (hm : t.mass < 100000000) : call F.tb 234 [.agg (encT t)] bs = some (.bool (decide ((varsT t) = [])),bs) := by
 have h := call_RVars t bs hm
 rw [call_code F.tb_234 _ _ rfl]
 simp [F.f234,F.f234C,encT_take,h]
end Go.Am
