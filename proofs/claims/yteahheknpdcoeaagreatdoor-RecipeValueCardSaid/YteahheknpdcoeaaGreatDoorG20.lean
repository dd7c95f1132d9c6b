/-
  Rc17, Rc18, Rc19, Rc20.
-/
import Derived.Test.YteahheknpdcoeaaGreatDoorG19
set_option linter.unusedVariables false
set_option linter.unusedSimpArgs false
namespace Go.Am
set_option maxRecDepth 8000
def gtO (prev : Option Tm) (t : Tm) : Bool := match prev with
 | none => true
 | some q => decide (cmpT q t < 0)
def outN (n : Int) : Bool := decide (n < -1000) || decide (1000 < n)
def vPL : Option Tm → List Pw → Int
 | _,[] => 0
 | prev,p :: r => if validT p.1 ≠ 0 then validT p.1 else if symB p.1 then 1 else if p.2 = 0 ∨ outN p.2 = true then 7 else if gtO prev p.1 then vPL (some p.1) r else 5
def validP (l : List Pw) : Int := if 200 < l.length then 3 else vPL none l
def lastK (l : List Pw) : Option Tm := l.getLast?.map (·.1)
theorem lastK_nil : lastK [] = none := rfl
theorem lastK_app (l : List Pw) (p : Pw) : lastK (l ++ [p]) = some p.1 := by simp [lastK]
theorem valid_loop (l : List Pw) (bs : List (List AV)) (hl : l.length < 100000000) (hm : ∀ q ∈ l,q.1.mass < big) :
  ∀ (post pre : List Pw) (o : Bool) (ρ : Nat → AV),l = pre ++ post → ρ 0 = .sl o 5 (encPs l) → ρ 9 = .sl false 5 (encPs l) → ρ 10 = .int .i64 l.length → ρ 11 = .int .i64 pre.length →
  R F.tb (.loop F.f197l0) ρ bs (blockK 0 (seqK F.tb F.f197r0 (finK F.f197 bs))) = some (.int .i64 (vPL (lastK pre) post),bs) := by
 intro post
 induction post with
 | nil =>
  intro pre o ρ hk h0 h9 h10 h11
  simp only [List.append_nil] at hk
  rw [← hk] at h11
  rw [R_loop' F.f197l0.eq_1]
  simp [h0,h9,h10,h11,F.f197r0,F.f197R,F.f197K,vPL]
 | cons p post IH =>
  intro pre o ρ hk h0 h9 h10 h11
  have hg := get_pre hk
  have hll : l.length = pre.length + (post.length + 1) := by rw [hk]; simp
  have hw1 : IntKind.i64.wrap ((pre.length : Int) + 1) = (pre.length : Int) + 1 := wrap64 (by omega) (by omega)
  have hlt : (pre.length : Int) < (l.length : Int) := by omega
  have hmp := hm p (by rw [hk]; simp)
  have h1 := call_Valid p.1 bs hmp
  have h2 := call_symbol' p.1 bs
  have h3 := fun ρ => IH (pre ++ [p]) o ρ (by rw [hk]; simp)
  rw [lastK_app] at h3
  rw [R_loop' F.f197l0.eq_1]
  by_cases c1 : validT p.1 = 0
  ·cases c2 : symB p.1
   ·by_cases c3 : p.2 = 0
    ·simp [h0,h9,h10,h11,hg,hlt,h1,h2,c1,c2,c3,F.f197R,F.f197K,vPL]
    ·by_cases c4 : p.2 < -1000
     ·simp [h0,h9,h10,h11,hg,hlt,h1,h2,c1,c2,c3,c4,F.f197R,F.f197K,vPL,outN]
     ·by_cases c5 : 1000 < p.2
      ·simp [h0,h9,h10,h11,hg,hlt,h1,h2,c1,c2,c3,c4,c5,F.f197R,F.f197K,vPL,outN]
      ·rcases List.eq_nil_or_concat pre with rfl | ⟨pre2,q,rfl⟩
       ·have h11' : ρ 11 = .int .i64 0 := h11
        have hg' : l[0]? = some p := hg
        have hlt' : 0 < l.length := by omega
        have hw0 : IntKind.i64.wrap 1 = 1 := rfl
        clear h11 hg hlt hw1
        simp [-getElem?_pos,h0,h9,h10,h11',hg',hlt',hw0,h1,h2,c1,c2,c3,c4,c5,vPL,outN,lastK_nil,gtO]
        refine h3 _ ?_ ?_ ?_ ?_ <;> simp [h0,h9,h10]
       ·have hg2 : l[pre2.length]? = some q := by rw [hk]; simp
        have hq := hm q (by rw [hk]; simp)
        have h4 := call_Compare q.1 p.1 bs hq hmp
        have hp0 : (0 : Int) < (pre2.length : Int) + 1 := by omega
        have hp1 : (0 : Int) ≤ (pre2.length : Int) + 1 := by omega
        have hp2 : ((pre2.length : Int) + 1).toNat = pre2.length + 1 := by omega
        have hw2 : IntKind.i64.wrap (pre2.length : Int) = (pre2.length : Int) := wrap64 (by simp at hll; omega) (by simp at hll; omega)
        simp only [List.concat_eq_append] at *
        rw [lastK_app]
        simp only [List.length_append,List.length_singleton,Int.natCast_add,Int.natCast_one] at h11 hg hlt hw1 h3
        by_cases c6 : cmpT q.1 p.1 < 0
        ·have c6' : ¬ 0 ≤ cmpT q.1 p.1 := by omega
         simp [h0,h9,h10,h11,hg,hg2,hlt,hw1,hw2,hp0,hp1,hp2,h1,h2,h4,c1,c2,c3,c4,c5,c6,c6',vPL,outN,gtO]
         refine h3 _ ?_ ?_ ?_ ?_ <;> simp [h0,h9,h10]
        ·have c6' : 0 ≤ cmpT q.1 p.1 := by omega
         simp [h0,h9,h10,h11,hg,hg2,hlt,hw1,hw2,hp0,hp1,hp2,h1,h2,h4,c1,c2,c3,c4,c5,c6,c6',vPL,outN,gtO,F.f197R,F.f197K]
   ·simp [h0,h9,h10,h11,hg,hlt,h1,h2,c1,c2,F.f197R,F.f197K,vPL]
  ·simp [h0,h9,h10,h11,hg,hlt,h1,h2,c1,F.f197R,F.f197K,vPL]
theorem call197 (l : List Pw) (o : Bool) (bs : List (List AV)) (hl : l.length < 100000000) (hm : ∀ q ∈ l,q.1.mass < big) : call F.tb 197 [.sl o 5 (encPs l)] bs = some (.int .i64 (validP l),bs) := by
 have h := fun ρ => valid_loop l bs hl hm l [] false ρ rfl
 rw [call_code F.tb_197 _ _ rfl]
 by_cases c : 200 < l.length
 ·have c' : (200 : Int) < (l.length : Int) := by omega
  simp [F.f197B,F.f197C,F.f197R,F.f197K,c,c',validP]
 ·have c' : ¬ (200 : Int) < (l.length : Int) := by omega
  simp [F.f197B,F.f197C,c,c',validP]
  refine h _ ?_ ?_ ?_ ?_ <;> simp
theorem Rvalid_loop (l : List Pw) (bs : List (List AV)) (hl : l.length < 100000000) (hm : ∀ q ∈ l,q.1.mass < big) :
  ∀ (post pre : List Pw) (o : Bool) (ρ : Nat → AV),l = pre ++ post → ρ 0 = .sl o 5 (encPs l) → ρ 3 = .int .i64 pre.length →
  R F.tb (.loop F.f259l0) ρ bs (blockK 0 (seqK F.tb F.f259r0 (finK F.f259 bs))) = some (.int .i64 (vPL (lastK pre) post),bs) := by
 intro post
 induction post with
 | nil =>
  intro pre o ρ hk h0 h3
  simp only [List.append_nil] at hk
  rw [← hk] at h3
  rw [R_loop' F.f259l0.eq_1]
  simp [h0,h3,F.f259r0,F.f259R,F.f259K,vPL]
 | cons p post IH =>
  intro pre o ρ hk h0 h3
  have hg := get_pre hk
  have hll : l.length = pre.length + (post.length + 1) := by rw [hk]; simp
  have hw1 : IntKind.i64.wrap ((pre.length : Int) + 1) = (pre.length : Int) + 1 := wrap64 (by omega) (by omega)
  have hlt : (pre.length : Int) < (l.length : Int) := by omega
  have hmp := hm p (by rw [hk]; simp)
  have h1 := call_RValid1 p.1 bs hmp
  have h2 := call_special p.1 bs
  have hh := fun ρ => IH (pre ++ [p]) o ρ (by rw [hk]; simp)
  rw [lastK_app] at hh
  rw [R_loop' F.f259l0.eq_1]
  by_cases c1 : validT p.1 = 0
  ·cases c2 : symB p.1
   ·by_cases c3 : p.2 = 0
    ·simp [h0,h3,hg,hlt,h1,h2,c1,c2,c3,F.f259R,F.f259K,vPL]
    ·by_cases c4 : p.2 < -1000
     ·simp [h0,h3,hg,hlt,h1,h2,c1,c2,c3,c4,F.f259R,F.f259K,vPL,outN]
     ·by_cases c5 : 1000 < p.2
      ·simp [h0,h3,hg,hlt,h1,h2,c1,c2,c3,c4,c5,F.f259R,F.f259K,vPL,outN]
      ·rcases List.eq_nil_or_concat pre with rfl | ⟨pre2,q,rfl⟩
       ·have h3' : ρ 3 = .int .i64 0 := h3
        have hg' : l[0]? = some p := hg
        have hlt' : 0 < l.length := by omega
        have hw0 : IntKind.i64.wrap 1 = 1 := rfl
        clear h3 hg hlt hw1
        simp [-getElem?_pos,h0,h3',hg',hlt',hw0,h1,h2,c1,c2,c3,c4,c5,vPL,outN,lastK_nil,gtO]
        refine hh _ ?_ ?_ <;> simp [h0]
       ·have hg2 : l[pre2.length]? = some q := by rw [hk]; simp
        have hq := hm q (by rw [hk]; simp)
        have h4 := call_RCompare q.1 p.1 bs hq hmp
        have hp0 : (0 : Int) < (pre2.length : Int) + 1 := by omega
        have hp1 : (0 : Int) ≤ (pre2.length : Int) + 1 := by omega
        have hp2 : ((pre2.length : Int) + 1).toNat = pre2.length + 1 := by omega
        have hw2 : IntKind.i64.wrap (pre2.length : Int) = (pre2.length : Int) := wrap64 (by simp at hll; omega) (by simp at hll; omega)
        simp only [List.concat_eq_append] at *
        rw [lastK_app]
        simp only [List.length_append,List.length_singleton,Int.natCast_add,Int.natCast_one] at h3 hg hlt hw1 hh
        by_cases c6 : cmpT q.1 p.1 < 0
        ·have c6' : ¬ 0 ≤ cmpT q.1 p.1 := by omega
         simp [h0,h3,hg,hg2,hlt,hw1,hw2,hp0,hp1,hp2,h1,h2,h4,c1,c2,c3,c4,c5,c6,c6',vPL,outN,gtO]
         refine hh _ ?_ ?_ <;> simp [h0]
        ·have c6' : 0 ≤ cmpT q.1 p.1 := by omega
         simp [h0,h3,hg,hg2,hlt,hw1,hw2,hp0,hp1,hp2,h1,h2,h4,c1,c2,c3,c4,c5,c6,c6',vPL,outN,gtO,F.f259R,F.f259K]
   ·simp [h0,h3,hg,hlt,h1,h2,c1,c2,F.f259R,F.f259K,vPL]
  ·simp [h0,h3,hg,hlt,h1,h2,c1,F.f259R,F.f259K,vPL]
theorem call259 (l : List Pw) (o : Bool) (bs : List (List AV)) (hl : l.length < 100000000) (hm : ∀ q ∈ l,q.1.mass < big) : call F.tb 259 [.sl o 5 (encPs l)] bs = some (.int .i64 (validP l),bs) := by
 have h := fun ρ => Rvalid_loop l bs hl hm l [] false ρ rfl
 rw [call_code F.tb_259 _ _ rfl]
 by_cases c : 200 < l.length
 ·have c' : (200 : Int) < (l.length : Int) := by omega
  simp [F.f259B,F.f259C,F.f259R,F.f259K,c,c',validP]
 ·have c' : ¬ (200 : Int) < (l.length : Int) := by omega
  simp [F.f259B,F.f259C,c,c',validP]
  refine h _ ?_ ?_ <;> simp
theorem vPL_ok : ∀ (l : List Pw) (prev : Option Tm),vPL prev l = 0 → (∀ q ∈ l,validT q.1 = 0 ∧ symB q.1 = false ∧ q.2 ≠ 0 ∧ -1000 ≤ q.2 ∧ q.2 ≤ 1000) ∧ Asc (pkeys l) ∧ (∀ a,prev = some a → ∀ q ∈ l,cmpT a q.1 < 0)
 | [],prev,_ => ⟨fun q h => by simp at h,Asc.nil,fun a _ q h => by simp at h⟩
 | p :: r,prev,h => by
  simp only [vPL] at h
  split at h
  ·rename_i c; exact absurd h c
  rename_i c1
  split at h
  ·cases h
  rename_i c2
  split at h
  ·cases h
  rename_i c3
  split at h
  ·rename_i c4
   obtain ⟨h1,h2,h3⟩ := vPL_ok r (some p.1) h
   have hpr := h3 p.1 rfl
   refine ⟨fun q hq => ?_,?_,?_⟩
   ·rcases List.mem_cons.1 hq with rfl | hq
    ·simp [outN] at c3
     exact ⟨by simpa using c1,by simpa using c2,c3.1,c3.2.1,c3.2.2⟩
    ·exact h1 q hq
   ·simp only [pkeys,List.map_cons]
    refine asc_cons.2 ⟨fun y hy => ?_,h2⟩
    obtain ⟨q,hq,rfl⟩ := List.mem_map.1 hy
    exact hpr q hq
   ·intro a ha q hq
    subst ha
    have c5 : cmpT a p.1 < 0 := by simpa [gtO] using c4
    rcases List.mem_cons.1 hq with rfl | hq
    ·exact c5
    ·exact lt_trans' c5 (hpr q hq)
  ·cases h
theorem validP_inv {l : List Pw} (h : validP l = 0) (hm : ∀ q ∈ l,q.1.mass < big) : PInv l 1000 ∧ l.length ≤ 200 ∧ ∀ q ∈ l,validT q.1 = 0 ∧ symB q.1 = false := by
 unfold validP at h
 split at h
 ·cases h
 ·obtain ⟨h1,h2,_⟩ := vPL_ok l none h
  exact ⟨⟨h2,fun q hq => (h1 q hq).2.2.1,by omega,fun q hq => ⟨hm q hq,(h1 q hq).2.2.2.1,(h1 q hq).2.2.2.2⟩⟩,by omega,fun q hq => ⟨(h1 q hq).1,(h1 q hq).2.1⟩⟩
end Go.Am
namespace Go.Am
set_option maxRecDepth 8000
def invT (t : Tm) : Tm := .mk 3 INV 0 [t]
def posL (l : List Pw) : List Tm := (l.map fun p => List.replicate p.2.toNat p.1).flatten
def negL (l : List Pw) : List Tm := (l.map fun p => List.replicate (-p.2).toNat (invT p.1)).flatten
def opsP (l : List Pw) : List Tm := posL l ++ negL l
def prodT : List Tm → Tm
 | [] => .mk 3 ONE 0 []
 | [p] => p
 | p :: q :: r => .mk 3 MUL 0 (p :: q :: r)
def termP (l : List Pw) : Tm × Int :=
 if validP l ≠ 0 then (zeroT,validP l) else if 8 < (opsP l).length then (zeroT,3) else if validT (prodT (opsP l)) ≠ 0 then (zeroT,validT (prodT (opsP l))) else (prodT (opsP l),0)
theorem posL_app (a : List Pw) (p : Pw) : posL (a ++ [p]) = posL a ++ List.replicate p.2.toNat p.1 := by simp [posL]
theorem negL_app (a : List Pw) (p : Pw) : negL (a ++ [p]) = negL a ++ List.replicate (-p.2).toNat (invT p.1) := by simp [negL]
theorem posL_len {l : List Pw} (h : ∀ q ∈ l,q.2 ≤ 8) : (posL l).length ≤ 8 * l.length := by
 induction l with
 | nil => simp [posL]
 | cons p l ih =>
  have h1 := ih fun q hq => h q (by simp [hq])
  have h2 := h p (by simp)
  simp only [posL,List.map_cons,List.flatten_cons,List.length_append,List.length_replicate,List.length_cons] at h1 ⊢
  omega
theorem negL_len {l : List Pw} (h : ∀ q ∈ l,-8 ≤ q.2) : (negL l).length ≤ 8 * l.length := by
 induction l with
 | nil => simp [negL]
 | cons p l ih =>
  have h1 := ih fun q hq => h q (by simp [hq])
  have h2 := h p (by simp)
  simp only [negL,List.map_cons,List.flatten_cons,List.length_append,List.length_replicate,List.length_cons] at h1 ⊢
  omega
theorem posL_mem {l : List Pw} {p : Pw} (h : p ∈ l) : p.2.toNat ≤ (posL l).length := by
 induction l with
 | nil => simp at h
 | cons q l ih =>
  simp only [posL,List.map_cons,List.flatten_cons,List.length_append,List.length_replicate] at ih ⊢
  rcases List.mem_cons.1 h with rfl | h
  ·omega
  ·have := ih h; omega
theorem negL_mem {l : List Pw} {p : Pw} (h : p ∈ l) : (-p.2).toNat ≤ (negL l).length := by
 induction l with
 | nil => simp at h
 | cons q l ih =>
  simp only [negL,List.map_cons,List.flatten_cons,List.length_append,List.length_replicate] at ih ⊢
  rcases List.mem_cons.1 h with rfl | h
  ·omega
  ·have := ih h; omega
theorem call198 (n : List UInt8) (ks : List Tm) (o : Bool) (bs : List (List AV)) : call F.tb 198 [.str n,.sl o 4 (encTs ks)] bs = some (.agg (encT (.mk 3 n 0 ks)),bs) := by
 rw [call_code F.tb_198 _ _ rfl]
 simp [F.f198,F.f198C,encT_fold]
theorem rep_one {k : Nat} (acc : List Tm) (x : Tm) : (acc ++ [x]) ++ List.replicate k x = acc ++ List.replicate (k + 1) x := by simp [List.replicate_succ]
theorem term_l0 {p : Pw} {bs : List (List AV)} (hp : p.1.mass < big) (hN : -8 ≤ p.2 ∧ p.2 ≤ 8) (c : AC) (K : Kn) (X : Out) : ∀ (k : Nat) (acc : List Tm) (i : Nat) (ρ : Nat → AV),i + k = p.2.toNat → acc.length + k < 100000000 → ρ 5 = .sl true 4 (encTs acc) → ρ 8 = .bx (encP p) → ρ 34 = .int .i64 p.2 → ρ 35 = .int .i64 i →
  (∀ ρ' : Nat → AV,ρ' 5 = .sl true 4 (encTs (acc ++ List.replicate k p.1)) → (∀ j,j < 34 → j ≠ 5 → ρ' j = ρ j) → R F.tb c ρ' bs K = X) →
  R F.tb (.loop F.f196l0) ρ bs (blockK 2 (seqK F.tb c K)) = X := by
 intro k
 induction k with
 | zero =>
  intro acc i ρ hi hl h5 h8 h34 h35 h
  have hn : ¬ (i : Int) < p.2 := by omega
  rw [R_loop' F.f196l0.eq_1]
  simp [h5,h8,h34,h35,hn]
  apply h
  ·simp [h5]
  ·intro j hj h5j
   have : j ≠ 36 := by omega
   simp [this]
 | succ k IH =>
  intro acc i ρ hi hl h5 h8 h34 h35 h
  have hn : (i : Int) < p.2 := by omega
  have hw1 : IntKind.i64.wrap ((i : Int) + 1) = ((i + 1 : Nat) : Int) := by rw [wrap64 (by omega) (by omega)]; omega
  have hb : (acc.length + 1) * 56 ≤ 140737488355328 := lim56 (by omega)
  have hc := call_xclone p.1 bs hp
  rw [R_loop' F.f196l0.eq_1]
  simp [h5,h8,h34,h35,hn,hw1,hb,hc,encTs_one,encTs_append]
  refine IH (acc ++ [p.1]) (i + 1) _ (by omega) (by simp; omega) ?_ ?_ ?_ ?_ ?_
  ·simp
  ·simp [h8]
  ·simp [h34]
  ·simp
  ·intro ρ' g5 gj
   rw [rep_one] at g5
   refine h ρ' g5 fun j hj h5j => ?_
   rw [gj j hj h5j]
   have e1 : j ≠ 35 := by omega
   have e2 : j ≠ 36 := by omega
   have e3 : j ≠ 37 := by omega
   have e4 : j ≠ 38 := by omega
   have e5 : j ≠ 39 := by omega
   have e6 : j ≠ 40 := by omega
   have e7 : j ≠ 41 := by omega
   have e8 : j ≠ 42 := by omega
   have e9 : j ≠ 43 := by omega
   simp [*]
theorem term_l1 {p : Pw} {bs : List (List AV)} (hp : p.1.mass < big) (hN : -8 ≤ p.2 ∧ p.2 ≤ 8) (c : AC) (K : Kn) (X : Out) : ∀ (k : Nat) (acc : List Tm) (i : Nat) (ρ : Nat → AV),i + k = (-p.2).toNat → acc.length + k < 100000000 → ρ 6 = .sl true 4 (encTs acc) → ρ 8 = .bx (encP p) → ρ 46 = .int .i64 (-p.2) → ρ 47 = .int .i64 i →
  (∀ ρ' : Nat → AV,ρ' 6 = .sl true 4 (encTs (acc ++ List.replicate k (invT p.1))) → (∀ j,j < 34 → j ≠ 6 → ρ' j = ρ j) → R F.tb c ρ' bs K = X) →
  R F.tb (.loop F.f196l1) ρ bs (blockK 4 (blockK 1 (seqK F.tb c K))) = X := by
 intro k
 induction k with
 | zero =>
  intro acc i ρ hi hl h6 h8 h46 h47 h
  have hn : ¬ (i : Int) < -p.2 := by omega
  rw [R_loop' F.f196l1.eq_1]
  simp [h6,h8,h46,h47,hn]
  apply h
  ·simp [h6]
  ·intro j hj h5j
   have : j ≠ 48 := by omega
   simp [this]
 | succ k IH =>
  intro acc i ρ hi hl h6 h8 h46 h47 h
  have hn : (i : Int) < -p.2 := by omega
  have hw1 : IntKind.i64.wrap ((i : Int) + 1) = ((i + 1 : Nat) : Int) := by rw [wrap64 (by omega) (by omega)]; omega
  have hb : (acc.length + 1) * 56 ≤ 140737488355328 := lim56 (by omega)
  have hc := call_xclone p.1 bs hp
  have hc2 := call198 INV [p.1] false bs
  simp only [INV] at hc2
  rw [R_loop' F.f196l1.eq_1]
  simp [h6,h8,h46,h47,hn,hw1,hb,hc,hc2,encTs_one]
  rw [show encT (Tm.mk 3 [105,110,118] 0 [p.1]) = encT (invT p.1) from rfl]
  simp [encTs_one,encTs_append]
  refine IH (acc ++ [invT p.1]) (i + 1) _ (by omega) (by simp; omega) ?_ ?_ ?_ ?_ ?_
  ·simp [invT,INV]
  ·simp [h8]
  ·simp [h46]
  ·simp
  ·intro ρ' g6 gj
   rw [rep_one] at g6
   refine h ρ' g6 fun j hj h5j => ?_
   rw [gj j hj h5j]
   have e1 : j ≠ 47 := by omega
   have e2 : j ≠ 48 := by omega
   have e3 : j ≠ 49 := by omega
   have e4 : j ≠ 50 := by omega
   have e5 : j ≠ 51 := by omega
   have e6 : j ≠ 52 := by omega
   have e7 : j ≠ 53 := by omega
   have e8 : j ≠ 54 := by omega
   have e9 : j ≠ 55 := by omega
   have e10 : j ≠ 56 := by omega
   have e11 : j ≠ 57 := by omega
   simp [*]
theorem term_r2 (l : List Pw) (bs : List (List AV)) (hv : validP l = 0) (hl : (opsP l).length < 100000000) (hm : massL (opsP l) < big - 100) (ρ : Nat → AV) (h2 : ρ 2 = .bx [.int .i64 0,.str [],.int .i64 0,.sl true 4 []]) (h5 : ρ 5 = .sl true 4 (encTs (posL l))) (h6 : ρ 6 = .sl true 4 (encTs (negL l))) :
  R F.tb F.f196r2 ρ bs (finK F.f196 bs) = some (encR (termP l),bs) := by
 have hc := call_Concat [posL l,negL l] false bs (by simp) (by simpa [opsP] using hl)
 have hfl : [posL l,negL l].flatten = opsP l := by simp [opsP]
 rw [hfl] at hc
 simp only [encLs,List.map_cons,List.map_nil] at hc
 have ha := call198 MUL (opsP l) false bs
 have ha1 := call198 ONE [] true bs
 simp only [MUL] at ha
 simp only [ONE,encTs] at ha1
 by_cases c8 : 8 < (opsP l).length
 ·have c8' : (8 : Int) < ((opsP l).length : Int) := by omega
  have e : termP l = (zeroT,3) := by simp [termP,hv,c8]
  rw [e]
  simp [F.f196r2,h2,h5,h6,hc,c8',F.f196R,F.f196K,encR,encT_zero]
 ·have c8' : ¬ (8 : Int) < ((opsP l).length : Int) := by omega
  have hpm : (prodT (opsP l)).mass < big := by
   unfold big at *
   match h : opsP l with
   | [] => simp [prodT,mass_eq,massL,ONE]
   | [p] => rw [h] at hm; simp [prodT,massL] at hm ⊢; omega
   | p :: q :: r => rw [h] at hm c8; simp [prodT,mass_eq,massL,MUL] at hm c8 ⊢; omega
  have hvv := call_Valid (prodT (opsP l)) bs hpm
  have e : termP l = if validT (prodT (opsP l)) ≠ 0 then (zeroT,validT (prodT (opsP l))) else (prodT (opsP l),0) := by simp [termP,hv,c8]
  rw [e]
  generalize hL : opsP l = L at *
  match L,hL with
  | [],hL =>
   simp only [prodT,ONE] at hvv
   simp only [encTs] at ha hc
   by_cases cv : validT (.mk 3 [111,110,101] 0 []) = 0
   ·rw [cv] at hvv
    simp [F.f196r2,h2,h5,h6,hc,ha,ha1,hvv,cv,F.f196R,F.f196K,encR,prodT,ONE]
   ·simp [F.f196r2,h2,h5,h6,hc,ha,ha1,hvv,cv,F.f196R,F.f196K,encR,encT_zero,prodT,ONE]
  | [p],hL =>
   simp only [prodT] at hvv
   by_cases cv : validT p = 0
   ·rw [cv] at hvv
    simp [F.f196r2,h2,h5,h6,hc,ha,hvv,cv,F.f196R,F.f196K,encR,prodT]
   ·simp [F.f196r2,h2,h5,h6,hc,ha,hvv,cv,F.f196R,F.f196K,encR,encT_zero,prodT]
  | p :: q :: r,hL =>
   simp only [prodT,MUL] at hvv
   have c8'' : ¬ (8 : Int) < (r.length : Int) + 1 + 1 := by simpa using c8'
   have n0 : ¬ (r.length : Int) + 1 + 1 = 0 := by omega
   have n1 : ¬ (r.length : Int) + 1 + 1 = 1 := by omega
   by_cases cv : validT (.mk 3 [109,117,108] 0 (p :: q :: r)) = 0
   ·rw [cv] at hvv
    simp [F.f196r2,h2,h5,h6,hc,ha,hvv,cv,c8'',n0,n1,F.f196R,F.f196K,encR,prodT,MUL]
   ·simp [F.f196r2,h2,h5,h6,hc,ha,hvv,cv,c8'',n0,n1,F.f196R,F.f196K,encR,encT_zero,prodT,MUL]
theorem term_l2 (l : List Pw) (bs : List (List AV)) (hv : validP l = 0) (hl : l.length < 5000000) (hk : ∀ q ∈ l,q.1.mass < big) (hm : (∀ q ∈ l,-8 ≤ q.2 ∧ q.2 ≤ 8) → massL (opsP l) < big - 100) :
  ∀ (post pre : List Pw) (ρ : Nat → AV),l = pre ++ post → (∀ q ∈ pre,-8 ≤ q.2 ∧ q.2 ≤ 8) → ρ 2 = .bx [.int .i64 0,.str [],.int .i64 0,.sl true 4 []] → ρ 5 = .sl true 4 (encTs (posL pre)) → ρ 6 = .sl true 4 (encTs (negL pre)) →
   ρ 18 = .sl false 5 (encPs l) → ρ 19 = .int .i64 l.length → ρ 20 = .int .i64 pre.length →
  R F.tb (.loop F.f196l2) ρ bs (blockK 0 (seqK F.tb F.f196r2 (finK F.f196 bs))) = some (encR (termP l),bs) := by
 intro post
 induction post with
 | nil =>
  intro pre ρ hkk hq h2 h5 h6 h18 h19 h20
  simp only [List.append_nil] at hkk
  subst hkk
  have hr := term_r2 l bs hv (by
   have h1 := posL_len (l := l) fun q h => (hq q h).2
   have h2 := negL_len (l := l) fun q h => (hq q h).1
   simp only [opsP,List.length_append]; omega) (hm hq)
  rw [R_loop' F.f196l2.eq_1]
  simp [h18,h19,h20]
  apply hr <;> simp [h2,h5,h6]
 | cons p post IH =>
  intro pre ρ hkk hq h2 h5 h6 h18 h19 h20
  have hg := get_pre hkk
  have hll : l.length = pre.length + (post.length + 1) := by rw [hkk]; simp
  have hw1 : IntKind.i64.wrap ((pre.length : Int) + 1) = (pre.length : Int) + 1 := wrap64 (by omega) (by omega)
  have hlt : (pre.length : Int) < (l.length : Int) := by omega
  have hpl : p ∈ l := by rw [hkk]; simp
  have hmp := hk p hpl
  have hbig : ∀ n,n < (opsP l).length → 8 ≤ n → termP l = (zeroT,3) := by
   intro n h1 h2
   have : 8 < (opsP l).length := by omega
   simp [termP,hv,this]
  rw [R_loop' F.f196l2.eq_1]
  by_cases c1 : 8 < p.2
  ·have h1 := posL_mem hpl
   have e := hbig 8 (by simp only [opsP,List.length_append]; omega) (by omega)
   rw [e]
   simp [h2,h5,h6,h18,h19,h20,hg,hlt,c1,F.f196R,F.f196K,encR,encT_zero]
  ·by_cases c2 : p.2 < -8
   ·have h1 := negL_mem hpl
    have e := hbig 8 (by simp only [opsP,List.length_append]; omega) (by omega)
    rw [e]
    simp [h2,h5,h6,h18,h19,h20,hg,hlt,c1,c2,F.f196R,F.f196K,encR,encT_zero]
   ·have hN : -8 ≤ p.2 ∧ p.2 ≤ 8 := by omega
    have hw : IntKind.i64.wrap (-p.2) = -p.2 := wrap64 (by omega) (by omega)
    have hq2 : ∀ q ∈ pre ++ [p],-8 ≤ q.2 ∧ q.2 ≤ 8 := by
     intro q h
     rcases List.mem_append.1 h with h | h
     ·exact hq q h
     ·simp at h; subst h; exact hN
    have h1 := posL_len (l := pre) fun q h => (hq q h).2
    have h3 := negL_len (l := pre) fun q h => (hq q h).1
    have ih := fun ρ => IH (pre ++ [p]) ρ (by rw [hkk]; simp) hq2
    simp [h2,h5,h6,h18,h19,h20,hg,hlt,c1,c2]
    refine term_l0 hmp hN _ _ _ p.2.toNat (posL pre) 0 _ (by omega) (by omega) ?_ ?_ ?_ ?_ ?_
    ·simp [h5]
    ·simp
    ·simp
    ·simp
    ·intro ρ' g5 gj
     have g2 : ρ' 2 = _ := gj 2 (by omega) (by omega)
     have g6 : ρ' 6 = _ := gj 6 (by omega) (by omega)
     have g8 : ρ' 8 = _ := gj 8 (by omega) (by omega)
     have g18 : ρ' 18 = _ := gj 18 (by omega) (by omega)
     have g19 : ρ' 19 = _ := gj 19 (by omega) (by omega)
     have g20 : ρ' 20 = _ := gj 20 (by omega) (by omega)
     simp [h2,h6,h18,h19,h20] at g2 g6 g8 g18 g19 g20
     simp [F.f196r0,g8,hw]
     refine term_l1 hmp hN _ _ _ (-p.2).toNat (negL pre) 0 _ (by omega) (by omega) ?_ ?_ ?_ ?_ ?_
     ·simp [g6]
     ·simp [g8]
     ·simp
     ·simp
     ·intro ρ'' k6 kj
      have k2 : ρ'' 2 = _ := kj 2 (by omega) (by omega)
      have k5 : ρ'' 5 = _ := kj 5 (by omega) (by omega)
      have k18 : ρ'' 18 = _ := kj 18 (by omega) (by omega)
      have k19 : ρ'' 19 = _ := kj 19 (by omega) (by omega)
      have k20 : ρ'' 20 = _ := kj 20 (by omega) (by omega)
      simp [g2,g5,g18,g19,g20] at k2 k5 k18 k19 k20
      simp [F.f196r1,k20,hw1]
      apply ih <;> simp [k2,k5,k6,k18,k19,posL_app,negL_app]
theorem call196 (l : List Pw) (o : Bool) (bs : List (List AV)) (hl : l.length < 5000000) (hk : ∀ q ∈ l,q.1.mass < big) (hm : (∀ q ∈ l,-8 ≤ q.2 ∧ q.2 ≤ 8) → massL (opsP l) < big - 100) :
  call F.tb 196 [.sl o 5 (encPs l)] bs = some (encR (termP l),bs) := by
 have h1 := call197 l false bs (by omega) hk
 rw [call_code F.tb_196 _ _ rfl]
 by_cases hv : validP l = 0
 ·have h := fun ρ => term_l2 l bs hv hl hk hm l [] ρ rfl (by simp)
  simp [F.f196B,F.f196C,h1,hv]
  apply h <;> simp [posL,negL,encTs]
 ·have e : termP l = (zeroT,validP l) := by simp [termP,hv]
  rw [e]
  simp [F.f196B,F.f196C,h1,hv,F.f196R,F.f196K,encR,encT_zero]
end Go.Am
namespace Go.Am
set_option maxRecDepth 8000
theorem call120 (n : List UInt8) (ks : List Tm) (o : Bool) (bs : List (List AV)) (hl : ks.length < 100000000) : call F.tb 120 [.str n,.sl o 4 (encTs ks)] bs = some (.agg (encT (.mk 3 n 0 ks)),bs) := by
 have hb : ks.length * 56 ≤ 140737488355328 := lim56 (by omega)
 rw [call_code F.tb_120 _ _ rfl]
 simp [F.f120B,F.f120C,F.f120R,F.f120K,hb,encT_fold]
theorem take_take_app {α : Type} (n : Nat) (a b : List α) : (a.take n ++ b).take n = (a ++ b).take n := by
 rw [List.take_append,List.take_append,List.take_take,List.length_take,Nat.min_self]
 congr 2
 omega
theorem ops_l0 {l : List Pw} {p : Pw} {bs : List (List AV)} (hN : -1000 ≤ p.2 ∧ p.2 ≤ 1000) (c : AC) (K : Kn) (X : Out) : ∀ (k : Nat) (acc : List Tm) (i n : Nat) (o : Bool) (ρ : Nat → AV),l[n]? = some p → i + k = p.2.toNat → acc.length ≤ 9 → ρ 0 = .sl o 5 (encPs l) → ρ 3 = .sl true 4 (encTs acc) → ρ 4 = .int .i64 n → ρ 5 = .int .i64 i →
  (∀ ρ' : Nat → AV,ρ' 0 = .sl o 5 (encPs l) → ρ' 4 = .int .i64 n → ρ' 3 = .sl true 4 (encTs ((acc ++ List.replicate k p.1).take 9)) → R F.tb c ρ' bs K = X) →
  R F.tb (.loop F.f260l0) ρ bs (blockK 2 (blockK 1 (seqK F.tb c K))) = X := by
 intro k
 induction k with
 | zero =>
  intro acc i n o ρ hg hi ha h0 h3 h4 h5 h
  have hn : ¬ (i : Int) < p.2 := by omega
  rw [R_loop' F.f260l0.eq_1]
  simp [h0,h3,h4,h5,hg,hn]
  apply h <;> simp [h0,h3,h4,List.take_of_length_le ha]
 | succ k IH =>
  intro acc i n o ρ hg hi ha h0 h3 h4 h5 h
  have hn : (i : Int) < p.2 := by omega
  have hw1 : IntKind.i64.wrap ((i : Int) + 1) = ((i + 1 : Nat) : Int) := by rw [wrap64 (by omega) (by omega)]; omega
  rw [R_loop' F.f260l0.eq_1]
  by_cases c9 : acc.length < 9
  ·have c9' : (acc.length : Int) < 9 := by omega
   have hb : (acc.length + 1) * 56 ≤ 140737488355328 := lim56 (by omega)
   simp [h0,h3,h4,h5,hg,hn,hw1,hb,c9',encTs_one,encTs_append]
   refine IH (acc ++ [p.1]) (i + 1) n o _ hg (by omega) (by simp; omega) ?_ ?_ ?_ ?_ ?_
   ·simp [h0]
   ·simp
   ·simp [h4]
   ·simp
   ·intro ρ' g0 g4 g3
    rw [rep_one] at g3
    exact h ρ' g0 g4 g3
  ·have c9' : ¬ (acc.length : Int) < 9 := by omega
   have e : (acc ++ List.replicate (k + 1) p.1).take 9 = acc := by rw [List.take_append_of_le_length (by omega),List.take_of_length_le ha]
   simp [h0,h3,h4,h5,hg,hn,c9']
   apply h <;> simp [h0,h3,h4,e]
theorem ops_l2 {l : List Pw} {p : Pw} {bs : List (List AV)} (hN : -1000 ≤ p.2 ∧ p.2 ≤ 1000) (c : AC) (K : Kn) (X : Out) : ∀ (k : Nat) (acc : List Tm) (i n : Nat) (o : Bool) (ρ : Nat → AV),l[n]? = some p → i + k = (-p.2).toNat → acc.length ≤ 9 → ρ 0 = .sl o 5 (encPs l) → ρ 3 = .sl true 4 (encTs acc) → ρ 6 = .int .i64 n → ρ 7 = .int .i64 i →
  (∀ ρ' : Nat → AV,ρ' 0 = .sl o 5 (encPs l) → ρ' 6 = .int .i64 n → ρ' 3 = .sl true 4 (encTs ((acc ++ List.replicate k (invT p.1)).take 9)) → R F.tb c ρ' bs K = X) →
  R F.tb (.loop F.f260l2) ρ bs (blockK 6 (blockK 5 (seqK F.tb c K))) = X := by
 have hw : IntKind.i64.wrap (-p.2) = -p.2 := wrap64 (by omega) (by omega)
 intro k
 induction k with
 | zero =>
  intro acc i n o ρ hg hi ha h0 h3 h4 h5 h
  have hn : ¬ (i : Int) < -p.2 := by omega
  rw [R_loop' F.f260l2.eq_1]
  simp [h0,h3,h4,h5,hg,hw,hn]
  apply h <;> simp [h0,h3,h4,List.take_of_length_le ha]
 | succ k IH =>
  intro acc i n o ρ hg hi ha h0 h3 h4 h5 h
  have hn : (i : Int) < -p.2 := by omega
  have hw1 : IntKind.i64.wrap ((i : Int) + 1) = ((i + 1 : Nat) : Int) := by rw [wrap64 (by omega) (by omega)]; omega
  rw [R_loop' F.f260l2.eq_1]
  by_cases c9 : acc.length < 9
  ·have c9' : (acc.length : Int) < 9 := by omega
   have hb : (acc.length + 1) * 56 ≤ 140737488355328 := lim56 (by omega)
   have hc2 := call120 INV [p.1] false bs (by simp)
   simp only [INV] at hc2
   simp [h0,h3,h4,h5,hg,hw,hn,hw1,hb,hc2,c9',encTs_one]
   rw [show encT (Tm.mk 3 [105,110,118] 0 [p.1]) = encT (invT p.1) from rfl]
   simp [encTs_one,encTs_append]
   refine IH (acc ++ [invT p.1]) (i + 1) n o _ hg (by omega) (by simp; omega) ?_ ?_ ?_ ?_ ?_
   ·simp [h0]
   ·simp [invT,INV]
   ·simp [h4]
   ·simp
   ·intro ρ' g0 g4 g3
    rw [rep_one] at g3
    exact h ρ' g0 g4 g3
  ·have c9' : ¬ (acc.length : Int) < 9 := by omega
   have e : (acc ++ List.replicate (k + 1) (invT p.1)).take 9 = acc := by rw [List.take_append_of_le_length (by omega),List.take_of_length_le ha]
   simp [h0,h3,h4,h5,hg,hw,hn,c9']
   apply h <;> simp [h0,h3,h4,e]
theorem ops_l3 (l : List Pw) (bs : List (List AV)) (hl : l.length < 5000000) (hN : ∀ q ∈ l,-1000 ≤ q.2 ∧ q.2 ≤ 1000) :
  ∀ (post pre : List Pw) (o : Bool) (ρ : Nat → AV),l = pre ++ post → ρ 0 = .sl o 5 (encPs l) → ρ 3 = .sl true 4 (encTs ((posL l ++ negL pre).take 9)) → ρ 6 = .int .i64 pre.length →
  R F.tb (.loop F.f260l3) ρ bs (blockK 4 (seqK F.tb F.f260r2 (finK F.f260 bs))) = some (.sl false 4 (encTs ((opsP l).take 9)),bs) := by
 intro post
 induction post with
 | nil =>
  intro pre o ρ hk h0 h3 h6
  simp only [List.append_nil] at hk
  subst hk
  rw [R_loop' F.f260l3.eq_1]
  simp [h0,h3,h6,F.f260r2,F.f260R,F.f260K,opsP]
 | cons p post IH =>
  intro pre o ρ hk h0 h3 h6
  have hg := get_pre hk
  have hll : l.length = pre.length + (post.length + 1) := by rw [hk]; simp
  have hw1 : IntKind.i64.wrap ((pre.length : Int) + 1) = (pre.length : Int) + 1 := wrap64 (by omega) (by omega)
  have hlt : (pre.length : Int) < (l.length : Int) := by omega
  have ih := fun ρ => IH (pre ++ [p]) o ρ (by rw [hk]; simp)
  have hpN := hN p (by rw [hk]; simp)
  rw [R_loop' F.f260l3.eq_1]
  simp [h0,h3,h6,hlt]
  refine ops_l2 hpN _ _ _ (-p.2).toNat ((posL l ++ negL pre).take 9) 0 pre.length o _ hg (by omega) (by rw [List.length_take]; omega) ?_ ?_ ?_ ?_ ?_
  ·simp [h0]
  ·simp [h3]
  ·simp [h6]
  ·simp
  ·intro ρ' g0 g6 g3
   rw [take_take_app,List.append_assoc,← negL_app] at g3
   simp [F.f260r1,g6,hw1]
   apply ih <;> simp [g0,g3]
theorem ops_l1 (l : List Pw) (bs : List (List AV)) (hl : l.length < 5000000) (hN : ∀ q ∈ l,-1000 ≤ q.2 ∧ q.2 ≤ 1000) :
  ∀ (post pre : List Pw) (o : Bool) (ρ : Nat → AV),l = pre ++ post → ρ 0 = .sl o 5 (encPs l) → ρ 3 = .sl true 4 (encTs ((posL pre).take 9)) → ρ 4 = .int .i64 pre.length →
  R F.tb (.loop F.f260l1) ρ bs (blockK 0 (seqK F.tb F.f260r3 (finK F.f260 bs))) = some (.sl false 4 (encTs ((opsP l).take 9)),bs) := by
 intro post
 induction post with
 | nil =>
  intro pre o ρ hk h0 h3 h4
  simp only [List.append_nil] at hk
  subst hk
  have h := fun ρ => ops_l3 l bs hl hN l [] o ρ rfl
  rw [R_loop' F.f260l1.eq_1]
  simp [h0,h3,h4,F.f260r3]
  apply h <;> simp [h0,h3,negL]
 | cons p post IH =>
  intro pre o ρ hk h0 h3 h4
  have hg := get_pre hk
  have hll : l.length = pre.length + (post.length + 1) := by rw [hk]; simp
  have hw1 : IntKind.i64.wrap ((pre.length : Int) + 1) = (pre.length : Int) + 1 := wrap64 (by omega) (by omega)
  have hlt : (pre.length : Int) < (l.length : Int) := by omega
  have ih := fun ρ => IH (pre ++ [p]) o ρ (by rw [hk]; simp)
  have hpN := hN p (by rw [hk]; simp)
  rw [R_loop' F.f260l1.eq_1]
  simp [h0,h3,h4,hlt]
  refine ops_l0 hpN _ _ _ p.2.toNat ((posL pre).take 9) 0 pre.length o _ hg (by omega) (by rw [List.length_take]; omega) ?_ ?_ ?_ ?_ ?_
  ·simp [h0]
  ·simp [h3]
  ·simp [h4]
  ·simp
  ·intro ρ' g0 g4 g3
   rw [take_take_app,← posL_app] at g3
   simp [F.f260r0,g4,hw1]
   apply ih <;> simp [g0,g3]
theorem call260 (l : List Pw) (o : Bool) (bs : List (List AV)) (hl : l.length < 5000000) (hN : ∀ q ∈ l,-1000 ≤ q.2 ∧ q.2 ≤ 1000) :
  call F.tb 260 [.sl o 5 (encPs l)] bs = some (.sl false 4 (encTs ((opsP l).take 9)),bs) := by
 have h := fun ρ => ops_l1 l bs hl hN l [] false ρ rfl
 rw [call_code F.tb_260 _ _ rfl]
 simp [F.f260B,F.f260C]
 apply h <;> simp [posL,encTs]
theorem call258 (l : List Pw) (o : Bool) (bs : List (List AV)) (hl : l.length < 5000000) (hk : ∀ q ∈ l,q.1.mass < big) (hm : (∀ q ∈ l,-8 ≤ q.2 ∧ q.2 ≤ 8) → massL (opsP l) < big - 100) :
  call F.tb 258 [.sl o 5 (encPs l)] bs = some (encR (termP l),bs) := by
 have h1 := call259 l false bs (by omega) hk
 rw [call_code F.tb_258 _ _ rfl]
 by_cases hv : validP l = 0
 ·obtain ⟨hinv,_,_⟩ := validP_inv hv hk
  have h2 := call260 l false bs hl fun q hq => (hinv.bd q hq).2
  by_cases c8 : 8 < (opsP l).length
  ·have c8' : (8 : Int) < ((min 9 (opsP l).length : Nat) : Int) := by omega
   have e : termP l = (zeroT,3) := by simp [termP,hv,c8]
   rw [e]
   simp [F.f258B,F.f258C,h1,hv,h2,c8',F.f258R,F.f258K,encR,encT_zero]
  ·have hN8 : ∀ q ∈ l,-8 ≤ q.2 ∧ q.2 ≤ 8 := by
    intro q hq
    have h3 := posL_mem hq
    have h4 := negL_mem hq
    simp only [opsP,List.length_append] at c8
    omega
   have hm' := hm hN8
   have hpm : (prodT (opsP l)).mass < big := by
    unfold big at *
    match h : opsP l with
    | [] => simp [prodT,mass_eq,massL,ONE]
    | [p] => rw [h] at hm'; simp [prodT,massL] at hm' ⊢; omega
    | p :: q :: r => rw [h] at hm' c8; simp [prodT,mass_eq,massL,MUL] at hm' c8 ⊢; omega
   have hvv := call_RValid1 (prodT (opsP l)) bs hpm
   have e : termP l = if validT (prodT (opsP l)) ≠ 0 then (zeroT,validT (prodT (opsP l))) else (prodT (opsP l),0) := by simp [termP,hv,c8]
   rw [e]
   rw [List.take_of_length_le (by omega)] at h2
   have ha := call120 MUL (opsP l) false bs (by omega)
   have ha1 := call120 ONE [] true bs (by simp)
   simp only [MUL] at ha
   simp only [ONE,encTs] at ha1
   have c8' : ¬ (8 : Int) < ((opsP l).length : Int) := by omega
   generalize hL : opsP l = L at *
   match L,hL with
   | [],hL =>
    simp only [prodT,ONE] at hvv
    simp only [encTs] at ha h2
    by_cases cv : validT (.mk 3 [111,110,101] 0 []) = 0
    ·rw [cv] at hvv
     simp [F.f258B,F.f258C,h1,hv,h2,ha,ha1,hvv,cv,F.f258R,F.f258K,encR,prodT,ONE]
    ·simp [F.f258B,F.f258C,h1,hv,h2,ha,ha1,hvv,cv,F.f258R,F.f258K,encR,encT_zero,prodT,ONE]
   | [p],hL =>
    simp only [prodT] at hvv
    by_cases cv : validT p = 0
    ·rw [cv] at hvv
     simp [F.f258B,F.f258C,h1,hv,h2,ha,hvv,cv,F.f258R,F.f258K,encR,prodT]
    ·simp [F.f258B,F.f258C,h1,hv,h2,ha,hvv,cv,F.f258R,F.f258K,encR,encT_zero,prodT]
   | p :: q :: r,hL =>
    simp only [prodT,MUL] at hvv
    have c8'' : ¬ (8 : Int) < (r.length : Int) + 1 + 1 := by simpa using c8'
    have n0 : ¬ (r.length : Int) + 1 + 1 = 0 := by omega
    have n1 : ¬ (r.length : Int) + 1 + 1 = 1 := by omega
    by_cases cv : validT (.mk 3 [109,117,108] 0 (p :: q :: r)) = 0
    ·rw [cv] at hvv
     simp [F.f258B,F.f258C,h1,hv,h2,ha,hvv,cv,c8'',n0,n1,F.f258R,F.f258K,encR,prodT,MUL]
    ·simp [F.f258B,F.f258C,h1,hv,h2,ha,hvv,cv,c8'',n0,n1,F.f258R,F.f258K,encR,encT_zero,prodT,MUL]
 ·have e : termP l = (zeroT,validP l) := by simp [termP,hv]
  rw [e]
  simp [F.f258B,F.f258C,h1,hv,F.f258R,F.f258K,encR,encT_zero]
end Go.Am
namespace Go.Am
set_option maxRecDepth 8000
theorem encPs_nil : encPs [] = [] := rfl
def addAllP (a : List Pw) : List Pw → List Pw
 | [] => a
 | q :: b => addAllP (addP a q.1 q.2) b
def rangeP (l : List Pw) : Int := if l.any (fun q => outN q.2) then 7 else if 200 < l.length then 3 else 0
def mulE (a b : List Pw) : Int := if validP a ≠ 0 then validP a else if validP b ≠ 0 then validP b else rangeP (addAllP a b)
def mulP (a b : List Pw) : List Pw := if mulE a b = 0 then addAllP a b else []
theorem range_loop (l : List Pw) (bs : List (List AV)) (hl : l.length < 100000000) :
  ∀ (post pre : List Pw) (o : Bool) (ρ : Nat → AV),l = pre ++ post → pre.any (fun q => outN q.2) = false → ρ 0 = .sl o 5 (encPs l) → ρ 3 = .int .i64 pre.length →
  R F.tb (.loop F.f263l0) ρ bs (blockK 0 (seqK F.tb F.f263r0 (finK F.f263 bs))) = some (.int .i64 (rangeP l),bs) := by
 intro post
 induction post with
 | nil =>
  intro pre o ρ hk hp h0 h3
  simp only [List.append_nil] at hk
  rw [← hk] at h3 hp
  rw [R_loop' F.f263l0.eq_1]
  by_cases c : 200 < l.length
  ·have c' : (200 : Int) < (l.length : Int) := by omega
   simp [h0,h3,F.f263r0,F.f263R,F.f263K,rangeP,hp,c,c',-List.any_eq_false,-List.any_eq_true]
  ·have c' : ¬ (200 : Int) < (l.length : Int) := by omega
   simp [h0,h3,F.f263r0,F.f263R,F.f263K,rangeP,hp,c,c',-List.any_eq_false,-List.any_eq_true]
 | cons p post IH =>
  intro pre o ρ hk hp h0 h3
  have hg := get_pre hk
  have hll : l.length = pre.length + (post.length + 1) := by rw [hk]; simp
  have hw1 : IntKind.i64.wrap ((pre.length : Int) + 1) = (pre.length : Int) + 1 := wrap64 (by omega) (by omega)
  have hlt : (pre.length : Int) < (l.length : Int) := by omega
  have hany : outN p.2 = true → rangeP l = 7 := by
   intro h
   have : l.any (fun q => outN q.2) = true := List.any_eq_true.2 ⟨p,by rw [hk]; simp,h⟩
   simp only [rangeP,this,if_true]
  rw [R_loop' F.f263l0.eq_1]
  by_cases c4 : p.2 < -1000
  ·rw [hany (by simp [outN,c4])]
   simp [h0,h3,hg,hlt,c4,F.f263R,F.f263K]
  ·by_cases c5 : 1000 < p.2
   ·rw [hany (by simp [outN,c5])]
    simp [h0,h3,hg,hlt,c4,c5,F.f263R,F.f263K]
   ·have ih := fun ρ => IH (pre ++ [p]) o ρ (by rw [hk]; simp) (by rw [List.any_append,hp]; simp [outN,c4,c5])
    simp [h0,h3,hg,hlt,hw1,c4,c5]
    apply ih <;> simp [h0]
theorem call263 (l : List Pw) (o : Bool) (bs : List (List AV)) (hl : l.length < 100000000) : call F.tb 263 [.sl o 5 (encPs l)] bs = some (.int .i64 (rangeP l),bs) := by
 have h := fun ρ => range_loop l bs hl l [] false ρ rfl rfl
 rw [call_code F.tb_263 _ _ rfl]
 simp [F.f263B,F.f263C]
 apply h <;> simp
theorem Rmul_loop (b : List Pw) (bs : List (List AV)) (hb : b.length ≤ 200) (hbm : ∀ q ∈ b,q.1.mass < big ∧ q.2 ≠ 0 ∧ -1000 ≤ q.2 ∧ q.2 ≤ 1000) (X : List Pw) :
  ∀ (post pre : List Pw) (acc : List Pw) (n : Nat) (o o2 : Bool) (ρ : Nat → AV),b = pre ++ post → PInv acc n → n + 1000 * post.length < 40000000 → addAllP acc post = X → ρ 1 = .sl o 5 (encPs b) → ρ 8 = .sl o2 5 (encPs acc) → ρ 9 = .int .i64 pre.length →
  R F.tb (.loop F.f262l0) ρ bs (blockK 0 (seqK F.tb F.f262r0 (finK F.f262 bs))) = some (.tup [.sl false 5 (encPs (if rangeP X = 0 then X else [])),.int .i64 (rangeP X)],bs) := by
 intro post
 induction post with
 | nil =>
  intro pre acc n o o2 ρ hk ha hn hX h1 h8 h9
  simp only [List.append_nil] at hk
  rw [← hk] at h9
  simp only [addAllP] at hX
  subst hX
  have hal := ha.len
  have hr := call263 acc false bs (by simp at hn; omega)
  rw [R_loop' F.f262l0.eq_1]
  by_cases c : rangeP acc = 0
  ·simp [h1,h8,h9,F.f262r0,hr,c,F.f262R,F.f262K]
  ·simp [h1,h8,h9,F.f262r0,hr,c,F.f262R,F.f262K,encPs_nil]
 | cons p post IH =>
  intro pre acc n o o2 ρ hk ha hn hX h1 h8 h9
  have hg := get_pre hk
  have hll : b.length = pre.length + (post.length + 1) := by rw [hk]; simp
  have hw1 : IntKind.i64.wrap ((pre.length : Int) + 1) = (pre.length : Int) + 1 := wrap64 (by omega) (by omega)
  have hlt : (pre.length : Int) < (b.length : Int) := by omega
  obtain ⟨q1,q2,q3,q4⟩ := hbm p (by rw [hk]; simp)
  simp only [List.length_cons] at hn
  have hc := call257 (m := p.2) false bs ha (by omega) q1 (by omega)
  have ih := fun ρ => IH (pre ++ [p]) (addP acc p.1 p.2) (n + 1000) o false ρ (by rw [hk]; simp) (ha.add (c := 1000) q1 q2 (by omega) (by omega)) (by omega) (by rw [← hX]; rfl)
  rw [R_loop' F.f262l0.eq_1]
  simp [h1,h8,h9,hg,hlt,hw1,hc]
  apply ih <;> simp [h1]
theorem call262 (a b : List Pw) (o o2 : Bool) (bs : List (List AV)) (ha : a.length < 100000000) (hb : b.length < 100000000) (hma : ∀ q ∈ a,q.1.mass < big) (hmb : ∀ q ∈ b,q.1.mass < big) :
  call F.tb 262 [.sl o 5 (encPs a),.sl o2 5 (encPs b)] bs = some (.tup [.sl false 5 (encPs (mulP a b)),.int .i64 (mulE a b)],bs) := by
 have h1 := call259 a false bs ha hma
 have h2 := call259 b false bs hb hmb
 rw [call_code F.tb_262 _ _ rfl]
 by_cases va : validP a = 0
 ·by_cases vb : validP b = 0
  ·obtain ⟨ia,la,_⟩ := validP_inv va hma
   obtain ⟨ib,lb,_⟩ := validP_inv vb hmb
   have h3 := fun ρ => Rmul_loop b bs lb (fun q hq => by obtain ⟨x1,x2,x3⟩ := ib.bd q hq; exact ⟨x1,ib.nz q hq,x2,x3⟩) _ b [] a 1000 false true ρ rfl ia (by omega) rfl
   have e1 : mulE a b = rangeP (addAllP a b) := by simp [mulE,va,vb]
   have e2 : mulP a b = if rangeP (addAllP a b) = 0 then addAllP a b else [] := by simp [mulP,e1]
   have hb64 : a.length * 64 ≤ 140737488355328 := lim64 (by omega)
   rw [e1,e2]
   simp [F.f262B,F.f262C,h1,h2,va,vb,hb64]
   apply h3 <;> simp
  ·have e1 : mulE a b = validP b := by simp [mulE,va,vb]
   have e2 : mulP a b = [] := by simp [mulP,e1,vb]
   rw [e1,e2]
   simp [F.f262B,F.f262C,h1,h2,va,vb,F.f262R,F.f262K,encPs_nil]
 ·have e1 : mulE a b = validP a := by simp [mulE,va]
  have e2 : mulP a b = [] := by simp [mulP,e1,va]
  rw [e1,e2]
  simp [F.f262B,F.f262C,h1,va,F.f262R,F.f262K,encPs_nil]
theorem ps_app {B0 B : List (List AV)} {v : AV} {l : List Pw} (p : Pw) (o : Bool) (h : PS B0 B v l) (hl : l.length < 50000000) : ∃ v' B',appM 64 5 v (.sl o 5 [encP p]) B = some (v',B') ∧ PS B0 B' v' (l ++ [p]) := by
 obtain ⟨M,id,sz,rfl,rfl,hc⟩ := h
 have hb : (l.length + 1) * 64 ≤ 140737488355328 := lim64 (by omega)
 have hs : srcOf 5 (.sl o 5 [encP p]) (B0 ++ M) = some (1,encP p) := by simp [srcOf]
 rcases hc with ⟨rfl,rfl,rfl⟩ | ⟨rfl,hid,t,hbx,hne⟩
 ·refine ⟨.gs (B0 ++ M).length 0 5 1,B0 ++ (M ++ [encP p]),?_,M ++ [encP p],(B0 ++ M).length,5,rfl,rfl,.inr ⟨rfl,by simp,[],?_,?_⟩⟩
  ·simp [appM,hs]
  ·rw [← List.append_assoc,List.getElem?_concat_length]; simp [rowP,rowOf]
  ·simp [rowP,rowOf,encP_eq]
 ·have hlt := get_lt hbx
  have hr := rowP_len l
  have hle : l.length * 5 ≤ (rowP l ++ t).length := by rw [List.length_append,hr]; omega
  have hrow : rowP (l ++ [p]) = rowP l ++ encP p := by simp [rowP,row_app,row_one]
  have htk : (rowP l ++ t).take (l.length * 5) = rowP l := by rw [← hr,List.take_left]
  have hne2 : ∀ x : List AV,rowP l ++ (encP p ++ x) ≠ [] := fun x e => by
   have := congrArg List.length e; simp at this
  by_cases hroom : (l.length + 1) * 5 ≤ (rowP l ++ t).length
  ·refine ⟨.gs id 0 5 (l.length + 1),(B0 ++ M).set id (rowP l ++ (encP p ++ (rowP l ++ t).drop (l.length * 5 + 5))),?_,_,id,5,set_base hid _,by simp,.inr ⟨rfl,hid,(rowP l ++ t).drop (l.length * 5 + 5),?_,?_⟩⟩
   ·simp only [appM,hs,Option.bind_some]
    rw [if_pos ⟨by omega,hb⟩,if_neg (by omega),if_neg (by omega),if_pos ⟨trivial,trivial⟩,hbx]
    simp only [Option.bind_some]
    rw [if_pos ⟨hne,hle⟩,if_pos hroom]
    simp only [put,htk,encP_len]
    simp
   ·have : id < (B0 ++ M).length := hlt
    rw [List.getElem?_set,if_pos rfl,if_pos this,hrow]; simp
   ·rw [hrow,List.append_assoc]; exact hne2 _
  ·refine ⟨.gs (B0 ++ M).length 0 5 (l.length + 1),(B0 ++ M).set id [] ++ [rowP l ++ encP p],?_,M.set (id - B0.length) [] ++ [rowP l ++ encP p],(B0 ++ M).length,5,?_,by simp,.inr ⟨rfl,by simp,[],?_,?_⟩⟩
   ·have hst : (rowP l).map AV.strip = rowP l := row_strip encP_strip l
    simp only [appM,hs,Option.bind_some]
    rw [if_pos ⟨by omega,hb⟩,if_neg (by omega),if_neg (by omega),if_pos ⟨trivial,trivial⟩,hbx]
    simp only [Option.bind_some]
    rw [if_pos ⟨hne,hle⟩,if_neg hroom,htk,hst]
   ·rw [set_base hid,List.append_assoc]
   ·have e : (B0 ++ M).length = ((B0 ++ M).set id []).length := by simp
    rw [hrow,List.append_nil,e,List.getElem?_concat_length]
   ·rw [hrow,List.append_nil]; have := hne2 []; simpa using this
theorem copied_loop (l : List Pw) (B0 K : List (List AV)) (hl : l.length < 40000000) (hm : ∀ q ∈ l,q.1.mass < big) :
  ∀ (post pre : List Pw) (B : List (List AV)) (v : AV) (ρ : Nat → AV),l = pre ++ post → PS B0 B v pre → ρ 3 = v → ρ 6 = .sl false 5 (encPs l) → ρ 7 = .int .i64 l.length → ρ 8 = .int .i64 pre.length →
  PsOk B0 l (R F.tb (.loop F.f201l0) ρ B (blockK 0 (seqK F.tb F.f201r0 (finK F.f201 K)))) := by
 intro post
 induction post with
 | nil =>
  intro pre B v ρ hk hps h3 h6 h7 h8
  simp only [List.append_nil] at hk
  subst hk
  obtain ⟨id,sz,rfl⟩ := ps_gs hps
  rw [R_loop' F.f201l0.eq_1]
  refine ⟨_,B,?_,hps⟩
  simp [h3,h6,h7,h8,F.f201r0,F.f201R,F.f201K]
 | cons p post IH =>
  intro pre B v ρ hk hps h3 h6 h7 h8
  have hg := get_pre hk
  have hll : l.length = pre.length + (post.length + 1) := by rw [hk]; simp
  have hw1 : IntKind.i64.wrap ((pre.length : Int) + 1) = (pre.length : Int) + 1 := wrap64 (by omega) (by omega)
  have hlt : (pre.length : Int) < (l.length : Int) := by omega
  have hc := call_xclone p.1 B (hm p (by rw [hk]; simp))
  obtain ⟨v2,B2,ha,hps2⟩ := ps_app p false hps (by omega)
  have ih := fun ρ => IH (pre ++ [p]) B2 v2 ρ (by rw [hk]; simp) hps2
  obtain ⟨id,sz,rfl⟩ := ps_gs hps
  obtain ⟨id2,sz2,rfl⟩ := ps_gs hps2
  have hf : encT p.1 ++ [.int .i64 p.2] = encP p := rfl
  rw [R_loop' F.f201l0.eq_1]
  simp [h3,h6,h7,h8,hg,hlt,hw1,hc,List.take_append,List.drop_append,hf,ha]
  apply ih <;> simp [h6,h7]
theorem call201 (l : List Pw) (o : Bool) (B0 : List (List AV)) (hl : l.length < 40000000) (hm : ∀ q ∈ l,q.1.mass < big) : PsOk B0 l (call F.tb 201 [.sl o 5 (encPs l)] B0) := by
 have h := fun ρ => copied_loop l B0 B0 hl hm l [] B0 _ ρ rfl (ps_nil B0)
 rw [call_code F.tb_201 _ _ rfl]
 simp [F.f201B,F.f201C]
 apply h <;> simp
theorem call203 (p : Pw) (B : List (List AV)) : call F.tb 203 [.agg (encP p)] B = some (.bool (outN p.2),B) := by
 rw [call_code F.tb_203 _ _ rfl]
 by_cases c4 : p.2 < -1000
 ·simp [F.f203B,F.f203C,F.f203R,F.f203K,outN,c4]
 ·by_cases c5 : 1000 < p.2
  ·simp [F.f203B,F.f203C,F.f203R,F.f203K,outN,c4,c5]
  ·simp [F.f203B,F.f203C,F.f203R,F.f203K,outN,c4,c5]
def IxOk (b : Bool) (B : List (List AV)) (r : Out) : Prop := ∃ i : Int,r = some (.int .i64 i,B) ∧ (0 ≤ i ↔ b = true)
theorem ix_loop {B0 B : List (List AV)} {v : AV} {l : List Pw} (h : PS B0 B v l) (hl : l.length < 100000000) :
  ∀ (post pre : List Pw) (ρ : Nat → AV),l = pre ++ post → pre.any (fun q => outN q.2) = false → ρ 0 = v → ρ 1 = .fn 203 [] → ρ 7 = .int .i64 l.length → ρ 8 = .int .i64 pre.length →
  IxOk (l.any fun q => outN q.2) B (R F.tb (.loop F.f205l0) ρ B (blockK 0 (seqK F.tb F.f205r0 (finK F.f205 B)))) := by
 obtain ⟨M,id,sz,rfl,rfl,hc⟩ := h
 have htk : (B0 ++ M).take (B0.length + M.length) = B0 ++ M := List.take_of_length_le (by simp)
 intro post
 induction post with
 | nil =>
  intro pre ρ hk hp h0 h1 h7 h8
  simp only [List.append_nil] at hk
  rw [← hk] at h8 hp
  rw [R_loop' F.f205l0.eq_1]
  refine ⟨-1,?_,by rw [hp]; simp⟩
  simp [h0,h1,h7,h8,F.f205r0,F.f205R,F.f205K,htk]
 | cons p post IH =>
  intro pre ρ hk hp h0 h1 h7 h8
  have hg := get_pre hk
  have hll : l.length = pre.length + (post.length + 1) := by rw [hk]; simp
  have hw1 : IntKind.i64.wrap ((pre.length : Int) + 1) = (pre.length : Int) + 1 := wrap64 (by omega) (by omega)
  have hlt : (pre.length : Int) < (l.length : Int) := by omega
  have hlt' : pre.length < l.length := by omega
  rcases hc with ⟨rfl,rfl,rfl⟩ | ⟨rfl,hid,t,hbx,hne⟩
  ·simp at hlt'
  have r1 := row_atS (l := l) (row_at hg t)
  have hle : pre.length * 5 + 5 ≤ (rowP l ++ t).length := by rw [List.length_append,rowP_len]; omega
  have hcall := call203 p (B0 ++ M)
  have ih := fun ρ hpp => IH (pre ++ [p]) ρ (by rw [hk]; simp) hpp
  generalize rowP l ++ t = c at *
  rw [R_loop' F.f205l0.eq_1]
  cases ho : outN p.2
  ·have ih2 := fun ρ => ih ρ (by rw [List.any_append,hp]; simp [ho])
   simp [-getElem?_pos,h0,h1,h7,h8,hlt,hlt',hw1,hbx,hle,r1,hcall,ho,-List.any_eq_false,-List.any_eq_true]
   apply ih2 <;> simp [h0,h1,h7]
  ·have hany : l.any (fun q => outN q.2) = true := List.any_eq_true.2 ⟨p,by rw [hk]; simp,ho⟩
   refine ⟨pre.length,?_,by rw [hany]; simp⟩
   simp [-getElem?_pos,h0,h1,h7,h8,hlt,hlt',hbx,hle,r1,hcall,ho,F.f205R,F.f205K,htk]
theorem call204 {B0 B : List (List AV)} {v : AV} {l : List Pw} (h : PS B0 B v l) (hl : l.length < 100000000) : call F.tb 204 [v,.fn 203 []] B = some (.bool (l.any fun q => outN q.2),B) := by
 have h1 := fun ρ => ix_loop h hl l [] ρ rfl rfl
 obtain ⟨id,sz,rfl⟩ := ps_gs h
 have h2 : IxOk (l.any fun q => outN q.2) B (call F.tb 205 [.gs id 0 sz l.length,.fn 203 []] B) := by
  rw [call_code F.tb_205 _ _ rfl]
  simp [F.f205B,F.f205C,-List.any_eq_false,-List.any_eq_true]
  apply h1 <;> simp
 obtain ⟨i,hi,hb⟩ := h2
 rw [call_code F.tb_204 _ _ rfl]
 simp [F.f204B,F.f204C,hi,F.f204R,F.f204K,-List.any_eq_false,-List.any_eq_true]
 cases hx : l.any fun q => outN q.2
 ·rw [hx] at hb; simp at hb; simpa using hb
 ·rw [hx] at hb; simp at hb; simpa using hb
theorem ps_frz2 {B0 B : List (List AV)} {v : AV} {l : List Pw} (h : PS B0 B v l) (n : Nat) : ∃ o M2,(B0 ++ M2).length = B.length ∧ chkB B (B0 ++ M2) = true ∧ ∀ ρ : Nat → AV,ρ n = v → frzAt { env := ρ,bs := B } n 5 = some (.sl o 5 (encPs l),{ env := upd ρ n .undef,bs := B0 ++ M2 }) := by
 obtain ⟨M,id,sz,rfl,rfl,hc⟩ := h
 rcases hc with ⟨rfl,rfl,rfl⟩ | ⟨rfl,hid,t,hb,hne⟩
 ·exact ⟨true,M,rfl,chkB_self _,fun ρ hn => by simp [frzAt,hn,encPs]⟩
 ·by_cases hl : l.length = 0
  ·have : l = [] := List.eq_nil_of_length_eq_zero hl
   subst this
   exact ⟨false,M,rfl,chkB_self _,fun ρ hn => by simp [frzAt,hn,encPs]⟩
  ·refine ⟨true,M.set (id - B0.length) [],by simp,by rw [← set_base hid]; exact chkB_set_nil _ _,fun ρ hn => ?_⟩
   have hle : 0 + l.length * 5 ≤ (rowP l ++ t).length := by rw [List.length_append,rowP_len]; omega
   have hch : chunks (rowP l ++ t) 0 5 l.length = encPs l := row_chunks (f := encP) (k := 5) encP_len encP_strip l t
   simp only [frzAt,hn]
   rw [if_pos ⟨trivial,by omega⟩,if_neg hl,hb]
   simp only [Option.bind_some]
   rw [if_pos hle,hch,set_base hid]
   rfl
def ResOk (B0 : List (List AV)) (l : List Pw) (r : Out) : Prop := ∃ M,r = some (.tup [.sl false 5 (encPs (if rangeP l = 0 then l else [])),.int .i64 (rangeP l)],B0 ++ M)
theorem call202 {B0 B : List (List AV)} {v : AV} {l : List Pw} (h : PS B0 B v l) (hl : l.length < 100000000) : ResOk B0 l (call F.tb 202 [v] B) := by
 have h1 := call204 h hl
 obtain ⟨o,M2,hlen,hchk,hf⟩ := ps_frz2 h 9
 obtain ⟨M,hM⟩ : ∃ M,B = B0 ++ M := by obtain ⟨M,_,_,h,_⟩ := h; exact ⟨M,h⟩
 subst hM
 have htk : (B0 ++ M2).take (B0.length + M.length) = B0 ++ M2 := List.take_of_length_le (by rw [hlen]; simp)
 have htk0 : (B0 ++ M).take (B0.length + M.length) = B0 ++ M := List.take_of_length_le (by simp)
 have hgp := encPs_gp l
 obtain ⟨id,sz,rfl⟩ := ps_gs h
 rw [call_code F.tb_202 _ _ rfl]
 cases ha : l.any fun q => outN q.2
 ·rw [ha] at h1
  by_cases c : 200 < l.length
  ·have c' : (200 : Int) < (l.length : Int) := by omega
   have e : rangeP l = 3 := by simp only [rangeP,ha,c,if_true]; rfl
   refine ⟨M,?_⟩
   rw [e]
   simp [F.f202B,F.f202C,h1,c',F.f202R,F.f202K,encPs_nil,htk0]
  ·have c' : ¬ (200 : Int) < (l.length : Int) := by omega
   have e : rangeP l = 0 := by simp only [rangeP,ha,c,if_false]; rfl
   refine ⟨M2,?_⟩
   rw [e]
   simp [F.f202B,F.f202C,h1,c',F.f202R,F.f202K,hf,htk,hchk]
 ·rw [ha] at h1
  have e : rangeP l = 7 := by simp only [rangeP,ha,if_true]
  refine ⟨M,?_⟩
  rw [e]
  simp [F.f202B,F.f202C,h1,F.f202R,F.f202K,encPs_nil,htk0]
theorem mul_loop (b : List Pw) (B0 : List (List AV)) (hb : b.length ≤ 200) (hbm : ∀ q ∈ b,q.1.mass < big ∧ q.2 ≠ 0 ∧ -1000 ≤ q.2 ∧ q.2 ≤ 1000) (X : List Pw) :
  ∀ (post pre : List Pw) (acc : List Pw) (n : Nat) (B : List (List AV)) (v : AV) (ρ : Nat → AV),b = pre ++ post → PS B0 B v acc → PInv acc n → n + 1000 * post.length < 40000000 → addAllP acc post = X → ρ 8 = v → ρ 23 = .sl false 5 (encPs b) → ρ 24 = .int .i64 b.length → ρ 25 = .int .i64 pre.length →
  R F.tb (.loop F.f200l0) ρ B (blockK 0 (seqK F.tb F.f200r0 (finK F.f200 B0))) = some (.tup [.sl false 5 (encPs (if rangeP X = 0 then X else [])),.int .i64 (rangeP X)],B0) := by
 intro post
 induction post with
 | nil =>
  intro pre acc n B v ρ hk hps ha hn hX h8 h23 h24 h25
  simp only [List.append_nil] at hk
  rw [← hk] at h25
  simp only [addAllP] at hX
  subst hX
  have hal := ha.len
  obtain ⟨M,hr⟩ := call202 hps (by simp at hn; omega)
  obtain ⟨id,sz,rfl⟩ := ps_gs hps
  rw [R_loop' F.f200l0.eq_1]
  generalize (if rangeP acc = 0 then acc else []) = X at *
  simp [h8,h23,h24,h25,F.f200r0,hr,F.f200R,F.f200K]
 | cons p post IH =>
  intro pre acc n B v ρ hk hps ha hn hX h8 h23 h24 h25
  have hg := get_pre hk
  have hll : b.length = pre.length + (post.length + 1) := by rw [hk]; simp
  have hw1 : IntKind.i64.wrap ((pre.length : Int) + 1) = (pre.length : Int) + 1 := wrap64 (by omega) (by omega)
  have hlt : (pre.length : Int) < (b.length : Int) := by omega
  obtain ⟨q1,q2,q3,q4⟩ := hbm p (by rw [hk]; simp)
  simp only [List.length_cons] at hn
  have hal := ha.len
  obtain ⟨v2,B2,hc,hps2⟩ := call189 (p := p) hps (by omega) (fun q hq => by obtain ⟨a1,a2,a3⟩ := ha.bd q hq; exact ⟨a1,by omega,by omega⟩) q1 (by omega) ha.asc
  have ih := fun ρ => IH (pre ++ [p]) (addP acc p.1 p.2) (n + 1000) B2 v2 ρ (by rw [hk]; simp) hps2 (ha.add (c := 1000) q1 q2 (by omega) (by omega)) (by omega) (by rw [← hX]; rfl)
  obtain ⟨id,sz,rfl⟩ := ps_gs hps
  obtain ⟨id2,sz2,rfl⟩ := ps_gs hps2
  rw [R_loop' F.f200l0.eq_1]
  simp [h8,h23,h24,h25,hg,hlt,hw1,hc]
  apply ih <;> simp [h23,h24]
theorem call200 (a b : List Pw) (o o2 : Bool) (bs : List (List AV)) (ha : a.length < 100000000) (hb : b.length < 100000000) (hma : ∀ q ∈ a,q.1.mass < big) (hmb : ∀ q ∈ b,q.1.mass < big) :
  call F.tb 200 [.sl o 5 (encPs a),.sl o2 5 (encPs b)] bs = some (.tup [.sl false 5 (encPs (mulP a b)),.int .i64 (mulE a b)],bs) := by
 have h1 := call197 a false bs ha hma
 have h2 := call197 b false bs hb hmb
 rw [call_code F.tb_200 _ _ rfl]
 by_cases va : validP a = 0
 ·by_cases vb : validP b = 0
  ·obtain ⟨ia,la,_⟩ := validP_inv va hma
   obtain ⟨ib,lb,_⟩ := validP_inv vb hmb
   obtain ⟨v,B,hc,hps⟩ := call201 a false bs (by omega) hma
   have h3 := fun ρ => mul_loop b bs lb (fun q hq => by obtain ⟨x1,x2,x3⟩ := ib.bd q hq; exact ⟨x1,ib.nz q hq,x2,x3⟩) _ b [] a 1000 B v ρ rfl hps ia (by omega) rfl
   obtain ⟨id,sz,rfl⟩ := ps_gs hps
   have e1 : mulE a b = rangeP (addAllP a b) := by simp [mulE,va,vb]
   have e2 : mulP a b = if rangeP (addAllP a b) = 0 then addAllP a b else [] := by simp [mulP,e1]
   rw [e1,e2]
   simp [F.f200B,F.f200C,h1,h2,va,vb,hc]
   apply h3 <;> simp
  ·have e1 : mulE a b = validP b := by simp [mulE,va,vb]
   have e2 : mulP a b = [] := by simp [mulP,e1,vb]
   rw [e1,e2]
   simp [F.f200B,F.f200C,h1,h2,va,vb,F.f200R,F.f200K,encPs_nil]
 ·have e1 : mulE a b = validP a := by simp [mulE,va]
  have e2 : mulP a b = [] := by simp [mulP,e1,va]
  rw [e1,e2]
  simp [F.f200B,F.f200C,h1,va,F.f200R,F.f200K,encPs_nil]
end Go.Am
