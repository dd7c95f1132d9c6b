/-
  Rc25, Rc26, Rc27, Rc28, Rc29, Rc30.
-/
import Derived.Test.YteahheknpdcoeaaGreatDoorG22
set_option linter.unusedVariables false
set_option linter.unusedSimpArgs false
namespace Go.Am
set_option maxRecDepth 8000
theorem isNameB_len {n : List UInt8} (h : isNameB n = true) : n.length ≤ 24 := by
 cases n with
 | nil => simp
 | cons c r =>
  simp only [isNameB, Bool.and_eq_true, decide_eq_true_eq] at h
  simp only [List.length_cons]
  omega
theorem nodeE_ok {t : Tm} (h : nodeE t = 0) : t.name.length ≤ 24 ∧ t.kids.length ≤ 8 ∧ (t.kind = 3 → t.sort = 0) ∧ (t.kind ≠ 3 → t.kids = []) := by
 unfold nodeE at h
 split at h
 ·rename_i hk
  split at h
  ·cases h
  ·rename_i h1
   split at h
   ·cases h
   ·rename_i h2
    have h3 : t.kids.length = 0 := by omega
    exact ⟨isNameB_len (by simpa using h2), by omega, fun e => by omega, fun _ => List.eq_nil_of_length_eq_zero h3⟩
 ·split at h
  ·rename_i hk
   split at h
   ·cases h
   ·rename_i h1
    split at h
    ·cases h
    ·rename_i h2
     split at h
     ·cases h
     ·exact ⟨isNameB_len (by simpa using h2), by omega, fun _ => by simpa using h1, fun e => absurd hk e⟩
  ·cases h
mutual
theorem errT_mass : ∀ t : Tm, errT t = 0 → t.mass ≤ 33 * t.nodes
 | .mk k n s ks, h => by
  simp only [errT] at h
  split at h
  ·rename_i h1; exact absurd h h1
  ·rename_i h1
   obtain ⟨a, b, _⟩ := nodeE_ok (t := .mk k n s ks) (by simpa using h1)
   have := errL_mass ks h
   simp only [mk_name, mk_kids] at a b
   simp only [Tm.mass, Tm.nodes]; omega
theorem errL_mass : ∀ ts : List Tm, errL ts = 0 → massL ts ≤ 33 * nodesL ts
 | [], _ => by simp [massL, nodesL]
 | t :: ts, h => by
  simp only [errL] at h
  split at h
  ·rename_i h1; exact absurd h h1
  ·rename_i h1
   have a := errT_mass t (by simpa using h1)
   have b := errL_mass ts h
   simp only [massL, nodesL]; omega
end
theorem validT_inv {t : Tm} (h : validT t = 0) : errT t = 0 ∧ t.nodes ≤ 400 ∧ t.mass ≤ 13200 := by
 unfold validT at h
 split at h
 ·rename_i h1; exact absurd h h1
 ·rename_i h1
  split at h
  ·cases h
  ·have := errT_mass t (by simpa using h1)
   exact ⟨by simpa using h1, by omega, by omega⟩
theorem findSy_ar {n : List UInt8} {y : Sy} (h : findSy n symL = some y) (m : Nat) (h1 : ¬ ((m : Int) < y.l ∨ y.m < m)) : arOk n m = true := by
 unfold arOk
 split
 ·rename_i hn
  have : y.l = 2 ∧ y.m = 2 := by rcases hn with rfl | rfl | rfl | rfl | rfl | rfl | rfl | rfl <;> simp [PAIR, ENC, AENC, SIGN, EXP, DEC, ADEC, OPEN, findSy, symL] at h <;> subst h <;> simp
  simp; omega
 ·split
  ·rename_i hn
   have : y.l = 1 ∧ y.m = 1 := by rcases hn with rfl | rfl | rfl | rfl <;> simp [PK, FST, SND, READ, findSy, symL] at h <;> subst h <;> simp
   simp; omega
  ·rfl
mutual
theorem good_valid : ∀ t : Tm, errT t = 0 → chkT t = 0 → goodT t = true
 | .mk k n s ks, h, hc => by
  simp only [errT] at h
  split at h
  ·rename_i h1; exact absurd h h1
  ·rename_i h1
   obtain ⟨_, _, a, b⟩ := nodeE_ok (t := .mk k n s ks) (by simpa using h1)
   simp only [mk_kind, mk_sort, mk_kids] at a b
   simp only [chkT] at hc
   by_cases hk : k = 3
   ·subst hk
    rw [if_neg (by simp)] at hc
    cases hy : findSy n symL with
    | none => rw [hy] at hc; simp at hc
    | some y =>
     rw [hy] at hc
     simp only at hc
     split at hc
     ·cases hc
     ·rename_i h2
      have har := findSy_ar hy ks.length h2
      split at hc
      ·cases hc
      ·split at hc
       ·cases hc
       ·have := goodL_valid ks h hc
        simp [goodT, a rfl, har, this]
   ·have := b hk
    subst this
    simp [goodT, hk, goodL]
theorem goodL_valid : ∀ ts : List Tm, errL ts = 0 → chkL ts = 0 → goodL ts = true
 | [], _, _ => rfl
 | t :: ts, h, hc => by
  simp only [errL] at h
  simp only [chkL] at hc
  split at h
  ·rename_i h1; exact absurd h h1
  ·rename_i h1
   split at hc
   ·rename_i h2; exact absurd hc h2
   ·rename_i h2
    simp [goodL, good_valid t (by simpa using h1) (by simpa using h2), goodL_valid ts h hc]
end
mutual
theorem good_allT : ∀ (t y : Tm), goodT t = true → y ∈ allT t → goodT y = true
 | .mk k n s ks, y, h, hy => by
  simp only [allT, List.mem_cons] at hy
  rcases hy with rfl | hy
  ·exact h
  ·exact good_allL ks y (good_kids h) hy
theorem good_allL : ∀ (ts : List Tm) (y : Tm), goodL ts = true → y ∈ allL ts → goodT y = true
 | [], y, _, hy => by simp [allL] at hy
 | t :: ts, y, h, hy => by
  simp only [goodL, Bool.and_eq_true] at h
  simp only [allL, List.mem_append] at hy
  rcases hy with hy | hy
  ·exact good_allT t y h.1 hy
  ·exact good_allL ts y h.2 hy
end
theorem good_zero : goodT zeroT = true := by simp [zeroT, goodT, goodL]
theorem good_app {n : List UInt8} {us : List Tm} (ha : arOk n us.length = true) (h : goodL us = true) : goodT (.mk 3 n 0 us) = true := by simp [goodT, ha, h]
theorem good_kid {t : Tm} (h : goodT t = true) (i : Nat) : goodT (kid t i) = true := by
 unfold kid
 rw [List.getD_eq_getElem?_getD]
 cases hg : t.kids[i]? with
 | none => simpa using good_zero
 | some x => exact goodL_mem.1 (good_kids h) x (List.mem_of_getElem? hg)
theorem kid_mass (t : Tm) (i : Nat) : (kid t i).mass ≤ t.mass := by
 unfold kid
 rw [List.getD_eq_getElem?_getD]
 have := mass_eq t
 cases hg : t.kids[i]? with
 | none => simp [zeroT, Tm.mass, massL]; omega
 | some x => have := massL_mem (List.mem_of_getElem? hg); simp; omega
theorem good_sumX {us : List Tm} (h : goodL us = true) : goodT (sumX us).1 = true := by
 unfold sumX
 split
 ·exact good_zero
 ·split
  ·exact good_zero
  ·have hL : ∀ y ∈ sumL [] us, goodT y = true := fun y hy => by
    rcases sumL_mem us [] y hy with h1 | h1
    ·simp at h1
    ·exact good_allL us y h h1
   show goodT (tmX (sumL [] us)) = true
   match hh : sumL [] us with
   | [] => simp [tmX, goodT, goodL, arOk, ZERO, PAIR, ENC, AENC, SIGN, EXP, DEC, ADEC, OPEN, PK, FST, SND, READ]
   | [p] => simp only [tmX]; exact hL p (by rw [hh]; simp)
   | p :: q :: r =>
    simp only [tmX]
    refine good_app (by simp [arOk, XOR, PAIR, ENC, AENC, SIGN, EXP, DEC, ADEC, OPEN, PK, FST, SND, READ]) (goodL_mem.2 fun x hx => hL x (by rw [hh]; exact hx))
theorem mass_sumX (us : List Tm) : (sumX us).1.mass ≤ 13200 := by
 unfold sumX
 split
 ·simp [zeroT, Tm.mass, massL]
 ·split
  ·simp [zeroT, Tm.mass, massL]
  ·rename_i h; exact (validT_inv (by simpa using h)).2.2
theorem zero_mass : zeroT.mass = 1 := by simp [zeroT, Tm.mass, massL]
def KG (l : List Pw) : Prop := ∀ q ∈ l, goodT q.1 = true
theorem kg_addP {l : List Pw} {t : Tm} {m : Int} (h : KG l) (ht : goodT t = true) : KG (addP l t m) := by
 intro q hq
 rcases addP_mem hq with hq | rfl | ⟨_, _, rfl, _⟩
 ·exact h q hq
 ·exact ht
 ·exact ht
theorem kg_colT : ∀ (t : Tm) (l : List Pw) (m : Int), KG l → goodT t = true → KG (colT l t m) := by
 refine tm_ind ?_
 intro k n s ks ih l m h hm
 have hk := goodL_mem.1 (good_kids hm)
 have hL : ∀ (xs : List Tm) (l : List Pw) (m : Int), (∀ x ∈ xs, x ∈ ks) → KG l → KG (colL l xs m) := by
  intro xs
  induction xs with
  | nil => intro l m _ h; simpa [colL] using h
  | cons x xs IH =>
   intro l m hx h
   simp only [colL]
   exact IH _ m (fun y hy => hx y (by simp [hy])) (ih x (hx x (by simp)) l m h (hk x (hx x (by simp))))
 rw [colT_eq]
 split
 ·exact hL ks l _ (fun x hx => hx) h
 ·exact kg_addP h hm
theorem kg_addAllP : ∀ (b a : List Pw), KG a → KG b → KG (addAllP a b)
 | [], a, h, _ => h
 | q :: b, a, h, hb => kg_addAllP b _ (kg_addP h (hb q (by simp))) fun x hx => hb x (by simp [hx])
theorem kg_ofP {t : Tm} (h : goodT t = true) : KG (ofP t) := by
 unfold ofP
 split
 ·exact kg_colT t [] 1 (fun q hq => by simp at hq) h
 ·intro q hq; simp at hq
theorem kg_mulP {a b : List Pw} (ha : KG a) (hb : KG b) : KG (mulP a b) := by
 unfold mulP
 split
 ·exact kg_addAllP b a ha hb
 ·intro q hq; simp at hq
theorem good_opsP {l : List Pw} (h : KG l) : goodL (opsP l) = true := by
 refine goodL_mem.2 fun x hx => ?_
 simp only [opsP, posL, negL, List.mem_append, List.mem_flatten, List.mem_map] at hx
 rcases hx with ⟨_, ⟨q, hq, rfl⟩, hx⟩ | ⟨_, ⟨q, hq, rfl⟩, hx⟩
 ·rw [List.eq_of_mem_replicate hx]; exact h q hq
 ·rw [List.eq_of_mem_replicate hx]
  exact good_app (by simp [arOk, INV, PAIR, ENC, AENC, SIGN, EXP, DEC, ADEC, OPEN, PK, FST, SND, READ]) (by simp [goodL, h q hq])
theorem good_termP {l : List Pw} (h : KG l) : goodT (termP l).1 = true := by
 unfold termP
 split
 ·exact good_zero
 ·split
  ·exact good_zero
  ·split
   ·exact good_zero
   ·have hL := good_opsP h
    show goodT (prodT (opsP l)) = true
    match hh : opsP l with
    | [] => simp [prodT, goodT, goodL, arOk, ONE, PAIR, ENC, AENC, SIGN, EXP, DEC, ADEC, OPEN, PK, FST, SND, READ]
    | [p] => simp only [prodT]; rw [hh] at hL; simpa [goodL] using hL
    | p :: q :: r =>
     simp only [prodT]
     rw [hh] at hL
     exact good_app (by simp [arOk, MUL, PAIR, ENC, AENC, SIGN, EXP, DEC, ADEC, OPEN, PK, FST, SND, READ]) hL
theorem mass_termP (l : List Pw) : (termP l).1.mass ≤ 13200 := by
 unfold termP
 split
 ·simp [zeroT, Tm.mass, massL]
 ·split
  ·simp [zeroT, Tm.mass, massL]
  ·split
   ·simp [zeroT, Tm.mass, massL]
   ·rename_i h; exact (validT_inv (by simpa using h)).2.2
theorem good_productT {t : Tm} (h : goodT t = true) : goodT (productT t).1 = true := by
 unfold productT
 split
 ·exact good_zero
 ·exact good_termP (kg_ofP h)
theorem mass_productT (t : Tm) : (productT t).1.mass ≤ 13200 := by
 unfold productT
 split
 ·simp [zeroT, Tm.mass, massL]
 ·exact mass_termP _
theorem finP_ok {b : Tm} {p : List Pw} (hb : goodT b = true) (hp : KG p) : goodT (finP b p).1 = true ∧ (finP b p).1.mass ≤ 6 + b.mass + 13200 := by
 have h0 := mass_termP p
 unfold finP
 split
 ·exact ⟨hb, by simp; omega⟩
 ·split
  ·exact ⟨good_zero, by show zeroT.mass ≤ _; rw [zero_mass]; omega⟩
  ·exact ⟨good_app (by simp [arOk]) (by simp [goodL, hb, good_termP hp]), by simp only [Tm.mass, massL, EXP, List.length_cons, List.length_nil]; omega⟩
theorem powT_ok {b e : Tm} (hb : goodT b = true) (he : goodT e = true) : goodT (powT b e).1 = true ∧ (powT b e).1.mass ≤ 6 + b.mass + 13200 := by
 have hz : goodT zeroT = true ∧ zeroT.mass ≤ 6 + b.mass + 13200 := ⟨good_zero, by show zeroT.mass ≤ _; rw [zero_mass]; omega⟩
 have hk := kid_mass b 0
 unfold powT
 split
 ·exact hz
 ·split
  ·split
   ·exact hz
   ·split
    ·exact hz
    ·obtain ⟨h1, h2⟩ := finP_ok (good_kid hb 0) (kg_mulP (kg_ofP (good_kid hb 1)) (kg_ofP he))
     exact ⟨h1, by omega⟩
  ·exact finP_ok hb (kg_ofP he)
theorem destT_ok {n : List UInt8} {us : List Tm} (ha : arOk n us.length = true) (h : goodL us = true) : goodT (destT n us) = true ∧ (destT n us).mass ≤ 1 + n.length + us.length + massL us := by
 have hout : goodT (.mk 3 n 0 us) = true ∧ (Tm.mk 3 n 0 us).mass ≤ 1 + n.length + us.length + massL us := ⟨good_app ha h, by simp [Tm.mass]⟩
 have ha0 : goodT (us.getD 0 zeroT) = true ∧ (us.getD 0 zeroT).mass ≤ 1 + massL us := by
  cases us with
  | nil => exact ⟨good_zero, by simp [zeroT, Tm.mass, massL]⟩
  | cons x r => simp only [goodL, Bool.and_eq_true] at h; exact ⟨h.1, by simp [massL]; omega⟩
 have hkid : ∀ i, goodT (kid (us.getD 0 zeroT) i) = true ∧ (kid (us.getD 0 zeroT) i).mass ≤ 1 + n.length + us.length + massL us := fun i => ⟨good_kid ha0.1 i, by have := kid_mass (us.getD 0 zeroT) i; omega⟩
 simp only [destT]
 repeat' split
 all_goals first | exact hout | exact hkid _
def headN (n : List UInt8) (us : List Tm) : Tm × Int :=
 if destN n then (destT n us, 0) else if n = XOR then sumX us else if n = MUL ∨ n = INV ∨ n = ONE then productT (.mk 3 n 0 us)
 else if n = EXP then powT (us.getD 0 zeroT) (us.getD 1 zeroT) else (.mk 3 n 0 us, 0)
mutual
def normT : Tm → Tm × Int
 | .mk k n s ks => if k = 3 then (if (normL ks).2 = 0 then headN n (normL ks).1 else (zeroT, (normL ks).2)) else (.mk k n s ks, 0)
def normL : List Tm → List Tm × Int
 | [] => ([], 0)
 | t :: ts => if (normT t).2 = 0 then (if (normL ts).2 = 0 then ((normT t).1 :: (normL ts).1, 0) else ([], (normL ts).2)) else ([], (normT t).2)
end
theorem headN_ok {n : List UInt8} {us : List Tm} (ha : arOk n us.length = true) (h : goodL us = true) : goodT (headN n us).1 = true ∧ (headN n us).1.mass ≤ 1 + n.length + us.length + massL us + 13200 := by
 unfold headN
 split
 ·obtain ⟨h1, h2⟩ := destT_ok ha h; exact ⟨h1, by simp; omega⟩
 ·split
  ·exact ⟨good_sumX h, by have := mass_sumX us; omega⟩
  ·split
   ·exact ⟨good_productT (good_app ha h), by have := mass_productT (.mk 3 n 0 us); omega⟩
   ·split
    ·rename_i hn
     subst hn
     have h2 : us.length = 2 := by simpa [arOk] using ha
     match us, h2, h with
     | [x, y], _, h =>
      simp only [goodL, Bool.and_eq_true] at h
      obtain ⟨h3, h4⟩ := powT_ok h.1 h.2.1
      exact ⟨h3, by simp only [massL, EXP, List.length_cons, List.length_nil] at *; simp at h4 ⊢; omega⟩
    ·exact ⟨good_app ha h, by simp [Tm.mass]⟩
mutual
theorem normT_ok : ∀ t : Tm, goodT t = true → goodT (normT t).1 = true ∧ (normT t).1.mass ≤ t.mass + 13200 * t.nodes
 | .mk k n s ks, h => by
  have hk := normL_ok ks (good_kids h)
  simp only [normT]
  split
  ·rename_i hk3
   subst hk3
   split
   ·rename_i h2
    obtain ⟨h3, h4, h5⟩ := hk
    have h5 := h5 h2
    have har := (good_node h rfl).2
    simp only [mk_name, mk_kids] at har
    obtain ⟨h6, h7⟩ := headN_ok (by rw [h5]; exact har) h3
    exact ⟨h6, by simp only [Tm.mass, Tm.nodes]; rw [h5] at h7; omega⟩
   ·exact ⟨good_zero, by show zeroT.mass ≤ _; rw [zero_mass]; simp only [Tm.mass]; omega⟩
  ·exact ⟨h, Nat.le_add_right _ _⟩
theorem normL_ok : ∀ ts : List Tm, goodL ts = true → goodL (normL ts).1 = true ∧ massL (normL ts).1 ≤ massL ts + 13200 * nodesL ts ∧ ((normL ts).2 = 0 → (normL ts).1.length = ts.length)
 | [], _ => by simp [normL, goodL, massL]
 | t :: ts, h => by
  simp only [goodL, Bool.and_eq_true] at h
  obtain ⟨a1, a2⟩ := normT_ok t h.1
  obtain ⟨b1, b2, b3⟩ := normL_ok ts h.2
  simp only [normL]
  split
  ·split
   ·rename_i h2
    refine ⟨by simp [goodL, a1, b1], by simp only [massL, nodesL]; omega, fun _ => by simp [b3 h2]⟩
   ·rename_i h2
    exact ⟨rfl, by simp [massL], fun e => absurd e h2⟩
  ·rename_i h2
   exact ⟨rfl, by simp [massL], fun e => absurd e h2⟩
end
end Go.Am
namespace Go.Am
set_option maxRecDepth 8000
theorem nodesL_mem {x : Tm} : ∀ {ks : List Tm}, x ∈ ks → x.nodes ≤ nodesL ks
 | [], h => by cases h
 | t :: ts, h => by
  simp only [nodesL]
  rcases List.mem_cons.1 h with rfl | h
  ·omega
  ·have := nodesL_mem h; omega
theorem destN_inv {n : List UInt8} (h : destN n = true) : (n = FST ∨ n = SND ∨ n = READ) ∨ (n = DEC ∨ n = ADEC ∨ n = OPEN) := by
 simp only [destN, Bool.or_eq_true, beq_iff_eq] at h
 rcases h with ((((h | h) | h) | h) | h) | h <;> simp [h]
theorem call176 {n : List UInt8} {us : List Tm} (bs : List (List AV)) (hn : destN n = true) (ha : arOk n us.length = true) (hg : goodL us = true) (hm : massL us < 20000000) : call F.tb 176 [.agg (encT (.mk 3 n 0 us))] bs = some (.agg (encT (destT n us)), bs) := by
 rcases destN_inv hn with h | h
 ·have h1 : us.length = 1 := by rcases h with rfl | rfl | rfl <;> simpa [arOk, PK, PAIR, ENC, AENC, SIGN, EXP, DEC, ADEC, OPEN, FST, SND, READ] using ha
  obtain ⟨a, rfl⟩ := List.length_eq_one_iff.1 h1
  simp only [goodL, Bool.and_eq_true] at hg
  simp only [massL] at hm
  exact dest_one n a bs h hg.1 (by unfold big; omega)
 ·have h1 : us.length = 2 := by rcases h with rfl | rfl | rfl <;> simpa [arOk] using ha
  match us, h1, hg, hm with
  | [a, b], _, hg, hm =>
   simp only [goodL, Bool.and_eq_true] at hg
   simp only [massL] at hm
   exact dest_two n a b bs h hg.1 hg.2.1 (by unfold big; omega) (by unfold big; omega)
theorem call243 {n : List UInt8} {us : List Tm} (bs : List (List AV)) (hn : destN n = true) (ha : arOk n us.length = true) (hg : goodL us = true) (hm : massL us < 20000000) : DsOk (destT n us) bs (call F.tb 243 [.agg (encT (.mk 3 n 0 us))] bs) := by
 rcases destN_inv hn with h | h
 ·have h1 : us.length = 1 := by rcases h with rfl | rfl | rfl <;> simpa [arOk, PK, PAIR, ENC, AENC, SIGN, EXP, DEC, ADEC, OPEN, FST, SND, READ] using ha
  obtain ⟨a, rfl⟩ := List.length_eq_one_iff.1 h1
  simp only [goodL, Bool.and_eq_true] at hg
  simp only [massL] at hm
  exact Rdest_one n a bs h hg.1 (by unfold big; omega)
 ·have h1 : us.length = 2 := by rcases h with rfl | rfl | rfl <;> simpa [arOk] using ha
  match us, h1, hg, hm with
  | [a, b], _, hg, hm =>
   simp only [goodL, Bool.and_eq_true] at hg
   simp only [massL] at hm
   exact Rdest_two n a b bs h hg.1 (by unfold big; omega) (by unfold big; omega)
def MX (us : List Tm) (n : List UInt8) : Prop := massL us + n.length + us.length < 15000000
set_option maxHeartbeats 2000000 in
theorem norm_r0 (t : Tm) (us : List Tm) (bs : List (List AV)) (ha : arOk t.name us.length = true) (hg : goodL us = true) (hm : MX us t.name) (ρ : Nat → AV) (h1 : ρ 1 = .bx (encT t)) (h2 : ρ 2 = .bx [.int .i64 0, .str [], .int .i64 0, .sl true 4 []])
  (h4 : ρ 4 = .bx [.int .i64 3, .str t.name, .int .i64 0, .sl true 4 (encTs us)]) : R F.tb F.f175r0 ρ bs (finK F.f175 bs) = some (encR (headN t.name us), bs) := by
 unfold MX at hm
 have hf := encT_fold 3 t.name 0 us
 have hgp : gpfreeE (encTs us) = true := encTs_gp us
 obtain ⟨n, hn⟩ : ∃ n, t.name = n := ⟨_, rfl⟩
 rw [hn] at ha hm h4 hf ⊢
 cases hd : destN n
 ·have hd' := hd
  simp only [destN, Bool.or_eq_false_iff] at hd'
  obtain ⟨⟨⟨⟨⟨d1, d2⟩, d3⟩, d4⟩, d5⟩, d6⟩ := hd'
  simp only [FST, SND, DEC, ADEC, OPEN, READ] at d1 d2 d3 d4 d5 d6
  by_cases hx : n = XOR
  ·subst hx
   have e : headN XOR us = sumX us := by simp [headN, hd]
   have hc := call_Sum us false bs (by omega) (by omega)
   rw [e]
   simp only [encR] at hc ⊢
   simp only [XOR] at *
   simp [F.f175r0, h1, h2, h4, hn, hc, F.f175R, F.f175K]
  ·by_cases hp : n = MUL ∨ n = INV ∨ n = ONE
   ·have e : headN n us = productT (.mk 3 n 0 us) := by simp only [headN, hd, hx, hp, if_true, if_false]; simp
    have hmass : (Tm.mk 3 n 0 us).mass < 20000000 := by simp only [Tm.mass]; omega
    have hc := call186 (.mk 3 n 0 us) bs (by omega)
    have hc2 := call196' false bs (km_ofP (.mk 3 n 0 us) 25000000 (by omega)) (ofP_len _)
    rw [← hf] at hc
    rw [e]
    by_cases c : ofE (.mk 3 n 0 us) = 0
    ·have e2 : productT (.mk 3 n 0 us) = termP (ofP (.mk 3 n 0 us)) := by simp [productT, c]
     rw [e2]
     simp only [encR] at hc2 ⊢
     rw [c] at hc
     generalize ofP (.mk 3 n 0 us) = P at *
     rcases hp with rfl | rfl | rfl
     ·simp only [MUL] at *
      simp [F.f175r0, h1, h2, h4, hn, hc, hc2, F.f175R, F.f175K]
     ·simp only [INV] at *
      simp [F.f175r0, h1, h2, h4, hn, hc, hc2, F.f175R, F.f175K]
     ·simp only [ONE] at *
      simp [F.f175r0, h1, h2, h4, hn, hc, hc2, F.f175R, F.f175K]
    ·have e2 : productT (.mk 3 n 0 us) = (zeroT, ofE (.mk 3 n 0 us)) := by simp [productT, c]
     rw [e2]
     generalize ofE (.mk 3 n 0 us) = E at *
     generalize ofP (.mk 3 n 0 us) = P at *
     rcases hp with rfl | rfl | rfl
     ·simp only [MUL] at *
      simp [F.f175r0, h1, h2, h4, hn, hc, c, F.f175R, F.f175K, encR_mk, encT_zero]
     ·simp only [INV] at *
      simp [F.f175r0, h1, h2, h4, hn, hc, c, F.f175R, F.f175K, encR_mk, encT_zero]
     ·simp only [ONE] at *
      simp [F.f175r0, h1, h2, h4, hn, hc, c, F.f175R, F.f175K, encR_mk, encT_zero]
   ·by_cases he : n = EXP
    ·have e : headN n us = powT (us.getD 0 zeroT) (us.getD 1 zeroT) := by subst he; simp only [headN, hd, if_neg hx, if_neg hp]; simp
     subst he
     have hl : us.length = 2 := by simpa [arOk] using ha
     match us, hl, hg, hm, h4, e with
     | [x, y], _, hg, hm, h4, e =>
      simp only [goodL, Bool.and_eq_true] at hg
      simp only [massL] at hm
      have hc := call199 x y bs hg.1 (by omega) (by omega)
      rw [e]
      simp only [encR] at hc ⊢
      simp only [List.getD_cons_zero, List.getD_cons_succ] at *
      simp only [EXP] at *
      simp [F.f175r0, h1, h2, h4, hn, hc, F.f175R, F.f175K]
    ·have e : headN n us = (.mk 3 n 0 us, 0) := by simp only [headN, hd, hx, hp, he, if_false]; simp
     rw [e]
     have b1 : (n == XOR) = false := by simpa using hx
     have b2 : (n == MUL) = false := by simp at hp ⊢; exact hp.1
     have b3 : (n == INV) = false := by simp at hp ⊢; exact hp.2.1
     have b4 : (n == ONE) = false := by simp at hp ⊢; exact hp.2.2
     have b5 : (n == EXP) = false := by simpa using he
     simp only [XOR, MUL, INV, ONE, EXP] at b1 b2 b3 b4 b5
     simp [F.f175r0, h1, h2, h4, hn, d1, d2, d3, d4, d5, d6, b1, b2, b3, b4, b5, F.f175R, F.f175K, encR_mk, encT_eq]
 ·have e : headN n us = (destT n us, 0) := by simp [headN, hd]
  have hc := call176 bs hd ha hg (by omega)
  rw [← hf] at hc
  rw [e]
  generalize destT n us = D at *
  rcases destN_inv hd with (rfl | rfl | rfl) | (rfl | rfl | rfl)
  ·simp only [FST] at *
   simp [F.f175r0, h1, h2, h4, hn, hc, F.f175R, F.f175K, encR_mk]
  ·simp only [SND] at *
   simp [F.f175r0, h1, h2, h4, hn, hc, F.f175R, F.f175K, encR_mk]
  ·simp only [READ] at *
   simp [F.f175r0, h1, h2, h4, hn, hc, F.f175R, F.f175K, encR_mk]
  ·simp only [DEC] at *
   simp [F.f175r0, h1, h2, h4, hn, hc, F.f175R, F.f175K, encR_mk]
  ·simp only [ADEC] at *
   simp [F.f175r0, h1, h2, h4, hn, hc, F.f175R, F.f175K, encR_mk]
  ·simp only [OPEN] at *
   simp [F.f175r0, h1, h2, h4, hn, hc, F.f175R, F.f175K, encR_mk]
def outN2 (n : List UInt8) (us : List Tm) (r : List Tm × Int) : Tm × Int := if r.2 = 0 then headN n (us ++ r.1) else (zeroT, r.2)
theorem norm_loop (t : Tm) (bs : List (List AV)) (hg : goodT t = true) (hk3 : t.kind = 3) (hm : t.mass + 13200 * t.nodes < 15000000) (ih : ∀ x ∈ t.kids, ∀ bs, call F.tb 175 [.agg (encT x)] bs = some (encR (normT x), bs)) :
  ∀ (post pre us : List Tm) (ρ : Nat → AV), t.kids = pre ++ post → us.length = pre.length → goodL us = true → massL us ≤ massL pre + 13200 * nodesL pre → ρ 1 = .bx (encT t) → ρ 2 = .bx [.int .i64 0, .str [], .int .i64 0, .sl true 4 []] →
   ρ 4 = .bx [.int .i64 3, .str t.name, .int .i64 0, .sl true 4 (encTs us)] → ρ 19 = .sl false 4 (encTs t.kids) → ρ 20 = .int .i64 t.kids.length → ρ 21 = .int .i64 pre.length →
  R F.tb (.loop F.f175l0) ρ bs (blockK 0 (seqK F.tb F.f175r0 (finK F.f175 bs))) = some (encR (outN2 t.name us (normL post)), bs) := by
 have hme := mass_eq t
 have hne := nodes_eq t
 intro post
 induction post with
 | nil =>
  intro pre us ρ hk hl hgu hmu h1 h2 h4 h19 h20 h21
  simp only [List.append_nil] at hk
  rw [← hk] at h21 hl hmu
  have har := (good_node hg hk3).2
  have hr := norm_r0 t us bs (by rw [hl]; exact har) hgu (by unfold MX; omega)
  have e : outN2 t.name us (normL []) = headN t.name us := by simp [outN2, normL]
  rw [R_loop' F.f175l0.eq_1, e]
  simp [h1, h2, h4, h19, h20, h21]
  apply hr <;> simp [h1, h2, h4]
 | cons x post IH =>
  intro pre us ρ hk hl hgu hmu h1 h2 h4 h19 h20 h21
  have hg2 := get_pre hk
  have hll : t.kids.length = pre.length + (post.length + 1) := by rw [hk]; simp
  have hw1 : IntKind.i64.wrap ((pre.length : Int) + 1) = (pre.length : Int) + 1 := wrap64 (by omega) (by omega)
  have hlt : (pre.length : Int) < (t.kids.length : Int) := by omega
  have hxk : x ∈ t.kids := by rw [hk]; simp
  have hc := ih x hxk bs
  obtain ⟨n1, n2⟩ := normT_ok x (goodL_mem.1 (good_kids hg) x hxk)
  simp only [encR] at hc
  rw [R_loop' F.f175l0.eq_1]
  by_cases c : (normT x).2 = 0
  ·have e : outN2 t.name us (normL (x :: post)) = outN2 t.name (us ++ [(normT x).1]) (normL post) := by
    simp only [outN2, normL, c, if_true]
    by_cases c2 : (normL post).2 = 0
    ·simp [c2]
    ·simp [c2]
   have hb : (us.length + 1) * 56 ≤ 140737488355328 := lim56 (by omega)
   have hi := fun ρ => IH (pre ++ [x]) (us ++ [(normT x).1]) ρ (by rw [hk]; simp) (by simp [hl]) (goodL_mem.2 fun y hy => by
    rcases List.mem_append.1 hy with hy | hy
    ·exact goodL_mem.1 hgu y hy
    ·simp at hy; subst hy; exact n1) (by rw [massL_append, massL_append, nodesL_append]; simp only [massL, nodesL]; omega)
   rw [e]
   simp [h1, h2, h4, h19, h20, h21, hg2, hlt, hw1, hc, c, hb, encTs_one, encTs_append]
   apply hi <;> simp [h1, h2, h19, h20]
  ·have e : outN2 t.name us (normL (x :: post)) = (zeroT, (normT x).2) := by simp [outN2, normL, c]
   rw [e]
   simp [h1, h2, h4, h19, h20, h21, hg2, hlt, hc, c, F.f175R, F.f175K, encR_mk, encT_zero]
theorem call175 : ∀ (t : Tm) (bs : List (List AV)), goodT t = true → t.mass + 13200 * t.nodes < 15000000 → call F.tb 175 [.agg (encT t)] bs = some (encR (normT t), bs) := by
 refine tm_ind ?_
 intro k n s ks ih bs hg hm
 have hme := mass_eq (.mk k n s ks)
 have hne := nodes_eq (.mk k n s ks)
 simp only [mk_kids, mk_name] at hme hne
 rw [call_code F.tb_175 _ _ rfl]
 by_cases hk : k = 3
 ·subst hk
  have hl := fun ρ => norm_loop (.mk 3 n s ks) bs hg rfl hm (fun x hx bs => ih x hx bs (goodL_mem.1 (good_kids hg) x hx) (by have h1 : x.mass ≤ massL ks := massL_mem hx; have h2 : x.nodes ≤ nodesL ks := nodesL_mem hx; omega)) ks [] [] ρ rfl rfl rfl (by simp [massL])
  have e : normT (.mk 3 n s ks) = outN2 n [] (normL ks) := by simp [normT, outN2]
  rw [e]
  simp only [mk_name, mk_kids] at hl
  simp [F.f175B, F.f175C]
  apply hl <;> simp [encTs]
 ·have e : normT (.mk k n s ks) = (.mk k n s ks, 0) := by simp [normT, hk]
  rw [e]
  simp [F.f175B, F.f175C, hk, F.f175R, F.f175K, encR_mk]
end Go.Am
namespace Go.Am
set_option maxRecDepth 8000
theorem findSy_mem2 {n : List UInt8} : ∀ {l : List Sy} {y : Sy}, findSy n l = some y → y ∈ l ∧ y.n = n
 | [], y, h => by simp [findSy] at h
 | s :: ss, y, h => by
  simp only [findSy] at h
  split at h
  ·rename_i hs; injection h with h; subst h; exact ⟨by simp, hs⟩
  ·obtain ⟨h1, h2⟩ := findSy_mem2 h; exact ⟨by simp [h1], h2⟩
theorem sym_dest : symL.all (fun y => !(y.k == 3) || destN y.n) = true := by decide
def kindN (n : List UInt8) : Int := match findSy n symL with | some y => y.k | none => 0
theorem kind3 (n : List UInt8) : decide (kindN n = 3) = destN n := by
 unfold kindN
 cases hd : destN n
 ·cases hf : findSy n symL with
  | none => simp
  | some y =>
   obtain ⟨h1, h2⟩ := findSy_mem2 hf
   have h3 := List.all_eq_true.1 sym_dest y h1
   rw [h2, hd] at h3
   simpa using h3
 ·rcases destN_inv hd with (rfl | rfl | rfl) | (rfl | rfl | rfl) <;> simp [FST, SND, DEC, ADEC, OPEN, READ, findSy, symL]
theorem call128 (n : List UInt8) (bs : List (List AV)) : call F.tb 128 [.str n] bs = some (.int .i64 (kindN n), bs) := call_Kind n bs
set_option maxHeartbeats 4000000 in
theorem Rnorm_r0 (t : Tm) (us : List Tm) (bs : List (List AV)) (ha : arOk t.name us.length = true) (hg : goodL us = true) (hm : MX us t.name) (ρ : Nat → AV) (h1 : ρ 1 = .bx (encT t)) (h2 : ρ 2 = .bx [.int .i64 0, .str [], .int .i64 0, .sl true 4 []])
  (h4 : ρ 4 = .sl true 4 (encTs us)) : R F.tb F.f242r0 ρ bs (finK F.f242 bs) = some (encR (headN t.name us), bs) := by
 unfold MX at hm
 obtain ⟨n, hn⟩ : ∃ n, t.name = n := ⟨_, rfl⟩
 rw [hn] at ha hm ⊢
 have hap := call120 n us false bs (by omega)
 have hkn := call128 n bs
 have hk3 := kind3 n
 cases hd : destN n
 ·rw [hd] at hk3
  have hk3' : ¬ kindN n = 3 := by simpa using hk3
  generalize kindN n = KK at *
  by_cases hx : n = XOR
  ·subst hx
   have e : headN XOR us = sumX us := by simp [headN, hd]
   have hc := call_RSum8 us false bs (by omega) (by omega)
   rw [e]
   simp only [encR] at hc ⊢
   simp only [XOR] at *
   simp [F.f242r0, h1, h2, h4, hn, hap, hkn, hk3', hc, F.f242R, F.f242K]
  ·have b1 : (n == XOR) = false := by simpa using hx
   simp only [XOR] at b1
   by_cases hp : n = MUL ∨ n = INV ∨ n = ONE
   ·have e : headN n us = productT (.mk 3 n 0 us) := by simp only [headN, hd, hx, hp, if_true, if_false]; simp
    have hmass : (Tm.mk 3 n 0 us).mass < 20000000 := by simp only [Tm.mass]; omega
    have hc := call252 (.mk 3 n 0 us) bs (by omega)
    rw [e]
    simp only [encR] at hc ⊢
    generalize productT (.mk 3 n 0 us) = P at *
    rcases hp with rfl | rfl | rfl
    ·simp only [MUL] at *
     simp [F.f242r0, h1, h2, h4, hn, hap, hkn, hk3', hc, F.f242R, F.f242K]
    ·simp only [INV] at *
     simp [F.f242r0, h1, h2, h4, hn, hap, hkn, hk3', hc, F.f242R, F.f242K]
    ·simp only [ONE] at *
     simp [F.f242r0, h1, h2, h4, hn, hap, hkn, hk3', hc, F.f242R, F.f242K]
   ·by_cases he : n = EXP
    ·have e : headN n us = powT (us.getD 0 zeroT) (us.getD 1 zeroT) := by subst he; simp only [headN, hd, if_neg hx, if_neg hp]; simp
     subst he
     have hl : us.length = 2 := by simpa [arOk] using ha
     match us, hl, hg, hm, h4, e, hap with
     | [x, y], _, hg, hm, h4, e, hap =>
      simp only [goodL, Bool.and_eq_true] at hg
      simp only [massL] at hm
      have hc := call261 x y bs hg.1 (by omega) (by omega)
      rw [e]
      simp only [encR] at hc ⊢
      simp only [List.getD_cons_zero, List.getD_cons_succ] at *
      simp only [EXP] at *
      simp [F.f242r0, h1, h2, h4, hn, hap, hkn, hk3', hc, F.f242R, F.f242K]
    ·have e : headN n us = (.mk 3 n 0 us, 0) := by simp only [headN, hd, hx, hp, he, if_false]; simp
     rw [e]
     have b2 : (n == MUL) = false := by simp at hp ⊢; exact hp.1
     have b3 : (n == INV) = false := by simp at hp ⊢; exact hp.2.1
     have b4 : (n == ONE) = false := by simp at hp ⊢; exact hp.2.2
     have b5 : (n == EXP) = false := by simpa using he
     simp only [MUL, INV, ONE, EXP] at b2 b3 b4 b5
     simp [F.f242r0, h1, h2, h4, hn, hap, hkn, hk3', b1, b2, b3, b4, b5, F.f242R, F.f242K, encR_mk]
 ·rw [hd] at hk3
  have hk3' : kindN n = 3 := by simpa using hk3
  rw [hk3'] at hkn
  have e : headN n us = (destT n us, 0) := by simp [headN, hd]
  obtain ⟨b, hc⟩ := call243 bs hd ha hg (by omega)
  rw [e]
  generalize destT n us = D at *
  simp [F.f242r0, h1, h2, h4, hn, hap, hkn, hc, F.f242R, F.f242K, encR_mk]
theorem Rnorm_loop (t : Tm) (bs : List (List AV)) (hg : goodT t = true) (hk3 : t.kind = 3) (hm : t.mass + 13200 * t.nodes < 15000000) (ih : ∀ x ∈ t.kids, ∀ bs, call F.tb 242 [.agg (encT x)] bs = some (encR (normT x), bs)) :
  ∀ (post pre us : List Tm) (ρ : Nat → AV), t.kids = pre ++ post → us.length = pre.length → goodL us = true → massL us ≤ massL pre + 13200 * nodesL pre → ρ 1 = .bx (encT t) → ρ 2 = .bx [.int .i64 0, .str [], .int .i64 0, .sl true 4 []] →
   ρ 4 = .sl true 4 (encTs us) → ρ 5 = .int .i64 pre.length →
  R F.tb (.loop F.f242l0) ρ bs (blockK 0 (seqK F.tb F.f242r0 (finK F.f242 bs))) = some (encR (outN2 t.name us (normL post)), bs) := by
 have hme := mass_eq t
 have hne := nodes_eq t
 intro post
 induction post with
 | nil =>
  intro pre us ρ hk hl hgu hmu h1 h2 h4 h5
  simp only [List.append_nil] at hk
  rw [← hk] at h5 hl hmu
  have har := (good_node hg hk3).2
  have hr := Rnorm_r0 t us bs (by rw [hl]; exact har) hgu (by unfold MX; omega)
  have e : outN2 t.name us (normL []) = headN t.name us := by simp [outN2, normL]
  rw [R_loop' F.f242l0.eq_1, e]
  simp [h1, h2, h4, h5]
  apply hr <;> simp [h1, h2, h4]
 | cons x post IH =>
  intro pre us ρ hk hl hgu hmu h1 h2 h4 h5
  have hg2 := get_pre hk
  have hll : t.kids.length = pre.length + (post.length + 1) := by rw [hk]; simp
  have hw1 : IntKind.i64.wrap ((pre.length : Int) + 1) = (pre.length : Int) + 1 := wrap64 (by omega) (by omega)
  have hlt : (pre.length : Int) < (t.kids.length : Int) := by omega
  have hxk : x ∈ t.kids := by rw [hk]; simp
  have hc := ih x hxk bs
  obtain ⟨n1, n2⟩ := normT_ok x (goodL_mem.1 (good_kids hg) x hxk)
  simp only [encR] at hc
  rw [R_loop' F.f242l0.eq_1]
  by_cases c : (normT x).2 = 0
  ·have e : outN2 t.name us (normL (x :: post)) = outN2 t.name (us ++ [(normT x).1]) (normL post) := by
    simp only [outN2, normL, c, if_true]
    by_cases c2 : (normL post).2 = 0
    ·simp [c2]
    ·simp [c2]
   have hb : (us.length + 1) * 56 ≤ 140737488355328 := lim56 (by omega)
   have hi := fun ρ => IH (pre ++ [x]) (us ++ [(normT x).1]) ρ (by rw [hk]; simp) (by simp [hl]) (goodL_mem.2 fun y hy => by
    rcases List.mem_append.1 hy with hy | hy
    ·exact goodL_mem.1 hgu y hy
    ·simp at hy; subst hy; exact n1) (by rw [massL_append, massL_append, nodesL_append]; simp only [massL, nodesL]; omega)
   rw [e]
   simp [h1, h2, h4, h5, hg2, hlt, hw1, hc, c, hb, encTs_one, encTs_append]
   apply hi <;> simp [h1, h2]
  ·have e : outN2 t.name us (normL (x :: post)) = (zeroT, (normT x).2) := by simp [outN2, normL, c]
   rw [e]
   simp [h1, h2, h4, h5, hg2, hlt, hc, c, F.f242R, F.f242K, encR_mk, encT_zero]
theorem call242 : ∀ (t : Tm) (bs : List (List AV)), goodT t = true → t.mass + 13200 * t.nodes < 15000000 → call F.tb 242 [.agg (encT t)] bs = some (encR (normT t), bs) := by
 refine tm_ind ?_
 intro k n s ks ih bs hg hm
 have hme := mass_eq (.mk k n s ks)
 have hne := nodes_eq (.mk k n s ks)
 simp only [mk_kids, mk_name] at hme hne
 rw [call_code F.tb_242 _ _ rfl]
 by_cases hk : k = 3
 ·subst hk
  have hl := fun ρ => Rnorm_loop (.mk 3 n s ks) bs hg rfl hm (fun x hx bs => ih x hx bs (goodL_mem.1 (good_kids hg) x hx) (by have h1 : x.mass ≤ massL ks := massL_mem hx; have h2 : x.nodes ≤ nodesL ks := nodesL_mem hx; omega)) ks [] [] ρ rfl rfl rfl (by simp [massL])
  have e : normT (.mk 3 n s ks) = outN2 n [] (normL ks) := by simp [normT, outN2]
  rw [e]
  simp only [mk_name, mk_kids] at hl
  simp [F.f242B, F.f242C]
  apply hl <;> simp [encTs]
 ·have e : normT (.mk k n s ks) = (.mk k n s ks, 0) := by simp [normT, hk]
  rw [e]
  simp [F.f242B, F.f242C, hk, F.f242R, F.f242K, encR_mk]
end Go.Am
namespace Go.Am
set_option maxRecDepth 8000
def normV (t : Tm) : Tm × Int := if thV t ≠ 0 then (zeroT, thV t) else if (normT t).2 ≠ 0 then (zeroT, (normT t).2) else if validT (normT t).1 ≠ 0 then (zeroT, validT (normT t).1) else ((normT t).1, 0)
theorem thV_inv {t : Tm} (h : thV t = 0) : validT t = 0 ∧ chkT t = 0 ∧ goodT t = true ∧ t.mass ≤ 13200 ∧ t.nodes ≤ 400 := by
 unfold thV at h
 split at h
 ·rename_i h1; exact absurd h h1
 ·rename_i h1
  have h2 : validT t = 0 := by simpa using h1
  obtain ⟨a, b, c⟩ := validT_inv h2
  exact ⟨h2, h, good_valid t a h, c, b⟩
theorem normV_mass (t : Tm) : (normV t).1.mass ≤ 13200 := by
 unfold normV
 split
 ·show zeroT.mass ≤ _; rw [zero_mass]; omega
 ·split
  ·show zeroT.mass ≤ _; rw [zero_mass]; omega
  ·split
   ·show zeroT.mass ≤ _; rw [zero_mass]; omega
   ·rename_i h; exact (validT_inv (by simpa using h)).2.2
theorem call174 (t : Tm) (bs : List (List AV)) (hm : t.mass < big) : call F.tb 174 [.agg (encT t)] bs = some (encR (normV t), bs) := by
 have h1 := call_thValid t bs hm
 rw [call_code F.tb_174 _ _ rfl]
 by_cases c1 : thV t = 0
 ·obtain ⟨_, _, hg, hma, hno⟩ := thV_inv c1
  have h2 := call175 t bs hg (by omega)
  obtain ⟨n1, n2⟩ := normT_ok t hg
  have h3 := call_Valid (normT t).1 bs (by unfold big; omega)
  simp only [encR] at h2
  by_cases c2 : (normT t).2 = 0
  ·by_cases c3 : validT (normT t).1 = 0
   ·have e : normV t = ((normT t).1, 0) := by simp [normV, c1, c2, c3]
    rw [e]
    simp [F.f174B, F.f174C, F.f174R, F.f174K, h1, h2, h3, c1, c2, c3, encR_mk]
   ·have e : normV t = (zeroT, validT (normT t).1) := by simp [normV, c1, c2, c3]
    rw [e]
    simp [F.f174B, F.f174C, F.f174R, F.f174K, h1, h2, h3, c1, c2, c3, encR_mk, encT_zero]
  ·have e : normV t = (zeroT, (normT t).2) := by simp [normV, c1, c2]
   rw [e]
   simp [F.f174B, F.f174C, F.f174R, F.f174K, h1, h2, c1, c2, encR_mk, encT_zero]
 ·have e : normV t = (zeroT, thV t) := by simp [normV, c1]
  rw [e]
  simp [F.f174B, F.f174C, F.f174R, F.f174K, h1, c1, encR_mk, encT_zero]
theorem call241 (t : Tm) (bs : List (List AV)) (hm : t.mass < big) : call F.tb 241 [.agg (encT t)] bs = some (encR (normV t), bs) := by
 have h1 := call_R9Valid t bs hm
 rw [call_code F.tb_241 _ _ rfl]
 by_cases c1 : thV t = 0
 ·obtain ⟨_, _, hg, hma, hno⟩ := thV_inv c1
  have h2 := call242 t bs hg (by omega)
  obtain ⟨n1, n2⟩ := normT_ok t hg
  have h3 := call_RValid1 (normT t).1 bs (by unfold big; omega)
  simp only [encR] at h2
  by_cases c2 : (normT t).2 = 0
  ·by_cases c3 : validT (normT t).1 = 0
   ·have e : normV t = ((normT t).1, 0) := by simp [normV, c1, c2, c3]
    rw [e]
    simp [F.f241B, F.f241C, F.f241R, F.f241K, h1, h2, h3, c1, c2, c3, encR_mk]
   ·have e : normV t = (zeroT, validT (normT t).1) := by simp [normV, c1, c2, c3]
    rw [e]
    simp [F.f241B, F.f241C, F.f241R, F.f241K, h1, h2, h3, c1, c2, c3, encR_mk, encT_zero]
  ·have e : normV t = (zeroT, (normT t).2) := by simp [normV, c1, c2]
   rw [e]
   simp [F.f241B, F.f241C, F.f241R, F.f241K, h1, h2, c1, c2, encR_mk, encT_zero]
 ·have e : normV t = (zeroT, thV t) := by simp [normV, c1]
  rw [e]
  simp [F.f241B, F.f241C, F.f241R, F.f241K, h1, c1, encR_mk, encT_zero]
theorem call206 (n : List UInt8) (bs : List (List AV)) : call F.tb 206 [.str n] bs = some (.bool (!destN n), bs) := by
 have h := call_symbol n bs
 have hk := kind3 n
 rw [call_code F.tb_206 _ _ rfl, ← hk]
 unfold kindN
 cases hf : findSy n symL with
 | none =>
  rw [hf] at h
  simp [F.f206B, F.f206C, F.f206R, F.f206K, h]
 | some y =>
  rw [hf] at h
  simp [F.f206B, F.f206C, F.f206R, F.f206K, h, encY]
def ndN (t : Tm) : Bool := !(decide (t.kind = 3) && destN t.name)
mutual
def evT : Tm → Bool
 | .mk k n s ks => ndN (.mk k n s ks) && evL ks
def evL : List Tm → Bool
 | [] => true
 | t :: ts => evT t && evL ts
end
theorem evT_eq (t : Tm) : evT t = (ndN t && evL t.kids) := by cases t; simp [evT]
mutual
theorem evT_all : ∀ t : Tm, evT t = (allT t).all ndN
 | .mk k n s ks => by simp only [evT, allT, List.all_cons, evL_all ks]
theorem evL_all : ∀ ts : List Tm, evL ts = (allL ts).all ndN
 | [] => rfl
 | t :: ts => by simp only [evL, allL, List.all_append, evT_all t, evL_all ts]
end
theorem every_loop (t : Tm) (bs : List (List AV)) (hm : t.mass < big) (ih : ∀ x ∈ t.kids, ∀ bs, call F.tb 207 [.agg (encT x), .fn 206 []] bs = some (.bool (evT x), bs)) :
  ∀ (post pre : List Tm) (ρ : Nat → AV), t.kids = pre ++ post → ρ 1 = .fn 206 [] → ρ 18 = .sl false 4 (encTs t.kids) → ρ 19 = .int .i64 t.kids.length → ρ 20 = .int .i64 pre.length →
  R F.tb (.loop F.f207l0) ρ bs (blockK 0 (seqK F.tb F.f207r0 (finK F.f207 bs))) = some (.bool (evL post), bs) := by
 have hm2 := mass_eq t
 unfold big at hm
 intro post
 induction post with
 | nil =>
  intro pre ρ hk h1 h18 h19 h20
  simp only [List.append_nil] at hk
  rw [← hk] at h20
  rw [R_loop' F.f207l0.eq_1]
  simp [h1, h18, h19, h20, F.f207r0, F.f207R, F.f207K, evL]
 | cons x post IH =>
  intro pre ρ hk h1 h18 h19 h20
  have hg := get_pre hk
  have hll : t.kids.length = pre.length + (post.length + 1) := by rw [hk]; simp
  have hw1 : IntKind.i64.wrap ((pre.length : Int) + 1) = (pre.length : Int) + 1 := wrap64 (by omega) (by omega)
  have hlt : (pre.length : Int) < (t.kids.length : Int) := by omega
  have hc := ih x (by rw [hk]; simp) bs
  rw [R_loop' F.f207l0.eq_1]
  cases hb : evT x
  ·simp [h1, h18, h19, h20, hg, hlt, hc, hb, F.f207R, F.f207K, evL]
  ·have h2 := fun ρ => IH (pre ++ [x]) ρ (by rw [hk]; simp)
   simp [h1, h18, h19, h20, hg, hlt, hw1, hc, hb, evL]
   apply h2 <;> simp [h1, h18, h19]
theorem call207 : ∀ (t : Tm) (bs : List (List AV)), t.mass < big → call F.tb 207 [.agg (encT t), .fn 206 []] bs = some (.bool (evT t), bs) := by
 refine tm_ind ?_
 intro k n s ks ih bs hm
 have hl := fun ρ => every_loop (.mk k n s ks) bs hm (fun x hx bs => ih x hx bs (by have h1 : x.mass ≤ massL ks := massL_mem hx; have := mass_eq (.mk k n s ks); simp only [mk_kids] at this; omega)) ks [] ρ rfl
 have h2 := call206 n bs
 simp only [mk_kids] at hl
 rw [call_code F.tb_207 _ _ rfl, evT_eq]
 by_cases hk : k = 3
 ·cases hd : destN n
  ·have e : ndN (.mk k n s ks) = true := by simp [ndN, hd]
   rw [e]
   simp [F.f207B, F.f207C, hk, hd, h2]
   apply hl <;> simp
  ·have e : ndN (.mk k n s ks) = false := by simp [ndN, hd, hk]
   rw [e]
   simp [F.f207B, F.f207C, hk, hd, h2, F.f207R, F.f207K]
 ·have e : ndN (.mk k n s ks) = true := by simp [ndN, hk]
  rw [e]
  simp [F.f207B, F.f207C, hk]
  apply hl <;> simp
def plainB (t : Tm) : Bool := decide ((normV t).2 = 0) && decide (cmpT (normV t).1 t = 0) && evT t
theorem call173 (t : Tm) (bs : List (List AV)) (hm : t.mass < big) : call F.tb 173 [.agg (encT t)] bs = some (.bool (plainB t), bs) := by
 have h1 := call174 t bs hm
 have hnm := normV_mass t
 have h2 := call177 (normV t).1 t bs (by unfold big; omega) hm
 have h3 := call207 t bs hm
 simp only [encR] at h1
 rw [call_code F.tb_173 _ _ rfl]
 by_cases c1 : (normV t).2 = 0
 ·by_cases c2 : cmpT (normV t).1 t = 0
  ·simp [F.f173B, F.f173C, F.f173R, F.f173K, h1, h2, h3, c1, c2, plainB]
  ·simp [F.f173B, F.f173C, F.f173R, F.f173K, h1, h2, h3, c1, c2, plainB]
 ·simp [F.f173B, F.f173C, F.f173R, F.f173K, h1, c1, plainB]
theorem Rplain_loop (l : List Tm) (bs : List (List AV)) (hl : l.length < 100000000) : ∀ (post pre : List Tm) (o : Bool) (ρ : Nat → AV), l = pre ++ post → ρ 5 = .sl o 4 (encTs l) → ρ 6 = .int .i64 pre.length →
  R F.tb (.loop F.f240l0) ρ bs (blockK 0 (seqK F.tb F.f240r0 (finK F.f240 bs))) = some (.bool (post.all ndN), bs) := by
 intro post
 induction post with
 | nil =>
  intro pre o ρ hk h5 h6
  simp only [List.append_nil] at hk
  rw [← hk] at h6
  rw [R_loop' F.f240l0.eq_1]
  simp [h5, h6, F.f240r0, F.f240R, F.f240K]
 | cons x post IH =>
  intro pre o ρ hk h5 h6
  have hg := get_pre hk
  have hll : l.length = pre.length + (post.length + 1) := by rw [hk]; simp
  have hw1 : IntKind.i64.wrap ((pre.length : Int) + 1) = (pre.length : Int) + 1 := wrap64 (by omega) (by omega)
  have hlt : (pre.length : Int) < (l.length : Int) := by omega
  have hc := call128 x.name bs
  have hk3 := kind3 x.name
  have h2 := fun ρ => IH (pre ++ [x]) o ρ (by rw [hk]; simp)
  rw [List.all_cons]
  rw [R_loop' F.f240l0.eq_1]
  by_cases ck : x.kind = 3
  ·cases hd : destN x.name
   ·rw [hd] at hk3
    have hk3' : ¬ kindN x.name = 3 := by simpa using hk3
    have e : ndN x = true := by simp [ndN, hd]
    rw [e, Bool.true_and]
    generalize kindN x.name = KK at *
    simp [h5, h6, hg, hlt, hw1, hc, ck, hk3', -List.all_eq_true]
    apply h2 <;> simp [h5]
   ·rw [hd] at hk3
    have hk3' : kindN x.name = 3 := by simpa using hk3
    have e : ndN x = false := by simp [ndN, hd, ck]
    rw [e, Bool.false_and]
    simp [h5, h6, hg, hlt, hc, ck, hk3', F.f240R, F.f240K]
  ·have e : ndN x = true := by simp [ndN, ck]
   rw [e, Bool.true_and]
   simp [h5, h6, hg, hlt, hw1, ck, -List.all_eq_true]
   apply h2 <;> simp [h5]
theorem call240 (t : Tm) (bs : List (List AV)) (hm : t.mass < 1000000) : call F.tb 240 [.agg (encT t)] bs = some (.bool (plainB t), bs) := by
 have hmb : t.mass < big := by unfold big; omega
 have h1 := call241 t bs hmb
 have hnm := normV_mass t
 have h2 := call_RSame t (normV t).1 bs hmb (by unfold big; omega)
 have hsym : decide (cmpT t (normV t).1 = 0) = decide (cmpT (normV t).1 t = 0) := by
  have := cmpT_anti t (normV t).1
  rw [decide_eq_decide]; omega
 rw [hsym] at h2
 have h3 := call_All t bs (by omega)
 have hlen := allT_len t
 have hnn := nodes_le_mass t
 have h4 := fun o ρ => Rplain_loop (allT t) bs (by omega) (allT t) [] o ρ rfl
 simp only [encR] at h1
 rw [call_code F.tb_240 _ _ rfl]
 have e : plainB t = (decide ((normV t).2 = 0) && decide (cmpT (normV t).1 t = 0) && (allT t).all ndN) := by rw [← evT_all]; rfl
 rw [e]
 by_cases c1 : (normV t).2 = 0
 ·by_cases c2 : cmpT (normV t).1 t = 0
  ·simp [F.f240B, F.f240C, h1, h2, h3, c1, c2, -List.all_eq_true]
   refine h4 false _ ?_ ?_ <;> simp
  ·simp [F.f240B, F.f240C, F.f240R, F.f240K, h1, h2, c1, c2]
 ·simp [F.f240B, F.f240C, F.f240R, F.f240K, h1, c1]
end Go.Am
namespace Go.Am
set_option maxRecDepth 8000
def digB (c : UInt8) : Bool := decide (48 ≤ c.toNat) && decide (c.toNat ≤ 57)
def DIGS : List UInt8 := [48, 49, 50, 51, 52, 53, 54, 55, 56, 57]
theorem digs_fin : ∀ d : Fin 256, DIGS.contains (UInt8.ofNat d.val) = digB (UInt8.ofNat d.val) := by decide
theorem digs_mem (c : UInt8) : DIGS.contains c = digB c := by
 have h := digs_fin ⟨c.toNat, c.toNat_lt⟩
 simp only [UInt8.ofNat_toNat] at h
 exact h
theorem dw_nil {p : UInt8 → Bool} : ∀ {l : List UInt8}, l.dropWhile p = [] ↔ ∀ x ∈ l, p x = true
 | [] => by simp
 | a :: l => by
  rw [List.dropWhile_cons]
  cases h : p a
  ·simp [h]
  ·simp [h, dw_nil (l := l)]
theorem trim_nil (s : List UInt8) : (Lib.trimS s DIGS == []) = s.all digB := by
 have hp : (fun b => DIGS.contains b) = digB := funext digs_mem
 cases hs : s.all digB
 ·have hne : Lib.trimS s DIGS ≠ [] := by
   intro e
   unfold Lib.trimS Lib.trimLeftS Lib.trimRightS at e
   rw [hp] at e
   have h1 := dw_nil.1 e
   cases hw : s.reverse.dropWhile digB with
   | nil =>
    have h2 := dw_nil.1 hw
    have : s.all digB = true := List.all_eq_true.2 fun x hx => h2 x (by simpa using hx)
    rw [hs] at this; cases this
   | cons x r =>
    have h2 : digB x = false := by
     have := List.head_dropWhile_not digB (l := s.reverse) (by rw [hw]; simp)
     simpa [hw] using this
    have h3 := h1 x (by rw [hw]; simp)
    rw [h2] at h3; cases h3
  simpa using hne
 ·have : Lib.trimS s DIGS = [] := by
   unfold Lib.trimS Lib.trimLeftS Lib.trimRightS
   rw [hp]
   have : s.reverse.dropWhile digB = [] := dw_nil.2 fun x hx => List.all_eq_true.1 hs x (by simpa using hx)
   rw [this]; rfl
  simp [this]
def ownB (s : List UInt8) : Bool := match s with
 | 101 :: 35 :: c :: r => (c :: r).all digB
 | _ => false
def pubT (t : Tm) : Bool :=
 if t.kind = 3 then (t.name == ZERO || t.name == ONE) && decide (t.kids.length = 0)
 else if t.kind = 2 then (if t.sort = 1 ∨ t.sort = 5 then true else if t.sort = 4 then t.name == [103] || ownB t.name else if t.sort = 0 ∨ t.sort = 2 ∨ t.sort = 3 then ownB t.name else false)
 else false
def digS (s : List UInt8) : Bool := !(s == []) && s.all digB
theorem call163 (s : List UInt8) (bs : List (List AV)) (hs : s.length < 4294967281) : call F.tb 163 [.str s] bs = some (.bool (digS s), bs) := by
 have ht : call F.tb 164 [.str s, .str DIGS] bs = some (.str (Lib.trimS s DIGS), bs) := by
  rw [call_orc F.tb_164]
  have hc : (DIGS.all (· < 128) && decide (s.length < 4294967281) && decide (DIGS.length < 4294967281)) = true := by
   rw [show DIGS.all (· < 128) = true from by decide]
   simp [hs, DIGS]
  simp only [pureOrc, trimO, hc, if_true]
  rfl
 have hn := trim_nil s
 rw [call_code F.tb_163 _ _ rfl]
 simp only [DIGS] at ht hn
 cases he : s == []
 ·simp [F.f163B, F.f163C, F.f163R, F.f163K, ht, hn, he, digS, bne, -List.all_eq_true]
 ·simp [F.f163B, F.f163C, F.f163R, F.f163K, ht, hn, he, digS, bne, -List.all_eq_true]
def cutB (s : List UInt8) : Bool := decide (2 ≤ s.length) && (s.take 2 == [101, 35])
theorem call75 (s : List UInt8) (bs : List (List AV)) : call F.tb 75 [.str s, .str [101, 35]] bs = some (.bool (cutB s), bs) := by
 rw [call_code F.tb_75 _ _ rfl]
 by_cases h : 2 ≤ s.length
 ·have h' : (2 : Int) ≤ (s.length : Int) := by omega
  simp [F.f75B, F.f75C, F.f75R, F.f75K, cutB, h, h']
 ·have h' : ¬ (2 : Int) ≤ (s.length : Int) := by omega
  simp [F.f75B, F.f75C, F.f75R, F.f75K, cutB, h, h']
theorem call73 (s : List UInt8) (bs : List (List AV)) : call F.tb 73 [.str s, .str [101, 35]] bs = some (.tup [.str (if cutB s then s.drop 2 else s), .bool (cutB s)], bs) := by
 have h1 := call75 s bs
 have h2 : call F.tb 74 [.str s, .str [101, 35]] bs = some (.tup [.str (if cutB s then s.drop 2 else s), .bool (cutB s)], bs) := by
  rw [call_code F.tb_74 _ _ rfl]
  cases hc : cutB s
  ·simp [F.f74B, F.f74C, F.f74R, F.f74K, h1, hc]
  ·have hl : 2 ≤ s.length := by simp [cutB] at hc; exact hc.1
   have hl' : (2 : Int) ≤ (s.length : Int) := by omega
   simp [F.f74B, F.f74C, F.f74R, F.f74K, h1, hc, hl, hl']
 rw [call_code F.tb_73 _ _ rfl]
 generalize (if cutB s then s.drop 2 else s) = w at *
 simp [F.f73B, F.f73C, F.f73R, F.f73K, h2]
theorem own_cut (s : List UInt8) : (cutB s && digS (if cutB s then s.drop 2 else s)) = ownB s := by
 cases hc : cutB s
 ·rw [Bool.false_and]
  unfold ownB
  split
  ·simp [cutB] at hc
  ·rfl
 ·simp only [if_true, Bool.true_and]
  match s, hc with
  | [], hc => simp [cutB] at hc
  | [_], hc => simp [cutB] at hc
  | [a, b], hc => 
   simp [cutB] at hc
   obtain ⟨rfl, rfl⟩ := hc
   rfl
  | a :: b :: c :: r, hc =>
   simp [cutB] at hc
   obtain ⟨rfl, rfl⟩ := hc
   simp [digS, ownB]
theorem ix_str (x a b : List UInt8) (bs : List (List AV)) : call F.tb 162 [.sl false 1 [[.str a], [.str b]], .str x] bs = some (.int .i64 (if x == a then 0 else if x == b then 1 else -1), bs) := by
 rw [call_code F.tb_162 _ _ rfl]
 simp [F.f162B, F.f162C]
 rw [R_loop' F.f162l0.eq_1]
 cases h1 : x == a
 ·have g1 : ¬ x = a := by simpa using h1
  simp [h1, g1]
  rw [R_loop' F.f162l0.eq_1]
  cases h2 : x == b
  ·have hw : IntKind.i64.wrap 1 = 1 := rfl
   have hw2 : IntKind.i64.wrap 2 = 2 := rfl
   have g2 : ¬ x = b := by simpa using h2
   simp [h2, hw, hw2, g2]
   rw [R_loop' F.f162l0.eq_1]
   simp [F.f162r0, F.f162R, F.f162K]
  ·have hw : IntKind.i64.wrap 1 = 1 := rfl
   have g2 : x = b := by simpa using h2
   simp [h2, hw, ← g2, F.f162R, F.f162K]
 ·have g1 : x = a := by simpa using h1
  simp [h1, ← g1, F.f162R, F.f162K]
theorem call160 (t : Tm) (bs : List (List AV)) (hk : t.kind = 3) : call F.tb 160 [.agg (encT t), .sl false 1 [[.str ZERO], [.str ONE]]] bs = some (.bool (t.name == ZERO || t.name == ONE), bs) := by
 have h := ix_str t.name ZERO ONE bs
 have h2 : call F.tb 161 [.sl false 1 [[.str ZERO], [.str ONE]], .str t.name] bs = some (.bool (t.name == ZERO || t.name == ONE), bs) := by
  rw [call_code F.tb_161 _ _ rfl]
  cases h1 : t.name == ZERO
  ·cases h3 : t.name == ONE <;> simp [h1, h3] at h <;> simp [F.f161B, F.f161C, F.f161R, F.f161K, h]
  ·simp [h1] at h
   simp [F.f161B, F.f161C, F.f161R, F.f161K, h]
 rw [call_code F.tb_160 _ _ rfl]
 simp [F.f160B, F.f160C, F.f160R, F.f160K, hk, h2]
theorem call159 (t : Tm) (bs : List (List AV)) (hm : t.mass < 1000000) : call F.tb 159 [.agg (encT t)] bs = some (.bool (pubT t), bs) := by
 have hme := mass_eq t
 rw [call_code F.tb_159 _ _ rfl]
 by_cases hk : t.kind = 3
 ·have h1 := call160 t bs hk
  simp only [ZERO, ONE] at h1
  cases hz : (t.name == [122, 101, 114, 111] || t.name == [111, 110, 101])
  ·rw [hz] at h1
   simp [F.f159B, F.f159C, F.f159R, F.f159K, hk, h1, pubT, ZERO, ONE, hz]
   try (simp at hz; simp [hz])
  ·rw [hz] at h1
   by_cases hl : t.kids = []
   ·simp [F.f159B, F.f159C, F.f159R, F.f159K, hk, h1, pubT, ZERO, ONE, hz, hl]
   ·have hl0 : ¬ t.kids.length = 0 := fun e => hl (List.eq_nil_of_length_eq_zero e)
    have hl' : ¬ (t.kids.length : Int) = 0 := by omega
    simp [F.f159B, F.f159C, F.f159R, F.f159K, hk, h1, pubT, ZERO, ONE, hl, hl']
 ·by_cases hk2 : t.kind = 2
  ·have h1 := call73 t.name bs
   have h2 := call163 (if cutB t.name then t.name.drop 2 else t.name) bs (by
    split
    ·rw [List.length_drop]; omega
    ·omega)
   have ho := own_cut t.name
   generalize (if cutB t.name then t.name.drop 2 else t.name) = w at *
   have hp : pubT t = if t.sort = 1 ∨ t.sort = 5 then true else if t.sort = 4 then t.name == [103] || ownB t.name else if t.sort = 0 ∨ t.sort = 2 ∨ t.sort = 3 then ownB t.name else false := by
    unfold pubT; rw [if_neg hk, if_pos hk2]
   rw [hp]
   generalize ownB t.name = O at *
   by_cases s1 : t.sort = 1
   ·simp [F.f159B, F.f159C, F.f159R, F.f159K, hk2, h1, s1]
   ·by_cases s5 : t.sort = 5
    ·simp [F.f159B, F.f159C, F.f159R, F.f159K, hk2, h1, s5]
    ·by_cases s4 : t.sort = 4
     ·cases hg : t.name == [103]
      ·cases hcu : cutB t.name
       ·rw [hcu] at h1 ho
        simp at ho
        subst ho
        simp [F.f159B, F.f159C, F.f159R, F.f159K, hk2, h1, s4, hg]
       ·rw [hcu] at h1 ho
        simp at ho
        subst ho
        simp [F.f159B, F.f159C, F.f159R, F.f159K, hk2, h1, h2, s4, hg]
      ·simp [F.f159B, F.f159C, F.f159R, F.f159K, hk2, h1, s4, hg]
     ·by_cases s0 : t.sort = 0 ∨ t.sort = 2 ∨ t.sort = 3
      ·cases hcu : cutB t.name
       ·rw [hcu] at h1 ho
        simp at ho
        subst ho
        rcases s0 with s0 | s0 | s0 <;> simp [F.f159B, F.f159C, F.f159R, F.f159K, hk2, h1, s0]
       ·rw [hcu] at h1 ho
        simp at ho
        subst ho
        rcases s0 with s0 | s0 | s0 <;> simp [F.f159B, F.f159C, F.f159R, F.f159K, hk2, h1, h2, s0]
      ·simp only [not_or] at s0
       simp [F.f159B, F.f159C, F.f159R, F.f159K, hk2, h1, s1, s5, s4, s0.1, s0.2.1, s0.2.2]
  ·have hp : pubT t = false := by unfold pubT; rw [if_neg hk, if_neg hk2]
   rw [hp]
   simp [F.f159B, F.f159C, F.f159R, F.f159K, hk, hk2]
end Go.Am
namespace Go.Am
set_option maxRecDepth 8000
theorem own_loop10 (s : List UInt8) (bs : List (List AV)) (hs : s.length < 1000000000) : ∀ (post pre : List UInt8) (ρ : Nat → AV), s = pre ++ post → ρ 0 = .str s → ρ 3 = .int .i64 pre.length →
  R F.tb (.loop F.f232l0) ρ bs (blockK 0 (seqK F.tb F.f232r0 (finK F.f232 bs))) = some (.bool (post.all digB), bs) := by
 intro post
 induction post with
 | nil =>
  intro pre ρ hk h0 h3
  simp only [List.append_nil] at hk
  rw [← hk] at h3
  rw [R_loop' F.f232l0.eq_1]
  simp [h0, h3, F.f232r0, F.f232R, F.f232K]
 | cons c post IH =>
  intro pre ρ hk h0 h3
  have hg := get_pre hk
  have hll : s.length = pre.length + (post.length + 1) := by rw [hk]; simp
  have hw1 : IntKind.i64.wrap ((pre.length : Int) + 1) = (pre.length : Int) + 1 := wrap64 (by omega) (by omega)
  have hlt : (pre.length : Int) < (s.length : Int) := by omega
  have h2 := fun ρ => IH (pre ++ [c]) ρ (by rw [hk]; simp)
  rw [List.all_cons]
  rw [R_loop' F.f232l0.eq_1]
  by_cases c1 : c.toNat < 48
  ·have e : digB c = false := by simp [digB]; omega
   have c1' : (c.toNat : Int) < 48 := by omega
   simp [-getElem?_pos, h0, h3, hg, hlt, c1, c1', e, F.f232R, F.f232K]
  ·have c1' : ¬ (c.toNat : Int) < 48 := by omega
   by_cases c2 : 57 < c.toNat
   ·have e : digB c = false := by simp [digB]; omega
    have c2' : (57 : Int) < (c.toNat : Int) := by omega
    simp [-getElem?_pos, h0, h3, hg, hlt, c1, c1', c2, c2', e, F.f232R, F.f232K]
   ·have e : digB c = true := by simp [digB]; omega
    have c2' : ¬ (57 : Int) < (c.toNat : Int) := by omega
    rw [e, Bool.true_and]
    simp [-getElem?_pos, h0, h3, hg, hlt, hw1, c1, c1', c2, c2', -List.all_eq_true]
    apply h2 <;> simp [h0]
theorem call232 (s : List UInt8) (bs : List (List AV)) (hs : s.length < 1000000000) : call F.tb 232 [.str s] bs = some (.bool (ownB s), bs) := by
 rw [call_code F.tb_232 _ _ rfl]
 by_cases h3 : s.length < 3
 ·have h3' : (s.length : Int) < 3 := by omega
  have e : ownB s = false := by
   unfold ownB
   split
   ·exfalso; simp only [List.length_cons] at h3; omega
   ·rfl
  simp [F.f232B, F.f232C, F.f232R, F.f232K, h3, h3', e]
 ·have h3' : ¬ (s.length : Int) < 3 := by omega
  have hl2 : 2 ≤ s.length := by omega
  have hl2' : (2 : Int) ≤ (s.length : Int) := by omega
  cases hp : s.take 2 == [101, 35]
  ·have e : ownB s = false := by
    unfold ownB
    split
    ·simp at hp
    ·rfl
   simp [F.f232B, F.f232C, F.f232R, F.f232K, h3, h3', hl2, hl2', hp, e, bne]
  ·match s, hp, h3, hs with
   | a :: b :: c :: r, hp, h3, hs =>
    have h2 := fun ρ => own_loop10 (a :: b :: c :: r) bs hs (c :: r) [a, b] ρ rfl
    simp at hp
    obtain ⟨rfl, rfl⟩ := hp
    have e : ownB (101 :: 35 :: c :: r) = (c :: r).all digB := rfl
    rw [e]
    simp only [List.length_cons, List.length_nil] at h3' hl2 hl2' h2
    generalize (c :: r).all digB = O at *
    have h3'' : ¬ ((r.length : Int) + 1 + 1 + 1 < 3) := by omega
    have hl3 : (2 : Int) ≤ (r.length : Int) + 1 + 1 + 1 := by omega
    simp [F.f232B, F.f232C, h3'', hl3, bne]
    apply h2 <;> simp
   | [], hp, _, _ => simp at hp
   | [_], hp, _, _ => simp at hp
   | [_, _], hp, h3, _ => simp at h3
theorem call231 (t : Tm) (bs : List (List AV)) (hm : t.mass < 1000000) : call F.tb 231 [.agg (encT t)] bs = some (.bool (pubT t), bs) := by
 have hme := mass_eq t
 have ho := call232 t.name bs (by omega)
 rw [call_code F.tb_231 _ _ rfl]
 by_cases hk : t.kind = 3
 ·have hp : pubT t = ((t.name == ZERO || t.name == ONE) && decide (t.kids.length = 0)) := by unfold pubT; rw [if_pos hk]
  rw [hp]
  by_cases hl : t.kids = []
  ·cases h1 : t.name == ZERO
   ·cases h2 : t.name == ONE <;> simp only [ZERO, ONE] at h1 h2 <;> simp [F.f231B, F.f231C, F.f231R, F.f231K, hk, h1, h2, hl]
   ·simp only [ZERO] at h1; simp [F.f231B, F.f231C, F.f231R, F.f231K, hk, h1, hl]
  ·have hl0 : ¬ t.kids.length = 0 := fun e => hl (List.eq_nil_of_length_eq_zero e)
   have hl' : ¬ (t.kids.length : Int) = 0 := by omega
   cases h1 : t.name == ZERO
   ·cases h2 : t.name == ONE <;> simp only [ZERO, ONE] at h1 h2 <;> simp [F.f231B, F.f231C, F.f231R, F.f231K, hk, h1, h2, hl, hl']
   ·simp only [ZERO] at h1; simp [F.f231B, F.f231C, F.f231R, F.f231K, hk, h1, hl, hl']
 ·by_cases hk2 : t.kind = 2
  ·have hp : pubT t = if t.sort = 1 ∨ t.sort = 5 then true else if t.sort = 4 then t.name == [103] || ownB t.name else if t.sort = 0 ∨ t.sort = 2 ∨ t.sort = 3 then ownB t.name else false := by
    unfold pubT; rw [if_neg hk, if_pos hk2]
   rw [hp]
   generalize ownB t.name = O at *
   by_cases s1 : t.sort = 1
   ·simp [F.f231B, F.f231C, F.f231R, F.f231K, hk2, s1]
   ·by_cases s5 : t.sort = 5
    ·simp [F.f231B, F.f231C, F.f231R, F.f231K, hk2, s5]
    ·by_cases s4 : t.sort = 4
     ·cases hg : t.name == [103]
      ·simp [F.f231B, F.f231C, F.f231R, F.f231K, hk2, s4, hg, ho]
      ·simp [F.f231B, F.f231C, F.f231R, F.f231K, hk2, s4, hg]
     ·by_cases s0 : t.sort = 0 ∨ t.sort = 2 ∨ t.sort = 3
      ·cases hg : t.name == [103]
       ·rcases s0 with s0 | s0 | s0 <;> simp [F.f231B, F.f231C, F.f231R, F.f231K, hk2, s0, ho, hg]
       ·rcases s0 with s0 | s0 | s0 <;> simp [F.f231B, F.f231C, F.f231R, F.f231K, hk2, s0, ho, hg]
      ·simp only [not_or] at s0
       cases hg : t.name == [103]
       ·simp [F.f231B, F.f231C, F.f231R, F.f231K, hk2, s1, s5, s4, s0.1, s0.2.1, s0.2.2, hg]
       ·simp [F.f231B, F.f231C, F.f231R, F.f231K, hk2, s1, s5, s4, s0.1, s0.2.1, s0.2.2, hg]
  ·have hp : pubT t = false := by unfold pubT; rw [if_neg hk, if_neg hk2]
   rw [hp]
   simp [F.f231B, F.f231C, F.f231R, F.f231K, hk, hk2]
end Go.Am
