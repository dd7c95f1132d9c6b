/-
  The pure land, part 34: servers behind calls: what remains true of them.
-/
import Derived.Test.YtdabongfphoilaaGreatDoorPureI
set_option linter.unusedVariables false
set_option linter.unusedSimpArgs false

namespace Go.Am
set_option maxRecDepth 8000

/-- Keys of successive epochs, with ends that never fall; the last one has none. -/
def chP (nm : List UInt8) : Int → Int → List Ep → Prop
  | _, _, [] => False
  | n, _, [k] => k.n = n ∧ k.e = 0 ∧ k.key = epochT nm n
  | n, lo, k :: k' :: ks => k.n = n ∧ 1 ≤ k.e ∧ lo ≤ k.e ∧ k.key = epochT nm n ∧ chP nm (n + 1) k.e (k' :: ks)

def loE : Option Ep → Int
  | none => 0
  | some p => p.e

theorem keysLP_ch (s : Srv) (b : Int) (hb : b = s.epoch - s.keys.length + 1) : ∀ (ks : List Ep) (i : Nat) (pv : Option Ep), ks ≠ [] → 0 ≤ b → (keysLP s i pv ks = true ↔ chP s.name (b + i) (loE pv) ks)
  | [], _, _, h, _ => absurd rfl h
  | [k], i, pv, _, h0 => by
    have e : s.epoch - s.keys.length + 1 + i = b + i := by omega
    simp only [keysLP, keyP, chP, e, List.isEmpty_nil, Bool.and_eq_true, Bool.and_true, decide_eq_true_eq, Bool.not_eq_true', decide_eq_false_iff_not, beq_iff_eq, cmpT_iff, Bool.true_or]
    constructor
    · rintro ⟨⟨⟨⟨⟨h1, h2⟩, h3⟩, h4⟩, h5⟩, h6⟩
      have h4 : k.e = 0 := by simpa using h4.symm
      exact ⟨h1, h4, by rw [h3, h1]⟩
    · rintro ⟨h1, h2, h3⟩
      refine ⟨⟨⟨⟨⟨h1, by omega⟩, by rw [h3, h1]⟩, by simp [h2]⟩, by omega⟩, ?_⟩
      cases pv <;> rfl
  | k :: k' :: ks, i, pv, _, h0 => by
    have e : s.epoch - s.keys.length + 1 + i = b + i := by omega
    have ih := keysLP_ch s b hb (k' :: ks) (i + 1) (some k) (by simp) h0
    have c : b + ((i + 1 : Nat) : Int) = b + i + 1 := by omega
    rw [c] at ih
    have hP : keysLP s i pv (k :: k' :: ks) = (keyP s i false pv k && keysLP s (i + 1) (some k) (k' :: ks)) := rfl
    rw [hP, Bool.and_eq_true, ih]
    simp only [keyP, chP, e, Bool.and_eq_true, decide_eq_true_eq, Bool.not_eq_true', decide_eq_false_iff_not, beq_iff_eq, cmpT_iff, Bool.false_or, loE]
    constructor
    · rintro ⟨⟨⟨⟨⟨⟨h1, h2⟩, h3⟩, h4⟩, h5⟩, h6⟩, h7⟩
      have h4 : ¬ k.e = 0 := by simpa using h4.symm
      refine ⟨h1, by omega, ?_, by rw [h3, h1], h7⟩
      cases pv with
      | none => simp only [loE]; omega
      | some p => simp at h6; simp only [loE]; omega
    · rintro ⟨h1, h2, h3, h4, h5⟩
      refine ⟨⟨⟨⟨⟨⟨h1, by omega⟩, by rw [h4, h1]⟩, ?_⟩, by omega⟩, ?_⟩, h5⟩
      · have : ¬ k.e = 0 := by omega
        simp [this]
      · cases pv with
        | none => rfl
        | some p => simp only [loE] at h3; simp; omega

theorem chP_n0 {nm : List UInt8} : ∀ {ks : List Ep} {n lo : Int}, chP nm n lo ks → ks ≠ []
  | [], _, _, h => h.elim
  | _ :: _, _, _, _ => by simp

theorem keysP_ch (s : Srv) : keysP s = true ↔ (1 ≤ s.keys.length ∧ s.keys.length ≤ 8) ∧ 0 ≤ s.epoch - s.keys.length + 1 ∧ chP s.name (s.epoch - s.keys.length + 1) 0 s.keys := by
  simp only [keysP, Bool.and_eq_true, decide_eq_true_eq]
  constructor
  · rintro ⟨⟨h1, h2⟩, h3⟩
    have hne : s.keys ≠ [] := fun h => by rw [h] at h1; simp at h1
    have h4 := keysLP_eq s s.keys 0 none hne
    rw [h3] at h4
    have h5 := h4.symm
    simp only [Bool.and_eq_true, decide_eq_true_eq] at h5
    have h0 : 0 ≤ s.epoch - s.keys.length + 1 := by have := h5.1.2; omega
    have := (keysLP_ch s _ rfl s.keys 0 none hne h0).1 h3
    simp only [loE] at this
    exact ⟨⟨h1, h2⟩, h0, by simpa using this⟩
  · rintro ⟨⟨h1, h2⟩, h0, h3⟩
    exact ⟨⟨h1, h2⟩, (keysLP_ch s _ rfl s.keys 0 none (chP_n0 h3) h0).2 (by simpa [loE] using h3)⟩

theorem chP_mem {nm : List UInt8} : ∀ {ks : List Ep} {n lo : Int}, chP nm n lo ks → ∀ k ∈ ks, k.key = epochT nm k.n ∧ n ≤ k.n ∧ k.n < n + ks.length ∧ (k.e = 0 ∨ 1 ≤ k.e)
  | [], _, _, h, _, _ => h.elim
  | [k], n, lo, h, x, hx => by
    simp only [List.mem_singleton] at hx
    subst hx
    obtain ⟨h1, h2, h3⟩ := h
    exact ⟨by rw [h3, h1], by omega, by simp; omega, .inl h2⟩
  | k :: k' :: ks, n, lo, h, x, hx => by
    obtain ⟨h1, h2, h3, h4, h5⟩ := h
    rcases List.mem_cons.1 hx with rfl | hx
    · exact ⟨by rw [h4, h1], by omega, by simp; omega, .inr h2⟩
    · obtain ⟨i1, i2, i3, i4⟩ := chP_mem h5 x hx
      refine ⟨i1, by omega, ?_, i4⟩
      simp only [List.length_cons] at i3 ⊢; omega

theorem chP_lo {nm : List UInt8} : ∀ {ks : List Ep} {n lo lo' : Int}, chP nm n lo ks → lo' ≤ lo → chP nm n lo' ks
  | [], _, _, _, h, _ => h.elim
  | [_], _, _, _, h, _ => h
  | _ :: _ :: _, _, _, _, ⟨h1, h2, h3, h4, h5⟩, hl => ⟨h1, h2, by omega, h4, h5⟩

theorem chP_rot {nm : List UInt8} (E : Int) (hE : 1 ≤ E) : ∀ {ks : List Ep} {n lo : Int}, chP nm n lo ks → lo ≤ E → (∀ k ∈ ks, k.e ≤ E) →
    chP nm n lo (ks.dropLast ++ (ks.getLast?.toList.map fun k => { k with e := E }) ++ [⟨n + ks.length, 0, epochT nm (n + ks.length)⟩])
  | [], _, _, h, _, _ => h.elim
  | [k], n, lo, h, hl, _ => by
    obtain ⟨h1, h2, h3⟩ := h
    simp [chP, h1, h3]
    exact ⟨hE, hl⟩
  | k :: k' :: ks, n, lo, h, hl, hm => by
    obtain ⟨h1, h2, h3, h4, h5⟩ := h
    have ih := chP_rot E hE h5 (hm k (by simp)) (fun x hx => hm x (by simp [hx]))
    have e : n + 1 + ((k' :: ks).length : Int) = n + ((k :: k' :: ks).length : Int) := by simp; omega
    rw [e] at ih
    simp only [List.dropLast_cons_cons, List.getLast?_cons_cons, List.cons_append]
    generalize hL : (k' :: ks).dropLast ++ List.map (fun k => ({ k with e := E } : Ep)) (k' :: ks).getLast?.toList ++ [⟨n + ((k :: k' :: ks).length : Int), 0, epochT nm (n + ((k :: k' :: ks).length : Int))⟩] = L at ih
    have hne : L ≠ [] := chP_n0 ih
    match L, hne with
    | x :: L', _ => exact ⟨h1, h2, h3, h4, ih⟩

theorem chP_drop {nm : List UInt8} (now : Int) : ∀ {ks : List Ep} {n lo : Int}, chP nm n lo ks → ∃ j : Nat, j < ks.length ∧ ks.filter (keepE now) = ks.drop j ∧ chP nm (n + j) lo (ks.drop j) ∧ (now ≤ lo → j = 0)
  | [], _, _, h => h.elim
  | [k], n, lo, h => ⟨0, by simp, by simp [keepE, h.2.1], by simpa using h, fun _ => rfl⟩
  | k :: k' :: ks, n, lo, h => by
    obtain ⟨h1, h2, h3, h4, h5⟩ := h
    obtain ⟨j, i1, i2, i3, i4⟩ := chP_drop now h5
    by_cases c : now ≤ k.e
    · have hj := i4 c
      subst hj
      refine ⟨0, by simp, ?_, ?_, fun _ => rfl⟩
      · rw [List.filter_cons_of_pos (by simp [keepE, c]), i2]; simp
      · have e : n + ((0 : Nat) : Int) = n := by omega
        rw [e]; exact ⟨h1, h2, h3, h4, h5⟩
    · refine ⟨j + 1, by simpa using i1, ?_, ?_, fun hl => by omega⟩
      · have hk : keepE now k = false := by simp [keepE]; omega
        rw [List.filter_cons_of_neg (by simp [hk]), i2]; simp
      · have e : n + ((j + 1 : Nat) : Int) = n + 1 + j := by omega
        rw [e, List.drop_succ_cons]
        exact chP_lo i3 h3

theorem usLP_mono {a b : Int} (h : a ≤ b) : ∀ {us : List Us} {pv : Option Us}, usLP a pv us = true → usLP b pv us = true
  | [], _, _ => rfl
  | u :: us, pv, hu => by
    simp only [usLP, usP, Bool.and_eq_true, Bool.not_eq_true', decide_eq_false_iff_not] at hu ⊢
    obtain ⟨⟨⟨⟨h1, h2⟩, h3⟩, h4⟩, h5⟩ := hu
    exact ⟨⟨⟨⟨h1, by omega⟩, h3⟩, h4⟩, usLP_mono h h5⟩

theorem usLP_pv {a : Int} {us : List Us} {pv pv' : Option Us} (h : usLP a pv us = true) (hp : ∀ p, pv' = some p → ∀ u ∈ us, p.n < u.n) : usLP a pv' us = true := by
  cases us with
  | nil => rfl
  | cons u us =>
    simp only [usLP, usP, Bool.and_eq_true] at h ⊢
    refine ⟨⟨h.1.1, ?_⟩, h.2⟩
    cases pv' with
    | none => rfl
    | some p => have := hp p rfl u (by simp); simp; omega

theorem usLP_filter {a : Int} (f : Us → Bool) : ∀ {us : List Us} {pv : Option Us}, usLP a pv us = true → usLP a pv (us.filter f) = true
  | [], _, _ => rfl
  | u :: us, pv, h => by
    have hm := usLP_mem h
    have h2 : usLP a (some u) us = true := by simp only [usLP, Bool.and_eq_true] at h; exact h.2
    have h1 : usP a pv u = true := by simp only [usLP, Bool.and_eq_true] at h; exact h.1
    have ih := usLP_filter f h2
    cases c : f u
    · rw [List.filter_cons_of_neg (by simp [c])]
      exact usLP_pv ih fun p hp x hx => hm.2.2 p hp x (List.mem_cons_of_mem _ (List.mem_filter.1 hx).1)
    · rw [List.filter_cons_of_pos c]
      simp only [usLP, Bool.and_eq_true]
      exact ⟨h1, ih⟩

theorem usLP_ins {a : Int} (x : Us) (h0 : 0 ≤ x.n) (h1 : x.n < a) (h2 : 0 ≤ x.e) : ∀ {us : List Us} {pv : Option Us}, usLP a pv us = true → hasN x.n us = false → (∀ p, pv = some p → p.n < x.n) → usLP a pv (insU x us) = true
  | [], pv, _, _, hp => by
    simp only [insU, usLP, usP, Bool.and_eq_true, Bool.not_eq_true', decide_eq_false_iff_not, Bool.and_true]
    refine ⟨⟨⟨by omega, by omega⟩, by omega⟩, ?_⟩
    cases pv with
    | none => rfl
    | some p => have := hp p rfl; simp; omega
  | u :: us, pv, h, hn, hp => by
    have hh := h
    simp only [usLP, Bool.and_eq_true] at hh
    simp only [hasN, List.any_cons, Bool.or_eq_false_iff, decide_eq_false_iff_not] at hn
    unfold insU
    split
    · rename_i c
      simp only [usLP, Bool.and_eq_true]
      refine ⟨?_, ?_, hh.2⟩
      · simp only [usP, Bool.and_eq_true, Bool.not_eq_true', decide_eq_false_iff_not]
        refine ⟨⟨⟨by omega, by omega⟩, by omega⟩, ?_⟩
        cases pv with
        | none => rfl
        | some p => have := hp p rfl; simp; omega
      · simp only [usP, Bool.and_eq_true, Bool.not_eq_true', decide_eq_false_iff_not] at hh ⊢
        refine ⟨hh.1.1, ?_⟩
        simp; omega
    · rename_i c
      simp only [usLP, Bool.and_eq_true]
      exact ⟨hh.1, usLP_ins x h0 h1 h2 hh.2 hn.2 fun p hp' => by injection hp' with hp'; subst hp'; omega⟩

theorem ok_validS {s : Srv} (h : s.ok) : validS s = true := by
  simp [validS, h.name, h.w, h.ep, h.nx, h.nw, h.ks, h.us, h.ul]

/-- A server behind calls. -/
structure SInv (s : Srv) : Prop where
  ok : s.ok
  w : s.window ≤ 16
  en : ∀ k ∈ s.keys, k.e ≤ s.now + s.window

theorem SInv.nl {s : Srv} (h : SInv s) : s.name.length ≤ 10 := by
  have := h.ok.name
  simp only [nameB, Bool.and_eq_true, decide_eq_true_eq] at this
  exact this.1.1.2
theorem SInv.km {s : Srv} (h : SInv s) : ∀ k ∈ s.keys, k.key.mass ≤ 3000 := fun k hk => by
  obtain ⟨h1, h2, h3⟩ := (keysP_ch s).1 h.ok.ks
  obtain ⟨i1, i2, i3, i4⟩ := chP_mem h3 k hk
  have hep := h.ok.ep
  obtain ⟨n, hn⟩ : ∃ n : Nat, k.n = n := ⟨k.n.toNat, by omega⟩
  have := mass_decN (n := n) (by omega)
  have := h.nl
  rw [i1, hn]
  simp [epochT, Tm.mass, massL, dec_nat]; omega
theorem SInv.kl {s : Srv} (h : SInv s) : s.keys.length ≤ 8 := ((keysP_ch s).1 h.ok.ks).1.2
theorem SInv.cl {s : Srv} (h : SInv s) : s.cl := ⟨by have := h.kl; omega, by have := h.ok.ul; omega⟩
theorem SInv.kb {s : Srv} (h : SInv s) : ∀ k ∈ s.keys, k.key.mass < big := fun k hk => by have := h.km k hk; unfold big; omega
theorem SInv.small {s : Srv} (h : SInv s) : small s := ⟨by have := h.ok.ul; omega, by have := h.kl; omega, h.kb⟩

theorem issue_inv {s : Srv} {ag : List UInt8} {now : Int} (h : SInv s) (he : (issueS s ag now).2.2.2 = 0) : SInv (issueS s ag now).1 := by
  unfold issueS at *
  split at he
  · rename_i h1; exact absurd he h1
  · rename_i h1
    rw [if_neg h1]
    split at he
    · simp at he
    · rename_i h2
      rw [if_neg h2]
      split at he
      · simp at he
      · rename_i h3
        rw [if_neg h3]
        obtain ⟨hok, hnow⟩ := callS0 (Decidable.not_not.1 h1)
        refine ⟨⟨hok.name, hok.w, hok.ep, ⟨by have := hok.nx; simp only; omega, by have := hok.nx; simp only; omega⟩, ⟨by have := hok.nw; simp only; omega, hnow.2⟩, ?_, ?_, hok.ul⟩, h.w, fun k hk => ?_⟩
        · exact (keysP_ch _).2 ((keysP_ch s).1 hok.ks)
        · exact usLP_mono (by simp only; omega) hok.us
        · have := h.en k hk; simp only; omega

theorem rotate_inv {s : Srv} {now : Int} (h : SInv s) (he : (rotateS s now).2 = 0) : SInv (rotateS s now).1 := by
  unfold rotateS at *
  split at he
  · rename_i h1; exact absurd he h1
  · rename_i h1
    rw [if_neg h1]
    split at he
    · simp at he
    · rename_i h2
      rw [if_neg h2]
      obtain ⟨hok, hnow⟩ := callS0 (Decidable.not_not.1 h1)
      obtain ⟨i, k, hkk, hi⟩ := hok.last
      obtain ⟨c1, c2, c3⟩ := (keysP_ch s).1 hok.ks
      have hw := hok.w
      have hep := hok.ep
      have hnw := hok.nw
      have hrl : (rotK s (now + s.window)).length = s.keys.length := by simp [rotK, hkk]
      have hE := chP_rot (now + s.window) (by omega) c3 (by omega) (fun k hk => by have := h.en k hk; omega)
      have e1 : s.epoch - s.keys.length + 1 + s.keys.length = s.epoch + 1 := by omega
      rw [e1] at hE
      refine ⟨⟨hok.name, hok.w, ⟨by simp only; omega, by simp only; omega⟩, hok.nx, ⟨by simp only; omega, hnow.2⟩, ?_, hok.us, hok.ul⟩, h.w, fun x hx => ?_⟩
      · refine (keysP_ch _).2 ⟨⟨by simp, by simp [hrl]; omega⟩, ?_, ?_⟩
        · simp [hrl]; omega
        · have e2 : s.epoch + 1 - ((rotK s (now + s.window) ++ [(⟨s.epoch + 1, 0, epochT s.name (s.epoch + 1)⟩ : Ep)]).length : Int) + 1 = s.epoch - s.keys.length + 1 := by simp [hrl]; omega
          simp only [e2]
          exact hE
      · simp only [rotK, hkk, List.mem_append] at hx
        simp only [List.dropLast_concat, List.getLast?_concat, Option.toList_some, List.map_cons, List.map_nil, List.mem_singleton] at hx
        rcases hx with (hx | hx) | hx
        · have := h.en x (by rw [hkk]; simp [hx]); simp only; omega
        · rw [hx]; simp
        · rw [hx]; simp only; omega

theorem expire_inv {s : Srv} {now : Int} (h : SInv s) : SInv (expireS s now) := by
  unfold expireS
  split
  · exact h
  · rename_i h1
    obtain ⟨hok, hnow⟩ := callS0 (Decidable.not_not.1 h1)
    obtain ⟨c1, c2, c3⟩ := (keysP_ch s).1 hok.ks
    obtain ⟨j, j1, j2, j3, _⟩ := chP_drop now c3
    refine ⟨⟨hok.name, hok.w, hok.ep, hok.nx, ⟨by have := hok.nw; simp only; omega, hnow.2⟩, ?_, usLP_filter _ hok.us, ?_⟩, h.w, fun k hk => ?_⟩
    · refine (keysP_ch _).2 ?_
      simp only [j2]
      have e : s.epoch - ((s.keys.drop j).length : Int) + 1 = s.epoch - s.keys.length + 1 + j := by simp only [List.length_drop]; omega
      rw [e]
      exact ⟨⟨by simp only [List.length_drop]; omega, by simp only [List.length_drop]; omega⟩, by omega, j3⟩
    · have := List.length_filter_le (keepU now) s.used
      have := hok.ul
      simp only; omega
    · have := h.en k (List.mem_filter.1 hk).1
      simp only; omega

theorem resume_inv {s : Srv} {t : Tm} {now : Int} (h : SInv s) (he : (resumeS s t now).2.2 = 0) : SInv (resumeS s t now).1 := by
  unfold resumeS at *
  split at he
  · rename_i h1; exact absurd he h1
  · rename_i h1
    rw [if_neg h1]
    obtain ⟨hok, hnow⟩ := callS0 (Decidable.not_not.1 h1)
    cases hr : (readS s t).1 with
    | none => rw [hr] at he; exact absurd he (readS_iff.1 hr)
    | some q =>
      obtain ⟨a, ky, n, ex⟩ := q
      rw [hr] at he
      simp only at he ⊢
      obtain ⟨_, k0, hpq⟩ := readS_some hr
      obtain ⟨hnb, hxb, _, _⟩ := partsQ_bounds hpq
      split at he
      · simp at he
      · rename_i h2
        rw [if_neg h2]
        split at he
        · simp at he
        · rename_i h3
          rw [if_neg h3]
          unfold resF at *
          split at he
          · simp at he
          · rename_i h4
            rw [if_neg h4]
            split at he
            · simp at he
            · rename_i h5
              rw [if_neg h5]
              refine ⟨⟨hok.name, hok.w, hok.ep, hok.nx, ⟨by have := hok.nw; simp only; omega, hnow.2⟩, ?_, ?_, ?_⟩, h.w, fun k hk => ?_⟩
              · exact (keysP_ch _).2 ((keysP_ch s).1 hok.ks)
              · exact usLP_ins ⟨n, ex⟩ hnb.1 (by simp only; omega) hxb.1 hok.us (by simpa using h4) (fun p hp => by cases hp)
              · have := hok.ul
                simp only [insU_len]; omega
              · have := h.en k hk; simp only; omega
end Go.Am

namespace Go.Am
set_option maxRecDepth 8000

/-- A call of a play. -/
structure OpU where
  k : Nat
  n : Nat
  a : Nat
def encO (o : OpU) : List AV := [.int .u8 (o.k : Int), .int .u8 (o.n : Int), .int .u8 (o.a : Int)]
def OpU.ok (o : OpU) : Prop := o.k < 256 ∧ o.n < 256 ∧ o.a < 256
/-- A server behind calls, with the time, the tickets, and their keys. -/
structure Pla where
  s : Srv
  now : Int
  ts : List Tm
  ks : List Tm
def encP (p : Pla) : List AV := [.str p.s.name, .int .i64 p.s.epoch, .sl false 6 (p.s.keys.map encE), .int .i64 p.s.next, .sl false 2 (p.s.used.map encU), .int .i64 p.s.window, .int .i64 p.s.now, .int .i64 p.now, .sl false 4 (encTs p.ts), .sl false 4 (encTs p.ks)]
def agO (o : OpU) : List UInt8 := [(97 + o.n % 3).toUInt8]
def timeO (p : Pla) (o : OpU) : Int := p.now + ((o.a % 8 : Nat) : Int)
/-- The ticket that a call takes. -/
def tkO (p : Pla) (o : OpU) : Tm := (p.ts[o.n % p.ts.length]?).getD zeroT
def nextP (p : Pla) (o : OpU) : Pla :=
  if o.k % 4 = 0 then
    if (issueS p.s (agO o) (timeO p o)).2.2.2 = 0 then ⟨(issueS p.s (agO o) (timeO p o)).1, timeO p o, p.ts ++ [(issueS p.s (agO o) (timeO p o)).2.1], p.ks ++ [(issueS p.s (agO o) (timeO p o)).2.2.1]⟩
    else { p with now := timeO p o }
  else if o.k % 4 = 1 then
    if p.ts ≠ [] ∧ (resumeS p.s (tkO p o) (timeO p o)).2.2 = 0 then { p with now := timeO p o, s := (resumeS p.s (tkO p o) (timeO p o)).1 } else { p with now := timeO p o }
  else if o.k % 4 = 2 then
    if (rotateS p.s (timeO p o)).2 = 0 then { p with now := timeO p o, s := (rotateS p.s (timeO p o)).1 } else { p with now := timeO p o }
  else { p with now := timeO p o, s := expireS p.s (timeO p o) }

/-- What holds behind m calls. -/
structure PInv (m : Nat) (p : Pla) : Prop where
  s : SInv p.s
  lo : p.s.now ≤ p.now
  hi : p.now ≤ 7 * m
  nx : p.s.next ≤ m
  tl : p.ts.length ≤ m
  kl : p.ks.length ≤ m
  tm : ∀ t ∈ p.ts, t.mass < 100000

theorem agO_len (o : OpU) : (agO o).length = 1 := rfl
theorem tkO_mem {p : Pla} {o : OpU} (h : p.ts ≠ []) : tkO p o ∈ p.ts := by
  have hl : 0 < p.ts.length := List.length_pos_iff.2 h
  have hx : o.n % p.ts.length < p.ts.length := Nat.mod_lt _ hl
  unfold tkO
  rw [List.getElem?_eq_getElem hx]
  exact List.getElem_mem hx

theorem issue_mass {s : Srv} {ag : List UInt8} {now : Int} (h : SInv s) (hag : ag.length ≤ 100) : (issueS s ag now).2.1.mass < 100000 := by
  have hz : zeroT.mass < 100000 := by decide
  unfold issueS
  split
  · exact hz
  · split
    · exact hz
    · split
      · exact hz
      · rename_i h1 _ _
        have h1 := Decidable.not_not.1 h1
        obtain ⟨hok, hnow⟩ := callS0 h1
        obtain ⟨n, hn1⟩ : ∃ n : Nat, s.next = n := ⟨s.next.toNat, by have := hok.nx; omega⟩
        obtain ⟨ex, he1⟩ : ∃ e : Nat, now + s.window = e := ⟨(now + s.window).toNat, by have := hok.nw; have := hok.w; omega⟩
        have hnb := hok.nx
        have hexb : ex < 1000000 := by have := hok.nw; have := hok.w; omega
        obtain ⟨i, k, hkk, hi⟩ := hok.last
        have hlk : lastK s = k.key := by simp [lastK, hkk]
        have hkm := h.km k (by rw [hkk]; simp)
        have hd := mass_decN (n := n) (by omega)
        have hd2 := mass_decN (n := ex) (by omega)
        have hnl := h.nl
        simp only [hn1, he1, hlk]
        simp [writT, bodyT, pairT, tickT, numT, PAIR, ENC, Tm.mass, massL, dec_nat]; omega

theorem nextP_inv {m : Nat} {p : Pla} {o : OpU} (h : PInv m p) : PInv (m + 1) (nextP p o) := by
  have hb : o.a % 8 < 8 := Nat.mod_lt _ (by decide)
  have ht : timeO p o ≤ 7 * (m + 1 : Nat) ∧ p.now ≤ timeO p o := by have := h.hi; unfold timeO; omega
  have h0 : PInv (m + 1) { p with now := timeO p o } := ⟨h.s, by have := h.lo; simp only; omega, ht.1, by have := h.nx; simp only; omega, by have := h.tl; simp only; omega, by have := h.kl; simp only; omega, h.tm⟩
  unfold nextP
  split
  · split
    · rename_i h1 h2
      have hi := issue_inv h.s h2
      have hm := issue_mass (ag := agO o) (now := timeO p o) h.s (by simp [agO_len])
      refine ⟨hi, ?_, ht.1, ?_, by have := h.tl; simp; omega, by have := h.kl; simp; omega, fun t htt => ?_⟩
      · unfold issueS at h2 ⊢
        simp only
        split at h2
        · contradiction
        · rw [if_neg (by assumption)]
          split at h2
          · simp at h2
          · rw [if_neg (by assumption)]
            split at h2
            · simp at h2
            · rw [if_neg (by assumption)]; exact Int.le_refl _
      · unfold issueS at h2 ⊢
        simp only
        split at h2
        · contradiction
        · rw [if_neg (by assumption)]
          split at h2
          · simp at h2
          · rw [if_neg (by assumption)]
            split at h2
            · simp at h2
            · rw [if_neg (by assumption)]; have := h.nx; simp only; omega
      · rcases List.mem_append.1 htt with q | q
        · exact h.tm t q
        · simp only [List.mem_singleton] at q; rw [q]; exact hm
    · exact h0
  · split
    · split
      · rename_i h1 h2 h3
        have hi := resume_inv h.s h3.2
        have hs : (resumeS p.s (tkO p o) (timeO p o)).1.now = timeO p o ∧ (resumeS p.s (tkO p o) (timeO p o)).1.next = p.s.next := by
          have h3 := h3.2
          unfold resumeS at h3 ⊢
          split at h3
          · contradiction
          · rw [if_neg (by assumption)]
            cases hr : (readS p.s (tkO p o)).1 with
            | none => rw [hr] at h3; exact absurd h3 (readS_iff.1 hr)
            | some q =>
              obtain ⟨a, ky, n, ex⟩ := q
              rw [hr] at h3
              simp only at h3 ⊢
              split at h3
              · simp at h3
              · rw [if_neg (by assumption)]
                split at h3
                · simp at h3
                · rw [if_neg (by assumption)]
                  unfold resF at h3 ⊢
                  split at h3
                  · simp at h3
                  · rw [if_neg (by assumption)]
                    split at h3
                    · simp at h3
                    · rw [if_neg (by assumption)]; exact ⟨rfl, rfl⟩
        exact ⟨hi, by rw [hs.1]; exact Int.le_refl _, ht.1, by have := h.nx; simp only [hs.2]; omega, by have := h.tl; simp only; omega, by have := h.kl; simp only; omega, h.tm⟩
      · exact h0
    · split
      · split
        · rename_i h1 h2 h3 h4
          have hi := rotate_inv h.s h4
          have hs : (rotateS p.s (timeO p o)).1.now = timeO p o ∧ (rotateS p.s (timeO p o)).1.next = p.s.next := by
            unfold rotateS at h4 ⊢
            split at h4
            · contradiction
            · rw [if_neg (by assumption)]
              split at h4
              · simp at h4
              · rw [if_neg (by assumption)]; exact ⟨rfl, rfl⟩
          exact ⟨hi, by rw [hs.1]; exact Int.le_refl _, ht.1, by have := h.nx; simp only [hs.2]; omega, by have := h.tl; simp only; omega, by have := h.kl; simp only; omega, h.tm⟩
        · exact h0
      · have hi := expire_inv (now := timeO p o) h.s
        have hs : (expireS p.s (timeO p o)).now ≤ timeO p o ∧ (expireS p.s (timeO p o)).next = p.s.next := by
          unfold expireS
          split
          · exact ⟨by have := h.lo; omega, rfl⟩
          · exact ⟨Int.le_refl _, rfl⟩
        exact ⟨hi, hs.1, ht.1, by have := h.nx; simp only [hs.2]; omega, by have := h.tl; simp only; omega, by have := h.kl; simp only; omega, h.tm⟩

def foldP (p : Pla) (l : List OpU) : Pla := l.foldl nextP p
theorem foldP_inv : ∀ (l : List OpU) {m : Nat} {p : Pla}, PInv m p → PInv (m + l.length) (foldP p l)
  | [], _, _, h => h
  | o :: l, m, p, h => by
    have := foldP_inv l (nextP_inv (o := o) h)
    have e : m + 1 + l.length = m + (o :: l).length := by simp; omega
    rw [e] at this
    exact this

def srvN : List UInt8 := [115, 114, 118]
theorem nameB_srv : nameB srvN = true := by decide +kernel
def startP (w : Nat) : Pla := ⟨⟨srvN, 0, [⟨0, 0, epochT srvN 0⟩], 0, [], 1 + ((w % 16 : Nat) : Int), 0⟩, 0, [], []⟩
theorem startP_inv (w : Nat) : PInv 0 (startP w) := by
  have hb : w % 16 < 16 := Nat.mod_lt _ (by decide)
  refine ⟨⟨⟨nameB_srv, ⟨by simp only [startP]; omega, by simp only [startP]; omega⟩, by simp [startP], by simp [startP], by simp [startP], ?_, rfl, by simp [startP]⟩, by simp only [startP]; omega, fun k hk => ?_⟩, by simp [startP], by simp [startP], by simp [startP], by simp [startP], by simp [startP], fun t ht => by simp [startP] at ht⟩
  · exact (keysP_ch _).2 ⟨by simp [startP], by simp [startP], by simp [startP, chP]⟩
  · simp [startP] at hk
    simp only [hk, startP]; omega
def playedP (w : Nat) (l : List OpU) : Pla := foldP (startP w) l
theorem played_inv (w : Nat) (l : List OpU) : PInv l.length (playedP w l) := by
  have := foldP_inv l (startP_inv w)
  rwa [Nat.zero_add] at this
end Go.Am

namespace Go.Am
set_option maxRecDepth 8000

theorem tmod_nat (a b : Nat) : ((a : Int).tmod (b : Int)) = ((a % b : Nat) : Int) := by
  rw [Int.tmod_eq_emod_of_nonneg (by omega)]; omega
theorem encP_eq (p : Pla) : encP p = encS p.s ++ [.int .i64 p.now, .sl false 4 (encTs p.ts), .sl false 4 (encTs p.ks)] := rfl

theorem PInv.b {m : Nat} {p : Pla} (h : PInv m p) (hm : m ≤ 80) : 0 ≤ p.now ∧ p.now ≤ 1000 ∧ p.ts.length ≤ 80 ∧ p.ks.length ≤ 80 := by
  have h1 := h.s.ok.nw
  have h2 := h.lo
  have h3 := h.hi
  have h4 := h.tl
  have h5 := h.kl
  omega

theorem encTs_snoc (ts : List Tm) (t : Tm) : encTs ts ++ [[.int .i64 t.kind, .str t.name, .int .i64 t.sort, .sl false 4 (encTs t.kids)]] = encTs (ts ++ [t]) := by
  rw [← encTs_append, ← encTs_one, ← encT_eq]
theorem abc_cut (o : OpU) : ∃ (r : Int) (b : UInt8), ((o.n : Int).tmod 3) = r ∧ agO o = [b] ∧ ((r = 0 ∧ b = 97) ∨ (r = 1 ∧ b = 98) ∨ (r = 2 ∧ b = 99)) := by
  have q3 : ((o.n : Int).tmod 3) = ((o.n % 3 : Nat) : Int) := tmod_nat o.n 3
  have : o.n % 3 = 0 ∨ o.n % 3 = 1 ∨ o.n % 3 = 2 := by omega
  unfold agO
  rcases this with d | d | d <;> rw [d] at q3 ⊢
  · exact ⟨0, 97, q3, rfl, .inl ⟨rfl, rfl⟩⟩
  · exact ⟨1, 98, q3, rfl, .inr (.inl ⟨rfl, rfl⟩)⟩
  · exact ⟨2, 99, q3, rfl, .inr (.inr ⟨rfl, rfl⟩)⟩

theorem call_Next {m : Nat} {p : Pla} (o : OpU) (bs : List (List AV)) (h : PInv m p) (hm : m ≤ 80) (ho : o.ok) : call F.tb 138 [.agg (encP p), .agg (encO o)] bs = some (.agg (encP (nextP p o)), bs) := by
  rw [call_code F.tb_138 _ _ rfl]
  obtain ⟨b1, b2, b3, b4⟩ := h.b hm
  have hcl := h.s.cl
  have hnl : p.s.name.length < 1000000 := by have := h.s.nl; omega
  have hul : p.s.used.length < 1000000 := by have := h.s.ok.ul; omega
  have hkl : p.s.keys.length < 1000000 := by have := h.s.kl; omega
  have q4 : ((o.k : Int).tmod 4) = ((o.k % 4 : Nat) : Int) := tmod_nat o.k 4
  have q8 : ((o.a : Int).tmod 8) = ((o.a % 8 : Nat) : Int) := tmod_nat o.a 8
  have l8 : o.a % 8 < 8 := Nat.mod_lt _ (by decide)
  obtain ⟨r3, b, q3, hag, hr3⟩ := abc_cut o
  have ht : timeO p o = p.now + ((o.a % 8 : Nat) : Int) := rfl
  obtain ⟨g, hg⟩ : ∃ g, o.a % 8 = g := ⟨_, rfl⟩
  rw [hg] at q8 l8 ht
  have v8 : IntKind.i64.wrap (g : Int) = (g : Int) := wrap64 (by omega) (by omega)
  have wt : IntKind.i64.wrap (p.now + (g : Int)) = timeO p o := by rw [ht]; exact wrap64 (by omega) (by omega)
  have hk : o.k % 4 = 0 ∨ o.k % 4 = 1 ∨ o.k % 4 = 2 ∨ o.k % 4 = 3 := by omega
  have hnx : nextP p o = nextP p o := rfl
  conv at hnx => rhs; unfold nextP
  rw [hnx]
  clear hnx
  generalize timeO p o = now at *
  have w0 : IntKind.u8.wrap 1 = 1 := by decide
  have w1 : IntKind.u8.wrap 2 = 2 := by decide
  have w2 : IntKind.u8.wrap 3 = 3 := by decide
  have e01 : ¬ ((0 : Int) = 1) := by decide
  rcases hk with c | c | c | c <;> simp only [c] at q4 ⊢ <;> simp (config := { decide := true }) only [if_true, if_false]
  · have hr := call_RIssue p.s (agO o) now bs hnl hcl h.s.kb (by simp [agO_len])
    have a1 : (p.ts.length + 1) * 56 ≤ 140737488355328 := by omega
    have a2 : (p.ks.length + 1) * 56 ≤ 140737488355328 := by omega
    have a3 : p.ts.length * 56 ≤ 140737488355328 := by omega
    have a4 : p.ks.length * 56 ≤ 140737488355328 := by omega
    rw [hag] at hr ⊢
    generalize issueS p.s [b] now = v at *
    have e4 := encT_eq v.2.1
    have e5 := encT_eq v.2.2.1
    have s1 := encTs_snoc p.ts v.2.1
    have s2 := encTs_snoc p.ks v.2.2.1
    unfold encS at *
    unfold encP encO
    rcases hr3 with ⟨rfl, rfl⟩ | ⟨rfl, rfl⟩ | ⟨rfl, rfl⟩ <;>
    by_cases d : v.2.2.2 = 0 <;>
    simp [F.sealringref54_Next_body, F.sealringref54_Next_b, F.sealringref54_Next_res, F.sealringref54_Next_keep, q4, q8, q3, v8, wt, w0, w1, w2, hr, d, a1, a2, a3, a4, e4, e5, s1, s2, encTs_one]
  · unfold encP encO
    by_cases c1 : p.ts = []
    · simp [F.sealringref54_Next_body, F.sealringref54_Next_b, F.sealringref54_Next_res, F.sealringref54_Next_keep, q4, q8, v8, wt, c1, encTs]
    · have hr := call_RResume p.s (tkO p o) now bs hnl hul hkl h.s.kb (by have := h.tm _ (tkO_mem (o := o) c1); omega)
      have hl : 0 < p.ts.length := List.length_pos_iff.2 c1
      have hx : o.n % p.ts.length < p.ts.length := Nat.mod_lt _ hl
      have qn : ((o.n : Int).tmod (p.ts.length : Int)) = ((o.n % p.ts.length : Nat) : Int) := tmod_nat _ _
      have hgt : (encTs p.ts)[o.n % p.ts.length]? = some (encT (tkO p o)) := by
        unfold tkO
        rw [encTs_get, List.getElem?_eq_getElem hx]
        rfl
      have vn : IntKind.i64.wrap (o.n : Int) = (o.n : Int) := wrap64 (by omega) (by have := ho.2.1; omega)
      have hne : ¬ ((p.ts.length : Int) = 0) := by omega
      obtain ⟨x, hxx⟩ : ∃ x, o.n % p.ts.length = x := ⟨_, rfl⟩
      rw [hxx] at qn hgt hx
      generalize resumeS p.s (tkO p o) now = v at *
      have e4 := encT_eq v.2.1
      have e5 := encT_eq (tkO p o)
      rw [e5] at hr hgt
      unfold encS at *
      by_cases d : v.2.2 = 0 <;>
      simp [F.sealringref54_Next_body, F.sealringref54_Next_b, F.sealringref54_Next_res, F.sealringref54_Next_keep, q4, q8, v8, wt, hr, d, e4, c1, hl, hgt, qn, vn, hne]
  · have hr := call_RRotate p.s now bs hnl hcl h.s.kb
    generalize rotateS p.s now = v at *
    unfold encS at *
    unfold encP encO
    by_cases d : v.2 = 0 <;>
    simp [F.sealringref54_Next_body, F.sealringref54_Next_b, F.sealringref54_Next_res, F.sealringref54_Next_keep, q4, q8, v8, wt, hr, d]
  · have hr := call_RExpire p.s now bs hnl hcl h.s.kb
    generalize expireS p.s now = v at *
    unfold encS at *
    unfold encP encO
    simp [F.sealringref54_Next_body, F.sealringref54_Next_b, F.sealringref54_Next_res, F.sealringref54_Next_keep, q4, q8, v8, wt, hr]

theorem Played_loop (w : Nat) (l : List OpU) (o : Bool) (bs : List (List AV)) (hl : l.length ≤ 60) (ho : ∀ x ∈ l, x.ok) :
    ∀ (post pre : List OpU) (ρ : Nat → AV), l = pre ++ post → ρ 1 = .sl o 3 (l.map encO) → ρ 7 = .bx (encP (playedP w pre)) → ρ 8 = .int .i64 pre.length → (∃ z, ρ 4 = .bx z ∧ z.length = 10) →
    R F.tb (.loop F.sealringref54_Played_l0) ρ bs (blockK 0 (seqK F.tb F.sealringref54_Played_r0 (finK F.sealringref54_Played bs.length))) = some (.agg (encP (playedP w l)), bs) := by
  intro post
  induction post with
  | nil =>
    intro pre ρ hkk h1 h7 h8 h4
    obtain ⟨z, h4, hz⟩ := h4
    rw [R_loop' F.sealringref54_Played_l0.eq_1]
    simp at hkk
    rw [← hkk] at h7 h8
    unfold encP at *
    simp [h1, h7, h8, h4, hz, F.sealringref54_Played_r0, F.sealringref54_Played_res, F.sealringref54_Played_keep]
  | cons x post IH =>
    intro pre ρ hkk h1 h7 h8 h4
    have h4' := h4
    obtain ⟨z, h4, hz⟩ := h4
    have hg := get_pre hkk
    have hl' : l.length = pre.length + (post.length + 1) := by rw [hkk]; simp
    have hw1 : IntKind.i64.wrap ((pre.length : Int) + 1) = (pre.length : Int) + 1 := wrap64 (by omega) (by omega)
    have hlt : (pre.length : Int) < (l.length : Int) := by omega
    have hn := call_Next x bs (played_inv w pre) (by omega) (ho x (by rw [hkk]; simp))
    have hp : nextP (playedP w pre) x = playedP w (pre ++ [x]) := by simp [playedP, foldP, List.foldl_append]
    rw [hp] at hn
    rw [R_loop' F.sealringref54_Played_l0.eq_1]
    have e0 : encO x = [.int .u8 (x.k : Int), .int .u8 (x.n : Int), .int .u8 (x.a : Int)] := rfl
    unfold encP at *
    rw [e0] at hn
    simp [h1, h7, h8, h4, hz, hg, hw1, hlt, hn, e0]
    rw [IH (pre ++ [x])] <;> simp [h1, h4, hz, hkk]

theorem call_Played (w : Nat) (l : List OpU) (o : Bool) (bs : List (List AV)) (hw : w < 256) (hl : l.length ≤ 60) (ho : ∀ x ∈ l, x.ok) : call F.tb 137 [.int .u8 (w : Int), .sl o 3 (l.map encO)] bs = some (.agg (encP (playedP w l)), bs) := by
  have h16 : ((w : Int).tmod 16) = ((w % 16 : Nat) : Int) := tmod_nat w 16
  have hb : w % 16 < 16 := Nat.mod_lt _ (by decide)
  have hst : startP w = ⟨⟨srvN, 0, [⟨0, 0, epochT srvN 0⟩], 0, [], 1 + ((w % 16 : Nat) : Int), 0⟩, 0, [], []⟩ := rfl
  have hloop := Played_loop w l false bs hl ho l []
  have hp0 : playedP w [] = startP w := rfl
  rw [hp0, hst] at hloop
  obtain ⟨g, hg⟩ : ∃ g, w % 16 = g := ⟨_, rfl⟩
  rw [hg] at h16 hb hloop
  have v8 : IntKind.i64.wrap (g : Int) = (g : Int) := wrap64 (by omega) (by omega)
  have v1 : IntKind.i64.wrap (1 + (g : Int)) = 1 + (g : Int) := wrap64 (by omega) (by omega)
  have hnew := call_RNew srvN (1 + (g : Int)) bs (by decide)
  have hv : newS srvN (1 + (g : Int)) = (⟨srvN, 0, [⟨0, 0, epochT srvN 0⟩], 0, [], 1 + (g : Int), 0⟩, 0) := by
    have q1 : (1 : Int) ≤ 1 + (g : Int) := by omega
    have q2 : 1 + (g : Int) ≤ 1000 := by omega
    simp [newS, nameB_srv, q1, q2]
  rw [hv] at hnew
  have es : srvN = [115, 114, 118] := rfl
  rw [call_code F.tb_137 _ _ rfl]
  unfold encP encS at *
  clear es
  simp only [List.map_cons, List.map_nil, srvN] at hnew hloop
  simp [F.sealringref54_Played_body, F.sealringref54_Played_b, h16, v8, v1, hnew]
  rw [hloop] <;> simp [encTs]
end Go.Am
