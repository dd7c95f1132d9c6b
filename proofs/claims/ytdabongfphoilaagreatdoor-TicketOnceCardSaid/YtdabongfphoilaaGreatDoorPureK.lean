/-
  The pure land, part 38: a ticket that was issued and not used.
-/
import Derived.Test.YtdabongfphoilaaGreatDoorPureJ
set_option linter.unusedVariables false
set_option linter.unusedSimpArgs false

namespace Go.Am
set_option maxRecDepth 8000

theorem issue_eq {s : Srv} {ag : List UInt8} {now : Int} (h : (issueS s ag now).2.2.2 = 0) : (issueS s ag now).1 = { s with now := now, next := s.next + 1 } := by
  unfold issueS at *
  split at h
  · contradiction
  · rw [if_neg (by assumption)]
    split at h
    · simp at h
    · rw [if_neg (by assumption)]
      split at h
      · simp at h
      · rw [if_neg (by assumption)]
theorem rotate_eq {s : Srv} {now : Int} (h : (rotateS s now).2 = 0) : (rotateS s now).1 = { s with now := now, epoch := s.epoch + 1, keys := rotK s (now + s.window) ++ [⟨s.epoch + 1, 0, epochT s.name (s.epoch + 1)⟩] } ∧ s.now ≤ now := by
  unfold rotateS at *
  split at h
  · contradiction
  · rename_i h1
    rw [if_neg (by assumption)]
    split at h
    · simp at h
    · rw [if_neg (by assumption)]
      exact ⟨rfl, (callS0 (Decidable.not_not.1 h1)).2.1⟩
theorem resume_eq {s : Srv} {t : Tm} {now : Int} (h3 : (resumeS s t now).2.2 = 0) : ∃ a ky n ex, (readS s t).1 = some (a, ky, n, ex) ∧ (resumeS s t now).1 = { s with used := insU ⟨n, ex⟩ s.used, now := now } := by
  unfold resumeS at *
  split at h3
  · contradiction
  · rw [if_neg (by assumption)]
    cases hr : (readS s t).1 with
    | none => rw [hr] at h3; exact absurd h3 (readS_iff.1 hr)
    | some q =>
      obtain ⟨a, ky, n, ex⟩ := q
      rw [hr] at h3
      refine ⟨a, ky, n, ex, rfl, ?_⟩
      simp only at h3 ⊢
      split at h3
      · simp at h3
      · rw [if_neg (by assumption)]
        split at h3
        · simp at h3
        · rw [if_neg (by assumption)]
          unfold resF at h3 ⊢
          split at h3
          · simp at h3
          · rw [if_neg (by assumption)]
            split at h3
            · simp at h3
            · rw [if_neg (by assumption)]

theorem nextP_uw (p : Pla) (o : OpU) : (nextP p o).s.used.length ≤ p.s.used.length + 1 ∧ (nextP p o).s.window = p.s.window := by
  unfold nextP
  split
  · split
    · rename_i h; simp only [issue_eq h]; exact ⟨by omega, by simp⟩
    · exact ⟨by simp only; omega, rfl⟩
  · split
    · split
      · rename_i h
        obtain ⟨a, ky, n, ex, _, he⟩ := resume_eq h.2
        simp only [he, insU_len]
        exact ⟨Nat.le_refl _, by simp⟩
      · exact ⟨by simp only; omega, rfl⟩
    · split
      · split
        · rename_i h; simp only [(rotate_eq h).1]; exact ⟨by omega, by simp⟩
        · exact ⟨by simp only; omega, rfl⟩
      · unfold expireS
        split
        · exact ⟨by simp only; omega, rfl⟩
        · exact ⟨Nat.le_succ_of_le (List.length_filter_le _ _), rfl⟩
theorem foldP_uw : ∀ (l : List OpU) (p : Pla), (foldP p l).s.used.length ≤ p.s.used.length + l.length ∧ (foldP p l).s.window = p.s.window
  | [], p => ⟨Nat.le_refl _, rfl⟩
  | o :: l, p => by
    obtain ⟨h1, h2⟩ := foldP_uw l (nextP p o)
    obtain ⟨h3, h4⟩ := nextP_uw p o
    refine ⟨?_, h2.trans h4⟩
    have : (foldP p (o :: l)).s.used.length = (foldP (nextP p o) l).s.used.length := rfl
    simp only [List.length_cons]; omega
theorem played_uw (w : Nat) (l : List OpU) : (playedP w l).s.used.length ≤ l.length ∧ (playedP w l).s.window = 1 + ((w % 16 : Nat) : Int) := by
  obtain ⟨h1, h2⟩ := foldP_uw l (startP w)
  exact ⟨by have : (startP w).s.used.length = 0 := rfl; unfold playedP; omega, h2⟩

theorem name_ep {s : List UInt8} {n : Nat} (hs : nameB s = true) (h : n < 1000000) : isNameB (s ++ [35] ++ decN n) = true := by
  have hd := mass_decN h
  have hl : s.length ≤ 10 := by simp only [nameB, Bool.and_eq_true, decide_eq_true_eq] at hs; exact hs.1.1.2
  have hn : isNameB s = true := by simp only [nameB, Bool.and_eq_true] at hs; exact hs.1.1.1
  rw [List.append_assoc]
  refine isNameB_app hn ?_ (by simp; omega)
  rw [List.all_append, decN_part, Bool.and_true]
  decide

theorem parts_writ {ag s : List UInt8} {n ex ep : Nat} (ha : isNameB ag = true) (hs : nameB s = true) (hn : n ≤ 10000) (he : ex ≤ 900000) (hp : ep ≤ 10000) :
    partsQ (writT ag (tickT s n) n ex (epochT s ep)) = some ((ag, tickT s n, (n : Int), (ex : Int)), epochT s ep) := by
  have h0 : thV (writT ag (tickT s n) n ex (epochT s ep)) = 0 := by
    have h1 := name_num (n := n) (by omega)
    have h2 := name_num (n := ex) (by omega)
    have h3 := name_tick hs (n := n) (by omega)
    have h3b := name_ep hs (n := ep) (by omega)
    have h4 : findSy [112, 97, 105, 114] symL = some ⟨[112, 97, 105, 114], 2, 2, 1⟩ := by simp [findSy, symL]
    have h4b : findSy [101, 110, 99] symL = some ⟨[101, 110, 99], 2, 2, 1⟩ := by simp [findSy, symL]
    have h5 : isNameB [112, 97, 105, 114] = true := by decide
    have h6 : isNameB [101, 110, 99] = true := by decide
    simp at h1 h2 h3 h3b
    simp [thV, validT, writT, ENC, bodyT, pairT, PAIR, tickT, numT, epochT, dec_nat, errT, errL, nodeE, Tm.nodes, nodesL, Tm.depth, depthL, chkT, chkL, h1, h2, h3, h3b, h4, h4b, h5, h6, ha]
  have h1 : isB (writT ag (tickT s n) n ex (epochT s ep)) ENC = true := isB_iff.2 ⟨rfl, rfl⟩
  have h2 : untL (bodyT ag (tickT s n) n ex) = [.mk 2 ag 1 [], tickT s n, numT n, numT ex] := by
    simp [bodyT, pairT, untL, tickT, numT]
  have h3 : numB (numT (n : Int)) = true := numB_iff.2 ⟨by rw [numV_numT]; omega, by rw [numV_numT]⟩
  have h4 : numB (numT (ex : Int)) = true := numB_iff.2 ⟨by rw [numV_numT]; omega, by rw [numV_numT]⟩
  have h5 : (writT ag (tickT s n) n ex (epochT s ep)).kids = [bodyT ag (tickT s n) n ex, epochT s ep] := rfl
  unfold partsQ
  rw [if_pos ⟨h0, h1⟩, h5]
  simp only [h2]
  rw [if_pos ⟨⟨rfl, rfl, rfl, rfl⟩, h3, h4⟩, numV_numT, numV_numT]
  rfl

/-- What holds of a server while a ticket with the number n, the end fin and the key K waits. -/
structure KInv (nm : List UInt8) (n : Nat) (W fin : Int) (K : Tm) (s : Srv) (now : Int) : Prop where
  si : SInv s
  nn : s.name = nm
  w : s.window = W
  lo : s.now ≤ now
  fl : fin - W ≤ now
  hi : now ≤ fin
  nx : s.next = (n : Int) + 1
  un : ∀ u ∈ s.used, u.n < n
  ul : s.used.length ≤ 60
  kk : ∃ k ∈ s.keys, k.key = K ∧ (k.e = 0 ∨ fin ≤ k.e)

theorem KInv.rot {nm : List UInt8} {n : Nat} {W fin : Int} {K : Tm} {s : Srv} {now now' : Int} (h : KInv nm n W fin K s now) (h1 : now ≤ now') (h2 : now' ≤ fin) (he : (rotateS s now').2 = 0) : KInv nm n W fin K (rotateS s now').1 now' := by
  have hi := rotate_inv h.si he
  obtain ⟨e, hlo⟩ := rotate_eq he
  obtain ⟨k, k1, k2, k3⟩ := h.kk
  refine ⟨hi, by rw [e]; exact h.nn, by rw [e]; exact h.w, by rw [e]; exact Int.le_refl _, by have := h.fl; omega, h2, by rw [e]; exact h.nx, by rw [e]; exact h.un, by rw [e]; exact h.ul, ?_⟩
  rw [e]
  obtain ⟨i, l, hkk, _⟩ := h.si.ok.last
  rw [hkk] at k1
  rcases List.mem_append.1 k1 with q | q
  · exact ⟨k, by simp [rotK, hkk, q], k2, k3⟩
  · simp only [List.mem_singleton] at q
    subst q
    exact ⟨{ k with e := now' + s.window }, by simp [rotK, hkk], k2, .inr (by have := h.fl; have := h.w; simp only; omega)⟩

theorem KInv.exp {nm : List UInt8} {n : Nat} {W fin : Int} {K : Tm} {s : Srv} {now now' : Int} (h : KInv nm n W fin K s now) (h1 : now ≤ now') (h2 : now' ≤ fin) : KInv nm n W fin K (expireS s now') now' := by
  have hi := expire_inv (now := now') h.si
  obtain ⟨k, k1, k2, k3⟩ := h.kk
  unfold expireS at *
  split
  · exact ⟨h.si, h.nn, h.w, by have := h.lo; omega, by have := h.fl; omega, h2, h.nx, h.un, h.ul, k, k1, k2, k3⟩
  · rename_i hc
    rw [if_neg hc] at hi
    refine ⟨hi, h.nn, h.w, Int.le_refl _, by have := h.fl; omega, h2, h.nx, fun u hu => h.un u (List.mem_filter.1 hu).1, Nat.le_trans (List.length_filter_le _ _) h.ul, k, ?_, k2, k3⟩
    refine List.mem_filter.2 ⟨k1, ?_⟩
    rcases k3 with k3 | k3
    · simp [keepE, k3]
    · have : now' ≤ k.e := by omega
      simp [keepE, this]

theorem KInv.stay {nm : List UInt8} {n : Nat} {W fin : Int} {K : Tm} {s : Srv} {now now' : Int} (h : KInv nm n W fin K s now) (h1 : now ≤ now') (h2 : now' ≤ fin) : KInv nm n W fin K s now' :=
  ⟨h.si, h.nn, h.w, by have := h.lo; omega, by have := h.fl; omega, h2, h.nx, h.un, h.ul, h.kk⟩

theorem KInv.res {nm ag : List UInt8} {n ep ex : Nat} {W : Int} {s : Srv} {now : Int} (h : KInv nm n W ex (epochT nm ep) s now) (ha : isNameB ag = true) (hx : ex ≤ 90000) (hp : ep ≤ 10000) :
    (resumeS s (writT ag (tickT nm n) n ex (epochT nm ep)) now).2 = (tickT nm n, 0) := by
  have hnx := h.si.ok.nx
  have hn := h.nx
  have hnm := h.si.ok.name
  rw [h.nn] at hnm
  have hq := parts_writ (n := n) (ex := ex) (ep := ep) ha hnm (by omega) (by omega) hp
  have hv := ok_validS h.si.ok
  have hc : callS s now = 0 := by
    have h1 := h.lo
    have h2 := h.hi
    have h3 : now ≤ 100000 := by omega
    simp [callS, hv, lateB, h1, h3]
  have hr : readS s (writT ag (tickT nm n) n ex (epochT nm ep)) = (some (ag, tickT nm n, (n : Int), (ex : Int)), 0) := by
    obtain ⟨k, k1, k2, _⟩ := h.kk
    unfold readS
    rw [if_neg (by simp [hv]), hq]
    simp only
    rw [if_pos]
    simp only [List.any_eq_true, decide_eq_true_eq]
    exact ⟨k, k1, cmpT_iff.2 k2⟩
  have hh : ¬ hasN n s.used = true := by
    simp only [hasN, List.any_eq_true, decide_eq_true_eq]
    rintro ⟨u, hu, he⟩
    have := h.un u hu
    omega
  have hl : ¬ s.used.length = 200 := by have := h.ul; omega
  have hi := h.hi
  unfold resumeS
  rw [if_neg (by simp [hc]), hr]
  simp only
  rw [if_neg (by omega), if_neg (by omega)]
  unfold resF
  rw [if_neg hh, if_neg hl]

/-- The server behind an issue at the play's time. -/
theorem KInv.start {m : Nat} {p : Pla} (h : PInv m p) (hm : m ≤ 60) (hu : p.s.used.length ≤ 60) : ∃ n ep ex : Nat, p.s.next = n ∧ p.now + p.s.window = ex ∧ ex ≤ 90000 ∧ ep ≤ 10000 ∧
    issueS p.s [97] p.now = ({ p.s with now := p.now, next := (n : Int) + 1 }, writT [97] (tickT p.s.name n) n ex (epochT p.s.name ep), tickT p.s.name n, 0) ∧
    KInv p.s.name n p.s.window ex (epochT p.s.name ep) { p.s with now := p.now, next := (n : Int) + 1 } p.now := by
  have hok := h.s.ok
  have hnx := hok.nx
  have hnw := hok.nw
  have hep := hok.ep
  have hw := hok.w
  have hw2 := h.s.w
  have hlo := h.lo
  have hhi := h.hi
  have hpn := h.nx
  obtain ⟨n, hn⟩ : ∃ n : Nat, p.s.next = n := ⟨p.s.next.toNat, by omega⟩
  obtain ⟨ex, hex⟩ : ∃ n : Nat, p.now + p.s.window = n := ⟨(p.now + p.s.window).toNat, by omega⟩
  obtain ⟨i, k, hkk, _⟩ := hok.last
  obtain ⟨c1, c2, c3⟩ := (keysP_ch p.s).1 hok.ks
  obtain ⟨q1, q2, q3, q4⟩ := chP_mem c3 k (by rw [hkk]; simp)
  obtain ⟨ep, hepn⟩ : ∃ n : Nat, k.n = n := ⟨k.n.toNat, by omega⟩
  have hlk : lastK p.s = epochT p.s.name ep := by simp [lastK, hkk, q1, hepn]
  have hiss : issueS p.s [97] p.now = ({ p.s with now := p.now, next := (n : Int) + 1 }, writT [97] (tickT p.s.name n) n ex (epochT p.s.name ep), tickT p.s.name n, 0) := by
    have hc : callS p.s p.now = 0 := by
      have h3 : p.now ≤ 100000 := by omega
      simp [callS, ok_validS hok, lateB, hlo, h3]
    have ha : ¬ isNameB [97] = false := by decide
    unfold issueS
    rw [if_neg (by simp [hc]), if_neg ha, if_neg (by omega), hlk, hex, hn]
  have hke : k.e = 0 := by
    have : ∀ {ks : List Ep} {n lo : Int}, chP p.s.name n lo ks → ∀ i k, ks = i ++ [k] → k.e = 0 := by
      intro ks
      induction ks with
      | nil => intro n lo h; exact h.elim
      | cons a r ih =>
        intro n lo h i k hi
        cases r with
        | nil =>
          cases i with
          | nil => simp at hi; subst hi; exact h.2.1
          | cons b i => simp at hi
        | cons b r =>
          cases i with
          | nil => simp at hi
          | cons c i =>
            simp only [List.cons_append, List.cons.injEq] at hi
            exact ih h.2.2.2.2 i k (by rw [hi.2])
    exact this c3 i k hkk
  refine ⟨n, ep, ex, hn, hex, by omega, by omega, hiss, ?_⟩
  have hs := issue_inv (s := p.s) (ag := [97]) (now := p.now) h.s (by rw [hiss])
  rw [hiss] at hs
  refine ⟨hs, rfl, rfl, Int.le_refl _, by omega, by omega, rfl, fun u hu => ?_, hu, k, by rw [hkk]; simp, by rw [q1, hepn], .inl hke⟩
  have := (usLP_mem hok.us).1 u hu
  omega
end Go.Am

namespace Go.Am
set_option maxRecDepth 8000

/-- The first value of a key. -/
def lookA {α : Type} (d : α) (q : Int) : List (Int × α) → α
  | [] => d
  | (k, v) :: r => if q = k then v else lookA d q r
def updA {α : Type} (q : Int) (v : α) : List (Int × α) → List (Int × α)
  | [] => [(q, v)]
  | (k, x) :: r => if q = k then (q, v) :: r else (k, x) :: updA q v r
theorem lookA_upd {α : Type} (d : α) (q q2 : Int) (v : α) : ∀ (l : List (Int × α)), lookA d q2 (updA q v l) = if q2 = q then v else lookA d q2 l
  | [] => by simp [updA, lookA]
  | (k, x) :: r => by
    unfold updA
    split
    · rename_i h
      subst h
      simp only [lookA]
      split <;> rfl
    · rename_i h
      simp only [lookA, lookA_upd d q q2 v r]
      split
      · rename_i h2
        subst h2
        rw [if_neg (fun e => h e.symm)]
      · rfl
theorem updA_len {α : Type} (q : Int) (v : α) : ∀ (l : List (Int × α)), (updA q v l).length ≤ l.length + 1
  | [] => by simp [updA]
  | (k, x) :: r => by
    unfold updA
    split
    · simp
    · have := updA_len q v r
      simp only [List.length_cons]; omega

theorem insU_mem (x : Us) : ∀ us, x ∈ insU x us ∧ ∀ u ∈ us, u ∈ insU x us
  | [] => by simp [insU]
  | u :: r => by
    obtain ⟨h1, h2⟩ := insU_mem x r
    unfold insU
    split
    · exact ⟨by simp, fun v hv => by simp [List.mem_cons.1 hv]⟩
    · refine ⟨by simp [h1], fun v hv => ?_⟩
      rcases List.mem_cons.1 hv with rfl | hv
      · simp
      · simp [h2 v hv]

/-- The k-th ticket: what it says. -/
def isTk (k : Nat) (t : Tm) (ex : Nat) : Prop := ∃ (ag : List UInt8) (ep : Nat), isNameB ag = true ∧ ep ≤ 10000 ∧ ex ≤ 90000 ∧ 1 ≤ ex ∧ t = writT ag (tickT srvN k) k ex (epochT srvN ep)

/-- What holds of a play and of what has been noted of it. -/
structure OInv (m : Nat) (p : Pla) (A : List (Int × Bool)) (E : List (Int × Int)) : Prop where
  pv : PInv m p
  nm : p.s.name = srvN
  nx : p.s.next = p.ts.length
  tk : ∀ (k : Nat) (t : Tm), p.ts[k]? = some t → ∃ ex : Nat, isTk k t ex ∧ lookA 0 (k : Int) E = ex ∧ (lookA false (k : Int) A = true → ⟨(k : Int), (ex : Int)⟩ ∈ p.s.used ∨ (ex : Int) < p.s.now)
  ez : ∀ k : Nat, p.ts.length ≤ k → lookA 0 (k : Int) E = 0 ∧ lookA false (k : Int) A = false

theorem resume_tk {s : Srv} {now : Int} {k ex : Nat} {t : Tm} (hok : s.ok) (hn : k ≤ 10000) (ht : isTk k t ex) (h : (resumeS s t now).2.2 = 0) :
    s.now ≤ now ∧ now ≤ ex ∧ hasN k s.used = false ∧ (resumeS s t now).1 = { s with used := insU ⟨k, ex⟩ s.used, now := now } := by
  obtain ⟨ag, ep, ha, hp, hx, _, rfl⟩ := ht
  have hq := parts_writ (n := k) (ex := ex) (ep := ep) ha nameB_srv hn (by omega) hp
  obtain ⟨a, ky, n, e, hr, he⟩ := resume_eq h
  have hr2 := hr
  unfold readS at hr2
  split at hr2
  · cases hr2
  · rw [hq] at hr2
    simp only at hr2
    split at hr2
    · simp only [Option.some.injEq, Prod.mk.injEq] at hr2
      obtain ⟨rfl, rfl, rfl, rfl⟩ := hr2
      unfold resumeS at h
      split at h
      · contradiction
      · rename_i hc
        obtain ⟨_, hl, _⟩ := callS0 (Decidable.not_not.1 hc)
        rw [hr] at h
        simp only at h
        split at h
        · simp at h
        · split at h
          · simp at h
          · rename_i h2
            unfold resF at h
            split at h
            · simp at h
            · rename_i h3
              exact ⟨hl, by omega, by simpa using h3, he⟩
    · cases hr2

theorem startO_inv (w : Nat) : OInv 0 (startP w) [] [] := ⟨startP_inv w, rfl, rfl, fun k t h => by simp [startP] at h, fun k _ => ⟨rfl, rfl⟩⟩

/-- The law's answer at a resume, and what is noted then. -/
theorem once_resume {m : Nat} {p : Pla} {A : List (Int × Bool)} {E : List (Int × Int)} {o : OpU} (h : OInv m p A E) (hm : m ≤ 60) (hne : p.ts ≠ []) (he : (resumeS p.s (tkO p o) (timeO p o)).2.2 = 0) :
    lookA false ((o.n % p.ts.length : Nat) : Int) A = false ∧ timeO p o ≤ lookA 0 ((o.n % p.ts.length : Nat) : Int) E := by
  have hl : 0 < p.ts.length := List.length_pos_iff.2 hne
  have hx : o.n % p.ts.length < p.ts.length := Nat.mod_lt _ hl
  have hg : p.ts[o.n % p.ts.length]? = some (tkO p o) := by
    unfold tkO
    rw [List.getElem?_eq_getElem hx]; rfl
  generalize o.n % p.ts.length = k at *
  obtain ⟨ex, h1, h2, h3⟩ := h.tk k _ hg
  obtain ⟨g1, g2, g3, _⟩ := resume_tk h.pv.s.ok (by have := h.pv.tl; omega) h1 he
  rw [h2]
  refine ⟨?_, g2⟩
  cases ha : lookA false (k : Int) A
  · rfl
  · exfalso
    rcases h3 ha with h4 | h4
    · have : hasN k p.s.used = true := by simp only [hasN, List.any_eq_true, decide_eq_true_eq]; exact ⟨_, h4, rfl⟩
      rw [g3] at this; cases this
    · omega

/-- What is noted behind a call: whether a ticket has been accepted. -/
def accO (p : Pla) (o : OpU) (A : List (Int × Bool)) : List (Int × Bool) :=
  if o.k % 4 = 1 ∧ p.ts ≠ [] then updA ((o.n % p.ts.length : Nat) : Int) (lookA false ((o.n % p.ts.length : Nat) : Int) A || decide ((resumeS p.s (tkO p o) (timeO p o)).2.2 = 0)) A else A
/-- .. and the end of the last ticket. -/
def expO (w : Nat) (p q : Pla) (o : OpU) (E : List (Int × Int)) : List (Int × Int) :=
  if 0 < q.ts.length ∧ lookA 0 ((q.ts.length : Int) - 1) E = 0 then updA ((q.ts.length : Int) - 1) (timeO p o + 1 + ((w % 16 : Nat) : Int)) E else E

theorem next_keep {m w : Nat} {p q : Pla} {A : List (Int × Bool)} {E : List (Int × Int)} {o : OpU} (h : OInv m p A E) (hq : PInv (m + 1) q) (hts : q.ts = p.ts) (hnm : q.s.name = p.s.name) (hnx : q.s.next = p.s.next)
    (hk : ∀ (k ex : Nat), lookA false (k : Int) A = true → (⟨(k : Int), (ex : Int)⟩ ∈ p.s.used ∨ (ex : Int) < p.s.now) → ⟨(k : Int), (ex : Int)⟩ ∈ q.s.used ∨ (ex : Int) < q.s.now) :
    OInv (m + 1) q A (expO w p q o E) := by
  have hE : expO w p q o E = E := by
    unfold expO
    rw [if_neg]
    rintro ⟨h1, h2⟩
    rw [hts] at h1 h2
    obtain ⟨t, ht⟩ : ∃ t, p.ts[p.ts.length - 1]? = some t := ⟨p.ts[p.ts.length - 1]'(by omega), List.getElem?_eq_getElem _⟩
    obtain ⟨ex, ⟨_, _, _, _, _, h5, _⟩, h4, _⟩ := h.tk _ t ht
    have e : ((p.ts.length - 1 : Nat) : Int) = (p.ts.length : Int) - 1 := by omega
    rw [e, h2] at h4
    omega
  rw [hE]
  refine ⟨hq, by rw [hnm]; exact h.nm, by rw [hnx, hts]; exact h.nx, fun k t ht => ?_, fun k hk2 => h.ez k (by rw [hts] at hk2; exact hk2)⟩
  rw [hts] at ht
  obtain ⟨ex, h1, h2, h3⟩ := h.tk k t ht
  exact ⟨ex, h1, h2, fun ha => hk k ex ha (h3 ha)⟩

theorem next_once {m w : Nat} {p : Pla} {A : List (Int × Bool)} {E : List (Int × Int)} {o : OpU} (h : OInv m p A E) (hm : m ≤ 60) (hw : p.s.window = 1 + ((w % 16 : Nat) : Int)) :
    OInv (m + 1) (nextP p o) (accO p o A) (expO w p (nextP p o) o E) := by
  have hq := nextP_inv (o := o) h.pv
  have hb := h.pv.b (by omega)
  have hb8 : o.a % 8 < 8 := Nat.mod_lt _ (by decide)
  have hb16 : w % 16 < 16 := Nat.mod_lt _ (by decide)
  have htm : p.now ≤ timeO p o ∧ timeO p o ≤ 2000 := by unfold timeO; omega
  have hlo := h.pv.lo
  -- the time alone
  have hA : ¬ (o.k % 4 = 1 ∧ p.ts ≠ []) → accO p o A = A := fun e => by unfold accO; rw [if_neg e]
  unfold nextP at hq ⊢
  by_cases c0 : o.k % 4 = 0
  · rw [hA (by omega)]
    rw [if_pos c0] at hq ⊢
    by_cases c1 : (issueS p.s (agO o) (timeO p o)).2.2.2 = 0
    · rw [if_pos c1] at hq ⊢
      -- a ticket more
      have hs := issue_eq c1
      have hiss : (issueS p.s (agO o) (timeO p o)).2.1 = writT (agO o) (tickT p.s.name p.s.next) p.s.next (timeO p o + p.s.window) (lastK p.s) := by
        unfold issueS at c1 ⊢
        split at c1
        · contradiction
        · rw [if_neg (by assumption)]
          split at c1
          · simp at c1
          · rw [if_neg (by assumption)]
            split at c1
            · simp at c1
            · rw [if_neg (by assumption)]
      have hag : isNameB (agO o) = true := by
        unfold agO
        have : o.n % 3 = 0 ∨ o.n % 3 = 1 ∨ o.n % 3 = 2 := by omega
        rcases this with d | d | d <;> rw [d] <;> decide
      obtain ⟨i, lk, hkk, _⟩ := h.pv.s.ok.last
      obtain ⟨c3, c4, c5⟩ := (keysP_ch p.s).1 h.pv.s.ok.ks
      obtain ⟨q1, q2, q3, q4⟩ := chP_mem c5 lk (by rw [hkk]; simp)
      have hep := h.pv.s.ok.ep
      obtain ⟨ep, hepn⟩ : ∃ n : Nat, lk.n = n := ⟨lk.n.toNat, by omega⟩
      have hlk : lastK p.s = epochT srvN ep := by simp [lastK, hkk, q1, hepn, h.nm]
      obtain ⟨ex, hex⟩ : ∃ n : Nat, timeO p o + p.s.window = n := ⟨(timeO p o + p.s.window).toNat, by omega⟩
      have ht : (issueS p.s (agO o) (timeO p o)).2.1 = writT (agO o) (tickT srvN p.ts.length) p.ts.length ex (epochT srvN ep) := by rw [hiss, h.nm, h.nx, hex, hlk]
      have hlen : ((p.ts ++ [(issueS p.s (agO o) (timeO p o)).2.1]).length : Int) - 1 = (p.ts.length : Int) := by simp
      have hE : expO w p ⟨(issueS p.s (agO o) (timeO p o)).1, timeO p o, p.ts ++ [(issueS p.s (agO o) (timeO p o)).2.1], p.ks ++ [(issueS p.s (agO o) (timeO p o)).2.2.1]⟩ o E = updA (p.ts.length : Int) (ex : Int) E := by
        unfold expO
        simp only [hlen]
        rw [if_pos ⟨by simp, (h.ez p.ts.length (Nat.le_refl _)).1⟩]
        congr 1
        omega
      rw [hE]
      refine ⟨hq, by simp only [hs]; exact h.nm, by simp only [hs, h.nx]; simp, fun k t hkt => ?_, fun k hk => ?_⟩
      · simp only [lookA_upd]
        rw [List.getElem?_append] at hkt
        split at hkt
        · rename_i hkl
          obtain ⟨ex2, h1, h2, h3⟩ := h.tk k t hkt
          rw [if_neg (by omega)]
          refine ⟨ex2, h1, h2, fun ha => ?_⟩
          simp only [hs]
          rcases h3 ha with h4 | h4
          · exact .inl h4
          · exact .inr (by omega)
        · rename_i hkl
          have hk0 : k = p.ts.length := by
            rcases Nat.eq_zero_or_pos (k - p.ts.length) with h | h
            · omega
            · rw [List.getElem?_eq_none (by simp; omega)] at hkt; cases hkt
          subst hk0
          simp only [Nat.sub_self, List.getElem?_cons_zero, Option.some.injEq] at hkt
          refine ⟨ex, ⟨agO o, ep, hag, by omega, by omega, by omega, by rw [← hkt]; exact ht⟩, by rw [if_pos rfl], fun ha => ?_⟩
          rw [(h.ez p.ts.length (Nat.le_refl _)).2] at ha
          cases ha
      · simp only [List.length_append, List.length_singleton] at hk
        simp only [lookA_upd]
        rw [if_neg (by omega)]
        exact h.ez k (by omega)
    · rw [if_neg c1] at hq ⊢
      exact next_keep h hq rfl rfl rfl (fun _ _ _ h => h)
  · rw [if_neg c0] at hq ⊢
    by_cases c1 : o.k % 4 = 1
    · rw [if_pos c1] at hq ⊢
      by_cases hne : p.ts = []
      · rw [hA (by simp [hne])]
        rw [if_neg (by simp [hne])] at hq ⊢
        exact next_keep h hq rfl rfl rfl (fun _ _ _ h => h)
      · have hl : 0 < p.ts.length := List.length_pos_iff.2 hne
        have hx : o.n % p.ts.length < p.ts.length := Nat.mod_lt _ hl
        have hg : p.ts[o.n % p.ts.length]? = some (tkO p o) := by
          unfold tkO
          rw [List.getElem?_eq_getElem hx]; rfl
        by_cases c2 : (resumeS p.s (tkO p o) (timeO p o)).2.2 = 0
        · rw [if_pos ⟨hne, c2⟩] at hq ⊢
          have hacc : accO p o A = updA ((o.n % p.ts.length : Nat) : Int) true A := by
            unfold accO
            rw [if_pos ⟨c1, hne⟩]
            simp [c2]
          rw [hacc]
          generalize o.n % p.ts.length = k at *
          obtain ⟨ex, h1, h2, h3⟩ := h.tk k _ hg
          obtain ⟨g1, g2, g3, g4⟩ := resume_tk h.pv.s.ok (by have := h.pv.tl; omega) h1 c2
          have hkeep := next_keep (w := w) (o := o) h hq rfl (by simp only [g4]) (by simp only [g4]) (fun k2 ex2 _ hh => by
            simp only [g4]
            rcases hh with hh | hh
            · exact .inl ((insU_mem _ _).2 _ hh)
            · exact .inr (by omega))
          refine ⟨hkeep.pv, hkeep.nm, hkeep.nx, fun k2 t2 ht2 => ?_, fun k2 hk2 => ?_⟩
          · obtain ⟨ex2, j1, j2, j3⟩ := hkeep.tk k2 t2 ht2
            refine ⟨ex2, j1, j2, fun ha => ?_⟩
            rw [lookA_upd] at ha
            split at ha
            · rename_i hkk
              have hkk : k2 = k := by omega
              subst hkk
              -- the ticket's own end
              have e2 : ex2 = ex := by
                obtain ⟨ex3, i1, i2, _⟩ := h.tk k2 t2 ht2
                have hE : (ex2 : Int) = lookA 0 (k2 : Int) (expO w p { p with now := timeO p o, s := (resumeS p.s (tkO p o) (timeO p o)).1 } o E) := j2.symm
                obtain ⟨t3, ht3⟩ : ∃ t, p.ts[k2]? = some t := ⟨_, hg⟩
                have ht2' : p.ts[k2]? = some t2 := ht2
                rw [hg] at ht2'
                injection ht2' with ht2'
                obtain ⟨ag, ep, _, _, _, _, e5⟩ := h1
                obtain ⟨ag2, ep2, _, _, _, _, e6⟩ := j1
                rw [← ht2', e5] at e6
                have e7 := congrArg (fun t : Tm => match t with
                  | .mk _ _ _ [.mk _ _ _ [_, .mk _ _ _ [_, .mk _ _ _ [_, x]]], _] => numV x
                  | _ => 0) e6
                simp only [writT, bodyT, pairT] at e7
                rw [numV_numT, numV_numT] at e7
                exact e7.symm
              subst e2
              simp only [g4]
              exact .inl (insU_mem _ _).1
            · exact j3 ha
          · rw [lookA_upd, if_neg (by have : p.ts.length ≤ k2 := hk2; omega)]
            exact hkeep.ez k2 hk2
        · rw [if_neg (fun e => c2 e.2)] at hq ⊢
          have hacc : accO p o A = updA ((o.n % p.ts.length : Nat) : Int) (lookA false ((o.n % p.ts.length : Nat) : Int) A) A := by
            unfold accO
            rw [if_pos ⟨c1, hne⟩]
            simp [c2]
          have hsame : ∀ q : Int, lookA false q (updA ((o.n % p.ts.length : Nat) : Int) (lookA false ((o.n % p.ts.length : Nat) : Int) A) A) = lookA false q A := fun q => by
            rw [lookA_upd]
            split
            · rename_i e; rw [e]
            · rfl
          rw [hacc]
          have hkeep := next_keep (w := w) (o := o) h hq rfl rfl rfl (fun _ _ _ h => h)
          exact ⟨hkeep.pv, hkeep.nm, hkeep.nx, fun k t ht => by simpa only [hsame] using hkeep.tk k t ht, fun k hk => by simpa only [hsame] using hkeep.ez k hk⟩
    · rw [if_neg c1] at hq ⊢
      rw [hA (by omega)]
      by_cases c2 : o.k % 4 = 2
      · rw [if_pos c2] at hq ⊢
        by_cases c3 : (rotateS p.s (timeO p o)).2 = 0
        · rw [if_pos c3] at hq ⊢
          obtain ⟨e, hl⟩ := rotate_eq c3
          exact next_keep h hq rfl (by simp only [e]) (by simp only [e]) (fun k ex _ hh => by
            simp only [e]
            rcases hh with hh | hh
            · exact .inl hh
            · exact .inr (by omega))
        · rw [if_neg c3] at hq ⊢
          exact next_keep h hq rfl rfl rfl (fun _ _ _ h => h)
      · rw [if_neg c2] at hq ⊢
        refine next_keep h hq rfl ?_ ?_ (fun k ex _ hh => ?_)
        · unfold expireS; split <;> rfl
        · unfold expireS; split <;> rfl
        · simp only
          unfold expireS
          split
          · exact hh
          · rename_i hc
            obtain ⟨_, hl, _⟩ := callS0 (Decidable.not_not.1 hc)
            rcases hh with hh | hh
            · by_cases hke : timeO p o ≤ ex
              · exact .inl (List.mem_filter.2 ⟨hh, by simp [keepU, hke]⟩)
              · exact .inr (by simp only; omega)
            · exact .inr (by simp only; omega)
end Go.Am

namespace Go.Am
set_option maxRecDepth 8000

/-- Entries of a map. -/
def entB (A : List (Int × Bool)) : List AV := A.map fun p => .agg [.int .i64 p.1, .bool p.2]
def entI (E : List (Int × Int)) : List AV := E.map fun p => .agg [.int .i64 p.1, .int .i64 p.2]

def rB (q : Int) : List (Int × Bool) → Option AV
  | [] => none
  | (k, v) :: r => if q = k then some (.bool v) else rB q r
def rI (q : Int) : List (Int × Int) → Option AV
  | [] => none
  | (k, v) :: r => if q = k then some (.int .i64 v) else rI q r
theorem find_B (q : Int) : ∀ A : List (Int × Bool), findM false (entB A) (.int .i64 q) = some (rB q A)
  | [] => by simp [entB, findM, keyB, rB]
  | (k, v) :: r => by
    have ih := find_B q r
    simp only [entB, List.map_cons] at ih ⊢
    by_cases h : q = k
    · subst h; simp [findM, keyEq, rB]
    · have h2 : (q == k) = false := by simp [h]
      simp only [findM, keyEq, if_true, h2, ih, rB, if_neg h]
theorem find_I (q : Int) : ∀ E : List (Int × Int), findM false (entI E) (.int .i64 q) = some (rI q E)
  | [] => by simp [entI, findM, keyB, rI]
  | (k, v) :: r => by
    have ih := find_I q r
    simp only [entI, List.map_cons] at ih ⊢
    by_cases h : q = k
    · subst h; simp [findM, keyEq, rI]
    · have h2 : (q == k) = false := by simp [h]
      simp only [findM, keyEq, if_true, h2, ih, rI, if_neg h]
theorem get_B (q : Int) : ∀ A : List (Int × Bool), ((rB q A).getD (.bool false)).strip = .bool (lookA false q A)
  | [] => rfl
  | (k, v) :: r => by
    simp only [rB, lookA]
    split
    · rfl
    · exact get_B q r
theorem get_I (q : Int) : ∀ E : List (Int × Int), ((rI q E).getD (.int .i64 0)).strip = .int .i64 (lookA 0 q E)
  | [] => rfl
  | (k, v) :: r => by
    simp only [rI, lookA]
    split
    · rfl
    · exact get_I q r
theorem upd_B (q : Int) (v : Bool) : ∀ A : List (Int × Bool), updM false (entB A) (.int .i64 q) (.bool v) = some (entB (updA q v A))
  | [] => by simp [entB, updM, keyB, updA]
  | (k, x) :: r => by
    have ih := upd_B q v r
    simp only [entB, List.map_cons] at ih ⊢
    by_cases h : q = k
    · subst h; simp [updM, keyEq, updA]
    · have h2 : (q == k) = false := by simp [h]
      simp only [updM, keyEq, if_true, h2, ih, Option.map_some, updA, if_neg h, List.map_cons]
theorem upd_I (q : Int) (v : Int) : ∀ A : List (Int × Int), updM false (entI A) (.int .i64 q) (.int .i64 v) = some (entI (updA q v A))
  | [] => by simp [entI, updM, keyB, updA]
  | (k, x) :: r => by
    have ih := upd_I q v r
    simp only [entI, List.map_cons] at ih ⊢
    by_cases h : q = k
    · subst h; simp [updM, keyEq, updA]
    · have h2 : (q == k) = false := by simp [h]
      simp only [updM, keyEq, if_true, h2, ih, Option.map_some, updA, if_neg h, List.map_cons]

theorem Once_loop (w : Nat) (l : List OpU) (o : Bool) (hw : w < 256) (hl : l.length ≤ 60) (ho : ∀ x ∈ l, x.ok) :
    ∀ (post pre : List OpU) (p : Pla) (A : List (Int × Bool)) (E : List (Int × Int)) (ρ : Nat → AV), l = pre ++ post → OInv pre.length p A E → p.s.window = 1 + ((w % 16 : Nat) : Int) → ρ 0 = .int .u8 (w : Int) → ρ 5 = .bx (encP p) → ρ 6 = .mp 0 → ρ 7 = .mp 1 →
      ρ 29 = .sl o 3 (l.map encO) → ρ 30 = .int .i64 l.length → ρ 31 = .int .i64 pre.length →
    R F.tb (.loop F.sealringlaw54_TicketOnce_l0) ρ [.undef :: entB A, .undef :: entI E] (blockK 0 (seqK F.tb F.sealringlaw54_TicketOnce_r0 (finK F.sealringlaw54_TicketOnce 0))) = some (.bool true, []) := by
  intro post
  induction post with
  | nil =>
    intro pre p A E ρ hkk h hwin h0 h5 h6 h7 h29 h30 h31
    rw [R_loop' F.sealringlaw54_TicketOnce_l0.eq_1]
    simp at hkk
    rw [← hkk] at h31
    simp [h5, h29, h30, h31, F.sealringlaw54_TicketOnce_r0, F.sealringlaw54_TicketOnce_res, F.sealringlaw54_TicketOnce_keep]
  | cons x post IH =>
    intro pre p A E ρ hkk h hwin h0 h5 h6 h7 h29 h30 h31
    have hg := get_pre hkk
    have hl' : l.length = pre.length + (post.length + 1) := by rw [hkk]; simp
    have hw1 : IntKind.i64.wrap ((pre.length : Int) + 1) = (pre.length : Int) + 1 := wrap64 (by omega) (by omega)
    have hlt : (pre.length : Int) < (l.length : Int) := by omega
    have hox := ho x (by rw [hkk]; simp)
    have h' := next_once (w := w) (o := x) h (by omega) hwin
    have hwin' : (nextP p x).s.window = 1 + ((w % 16 : Nat) : Int) := by rw [(nextP_uw p x).2]; exact hwin
    have hres := once_resume (o := x) h (by omega)
    have ih := fun ρ => IH (pre ++ [x]) (nextP p x) (accO p x A) (expO w p (nextP p x) x E) ρ (by rw [hkk]; simp) (by simpa using h') hwin'
    clear IH
    have hn := call_Next x [.undef :: entB (accO p x A), .undef :: entI E] h.pv (by omega) hox
    obtain ⟨b1, b2, b3, b4⟩ := h.pv.b (by omega)
    obtain ⟨b1', b2', b3', b4'⟩ := h'.pv.b (by omega)
    have hcl := h.pv.s.cl
    have hnl : p.s.name.length < 1000000 := by have := h.pv.s.nl; omega
    have hul : p.s.used.length < 1000000 := by have := h.pv.s.ok.ul; omega
    have hkl : p.s.keys.length < 1000000 := by have := h.pv.s.kl; omega
    have hkb := h.pv.s.kb
    have how := call_own p.s [.undef :: entB A, .undef :: entI E] hcl
    have q4 : ((x.k : Int).tmod 4) = ((x.k % 4 : Nat) : Int) := tmod_nat x.k 4
    have q8 : ((x.a : Int).tmod 8) = ((x.a % 8 : Nat) : Int) := tmod_nat x.a 8
    have q16 : ((w : Int).tmod 16) = ((w % 16 : Nat) : Int) := tmod_nat w 16
    have l8 : x.a % 8 < 8 := Nat.mod_lt _ (by decide)
    have l16 : w % 16 < 16 := Nat.mod_lt _ (by decide)
    have ht : timeO p x = p.now + ((x.a % 8 : Nat) : Int) := rfl
    obtain ⟨g, hgg⟩ : ∃ g, x.a % 8 = g := ⟨_, rfl⟩
    obtain ⟨g2, hg2⟩ : ∃ g, w % 16 = g := ⟨_, rfl⟩
    rw [hgg] at q8 l8 ht
    rw [hg2] at q16 l16
    have v8 : IntKind.i64.wrap (g : Int) = (g : Int) := wrap64 (by omega) (by omega)
    have v16 : IntKind.i64.wrap (g2 : Int) = (g2 : Int) := wrap64 (by omega) (by omega)
    have wt : IntKind.i64.wrap (p.now + (g : Int)) = timeO p x := by rw [ht]; exact wrap64 (by omega) (by omega)
    have wt1 : IntKind.i64.wrap (timeO p x + 1) = timeO p x + 1 := by rw [ht]; exact wrap64 (by omega) (by omega)
    have wt2 : IntKind.i64.wrap (timeO p x + 1 + (g2 : Int)) = timeO p x + 1 + (g2 : Int) := by rw [ht]; exact wrap64 (by omega) (by omega)
    have hm : ∀ t ∈ p.ts, t.mass < 1000000 := fun t ht => by have := h.pv.tm t ht; omega
    have htk := fun c => tkO_mem (p := p) (o := x) c
    have e0 : encO x = [.int .u8 (x.k : Int), .int .u8 (x.n : Int), .int .u8 (x.a : Int)] := rfl
    have eP : ∀ p : Pla, encP p = [.str p.s.name, .int .i64 p.s.epoch, .sl false 6 (p.s.keys.map encE), .int .i64 p.s.next, .sl false 2 (p.s.used.map encU), .int .i64 p.s.window, .int .i64 p.s.now, .int .i64 p.now, .sl false 4 (encTs p.ts), .sl false 4 (encTs p.ks)] := fun _ => rfl
    have eE : expO w p (nextP p x) x E = if 0 < (nextP p x).ts.length ∧ lookA 0 (((nextP p x).ts.length : Int) - 1) E = 0 then updA (((nextP p x).ts.length : Int) - 1) (timeO p x + 1 + (g2 : Int)) E else E := by rw [expO, hg2]
    have eA : accO p x A = if x.k % 4 = 1 ∧ p.ts ≠ [] then updA ((x.n % p.ts.length : Nat) : Int) (lookA false ((x.n % p.ts.length : Nat) : Int) A || decide ((resumeS p.s (tkO p x) (timeO p x)).2.2 = 0)) A else A := rfl
    clear h h'
    have wl : IntKind.i64.wrap (((nextP p x).ts.length : Int) - 1) = ((nextP p x).ts.length : Int) - 1 := wrap64 (by omega) (by omega)
    generalize hEE : expO w p (nextP p x) x E = E2 at *
    generalize hAA : accO p x A = A2 at *
    generalize nextP p x = q at *
    generalize timeO p x = now at *
    rw [e0] at hn
    rw [eP] at h5 hn
    rw [eP] at hn
    rw [R_loop' F.sealringlaw54_TicketOnce_l0.eq_1]
    have hk4 : ((x.k % 4 : Nat) : Int) = 1 ↔ x.k % 4 = 1 := by omega
    -- the last part, in three cases
    have htail : (1 ≤ (q.ts.length : Int) ∧ lookA 0 ((q.ts.length : Int) - 1) E = 0 ∧ E2 = updA ((q.ts.length : Int) - 1) (now + 1 + (g2 : Int)) E) ∨ (1 ≤ (q.ts.length : Int) ∧ ¬ lookA 0 ((q.ts.length : Int) - 1) E = 0 ∧ E2 = E) ∨ (¬ 1 ≤ (q.ts.length : Int) ∧ True ∧ E2 = E) := by
      by_cases e1 : 0 < q.ts.length
      · by_cases e2 : lookA 0 ((q.ts.length : Int) - 1) E = 0
        · exact .inl ⟨by omega, e2, by rw [eE, if_pos ⟨e1, e2⟩]⟩
        · exact .inr (.inl ⟨by omega, e2, by rw [eE, if_neg (fun h => e2 h.2)]⟩)
      · exact .inr (.inr ⟨by omega, trivial, by rw [eE, if_neg (fun h => e1 h.1)]⟩)
    clear eE
    by_cases c1 : x.k % 4 = 1 ∧ p.ts ≠ []
    · obtain ⟨c1, c2⟩ := c1
      rw [if_pos ⟨c1, c2⟩] at eA
      have hr := call_tResume p.s (tkO p x) now [.undef :: entB A, .undef :: entI E] hnl hcl hul hkl hkb (hm _ (htk c2))
      have hl : 0 < p.ts.length := List.length_pos_iff.2 c2
      have hx : x.n % p.ts.length < p.ts.length := Nat.mod_lt _ hl
      have qn : ((x.n : Int).tmod (p.ts.length : Int)) = ((x.n % p.ts.length : Nat) : Int) := tmod_nat _ _
      have hgt : (encTs p.ts)[x.n % p.ts.length]? = some (encT (tkO p x)) := by
        unfold tkO
        rw [encTs_get, List.getElem?_eq_getElem hx]
        rfl
      have vn : IntKind.i64.wrap (x.n : Int) = (x.n : Int) := wrap64 (by omega) (by have := hox.2.1; omega)
      have hne : ¬ ((p.ts.length : Int) = 0) := by omega
      have hres := hres c2
      obtain ⟨y, hy⟩ : ∃ y, x.n % p.ts.length = y := ⟨_, rfl⟩
      rw [hy] at qn hgt hx hres eA
      generalize resumeS p.s (tkO p x) now = v at *
      have e4 := encT_eq v.2.1
      have e5 := encT_eq (tkO p x)
      rw [e5] at hr hgt
      rw [c1] at q4
      unfold encS at *
      by_cases d : v.2.2 = 0
      · obtain ⟨r1, r2⟩ := hres d
        have r3 : ¬ lookA 0 (y : Int) E < now := by omega
        have eA : A2 = updA (y : Int) true A := by rw [eA, d]; simp
        subst eA
        rcases htail with ⟨e1, e2, e3⟩ | ⟨e1, e2, e3⟩ | ⟨e1, e2, e3⟩ <;> subst e3 <;>
        (simp [h0, h5, h6, h7, h29, h30, h31, hg, hw1, hlt, e0, q4, q8, q16, v8, v16, wt, wt1, wt2, wl, how, hr, d, hn, e4, c2, hl, hgt, qn, vn, hne, find_B, find_I, get_B, get_I, upd_B, upd_I, r1, r3, e1, e2]
         rw [ih] <;> try simp [h0, h6, h7, h29, h30, eP])
      · have eA : A2 = updA (y : Int) (lookA false (y : Int) A) A := by rw [eA]; simp [d]
        subst eA
        cases hb : lookA false (y : Int) A <;> rw [hb] at ih hn <;>
        rcases htail with ⟨e1, e2, e3⟩ | ⟨e1, e2, e3⟩ | ⟨e1, e2, e3⟩ <;> subst e3 <;>
        (simp [h0, h5, h6, h7, h29, h30, h31, hg, hw1, hlt, e0, q4, q8, q16, v8, v16, wt, wt1, wt2, wl, how, hr, d, hn, e4, c2, hl, hgt, qn, vn, hne, find_B, find_I, get_B, get_I, upd_B, upd_I, hb, e1, e2]
         rw [ih] <;> try simp [h0, h6, h7, h29, h30, eP])
    · rw [if_neg c1] at eA
      subst eA
      by_cases c3 : x.k % 4 = 1
      · have c4 : p.ts = [] := by
          rcases Decidable.em (p.ts = []) with h | h
          · exact h
          · exact absurd ⟨c3, h⟩ c1
        rw [c3] at q4
        simp only [c4, encTs] at hn h5
        rcases htail with ⟨e1, e2, e3⟩ | ⟨e1, e2, e3⟩ | ⟨e1, e2, e3⟩ <;> subst e3 <;>
        (simp [h0, h5, h6, h7, h29, h30, h31, hg, hw1, hlt, e0, q4, q8, q16, v8, v16, wt, wt1, wt2, wl, hn, encTs, find_B, find_I, get_B, get_I, upd_B, upd_I, e1, e2]
         rw [ih] <;> try simp [h0, h6, h7, h29, h30, eP])
      · have hk4' : ¬ ((x.k % 4 : Nat) : Int) = 1 := by omega
        obtain ⟨kk, hkk4⟩ : ∃ kk, x.k % 4 = kk := ⟨_, rfl⟩
        rw [hkk4] at q4 hk4'
        rcases htail with ⟨e1, e2, e3⟩ | ⟨e1, e2, e3⟩ | ⟨e1, e2, e3⟩ <;> subst e3 <;>
        (simp [h0, h5, h6, h7, h29, h30, h31, hg, hw1, hlt, e0, q4, q8, q16, v8, v16, wt, wt1, wt2, wl, hn, hk4', find_B, find_I, get_B, get_I, upd_B, upd_I, e1, e2]
         rw [ih] <;> try simp [h0, h6, h7, h29, h30, eP])

theorem law_TicketOnce (w : Nat) (l : List OpU) (o : Bool) (hw : w < 256) (hl : l.length < 4611686018427387904) (ho : ∀ x ∈ l, x.ok) :
    call F.tb 140 [.int .u8 (w : Int), .sl o 3 (l.map encO)] [] = some (.bool true, []) := by
  rw [call_code F.tb_140 _ _ rfl]
  have e1 : ((40 : Int) < l.length) = ¬ (l.length ≤ 40) := by rw [eq_iff_iff]; omega
  by_cases c : l.length ≤ 40
  · have hp := call_Played w [] true [] hw (by simp) (by simp)
    have hloop := fun ρ => Once_loop w l false hw (by omega) ho l [] (startP w) [] [] ρ rfl (startO_inv w) rfl
    simp only [List.map_nil] at hp
    have hp0 : playedP w [] = startP w := rfl
    rw [hp0] at hp
    simp only [entB, entI, List.map_nil] at hloop
    unfold encP at *
    simp [F.sealringlaw54_TicketOnce_body, F.sealringlaw54_TicketOnce_b, call_awake, e1, c, hp]
    rw [hloop] <;> simp
  · simp [F.sealringlaw54_TicketOnce_body, F.sealringlaw54_TicketOnce_b, F.sealringlaw54_TicketOnce_res, F.sealringlaw54_TicketOnce_keep, call_awake, e1, c]
end Go.Am
