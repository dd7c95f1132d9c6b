/-
  The pure land, part 38: a ticket that was issued and not used.
-/
import Derived.Test.YtdabongfphoilaaGreatDoorPureJ
set_option linter.unusedVariables false
set_option linter.unusedSimpArgs false

namespace Go.Am
set_option maxRecDepth 8000

theorem issue_eq {s : Srv} {ag : List UInt8} {now : Int} (h : (issueS s ag now).2.2.2 = 0) : (issueS s ag now).1 = { s with now := now, next := s.next + 1 } := by
  unfold issueS at *
  split at h
  · contradiction
  · rw [if_neg (by assumption)]
    split at h
    · simp at h
    · rw [if_neg (by assumption)]
      split at h
      · simp at h
      · rw [if_neg (by assumption)]
theorem rotate_eq {s : Srv} {now : Int} (h : (rotateS s now).2 = 0) : (rotateS s now).1 = { s with now := now, epoch := s.epoch + 1, keys := rotK s (now + s.window) ++ [⟨s.epoch + 1, 0, epochT s.name (s.epoch + 1)⟩] } ∧ s.now ≤ now := by
  unfold rotateS at *
  split at h
  · contradiction
  · rename_i h1
    rw [if_neg (by assumption)]
    split at h
    · simp at h
    · rw [if_neg (by assumption)]
      exact ⟨rfl, (callS0 (Decidable.not_not.1 h1)).2.1⟩
theorem resume_eq {s : Srv} {t : Tm} {now : Int} (h3 : (resumeS s t now).2.2 = 0) : ∃ a ky n ex, (readS s t).1 = some (a, ky, n, ex) ∧ (resumeS s t now).1 = { s with used := insU ⟨n, ex⟩ s.used, now := now } := by
  unfold resumeS at *
  split at h3
  · contradiction
  · rw [if_neg (by assumption)]
    cases hr : (readS s t).1 with
    | none => rw [hr] at h3; exact absurd h3 (readS_iff.1 hr)
    | some q =>
      obtain ⟨a, ky, n, ex⟩ := q
      rw [hr] at h3
      refine ⟨a, ky, n, ex, rfl, ?_⟩
      simp only at h3 ⊢
      split at h3
      · simp at h3
      · rw [if_neg (by assumption)]
        split at h3
        · simp at h3
        · rw [if_neg (by assumption)]
          unfold resF at h3 ⊢
          split at h3
          · simp at h3
          · rw [if_neg (by assumption)]
            split at h3
            · simp at h3
            · rw [if_neg (by assumption)]

theorem nextP_uw (p : Pla) (o : OpU) : (nextP p o).s.used.length ≤ p.s.used.length + 1 ∧ (nextP p o).s.window = p.s.window := by
  unfold nextP
  split
  · split
    · rename_i h; simp only [issue_eq h]; exact ⟨by omega, by simp⟩
    · exact ⟨by simp only; omega, rfl⟩
  · split
    · split
      · rename_i h
        obtain ⟨a, ky, n, ex, _, he⟩ := resume_eq h.2
        simp only [he, insU_len]
        exact ⟨Nat.le_refl _, by simp⟩
      · exact ⟨by simp only; omega, rfl⟩
    · split
      · split
        · rename_i h; simp only [(rotate_eq h).1]; exact ⟨by omega, by simp⟩
        · exact ⟨by simp only; omega, rfl⟩
      · unfold expireS
        split
        · exact ⟨by simp only; omega, rfl⟩
        · exact ⟨Nat.le_succ_of_le (List.length_filter_le _ _), rfl⟩
theorem foldP_uw : ∀ (l : List OpU) (p : Pla), (foldP p l).s.used.length ≤ p.s.used.length + l.length ∧ (foldP p l).s.window = p.s.window
  | [], p => ⟨Nat.le_refl _, rfl⟩
  | o :: l, p => by
    obtain ⟨h1, h2⟩ := foldP_uw l (nextP p o)
    obtain ⟨h3, h4⟩ := nextP_uw p o
    refine ⟨?_, h2.trans h4⟩
    have : (foldP p (o :: l)).s.used.length = (foldP (nextP p o) l).s.used.length := rfl
    simp only [List.length_cons]; omega
theorem played_uw (w : Nat) (l : List OpU) : (playedP w l).s.used.length ≤ l.length ∧ (playedP w l).s.window = 1 + ((w % 16 : Nat) : Int) := by
  obtain ⟨h1, h2⟩ := foldP_uw l (startP w)
  exact ⟨by have : (startP w).s.used.length = 0 := rfl; unfold playedP; omega, h2⟩

theorem name_ep {s : List UInt8} {n : Nat} (hs : nameB s = true) (h : n < 1000000) : isNameB (s ++ [35] ++ decN n) = true := by
  have hd := mass_decN h
  have hl : s.length ≤ 10 := by simp only [nameB, Bool.and_eq_true, decide_eq_true_eq] at hs; exact hs.1.1.2
  have hn : isNameB s = true := by simp only [nameB, Bool.and_eq_true] at hs; exact hs.1.1.1
  rw [List.append_assoc]
  refine isNameB_app hn ?_ (by simp; omega)
  rw [List.all_append, decN_part, Bool.and_true]
  decide

theorem parts_writ {ag s : List UInt8} {n ex ep : Nat} (ha : isNameB ag = true) (hs : nameB s = true) (hn : n ≤ 10000) (he : ex ≤ 900000) (hp : ep ≤ 10000) :
    partsQ (writT ag (tickT s n) n ex (epochT s ep)) = some ((ag, tickT s n, (n : Int), (ex : Int)), epochT s ep) := by
  have h0 : thV (writT ag (tickT s n) n ex (epochT s ep)) = 0 := by
    have h1 := name_num (n := n) (by omega)
    have h2 := name_num (n := ex) (by omega)
    have h3 := name_tick hs (n := n) (by omega)
    have h3b := name_ep hs (n := ep) (by omega)
    have h4 : findSy [112, 97, 105, 114] symL = some ⟨[112, 97, 105, 114], 2, 2, 1⟩ := by simp [findSy, symL]
    have h4b : findSy [101, 110, 99] symL = some ⟨[101, 110, 99], 2, 2, 1⟩ := by simp [findSy, symL]
    have h5 : isNameB [112, 97, 105, 114] = true := by decide
    have h6 : isNameB [101, 110, 99] = true := by decide
    simp at h1 h2 h3 h3b
    simp [thV, validT, writT, ENC, bodyT, pairT, PAIR, tickT, numT, epochT, dec_nat, errT, errL, nodeE, Tm.nodes, nodesL, Tm.depth, depthL, chkT, chkL, h1, h2, h3, h3b, h4, h4b, h5, h6, ha]
  have h1 : isB (writT ag (tickT s n) n ex (epochT s ep)) ENC = true := isB_iff.2 ⟨rfl, rfl⟩
  have h2 : untL (bodyT ag (tickT s n) n ex) = [.mk 2 ag 1 [], tickT s n, numT n, numT ex] := by
    simp [bodyT, pairT, untL, tickT, numT]
  have h3 : numB (numT (n : Int)) = true := numB_iff.2 ⟨by rw [numV_numT]; omega, by rw [numV_numT]⟩
  have h4 : numB (numT (ex : Int)) = true := numB_iff.2 ⟨by rw [numV_numT]; omega, by rw [numV_numT]⟩
  have h5 : (writT ag (tickT s n) n ex (epochT s ep)).kids = [bodyT ag (tickT s n) n ex, epochT s ep] := rfl
  unfold partsQ
  rw [if_pos ⟨h0, h1⟩, h5]
  simp only [h2]
  rw [if_pos ⟨⟨rfl, rfl, rfl, rfl⟩, h3, h4⟩, numV_numT, numV_numT]
  rfl

/-- What holds of a server while a ticket with the number n, the end fin and the key K waits. -/
structure KInv (nm : List UInt8) (n : Nat) (W fin : Int) (K : Tm) (s : Srv) (now : Int) : Prop where
  si : SInv s
  nn : s.name = nm
  w : s.window = W
  lo : s.now ≤ now
  fl : fin - W ≤ now
  hi : now ≤ fin
  nx : s.next = (n : Int) + 1
  un : ∀ u ∈ s.used, u.n < n
  ul : s.used.length ≤ 60
  kk : ∃ k ∈ s.keys, k.key = K ∧ (k.e = 0 ∨ fin ≤ k.e)

theorem KInv.rot {nm : List UInt8} {n : Nat} {W fin : Int} {K : Tm} {s : Srv} {now now' : Int} (h : KInv nm n W fin K s now) (h1 : now ≤ now') (h2 : now' ≤ fin) (he : (rotateS s now').2 = 0) : KInv nm n W fin K (rotateS s now').1 now' := by
  have hi := rotate_inv h.si he
  obtain ⟨e, hlo⟩ := rotate_eq he
  obtain ⟨k, k1, k2, k3⟩ := h.kk
  refine ⟨hi, by rw [e]; exact h.nn, by rw [e]; exact h.w, by rw [e]; exact Int.le_refl _, by have := h.fl; omega, h2, by rw [e]; exact h.nx, by rw [e]; exact h.un, by rw [e]; exact h.ul, ?_⟩
  rw [e]
  obtain ⟨i, l, hkk, _⟩ := h.si.ok.last
  rw [hkk] at k1
  rcases List.mem_append.1 k1 with q | q
  · exact ⟨k, by simp [rotK, hkk, q], k2, k3⟩
  · simp only [List.mem_singleton] at q
    subst q
    exact ⟨{ k with e := now' + s.window }, by simp [rotK, hkk], k2, .inr (by have := h.fl; have := h.w; simp only; omega)⟩

theorem KInv.exp {nm : List UInt8} {n : Nat} {W fin : Int} {K : Tm} {s : Srv} {now now' : Int} (h : KInv nm n W fin K s now) (h1 : now ≤ now') (h2 : now' ≤ fin) : KInv nm n W fin K (expireS s now') now' := by
  have hi := expire_inv (now := now') h.si
  obtain ⟨k, k1, k2, k3⟩ := h.kk
  unfold expireS at *
  split
  · exact ⟨h.si, h.nn, h.w, by have := h.lo; omega, by have := h.fl; omega, h2, h.nx, h.un, h.ul, k, k1, k2, k3⟩
  · rename_i hc
    rw [if_neg hc] at hi
    refine ⟨hi, h.nn, h.w, Int.le_refl _, by have := h.fl; omega, h2, h.nx, fun u hu => h.un u (List.mem_filter.1 hu).1, Nat.le_trans (List.length_filter_le _ _) h.ul, k, ?_, k2, k3⟩
    refine List.mem_filter.2 ⟨k1, ?_⟩
    rcases k3 with k3 | k3
    · simp [keepE, k3]
    · have : now' ≤ k.e := by omega
      simp [keepE, this]

theorem KInv.stay {nm : List UInt8} {n : Nat} {W fin : Int} {K : Tm} {s : Srv} {now now' : Int} (h : KInv nm n W fin K s now) (h1 : now ≤ now') (h2 : now' ≤ fin) : KInv nm n W fin K s now' :=
  ⟨h.si, h.nn, h.w, by have := h.lo; omega, by have := h.fl; omega, h2, h.nx, h.un, h.ul, h.kk⟩

theorem KInv.res {nm ag : List UInt8} {n ep ex : Nat} {W : Int} {s : Srv} {now : Int} (h : KInv nm n W ex (epochT nm ep) s now) (ha : isNameB ag = true) (hx : ex ≤ 90000) (hp : ep ≤ 10000) :
    (resumeS s (writT ag (tickT nm n) n ex (epochT nm ep)) now).2 = (tickT nm n, 0) := by
  have hnx := h.si.ok.nx
  have hn := h.nx
  have hnm := h.si.ok.name
  rw [h.nn] at hnm
  have hq := parts_writ (n := n) (ex := ex) (ep := ep) ha hnm (by omega) (by omega) hp
  have hv := ok_validS h.si.ok
  have hc : callS s now = 0 := by
    have h1 := h.lo
    have h2 := h.hi
    have h3 : now ≤ 100000 := by omega
    simp [callS, hv, lateB, h1, h3]
  have hr : readS s (writT ag (tickT nm n) n ex (epochT nm ep)) = (some (ag, tickT nm n, (n : Int), (ex : Int)), 0) := by
    obtain ⟨k, k1, k2, _⟩ := h.kk
    unfold readS
    rw [if_neg (by simp [hv]), hq]
    simp only
    rw [if_pos]
    simp only [List.any_eq_true, decide_eq_true_eq]
    exact ⟨k, k1, cmpT_iff.2 k2⟩
  have hh : ¬ hasN n s.used = true := by
    simp only [hasN, List.any_eq_true, decide_eq_true_eq]
    rintro ⟨u, hu, he⟩
    have := h.un u hu
    omega
  have hl : ¬ s.used.length = 200 := by have := h.ul; omega
  have hi := h.hi
  unfold resumeS
  rw [if_neg (by simp [hc]), hr]
  simp only
  rw [if_neg (by omega), if_neg (by omega)]
  unfold resF
  rw [if_neg hh, if_neg hl]

/-- The server behind an issue at the play's time. -/
theorem KInv.start {m : Nat} {p : Pla} (h : PInv m p) (hm : m ≤ 60) (hu : p.s.used.length ≤ 60) : ∃ n ep ex : Nat, p.s.next = n ∧ p.now + p.s.window = ex ∧ ex ≤ 90000 ∧ ep ≤ 10000 ∧
    issueS p.s [97] p.now = ({ p.s with now := p.now, next := (n : Int) + 1 }, writT [97] (tickT p.s.name n) n ex (epochT p.s.name ep), tickT p.s.name n, 0) ∧
    KInv p.s.name n p.s.window ex (epochT p.s.name ep) { p.s with now := p.now, next := (n : Int) + 1 } p.now := by
  have hok := h.s.ok
  have hnx := hok.nx
  have hnw := hok.nw
  have hep := hok.ep
  have hw := hok.w
  have hw2 := h.s.w
  have hlo := h.lo
  have hhi := h.hi
  have hpn := h.nx
  obtain ⟨n, hn⟩ : ∃ n : Nat, p.s.next = n := ⟨p.s.next.toNat, by omega⟩
  obtain ⟨ex, hex⟩ : ∃ n : Nat, p.now + p.s.window = n := ⟨(p.now + p.s.window).toNat, by omega⟩
  obtain ⟨i, k, hkk, _⟩ := hok.last
  obtain ⟨c1, c2, c3⟩ := (keysP_ch p.s).1 hok.ks
  obtain ⟨q1, q2, q3, q4⟩ := chP_mem c3 k (by rw [hkk]; simp)
  obtain ⟨ep, hepn⟩ : ∃ n : Nat, k.n = n := ⟨k.n.toNat, by omega⟩
  have hlk : lastK p.s = epochT p.s.name ep := by simp [lastK, hkk, q1, hepn]
  have hiss : issueS p.s [97] p.now = ({ p.s with now := p.now, next := (n : Int) + 1 }, writT [97] (tickT p.s.name n) n ex (epochT p.s.name ep), tickT p.s.name n, 0) := by
    have hc : callS p.s p.now = 0 := by
      have h3 : p.now ≤ 100000 := by omega
      simp [callS, ok_validS hok, lateB, hlo, h3]
    have ha : ¬ isNameB [97] = false := by decide
    unfold issueS
    rw [if_neg (by simp [hc]), if_neg ha, if_neg (by omega), hlk, hex, hn]
  have hke : k.e = 0 := by
    have : ∀ {ks : List Ep} {n lo : Int}, chP p.s.name n lo ks → ∀ i k, ks = i ++ [k] → k.e = 0 := by
      intro ks
      induction ks with
      | nil => intro n lo h; exact h.elim
      | cons a r ih =>
        intro n lo h i k hi
        cases r with
        | nil =>
          cases i with
          | nil => simp at hi; subst hi; exact h.2.1
          | cons b i => simp at hi
        | cons b r =>
          cases i with
          | nil => simp at hi
          | cons c i =>
            simp only [List.cons_append, List.cons.injEq] at hi
            exact ih h.2.2.2.2 i k (by rw [hi.2])
    exact this c3 i k hkk
  refine ⟨n, ep, ex, hn, hex, by omega, by omega, hiss, ?_⟩
  have hs := issue_inv (s := p.s) (ag := [97]) (now := p.now) h.s (by rw [hiss])
  rw [hiss] at hs
  refine ⟨hs, rfl, rfl, Int.le_refl _, by omega, by omega, rfl, fun u hu => ?_, hu, k, by rw [hkk]; simp, by rw [q1, hepn], .inl hke⟩
  have := (usLP_mem hok.us).1 u hu
  omega
end Go.Am

namespace Go.Am
set_option maxRecDepth 8000

theorem SInv.b {s : Srv} (h : SInv s) : s.name.length < 1000000 ∧ s.used.length < 1000000 ∧ s.keys.length < 1000000 := by
  have h1 := h.nl
  have h2 := h.ok.ul
  have h3 := h.kl
  omega

theorem writ_mass {nm : List UInt8} {n ex ep : Nat} (hn : n ≤ 10000) (he : ex ≤ 90000) (hp : ep ≤ 10000) (hl : nm.length ≤ 10) : (writT [97] (tickT nm n) n ex (epochT nm ep)).mass < 1000000 ∧ (tickT nm n).mass < big := by
  have h1 := mass_decN (n := n) (by omega)
  have h2 := mass_decN (n := ex) (by omega)
  have h3 := mass_decN (n := ep) (by omega)
  constructor
  · simp [writT, bodyT, pairT, tickT, numT, epochT, PAIR, ENC, Tm.mass, massL, dec_nat]; omega
  · simp [tickT, Tm.mass, massL, dec_nat, big]; omega

theorem Kept_r0 {nm : List UInt8} {n ex ep : Nat} {W : Int} {s : Srv} {pn : Int} (p : Pla) (ρ : Nat → AV) (h : KInv nm n W ex (epochT nm ep) s pn) (he : ex ≤ 90000) (hp : ep ≤ 10000)
    (h7 : ρ 7 = .bx (encP { p with now := pn })) (h8 : ρ 8 = .bx (encS s)) (h9 : ρ 9 = .bx (encT (writT [97] (tickT nm n) n ex (epochT nm ep)))) (h10 : ρ 10 = .bx (encT (tickT nm n))) (h12 : ρ 12 = .int .i64 (ex : Int)) :
    R F.tb F.sealringlaw54_TicketKept_r0 ρ [] (finK F.sealringlaw54_TicketKept 0) = some (.bool true, []) := by
  have hnx := h.si.ok.nx
  have hn := h.nx
  have hnl := h.si.nl
  rw [h.nn] at hnl
  obtain ⟨hm, hm2⟩ := writ_mass (nm := nm) (n := n) (ex := ex) (ep := ep) (by omega) he hp hnl
  obtain ⟨b1, b2, b3⟩ := h.si.b
  have ha : isNameB [97] = true := by decide
  have r1 := call_tResume s _ pn [] b1 h.si.cl b2 b3 h.si.kb hm
  have r2 := call_tResume s _ (ex : Int) [] b1 h.si.cl b2 b3 h.si.kb hm
  rw [h.res ha he hp] at r1
  rw [(h.stay h.hi (Int.le_refl _)).res ha he hp] at r2
  have how := call_own s [] h.si.cl
  have hsm := tm_Same (tickT nm n) hm2 []
  generalize writT [97] (tickT nm n) n ex (epochT nm ep) = t at *
  have e4 := encT_eq (tickT nm n)
  have e5 := encT_eq t
  generalize tickT nm n = k at *
  unfold encS encP at *
  simp only [e4, e5] at r1 r2 h9 h10 hsm
  simp [F.sealringlaw54_TicketKept_r0, F.sealringlaw54_TicketKept_res, F.sealringlaw54_TicketKept_keep, h7, h8, h9, h10, h12, r1, r2, how, hsm]

theorem Kept_loop {nm : List UInt8} {n ex ep : Nat} {W : Int} (p : Pla) (l : List OpU) (o : Bool) (hl : l.length ≤ 60) (ho : ∀ x ∈ l, x.ok) (he : ex ≤ 90000) (hp : ep ≤ 10000) :
    ∀ (post pre : List OpU) (s : Srv) (pn : Int) (ρ : Nat → AV), l = pre ++ post → KInv nm n W ex (epochT nm ep) s pn → 0 ≤ pn →
      ρ 7 = .bx (encP { p with now := pn }) → ρ 8 = .bx (encS s) → ρ 9 = .bx (encT (writT [97] (tickT nm n) n ex (epochT nm ep))) → ρ 10 = .bx (encT (tickT nm n)) → ρ 12 = .int .i64 (ex : Int) →
      ρ 60 = .sl o 3 (l.map encO) → ρ 61 = .int .i64 l.length → ρ 62 = .int .i64 pre.length →
    R F.tb (.loop F.sealringlaw54_TicketKept_l0) ρ [] (blockK 0 (seqK F.tb F.sealringlaw54_TicketKept_r0 (finK F.sealringlaw54_TicketKept 0))) = some (.bool true, []) := by
  intro post
  induction post with
  | nil =>
    intro pre s pn ρ hkk h _ h7 h8 h9 h10 h12 h60 h61 h62
    rw [R_loop' F.sealringlaw54_TicketKept_l0.eq_1]
    simp at hkk
    rw [← hkk] at h62
    simp [h60, h61, h62]
    exact Kept_r0 p _ h he hp (by simp [h7]) (by simp [h8]) (by simp [h9]) (by simp [h10]) (by simp [h12])
  | cons x post IH =>
    intro pre s pn ρ hkk h h0 h7 h8 h9 h10 h12 h60 h61 h62
    have hg := get_pre hkk
    have hl' : l.length = pre.length + (post.length + 1) := by rw [hkk]; simp
    have hw1 : IntKind.i64.wrap ((pre.length : Int) + 1) = (pre.length : Int) + 1 := wrap64 (by omega) (by omega)
    have hlt : (pre.length : Int) < (l.length : Int) := by omega
    have hox := ho x (by rw [hkk]; simp)
    have q2 : ((x.k : Int).tmod 2) = ((x.k % 2 : Nat) : Int) := tmod_nat x.k 2
    have q8 : ((x.a : Int).tmod 8) = ((x.a % 8 : Nat) : Int) := tmod_nat x.a 8
    have l8 : x.a % 8 < 8 := Nat.mod_lt _ (by decide)
    obtain ⟨g, hgg⟩ : ∃ g, x.a % 8 = g := ⟨_, rfl⟩
    rw [hgg] at q8 l8
    have hpn := h.hi
    have v8 : IntKind.i64.wrap (g : Int) = (g : Int) := wrap64 (by omega) (by omega)
    have wt : IntKind.i64.wrap (pn + (g : Int)) = pn + (g : Int) := wrap64 (by omega) (by omega)
    have ih := fun s' pn' ρ => IH (pre ++ [x]) s' pn' ρ (by rw [hkk]; simp)
    clear IH
    have e0 : encO x = [.int .u8 (x.k : Int), .int .u8 (x.n : Int), .int .u8 (x.a : Int)] := rfl
    obtain ⟨b1, b2, b3⟩ := h.si.b
    have how := call_own s [] h.si.cl
    have hr0 := fun ρ => Kept_r0 p ρ h he hp
    rw [R_loop' F.sealringlaw54_TicketKept_l0.eq_1]
    generalize hT : encT (writT [97] (tickT nm n) n ex (epochT nm ep)) = T at *
    generalize hK : encT (tickT nm n) = K at *
    by_cases c : (ex : Int) < pn + (g : Int)
    · have h7' := h7
      have h8' := h8
      unfold encP at h7
      simp [h7, h12, h60, h61, h62, hg, hlt, e0, q8, v8, wt, c]
      exact hr0 _ (by simp [h7']) (by simp [h8]) (by simp [h9]) (by simp [h10]) (by simp [h12])
    · have hk : x.k % 2 = 0 ∨ x.k % 2 = 1 := by omega
      rcases hk with d | d <;> rw [d] at q2
      · have hr := call_Rotate s (pn + (g : Int)) [] b1 h.si.cl h.si.kb
        by_cases d2 : (rotateS s (pn + (g : Int))).2 = 0
        · have hK2 := h.rot (by omega) (by omega) d2
          have ih := fun ρ => ih _ _ ρ hK2 (by omega)
          generalize rotateS s (pn + (g : Int)) = v at *
          unfold encP encS at *
          simp [h7, h8, h12, h60, h61, h62, hg, hlt, hw1, e0, q2, q8, v8, wt, c, how, hr, d2]
          rw [ih] <;> simp [h9, h10, h12, h60, h61]
        · have hK2 := h.stay (now' := pn + (g : Int)) (by omega) (by omega)
          have ih := fun ρ => ih _ _ ρ hK2 (by omega)
          generalize rotateS s (pn + (g : Int)) = v at *
          unfold encP encS at *
          simp [h7, h8, h12, h60, h61, h62, hg, hlt, hw1, e0, q2, q8, v8, wt, c, how, hr, d2]
          rw [ih] <;> simp [h8, h9, h10, h12, h60, h61]
      · have hr := call_Expire s (pn + (g : Int)) [] b1 h.si.cl h.si.kb
        have hK2 := h.exp (now' := pn + (g : Int)) (by omega) (by omega)
        have ih := fun ρ => ih _ _ ρ hK2 (by omega)
        generalize expireS s (pn + (g : Int)) = v at *
        unfold encP encS at *
        simp [h7, h8, h12, h60, h61, h62, hg, hlt, hw1, e0, q2, q8, v8, wt, c, how, hr]
        rw [ih] <;> simp [h9, h10, h12, h60, h61]

theorem law_TicketKept (w : Nat) (l l2 : List OpU) (o o2 : Bool) (hw : w < 256) (hl : l.length < 4611686018427387904) (hl2 : l2.length < 4611686018427387904) (ho : ∀ x ∈ l, x.ok) (ho2 : ∀ x ∈ l2, x.ok) :
    call F.tb 139 [.int .u8 (w : Int), .sl o 3 (l.map encO), .sl o2 3 (l2.map encO)] [] = some (.bool true, []) := by
  rw [call_code F.tb_139 _ _ rfl]
  have e1 : ((40 : Int) < l.length) = ¬ (l.length ≤ 40) := by rw [eq_iff_iff]; omega
  have e2 : ((20 : Int) < l2.length) = ¬ (l2.length ≤ 20) := by rw [eq_iff_iff]; omega
  by_cases c : l.length ≤ 40
  · by_cases c2 : l2.length ≤ 20
    · have hp := call_Played w l false [] hw (by omega) ho
      have hi := played_inv w l
      obtain ⟨hu, hwin⟩ := played_uw w l
      generalize playedP w l = p at *
      obtain ⟨n, ep, ex, hn, hex, hx1, hx2, hiss, hK⟩ := KInv.start hi (by omega) (by omega)
      obtain ⟨b1, b2, b3⟩ := hi.s.b
      have b4 := hi.b (by omega)
      have hq := call_Issue p.s [97] p.now [] b1 hi.s.cl hi.s.kb (by simp)
      rw [hiss] at hq
      have how := call_own p.s [] hi.s.cl
      have hloop := fun ρ => Kept_loop p l2 false (by omega) ho2 hx1 hx2 l2 [] _ _ ρ rfl hK b4.1
      have h16 : ((w : Int).tmod 16) = ((w % 16 : Nat) : Int) := tmod_nat w 16
      have hb : w % 16 < 16 := Nat.mod_lt _ (by decide)
      rw [hwin] at hex
      obtain ⟨g, hg⟩ : ∃ g, w % 16 = g := ⟨_, rfl⟩
      rw [hg] at h16 hb hex
      have v8 : IntKind.i64.wrap (g : Int) = (g : Int) := wrap64 (by omega) (by omega)
      have v1 : IntKind.i64.wrap (p.now + 1) = p.now + 1 := wrap64 (by omega) (by omega)
      have v2 : IntKind.i64.wrap (p.now + 1 + (g : Int)) = (ex : Int) := by rw [← hex]; rw [wrap64 (by omega) (by omega)]; omega
      generalize hT : writT [97] (tickT p.s.name n) n ex (epochT p.s.name ep) = T at *
      generalize hKK : tickT p.s.name n = K at *
      have e4 := encT_eq T
      have e5 := encT_eq K
      clear hK hiss hi
      unfold encP encS at *
      simp only [e4, e5] at hq hloop
      simp [F.sealringlaw54_TicketKept_body, F.sealringlaw54_TicketKept_b, call_awake, e1, e2, c, c2, hp, how, hq, h16, v8, v1, v2, e4, e5]
      rw [hloop] <;> simp
    · simp [F.sealringlaw54_TicketKept_body, F.sealringlaw54_TicketKept_b, F.sealringlaw54_TicketKept_res, F.sealringlaw54_TicketKept_keep, call_awake, e1, e2, c, c2]
  · simp [F.sealringlaw54_TicketKept_body, F.sealringlaw54_TicketKept_b, F.sealringlaw54_TicketKept_res, F.sealringlaw54_TicketKept_keep, call_awake, e1, e2, c]
end Go.Am
