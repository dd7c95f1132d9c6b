/-
  The pure land, part 1: small functions.
-/
import Derived.Test.YtdabongfphoilaaGreatDoorMachF
set_option linter.unusedVariables false
set_option linter.unusedSimpArgs false

namespace Go.Am
set_option maxRecDepth 8000

theorem call_in (n low high : Int) (bs : List (List AV)) : call F.tb 16 [.int .i64 n, .int .i64 low, .int .i64 high] bs = some (.bool (decide (low ≤ n) && decide (n ≤ high)), bs) := by
  rw [call_code F.tb_16 _ _ rfl]
  simp [F.ticket_in, F.ticket_in_b]

theorem call_sign (a b : Int) (bs : List (List AV)) : call F.tb 32 [.int .i64 a, .int .i64 b] bs = some (.int .i64 (if a < b then -1 else if a > b then 1 else 0), bs) := by
  rw [call_code F.tb_32 _ _ rfl]
  simp [F.term_sign, F.term_sign_b]

theorem call_atom (s : List UInt8) (n : Int) (bs : List (List AV)) : call F.tb 5 [.str s, .int .i64 n] bs = some (.agg [.int .i64 2, .str s, .int .i64 n, .sl false 4 []], bs) := by
  rw [call_code F.tb_5 _ _ rfl]
  simp [F.ticket_atom, F.ticket_atom_b]

def partB (c : UInt8) : Bool := (97 ≤ c.toNat && c.toNat ≤ 122) || (65 ≤ c.toNat && c.toNat ≤ 90) || (48 ≤ c.toNat && c.toNat ≤ 57) || c.toNat == 95 || c.toNat == 35

theorem cast_beq (n m : Nat) : ((n : Int) == (m : Int)) = (n == m) := by rw [Bool.eq_iff_iff, beq_iff_eq, beq_iff_eq]; omega
theorem cast_beq95 (n : Nat) : ((n : Int) == 95) = (n == 95) := cast_beq n 95
theorem cast_beq35 (n : Nat) : ((n : Int) == 35) = (n == 35) := cast_beq n 35
theorem cast_le1 (n : Nat) (m : Nat) : ((m : Int) ≤ n) = (m ≤ n) := by simp

theorem call_part (c : UInt8) (bs : List (List AV)) : call F.tb 9 [.int .u8 c.toNat] bs = some (.bool (partB c), bs) := by
  rw [call_code F.tb_9 _ _ rfl]
  simp (config := { maxSteps := 1000000 }) [F.term_part, F.term_part_b, partB, cast_beq95, cast_beq35]
  have e1 : ∀ m : Nat, ((m : Int) ≤ (c.toNat : Int)) = (m ≤ c.toNat) := fun m => by simp
  have e2 : ∀ m : Nat, ((c.toNat : Int) ≤ (m : Int)) = (c.toNat ≤ m) := fun m => by simp
  simp only [show (97 : Int) = ((97 : Nat) : Int) from rfl, show (122 : Int) = ((122 : Nat) : Int) from rfl, show (65 : Int) = ((65 : Nat) : Int) from rfl, show (90 : Int) = ((90 : Nat) : Int) from rfl, show (48 : Int) = ((48 : Nat) : Int) from rfl, show (57 : Int) = ((57 : Nat) : Int) from rfl, e1, e2]
  by_cases h1 : 97 ≤ c.toNat <;> by_cases h2 : c.toNat ≤ 122 <;> by_cases h3 : 65 ≤ c.toNat <;> by_cases h4 : c.toNat ≤ 90 <;> by_cases h5 : 48 ≤ c.toNat <;> by_cases h6 : c.toNat ≤ 57 <;> simp [h1, h2, h3, h4, h5, h6]
theorem isName_loop (s : List UInt8) (bs : List (List AV)) (hs : s.length < 4611686018427387904) : ∀ (k i : Nat) (ρ : Nat → AV), s.length - i = k → i ≤ s.length → ρ 0 = .str s → ρ 38 = .int .i64 s.length → ρ 39 = .int .i64 i →
    R F.tb (.loop F.term_isName_l0) ρ bs (blockK 0 (seqK F.tb F.term_isName_r0 (finK F.term_isName bs.length))) = some (.bool ((s.drop i).all partB), bs) := by
  intro k
  induction k with
  | zero =>
    intro i ρ hk hi h0 h38 h39
    have : i = s.length := by omega
    subst this
    rw [R_loop' F.term_isName_l0.eq_1]
    simp [h0, h38, h39, F.term_isName_r0, F.term_isName_res, F.term_isName_keep]
  | succ k ih =>
    intro i ρ hk hi h0 h38 h39
    have hlt : i < s.length := by omega
    have hw : IntKind.i64.wrap ((i : Int) + 1) = ((i + 1 : Nat) : Int) := wrap64 (by omega) (by omega)
    rw [R_loop' F.term_isName_l0.eq_1, List.drop_eq_getElem_cons hlt, List.all_cons]
    cases hb : partB s[i]
    · simp [h0, h38, h39, F.term_isName_res, F.term_isName_keep, hlt, call_part, hb]
    · simp [h0, h38, h39, hlt, call_part, hb, hw]
      rw [ih (i + 1)] <;> first | rfl | omega | simp [h0, h38]

/-- term.isName -/
def isNameB : List UInt8 → Bool
  | [] => false
  | c :: r => decide (r.length < 24) && partB c && !(decide (48 ≤ c.toNat) && decide (c.toNat ≤ 57)) && c.toNat != 95 && c.toNat != 35 && r.all partB

theorem call_isName (s : List UInt8) (bs : List (List AV)) (hs : s.length < 4611686018427387904) : call F.tb 8 [.str s] bs = some (.bool (isNameB s), bs) := by
  rw [call_code F.tb_8 _ _ rfl]
  cases s with
  | nil => simp [F.term_isName_body, F.term_isName_b, F.term_isName_res, F.term_isName_keep, isNameB]
  | cons c r =>
    have hl := isName_loop (c :: r) bs hs ((c :: r).length - 0) 0
    simp (config := { maxSteps := 1000000 }) [F.term_isName_body, F.term_isName_b, F.term_isName_res, F.term_isName_keep, call_part, hl, cast_beq95, cast_beq35]
    have e1 : (24 < (r.length : Int) + 1) = (¬ r.length < 24) := by rw [eq_iff_iff]; omega
    have e2 : ((48 : Int) ≤ (c.toNat : Int)) = (48 ≤ c.toNat) := by rw [eq_iff_iff]; omega
    have e3 : ((c.toNat : Int) ≤ 57) = (c.toNat ≤ 57) := by rw [eq_iff_iff]; omega
    simp only [isNameB, e1, e2, e3, bne]
    by_cases h1 : r.length < 24 <;> by_cases h2 : 48 ≤ c.toNat <;> by_cases h3 : c.toNat ≤ 57 <;> cases partB c <;> simp [h1, h2, h3]
end Go.Am

namespace Go.Am
set_option maxRecDepth 8000

/-- A term: kind, name, sort, kids. -/
inductive Tm where
  | mk (k : Int) (n : List UInt8) (s : Int) (kids : List Tm)

def Tm.kind : Tm → Int | .mk k _ _ _ => k
def Tm.name : Tm → List UInt8 | .mk _ n _ _ => n
def Tm.sort : Tm → Int | .mk _ _ s _ => s
def Tm.kids : Tm → List Tm | .mk _ _ _ ks => ks

theorem mk_kind (k : Int) (n : List UInt8) (s : Int) (ks : List Tm) : (Tm.mk k n s ks).kind = k := rfl
theorem mk_name (k : Int) (n : List UInt8) (s : Int) (ks : List Tm) : (Tm.mk k n s ks).name = n := rfl
theorem mk_sort (k : Int) (n : List UInt8) (s : Int) (ks : List Tm) : (Tm.mk k n s ks).sort = s := rfl
theorem mk_kids (k : Int) (n : List UInt8) (s : Int) (ks : List Tm) : (Tm.mk k n s ks).kids = ks := rfl
attribute [simp] mk_kind mk_name mk_sort mk_kids
theorem Tm.eta (t : Tm) : Tm.mk t.kind t.name t.sort t.kids = t := by cases t; rfl

theorem tm_ind {P : Tm → Prop} (h : ∀ k n s ks, (∀ x ∈ ks, P x) → P (.mk k n s ks)) : ∀ t, P t := by
  intro t
  refine Tm.rec (motive_1 := P) (motive_2 := fun ks => ∀ x ∈ ks, P x) ?_ ?_ ?_ t
  · intro k n s ks ih; exact h k n s ks ih
  · intro x hx; cases hx
  · intro t ts h1 h2 x hx
    rcases List.mem_cons.1 hx with rfl | hx
    · exact h1
    · exact h2 x hx

mutual
def encT : Tm → List AV
  | .mk k n s ks => [.int .i64 k, .str n, .int .i64 s, .sl false 4 (encTs ks)]
def encTs : List Tm → List (List AV)
  | [] => []
  | t :: ts => encT t :: encTs ts
end

theorem encT_eq (t : Tm) : encT t = [.int .i64 t.kind, .str t.name, .int .i64 t.sort, .sl false 4 (encTs t.kids)] := by cases t; simp [encT]
theorem encTs_map (ts : List Tm) : encTs ts = ts.map encT := by
  induction ts with
  | nil => simp [encTs]
  | cons t ts ih => simp [encTs, ih]
theorem encTs_length (ts : List Tm) : (encTs ts).length = ts.length := by simp [encTs_map]
theorem encTs_get (ts : List Tm) (i : Nat) : (encTs ts)[i]? = (ts[i]?).map encT := by simp [encTs_map]
theorem encTs_append (a b : List Tm) : encTs a ++ encTs b = encTs (a ++ b) := by simp [encTs_map]
theorem encTs_take (a : List Tm) (n : Nat) : (encTs a).take n = encTs (a.take n) := by simp [encTs_map]
theorem encTs_drop (a : List Tm) (n : Nat) : (encTs a).drop n = encTs (a.drop n) := by simp [encTs_map]
theorem encTs_nil : encTs [] = [] := by simp [encTs]
theorem encTs_cons (t : Tm) (ts : List Tm) : encT t :: encTs ts = encTs (t :: ts) := by simp [encTs]
theorem encTs_one (t : Tm) : [encT t] = encTs [t] := by simp [encTs]
theorem encT_length (t : Tm) : (encT t).length = 4 := by simp [encT_eq]
theorem encT_strip (t : Tm) : (encT t).map AV.strip = encT t := by simp [encT_eq]
theorem encT_take (t : Tm) : (encT t).take 4 = encT t := by simp [encT_eq]
theorem encT_drop (t : Tm) : (encT t).drop 4 = [] := by simp [encT_eq]
theorem encT_0 (t : Tm) : (encT t)[0]? = some (.int .i64 t.kind) := by simp [encT_eq]
theorem encT_1 (t : Tm) : (encT t)[1]? = some (.str t.name) := by simp [encT_eq]
theorem encT_2 (t : Tm) : (encT t)[2]? = some (.int .i64 t.sort) := by simp [encT_eq]
theorem encT_3 (t : Tm) : (encT t)[3]? = some (.sl false 4 (encTs t.kids)) := by simp [encT_eq]
theorem encT_g0 (t : Tm) (h : 0 < (encT t).length) : (encT t)[0] = .int .i64 t.kind := by simp [encT_eq]
theorem encT_g1 (t : Tm) (h : 1 < (encT t).length) : (encT t)[1] = .str t.name := by simp [encT_eq]
theorem encT_g2 (t : Tm) (h : 2 < (encT t).length) : (encT t)[2] = .int .i64 t.sort := by simp [encT_eq]
theorem encT_g3 (t : Tm) (h : 3 < (encT t).length) : (encT t)[3] = .sl false 4 (encTs t.kids) := by simp [encT_eq]
mutual
theorem encT_gp : ∀ t : Tm, gpfreeL (encT t) = true
  | .mk k n s ks => by simp [encT, gpfreeL, AV.gpfree, encTs_gp ks]
theorem encTs_gp : ∀ ts : List Tm, gpfreeE (encTs ts) = true
  | [] => by simp [encTs, gpfreeE]
  | t :: ts => by simp [encTs, gpfreeE, encT_gp t, encTs_gp ts]
end
/-- Cells put together as a term. -/
theorem encT_fold (k : Int) (n : List UInt8) (s : Int) (ks : List Tm) : [AV.int .i64 k, .str n, .int .i64 s, .sl false 4 (encTs ks)] = encT (.mk k n s ks) := by simp [encT]
theorem encT_fold0 (k : Int) (n : List UInt8) (s : Int) : [AV.int .i64 k, .str n, .int .i64 s, .sl false 4 []] = encT (.mk k n s []) := by simp [encT, encTs]
attribute [simp] encTs_length encTs_get encT_length encT_strip encT_take encT_drop encT_0 encT_1 encT_2 encT_3 encT_g0 encT_g1 encT_g2 encT_g3 encT_gp encTs_gp
attribute [simp] Int.toNat_natCast

mutual
/-- The number of nodes. -/
def Tm.nodes : Tm → Nat
  | .mk _ _ _ ks => 1 + nodesL ks
def nodesL : List Tm → Nat
  | [] => 0
  | t :: ts => t.nodes + nodesL ts
end
mutual
/-- Nodes, bytes of names and numbers of kids together. -/
def Tm.mass : Tm → Nat
  | .mk _ n _ ks => 1 + n.length + ks.length + massL ks
def massL : List Tm → Nat
  | [] => 0
  | t :: ts => t.mass + massL ts
end
mutual
def Tm.depth : Tm → Nat
  | .mk _ _ _ ks => depthL ks + 1
def depthL : List Tm → Nat
  | [] => 0
  | t :: ts => max t.depth (depthL ts)
end
theorem mass_eq (t : Tm) : t.mass = 1 + t.name.length + t.kids.length + massL t.kids := by cases t; simp [Tm.mass]
theorem nodes_eq (t : Tm) : t.nodes = 1 + nodesL t.kids := by cases t; simp [Tm.nodes]
theorem depth_eq (t : Tm) : t.depth = depthL t.kids + 1 := by cases t; simp [Tm.depth]
theorem massL_mem {x : Tm} : ∀ {ks : List Tm}, x ∈ ks → x.mass ≤ massL ks
  | [], h => by cases h
  | t :: ts, h => by
    simp only [massL]
    rcases List.mem_cons.1 h with rfl | h
    · omega
    · have := massL_mem h; omega
theorem depthL_mem {x : Tm} : ∀ {ks : List Tm}, x ∈ ks → x.depth ≤ depthL ks
  | [], h => by cases h
  | t :: ts, h => by
    simp only [depthL]
    rcases List.mem_cons.1 h with rfl | h
    · omega
    · have := depthL_mem h; omega
theorem massL_append (a b : List Tm) : massL (a ++ b) = massL a + massL b := by
  induction a with
  | nil => simp [massL]
  | cons t ts ih => simp [massL, ih]; omega
theorem nodesL_append (a b : List Tm) : nodesL (a ++ b) = nodesL a + nodesL b := by
  induction a with
  | nil => simp [nodesL]
  | cons t ts ih => simp [nodesL, ih]; omega
mutual
theorem nodes_le_mass : ∀ t : Tm, t.nodes ≤ t.mass
  | .mk _ _ _ ks => by simp only [Tm.nodes, Tm.mass]; have := nodesL_le_mass ks; omega
theorem nodesL_le_mass : ∀ ts : List Tm, nodesL ts ≤ massL ts
  | [] => by simp [nodesL, massL]
  | t :: ts => by simp only [nodesL, massL]; have := nodes_le_mass t; have := nodesL_le_mass ts; omega
end
mutual
theorem depth_le_nodes : ∀ t : Tm, t.depth ≤ t.nodes
  | .mk _ _ _ ks => by simp only [Tm.nodes, Tm.depth]; have := depthL_le_nodes ks; omega
theorem depthL_le_nodes : ∀ ts : List Tm, depthL ts ≤ nodesL ts
  | [] => by simp [nodesL, depthL]
  | t :: ts => by simp only [nodesL, depthL]; have := depth_le_nodes t; have := depthL_le_nodes ts; omega
end
theorem int_beq (a b : Int) : (a == b) = decide (a = b) := by by_cases h : a = b <;> simp [h]
theorem int_bne (a b : Int) : (a != b) = !decide (a = b) := by by_cases h : a = b <;> simp [h]
attribute [simp] int_beq int_bne
theorem get_pre {α : Type} {ks pre post : List α} {x : α} (h : ks = pre ++ x :: post) : ks[pre.length]? = some x := by subst h; simp

/-- The limit of what the machine is asked to handle. -/
def big : Nat := 1099511627776

theorem Size_loop (t : Tm) (bs : List (List AV)) (hm : t.mass < big) (ih : ∀ x ∈ t.kids, ∀ bs, call F.tb 31 [.agg (encT x)] bs = some (.int .i64 x.nodes, bs)) :
    ∀ (post pre : List Tm) (ρ : Nat → AV), t.kids = pre ++ post → ρ 7 = .sl false 4 (encTs t.kids) → ρ 8 = .int .i64 t.kids.length → ρ 9 = .int .i64 pre.length → ρ 3 = .int .i64 (1 + nodesL pre : Nat) →
    R F.tb (.loop F.term_Size_l0) ρ bs (blockK 0 (seqK F.tb F.term_Size_r0 (finK F.term_Size bs.length))) = some (.int .i64 t.nodes, bs) := by
  have hm2 := mass_eq t
  have hn := nodesL_le_mass t.kids
  unfold big at hm
  intro post
  induction post with
  | nil =>
    intro pre ρ hk h7 h8 h9 h3
    rw [R_loop' F.term_Size_l0.eq_1]
    simp at hk
    simp [h3, h8, h9, ← hk, F.term_Size_r0, F.term_Size_res, F.term_Size_keep, nodes_eq]
  | cons x post IH =>
    intro pre ρ hk h7 h8 h9 h3
    have hg := get_pre hk
    have hl : t.kids.length = pre.length + (post.length + 1) := by rw [hk]; simp
    have hnn : nodesL t.kids = nodesL pre + (x.nodes + nodesL post) := by rw [hk, nodesL_append]; simp [nodesL]
    have hw1 : IntKind.i64.wrap ((pre.length : Int) + 1) = (pre.length : Int) + 1 := wrap64 (by omega) (by omega)
    have hw2 : IntKind.i64.wrap (1 + (nodesL pre : Int) + (x.nodes : Int)) = 1 + (nodesL pre : Int) + (x.nodes : Int) := wrap64 (by omega) (by omega)
    have hlt : (pre.length : Int) < (t.kids.length : Int) := by omega
    rw [R_loop' F.term_Size_l0.eq_1]
    simp [h3, h7, h8, h9, hg, hw1, hw2, hlt, ih x (by rw [hk]; simp)]
    rw [IH (pre ++ [x])] <;> simp [h3, h7, h8, h9, hk, nodesL_append, nodesL]
    omega

theorem call_Size : ∀ (t : Tm) (bs : List (List AV)), t.mass < big → call F.tb 31 [.agg (encT t)] bs = some (.int .i64 t.nodes, bs) := by
  refine tm_ind ?_
  intro k n s ks ih bs hm
  rw [call_code F.tb_31 _ _ rfl]
  simp [F.term_Size_body, F.term_Size_b]
  refine Size_loop (.mk k n s ks) bs hm (fun x hx bs => ih x hx bs ?_) ks [] _ ?_ ?_ ?_ ?_ ?_ <;> (try simp [nodesL])
  have := massL_mem hx; have := mass_eq (.mk k n s ks); simp at *; omega
end Go.Am

namespace Go.Am
set_option maxRecDepth 8000

/-- Two boxes of one number each. -/
def two (bs : List (List AV)) (i j : Nat) (n d : Int) : List (List AV) := (bs.set i [.int .i64 n]).set j [.int .i64 d]
section
variable {bs : List (List AV)} {i j : Nat} {n d m : Int}
theorem two_len : (two bs i j n d).length = bs.length := by simp [two]
theorem two_i (hi : i < bs.length) (hij : i ≠ j) : (two bs i j n d)[i]? = some [.int .i64 n] := by
  rw [two, List.getElem?_set_ne (Ne.symm hij), List.getElem?_set_self hi]
theorem two_j (hj : j < bs.length) : (two bs i j n d)[j]? = some [.int .i64 d] := by simp [two, hj]
theorem two_seti (hij : i ≠ j) : (two bs i j n d).set i [.int .i64 m] = two bs i j m d := by
  simp only [two]; rw [List.set_comm _ _ (Ne.symm hij), List.set_set]
theorem two_setj : (two bs i j n d).set j [.int .i64 m] = two bs i j n m := by simp [two]
end

/-- The error of a node alone. -/
def nodeE (t : Tm) : Int :=
  if t.kind = 1 ∨ t.kind = 2 then
    if (t.sort < 0 ∨ 5 < t.sort) ∨ 0 < t.kids.length then 1 else if isNameB t.name = false then 2 else if 8 < t.kids.length then 3 else 0
  else if t.kind = 3 then
    if t.sort ≠ 0 then 1 else if isNameB t.name = false then 2 else if 8 < t.kids.length then 3 else 0
  else 1

mutual
/-- The first error of the nodes. -/
def errT : Tm → Int
  | .mk k n s ks => if nodeE (.mk k n s ks) ≠ 0 then nodeE (.mk k n s ks) else errL ks
def errL : List Tm → Int
  | [] => 0
  | t :: ts => if errT t ≠ 0 then errT t else errL ts
end

mutual
/-- The counters behind term.check. -/
def cntT : Tm → Int → Int × Int → Int × Int
  | .mk k n s ks, l, p => if nodeE (.mk k n s ks) ≠ 0 then (p.1 + 1, if l > p.2 then l else p.2) else cntL ks l (p.1 + 1, if l > p.2 then l else p.2)
def cntL : List Tm → Int → Int × Int → Int × Int
  | [], _, p => p
  | t :: ts, l, p => if errT t ≠ 0 then cntT t (l + 1) p else cntL ts l (cntT t (l + 1) p)
end

mutual
theorem cntT_le : ∀ (t : Tm) (l : Int) (p : Int × Int), p.1 ≤ (cntT t l p).1 ∧ (cntT t l p).1 ≤ p.1 + t.nodes
  | .mk k n s ks, l, p => by
    simp only [cntT, Tm.nodes]
    have := cntL_le ks l (p.1 + 1, if l > p.2 then l else p.2)
    split <;> simp at * <;> omega
theorem cntL_le : ∀ (ts : List Tm) (l : Int) (p : Int × Int), p.1 ≤ (cntL ts l p).1 ∧ (cntL ts l p).1 ≤ p.1 + nodesL ts
  | [], l, p => by simp [cntL, nodesL]
  | t :: ts, l, p => by
    simp only [cntL, nodesL]
    have := cntT_le t (l + 1) p
    have := cntL_le ts l (cntT t (l + 1) p)
    split <;> omega
end

theorem check_loop (t : Tm) (l : Int) (bs : List (List AV)) (i j : Nat) (hi : i < bs.length) (hj : j < bs.length) (hij : i ≠ j) (hm : t.mass < big) (hl : 0 ≤ l ∧ l + t.depth ≤ big)
    (ih : ∀ x ∈ t.kids, ∀ n d : Int, 0 ≤ n → n + x.nodes < 2 * big → call F.tb 7 [.agg (encT x), .int .i64 (l + 1), .gp i 0, .gp j 0] (two bs i j n d) = some (.int .i64 (errT x), two bs i j (cntT x (l + 1) (n, d)).1 (cntT x (l + 1) (n, d)).2)) :
    ∀ (post pre : List Tm) (n d : Int) (ρ : Nat → AV), 0 ≤ n → n + nodesL post < 2 * big → t.kids = pre ++ post → ρ 57 = .sl false 4 (encTs t.kids) → ρ 58 = .int .i64 t.kids.length → ρ 59 = .int .i64 pre.length →
      ρ 1 = .int .i64 l → ρ 2 = .gp i 0 → ρ 3 = .gp j 0 →
    R F.tb (.loop F.term_check_l0) ρ (two bs i j n d) (blockK 1 (seqK F.tb F.term_check_r0 (finK F.term_check bs.length))) =
      some (.int .i64 (errL post), two bs i j (cntL post l (n, d)).1 (cntL post l (n, d)).2) := by
  have hm2 := mass_eq t
  have hdp := depth_eq t
  unfold big at *
  have hji := Ne.symm hij
  intro post
  induction post with
  | nil =>
    intro pre n d ρ hn hnb hk h57 h58 h59 h1 h2 h3
    rw [R_loop' F.term_check_l0.eq_1]
    simp at hk
    simp [h1, h2, h3, h57, h58, h59, ← hk, F.term_check_r0, F.term_check_res, F.term_check_keep, errL, cntL, two_len]
    rw [List.take_of_length_le (by simp [two_len])]
  | cons x post IH =>
    intro pre n d ρ hn hnb hk h57 h58 h59 h1 h2 h3
    have hg := get_pre hk
    have hlen : t.kids.length = pre.length + (post.length + 1) := by rw [hk]; simp
    simp only [nodesL] at hnb
    have hw1 : IntKind.i64.wrap ((pre.length : Int) + 1) = (pre.length : Int) + 1 := wrap64 (by omega) (by omega)
    have hw2 : IntKind.i64.wrap (l + 1) = l + 1 := wrap64 (by omega) (by omega)
    have hlt : (pre.length : Int) < (t.kids.length : Int) := by omega
    have hx := ih x (by rw [hk]; simp) n d hn (by omega)
    have hc := cntT_le x (l + 1) (n, d)
    rw [R_loop' F.term_check_l0.eq_1]
    by_cases he : errT x = 0
    · simp [h1, h2, h3, h57, h58, h59, hg, hw1, hw2, hlt, hx, he]
      simp only [errL, cntL, he, ne_eq, not_true, if_false]
      rw [IH (pre ++ [x])] <;> (first | (simp at hc; omega) | simp [h1, h2, h3, h57, h58, h59, hk])
    · simp [h1, h2, h3, h57, h58, h59, hg, hw1, hw2, hlt, hx, he, F.term_check_res, F.term_check_keep, errL, cntL]
      rw [List.take_of_length_le (by simp [two_len])]

theorem call_check : ∀ (t : Tm) (l : Int) (bs : List (List AV)) (i j : Nat) (n d : Int), i < bs.length → j < bs.length → i ≠ j → t.mass < big → 0 ≤ l → l + t.depth ≤ big → 0 ≤ n → n + t.nodes < 2 * big →
    call F.tb 7 [.agg (encT t), .int .i64 l, .gp i 0, .gp j 0] (two bs i j n d) = some (.int .i64 (errT t), two bs i j (cntT t l (n, d)).1 (cntT t l (n, d)).2) := by
  refine tm_ind ?_
  intro k nm s ks ih l bs i j n d hi hj hij hm hl hld hn hnb
  have hm2 := mass_eq (.mk k nm s ks)
  have hnn := nodes_eq (.mk k nm s ks)
  have hdp := depth_eq (.mk k nm s ks)
  simp only [mk_kids, mk_name] at hm2 hnn hdp
  have hdl := depthL_le_nodes ks
  have hnm := nodesL_le_mass ks
  have hloop : ∀ ρ : Nat → AV, ρ 57 = .sl false 4 (encTs ks) → ρ 58 = .int .i64 ks.length → ρ 59 = .int .i64 0 →
      ρ 1 = .int .i64 l → ρ 2 = .gp i 0 → ρ 3 = .gp j 0 →
    R F.tb (.loop F.term_check_l0) ρ (two bs i j (n + 1) (if l > d then l else d)) (blockK 1 (seqK F.tb F.term_check_r0 (finK F.term_check bs.length))) =
      some (.int .i64 (errL ks), two bs i j (cntL ks l (n + 1, if l > d then l else d)).1 (cntL ks l (n + 1, if l > d then l else d)).2) := by
    intro ρ h57 h58 h59 h1 h2 h3
    refine check_loop (.mk k nm s ks) l bs i j hi hj hij hm ⟨hl, hld⟩ ?_ ks [] (n + 1) (if l > d then l else d) ρ (by omega) (by omega) rfl h57 h58 h59 h1 h2 h3
    intro x hx n d hn hnb
    have h1 := massL_mem hx
    have h2 := depthL_mem hx
    simp only [mk_kids] at h1 h2
    exact ih x hx (l + 1) bs i j n d hi hj hij (by omega) (by omega) (by omega) hn hnb
  unfold big at hm hnb
  have hw : IntKind.i64.wrap (n + 1) = n + 1 := wrap64 (by omega) (by omega)
  have hji := Ne.symm hij
  have htk : ∀ (a b : Int), List.take bs.length (two bs i j a b) = two bs i j a b := fun a b => List.take_of_length_le (by simp [two_len])
  have hnl : nm.length < 4611686018427387904 := by omega
  have hks : ((8 : Int) < ks.length) = (8 < ks.length) := by rw [eq_iff_iff]; omega
  rw [call_code F.tb_7 _ _ rfl]
  simp (config := { maxSteps := 1000000 }) [F.term_check_body, F.term_check_b, F.term_check_res, F.term_check_keep, hw, two_i hi hij, two_j hj, two_seti hij, two_setj, two_len, call_isName, hnl, htk, hks]
  simp only [gt_iff_lt] at hloop
  clear ih hm hl hld hn hnb hm2 hnn hdp hdl hnm hw htk hnl hks hi hj hij hji
  generalize hdd : (if d < l then l else d) = d' at *
  simp only [guardB_ite, decide_eq_true_eq, Bool.or_eq_true]
  repeat' split
  all_goals simp only [errT, cntT, nodeE, mk_kind, mk_sort, mk_name, mk_kids, gt_iff_lt, hdd]
  all_goals first
    | (rw [hloop] <;> simp [*]; done)
    | (simp [*]; done)
    | skip

/-- term.Valid -/
def validT (t : Tm) : Int := if errT t ≠ 0 then errT t else if 400 < t.nodes ∨ 40 < t.depth then 3 else 0

mutual
theorem cntT_ok : ∀ (t : Tm) (l : Int) (p : Int × Int), errT t = 0 → cntT t l p = (p.1 + t.nodes, max p.2 (l + t.depth - 1))
  | .mk k n s ks, l, p, h => by
    simp only [errT] at h
    split at h
    · rename_i hne; exact absurd h hne
    · rename_i hne
      simp only [cntT, hne, if_false, Tm.nodes, Tm.depth]
      rw [cntL_ok ks l _ h]
      refine Prod.ext ?_ ?_
      · simp; omega
      · cases ks with
        | nil => simp [depthL, nodesL]; split <;> omega
        | cons t ts => simp [depthL]; split <;> omega
theorem cntL_ok : ∀ (ts : List Tm) (l : Int) (p : Int × Int), errL ts = 0 → cntL ts l p = (p.1 + nodesL ts, if ts = [] then p.2 else max p.2 (l + depthL ts))
  | [], l, p, _ => by simp [cntL, nodesL]
  | t :: ts, l, p, h => by
    simp only [errL] at h
    split at h
    · rename_i hne; exact absurd h hne
    · rename_i hne
      have he : errT t = 0 := by simpa using hne
      simp only [cntL, hne, if_false, nodesL, depthL]
      rw [cntL_ok ts l _ h, cntT_ok t (l + 1) p he]
      refine Prod.ext ?_ ?_
      · simp; omega
      · cases ts with
        | nil => simp [depthL]; omega
        | cons u us => simp [depthL]; omega
end

theorem call_Valid (t : Tm) (bs : List (List AV)) (hm : t.mass < big) : call F.tb 6 [.agg (encT t)] bs = some (.int .i64 (validT t), bs) := by
  have h2 : bs ++ [[AV.int .i64 0], [AV.int .i64 0]] = two (bs ++ [[AV.int .i64 0], [AV.int .i64 0]]) bs.length (bs.length + 1) 0 0 := by
    simp [two]
  have hn := nodes_le_mass t
  have hd := depth_le_nodes t
  have hb : big = 1099511627776 := rfl
  have hc := call_check t 1 (bs ++ [[AV.int .i64 0], [AV.int .i64 0]]) bs.length (bs.length + 1) 0 0 (by simp) (by simp) (by omega) hm (by omega) (by omega) (by omega) (by omega)
  rw [← h2] at hc
  have hi := two_i (bs := bs ++ [[AV.int .i64 0], [AV.int .i64 0]]) (i := bs.length) (j := bs.length + 1) (n := (cntT t 1 (0, 0)).1) (d := (cntT t 1 (0, 0)).2) (by simp) (by omega)
  have hj := two_j (bs := bs ++ [[AV.int .i64 0], [AV.int .i64 0]]) (i := bs.length) (j := bs.length + 1) (n := (cntT t 1 (0, 0)).1) (d := (cntT t 1 (0, 0)).2) (by simp)
  have htk : List.take bs.length (two (bs ++ [[AV.int .i64 0], [AV.int .i64 0]]) bs.length (bs.length + 1) (cntT t 1 (0, 0)).1 (cntT t 1 (0, 0)).2) = bs := by
    simp [two]
  have hcnt := cntT_ok t 1 (0, 0)
  rw [call_code F.tb_6 _ _ rfl]
  simp [F.term_Valid_body, F.term_Valid_b, F.term_Valid_res, F.term_Valid_keep, hc, hi, hj, htk, validT]
  by_cases he : errT t = 0
  · have := depth_eq t
    have e1 : (400 < (t.nodes : Int)) = (400 < t.nodes) := by rw [eq_iff_iff]; omega
    have e2 : (40 < (max 0 (1 + (t.depth : Int) - 1))) = (40 < t.depth) := by rw [eq_iff_iff]; omega
    simp [he, hcnt he, e1, e2, guardB_ite]
  · simp [he]
end Go.Am

namespace Go.Am
set_option maxRecDepth 8000

def sgn (a b : Int) : Int := if a < b then -1 else if a > b then 1 else 0
def cmpS (a b : List UInt8) : Int := if Op.bytesLess a b then -1 else if a == b then 0 else 1
def or0 (c d : Int) : Int := if c = 0 then d else c
theorem or0_0 (d : Int) : or0 0 d = d := rfl
theorem or0_r (c : Int) : or0 c 0 = c := by unfold or0; split <;> simp_all
theorem or0_ne {c : Int} (h : c ≠ 0) (d : Int) : or0 c d = c := by simp [or0, h]
theorem or0_assoc (a b c : Int) : or0 (or0 a b) c = or0 a (or0 b c) := by unfold or0; split <;> simp_all
theorem or0_eq0 {a b : Int} : or0 a b = 0 ↔ a = 0 ∧ b = 0 := by unfold or0; split <;> simp_all

/-- What is compared of two terms before their kids. -/
def hdT (t u : Tm) : Int := or0 (sgn t.nodes u.nodes) (or0 (sgn t.kind u.kind) (or0 (cmpS t.name u.name) (or0 (sgn t.sort u.sort) (sgn t.kids.length u.kids.length))))

mutual
/-- The order of terms. -/
def cmpT : Tm → Tm → Int
  | .mk k n s ks, u => or0 (hdT (.mk k n s ks) u) (cmpL ks u.kids)
def cmpL : List Tm → List Tm → Int
  | [], _ => 0
  | _ :: _, [] => 0
  | t :: ts, u :: us => or0 (cmpT t u) (cmpL ts us)
end
theorem cmpT_eq (t u : Tm) : cmpT t u = or0 (hdT t u) (cmpL t.kids u.kids) := by cases t; simp [cmpT]

theorem sgn0 {a b : Int} : sgn a b = 0 ↔ a = b := by unfold sgn; split <;> (try split) <;> omega
theorem call_sign' (a b : Int) (bs : List (List AV)) : call F.tb 32 [.int .i64 a, .int .i64 b] bs = some (.int .i64 (sgn a b), bs) := call_sign a b bs
theorem call_cmp (a b : List UInt8) (bs : List (List AV)) : call F.tb 33 [.str a, .str b] bs = some (.int .i64 (cmpS a b), bs) := by
  rw [call_orc F.tb_33]; rfl

theorem Compare_loop (t u : Tm) (bs : List (List AV)) (hm : t.mass < big) (hu : u.mass < big)
    (ih : ∀ x ∈ t.kids, ∀ y bs, y.mass < big → call F.tb 30 [.agg (encT x), .agg (encT y)] bs = some (.int .i64 (cmpT x y), bs)) :
    ∀ (xs ys pre pre' : List Tm) (c : Int) (ρ : Nat → AV), t.kids = pre ++ xs → u.kids = pre' ++ ys → pre.length = pre'.length → (c = 0 → xs.length = ys.length) →
      ρ 2 = .bx (encT t) → ρ 3 = .bx (encT u) → ρ 5 = .int .i64 c → ρ 6 = .int .i64 pre.length →
    R F.tb (.loop F.term_Compare_l0) ρ bs (blockK 0 (seqK F.tb F.term_Compare_r0 (finK F.term_Compare bs.length))) = some (.int .i64 (or0 c (cmpL xs ys)), bs) := by
  have hm2 := mass_eq t
  have hu2 := mass_eq u
  intro xs
  induction xs with
  | nil =>
    intro ys pre pre' c ρ hk hk' hp hc h2 h3 h5 h6
    rw [R_loop' F.term_Compare_l0.eq_1]
    simp at hk
    by_cases h0 : c = 0
    · simp [h2, h3, h5, h6, h0, F.term_Compare_r0, F.term_Compare_res, F.term_Compare_keep, hk, cmpL, or0_r]
    · simp [h2, h3, h5, h6, h0, F.term_Compare_r0, F.term_Compare_res, F.term_Compare_keep, cmpL, or0_r]
  | cons x xs IH =>
    intro ys pre pre' c ρ hk hk' hp hc h2 h3 h5 h6
    rw [R_loop' F.term_Compare_l0.eq_1]
    by_cases h0 : c = 0
    · obtain ⟨y, ys', rfl⟩ : ∃ y ys', ys = y :: ys' := by
        have := hc h0
        cases ys with
        | nil => simp at this
        | cons y ys' => exact ⟨y, ys', rfl⟩
      have hg := get_pre hk
      have hg' := get_pre hk'
      rw [← hp] at hg'
      have hl : t.kids.length = pre.length + (xs.length + 1) := by rw [hk]; simp
      have hlt : (pre.length : Int) < (t.kids.length : Int) := by omega
      have hym : y.mass < big := by have := massL_mem (x := y) (ks := u.kids) (by rw [hk']; simp); omega
      unfold big at hm hu
      have hw1 : IntKind.i64.wrap ((pre.length : Int) + 1) = (pre.length : Int) + 1 := wrap64 (by omega) (by omega)
      simp [h2, h3, h5, h6, h0, hlt, hg, hg', hw1, ih x (by rw [hk]; simp) y bs hym]
      rw [IH ys' (pre ++ [x]) (pre' ++ [y]) (cmpT x y)] <;> first | omega | (simp [hk, hk', hp, h2, h3, cmpL, or0_0]; done) | (intro _; have := hc h0; simp at this; omega)
    · simp [h2, h3, h5, h6, h0, F.term_Compare_r0, F.term_Compare_res, F.term_Compare_keep, cmpL, or0_ne]

theorem call_Compare : ∀ (t u : Tm) (bs : List (List AV)), t.mass < big → u.mass < big → call F.tb 30 [.agg (encT t), .agg (encT u)] bs = some (.int .i64 (cmpT t u), bs) := by
  refine tm_ind ?_
  intro k n s ks ih u bs hm hu
  have hloop := Compare_loop (.mk k n s ks) u bs hm hu (fun x hx y bs hy => ih x hx y bs (by have := massL_mem hx; have := mass_eq (.mk k n s ks); simp at *; omega) hy) ks u.kids [] [] (hdT (.mk k n s ks) u)
  rw [call_code F.tb_30 _ _ rfl, cmpT_eq]
  have hsz := call_Size (.mk k n s ks) bs hm
  have hsz' := call_Size u bs hu
  simp [F.term_Compare_body, F.term_Compare_b, hsz, hsz', call_sign', call_cmp]
  by_cases c1 : sgn (Tm.mk k n s ks).nodes u.nodes = 0 <;> by_cases c2 : sgn k u.kind = 0 <;> by_cases c3 : cmpS n u.name = 0 <;> by_cases c4 : sgn s u.sort = 0 <;>
    simp [c1, c2, c3, c4, guardB_ite] <;> rw [hloop] <;> first | (simp [hdT, c1, c2, c3, c4, or0_0, or0_ne]; done) | (simp [hdT, c1, c2, c3, c4, sgn0, or0_0, or0_ne]; omega) | skip

theorem call_same29 (t u : Tm) (bs : List (List AV)) (hm : t.mass < big) (hu : u.mass < big) : call F.tb 29 [.agg (encT t), .agg (encT u)] bs = some (.bool (decide (cmpT t u = 0)), bs) := by
  rw [call_code F.tb_29 _ _ rfl]
  simp [F.ticket_same, F.ticket_same_b, call_Compare t u bs hm hu]

-- the reference's
theorem RSize_loop (t : Tm) (bs : List (List AV)) (hm : t.mass < big) (ih : ∀ x ∈ t.kids, ∀ bs, call F.tb 60 [.agg (encT x)] bs = some (.int .i64 x.nodes, bs)) :
    ∀ (post pre : List Tm) (ρ : Nat → AV), t.kids = pre ++ post → ρ 1 = .bx (encT t) → ρ 4 = .int .i64 pre.length → ρ 3 = .int .i64 (1 + nodesL pre : Nat) →
    R F.tb (.loop F.sealringref01_Size_l0) ρ bs (blockK 0 (seqK F.tb F.sealringref01_Size_r0 (finK F.sealringref01_Size bs.length))) = some (.int .i64 t.nodes, bs) := by
  have hm2 := mass_eq t
  have hn := nodesL_le_mass t.kids
  unfold big at hm
  intro post
  induction post with
  | nil =>
    intro pre ρ hk h1 h4 h3
    rw [R_loop' F.sealringref01_Size_l0.eq_1]
    simp at hk
    simp [h1, h3, h4, ← hk, F.sealringref01_Size_r0, F.sealringref01_Size_res, F.sealringref01_Size_keep, nodes_eq]
  | cons x post IH =>
    intro pre ρ hk h1 h4 h3
    have hg := get_pre hk
    have hl : t.kids.length = pre.length + (post.length + 1) := by rw [hk]; simp
    have hnn : nodesL t.kids = nodesL pre + (x.nodes + nodesL post) := by rw [hk, nodesL_append]; simp [nodesL]
    have hw1 : IntKind.i64.wrap ((pre.length : Int) + 1) = (pre.length : Int) + 1 := wrap64 (by omega) (by omega)
    have hw2 : IntKind.i64.wrap (1 + (nodesL pre : Int) + (x.nodes : Int)) = 1 + (nodesL pre : Int) + (x.nodes : Int) := wrap64 (by omega) (by omega)
    have hlt : (pre.length : Int) < (t.kids.length : Int) := by omega
    rw [R_loop' F.sealringref01_Size_l0.eq_1]
    simp [h3, h1, h4, hg, hw1, hw2, hlt, ih x (by rw [hk]; simp)]
    rw [IH (pre ++ [x])] <;> simp [h3, h1, h4, hk, nodesL_append, nodesL]
    omega

theorem call_RSize : ∀ (t : Tm) (bs : List (List AV)), t.mass < big → call F.tb 60 [.agg (encT t)] bs = some (.int .i64 t.nodes, bs) := by
  refine tm_ind ?_
  intro k n s ks ih bs hm
  rw [call_code F.tb_60 _ _ rfl]
  simp [F.sealringref01_Size_body, F.sealringref01_Size_b]
  refine RSize_loop (.mk k n s ks) bs hm (fun x hx bs => ih x hx bs ?_) ks [] _ ?_ ?_ ?_ ?_ <;> (try simp [nodesL])
  have := massL_mem hx; have := mass_eq (.mk k n s ks); simp at *; omega

theorem depthL_append (a b : List Tm) : depthL (a ++ b) = max (depthL a) (depthL b) := by
  induction a with
  | nil => simp [depthL]
  | cons t ts ih => simp [depthL, ih]

theorem RDepth_loop (t : Tm) (bs : List (List AV)) (hm : t.mass < big) (ih : ∀ x ∈ t.kids, ∀ bs, call F.tb 61 [.agg (encT x)] bs = some (.int .i64 x.depth, bs)) :
    ∀ (post pre : List Tm) (ρ : Nat → AV), t.kids = pre ++ post → ρ 1 = .bx (encT t) → ρ 4 = .int .i64 pre.length → ρ 3 = .int .i64 (depthL pre : Nat) →
    R F.tb (.loop F.sealringref01_Depth_l0) ρ bs (blockK 0 (seqK F.tb F.sealringref01_Depth_r0 (finK F.sealringref01_Depth bs.length))) = some (.int .i64 t.depth, bs) := by
  have hm2 := mass_eq t
  have hn := depthL_le_nodes t.kids
  have hn2 := nodesL_le_mass t.kids
  unfold big at hm
  intro post
  induction post with
  | nil =>
    intro pre ρ hk h1 h4 h3
    rw [R_loop' F.sealringref01_Depth_l0.eq_1]
    simp at hk
    have hw2 : IntKind.i64.wrap ((depthL pre : Int) + 1) = (depthL pre : Int) + 1 := wrap64 (by omega) (by rw [← hk]; omega)
    simp [h1, h3, h4, hk, hw2, F.sealringref01_Depth_r0, F.sealringref01_Depth_res, F.sealringref01_Depth_keep, depth_eq]
  | cons x post IH =>
    intro pre ρ hk h1 h4 h3
    have hg := get_pre hk
    have hl : t.kids.length = pre.length + (post.length + 1) := by rw [hk]; simp
    have hw1 : IntKind.i64.wrap ((pre.length : Int) + 1) = (pre.length : Int) + 1 := wrap64 (by omega) (by omega)
    have hlt : (pre.length : Int) < (t.kids.length : Int) := by omega
    rw [R_loop' F.sealringref01_Depth_l0.eq_1]
    simp [h3, h1, h4, hg, hw1, hlt, ih x (by rw [hk]; simp)]
    rw [IH (pre ++ [x])] <;> simp [h3, h1, h4, hk, depthL_append, depthL]
    split <;> omega

theorem call_RDepth : ∀ (t : Tm) (bs : List (List AV)), t.mass < big → call F.tb 61 [.agg (encT t)] bs = some (.int .i64 t.depth, bs) := by
  refine tm_ind ?_
  intro k n s ks ih bs hm
  rw [call_code F.tb_61 _ _ rfl]
  simp [F.sealringref01_Depth_body, F.sealringref01_Depth_b]
  refine RDepth_loop (.mk k n s ks) bs hm (fun x hx bs => ih x hx bs ?_) ks [] _ ?_ ?_ ?_ ?_ <;> (try simp [depthL])
  have := massL_mem hx; have := mass_eq (.mk k n s ks); simp at *; omega

theorem call_Rnumber (a b : Int) (bs : List (List AV)) : call F.tb 91 [.int .i64 a, .int .i64 b] bs = some (.int .i64 (sgn a b), bs) := by
  rw [call_code F.tb_91 _ _ rfl]
  simp [F.sealringref01_number, F.sealringref01_number_b, sgn]

theorem RCompare_loop (t u : Tm) (bs : List (List AV)) (hm : t.mass < big) (hu : u.mass < big)
    (ih : ∀ x ∈ t.kids, ∀ y bs, y.mass < big → call F.tb 90 [.agg (encT x), .agg (encT y)] bs = some (.int .i64 (cmpT x y), bs)) :
    ∀ (xs ys pre pre' : List Tm) (ρ : Nat → AV), t.kids = pre ++ xs → u.kids = pre' ++ ys → pre.length = pre'.length → xs.length = ys.length →
      ρ 2 = .bx (encT t) → ρ 3 = .bx (encT u) → ρ 9 = .int .i64 pre.length →
    R F.tb (.loop F.sealringref01_Compare_l0) ρ bs (blockK 0 (seqK F.tb F.sealringref01_Compare_r0 (finK F.sealringref01_Compare bs.length))) = some (.int .i64 (cmpL xs ys), bs) := by
  have hm2 := mass_eq t
  have hu2 := mass_eq u
  intro xs
  induction xs with
  | nil =>
    intro ys pre pre' ρ hk hk' hp hc h2 h3 h9
    rw [R_loop' F.sealringref01_Compare_l0.eq_1]
    simp at hk
    simp [h2, h3, h9, F.sealringref01_Compare_r0, F.sealringref01_Compare_res, F.sealringref01_Compare_keep, hk, cmpL]
  | cons x xs IH =>
    intro ys pre pre' ρ hk hk' hp hc h2 h3 h9
    rw [R_loop' F.sealringref01_Compare_l0.eq_1]
    obtain ⟨y, ys', rfl⟩ : ∃ y ys', ys = y :: ys' := by
      cases ys with
      | nil => simp at hc
      | cons y ys' => exact ⟨y, ys', rfl⟩
    have hg := get_pre hk
    have hg' := get_pre hk'
    rw [← hp] at hg'
    have hl : t.kids.length = pre.length + (xs.length + 1) := by rw [hk]; simp
    have hlt : (pre.length : Int) < (t.kids.length : Int) := by omega
    have hym : y.mass < big := by have := massL_mem (x := y) (ks := u.kids) (by rw [hk']; simp); omega
    unfold big at hm hu
    have hw1 : IntKind.i64.wrap ((pre.length : Int) + 1) = (pre.length : Int) + 1 := wrap64 (by omega) (by omega)
    by_cases h0 : cmpT x y = 0
    · simp [h2, h3, h9, h0, hlt, hg, hg', hw1, ih x (by rw [hk]; simp) y bs hym]
      rw [IH ys' (pre ++ [x]) (pre' ++ [y])] <;> first | omega | (simp [hk, hk', hp, h0, h2, h3, cmpL, or0_0]; done) | (simp at hc; omega)
    · simp [h2, h3, h9, h0, hlt, hg, hg', hw1, ih x (by rw [hk]; simp) y bs hym, F.sealringref01_Compare_res, F.sealringref01_Compare_keep, cmpL, or0_ne]

theorem call_RCompare : ∀ (t u : Tm) (bs : List (List AV)), t.mass < big → u.mass < big → call F.tb 90 [.agg (encT t), .agg (encT u)] bs = some (.int .i64 (cmpT t u), bs) := by
  refine tm_ind ?_
  intro k n s ks ih u bs hm hu
  have hloop := RCompare_loop (.mk k n s ks) u bs hm hu (fun x hx y bs hy => ih x hx y bs (by have := massL_mem hx; have := mass_eq (.mk k n s ks); simp at *; omega) hy) ks u.kids [] []
  rw [call_code F.tb_90 _ _ rfl, cmpT_eq]
  have hsz := call_RSize (.mk k n s ks) bs hm
  have hsz' := call_RSize u bs hu
  simp [F.sealringref01_Compare_body, F.sealringref01_Compare_b, F.sealringref01_Compare_res, F.sealringref01_Compare_keep, hsz, hsz', call_Rnumber]
  have b0 : cmpS n u.name = if Op.bytesLess n u.name then -1 else if (Op.bytesLess n u.name || n == u.name) = false then 1 else 0 := by
    unfold cmpS; cases Op.bytesLess n u.name <;> cases hh : (n == u.name) <;> simp
  generalize (n == u.name) = q at *
  generalize Op.bytesLess n u.name = p at *
  by_cases c1 : sgn (Tm.mk k n s ks).nodes u.nodes = 0 <;> by_cases c2 : sgn k u.kind = 0 <;> cases p <;> cases q <;> by_cases c4 : sgn s u.sort = 0 <;>
    by_cases c6 : sgn ks.length u.kids.length = 0 <;> simp [c1, c2, c4, c6, guardB_ite, hdT, or0_0, or0_ne, b0]
  all_goals (rw [hloop] <;> (try simp) <;> (try (have := sgn0.1 c6; omega)))
theorem call_RSame (t u : Tm) (bs : List (List AV)) (hm : t.mass < big) (hu : u.mass < big) : call F.tb 89 [.agg (encT t), .agg (encT u)] bs = some (.bool (decide (cmpT t u = 0)), bs) := by
  rw [call_code F.tb_89 _ _ rfl]
  simp [F.sealringref01_Same, F.sealringref01_Same_b, call_RCompare t u bs hm hu]
end Go.Am
