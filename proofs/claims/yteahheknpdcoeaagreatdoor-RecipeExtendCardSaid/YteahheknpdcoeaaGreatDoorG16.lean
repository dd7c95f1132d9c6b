/-
  Ge5, Ge6, Ge10, Ge11, Ge12, Ge26, Ge27, Ge28, Ge15, Rc1.
-/
import Derived.Test.YteahheknpdcoeaaGreatDoorG15
set_option linter.unusedVariables false
set_option linter.unusedSimpArgs false
namespace Go.Am
set_option maxRecDepth 8000
mutual
def budT : Tm → Int → Int
 | .mk _ n _ ks,m => if m ≤ 0 ∨ 40 < n.length then -1 else budL ks (m - 1)
def budL : List Tm → Int → Int
 | [],m => m
 | t :: ts,m => if budT t m < 0 then -1 else budL ts (budT t m)
end
mutual
theorem budT_le : ∀ (t : Tm) (m : Int),budT t m = -1 ∨ 0 ≤ budT t m ∧ budT t m + t.nodes ≤ m ∧ t.mass + 1 ≤ 42 * t.nodes
 | .mk k n s ks,m => by
  simp only [budT,Tm.nodes,Tm.mass]
  split
  ·exact .inl rfl
  ·rename_i h
   rcases budL_le ks (m - 1) (by omega) with h1 | h1
   ·exact .inl h1
   ·right; omega
theorem budL_le : ∀ (ts : List Tm) (m : Int),0 ≤ m → budL ts m = -1 ∨ 0 ≤ budL ts m ∧ budL ts m + nodesL ts ≤ m ∧ massL ts + ts.length ≤ 42 * nodesL ts
 | [],m,h => by simp [budL,nodesL,massL]; omega
 | t :: ts,m,h => by
  simp only [budL,nodesL,massL,List.length_cons]
  split
  ·exact .inl rfl
  ·rename_i h0
   rcases budT_le t m with h1 | h1
   ·omega
   ·rcases budL_le ts (budT t m) (by omega) with h2 | h2
    ·exact .inl h2
    ·right
     omega
end
theorem bud_loop (t : Tm) (bs : List (List AV)) (m0 : Int) (hm : m0 < 1000000) (ih : ∀ x ∈ t.kids,∀ (m : Int) bs,m < 1000000 → call F.tb 102 [.agg (encT x),.int .i64 m] bs = some (.int .i64 (budT x m),bs)) :
  ∀ (post pre : List Tm) (m : Int) (ρ : Nat → AV),t.kids = pre ++ post → 0 ≤ m → m + pre.length ≤ m0 → ρ 2 = .bx (encT t) → ρ 5 = .int .i64 pre.length → ρ 1 = .int .i64 m →
  R F.tb (.loop F.f102l0) ρ bs (blockK 0 (seqK F.tb F.f102r0 (finK F.f102 bs))) = some (.int .i64 (budL post m),bs) := by
 intro post
 induction post with
 | nil =>
  intro pre m ρ hk h0 hp h2 h5 h1
  rw [R_loop' F.f102l0.eq_1]
  simp at hk
  simp [h1,h2,h5,hk,F.f102r0,F.f102R,F.f102K,budL]
 | cons x post IH =>
  intro pre m ρ hk h0 hp h2 h5 h1
  have hg := get_pre hk
  have hl : t.kids.length = pre.length + (post.length + 1) := by rw [hk]; simp
  have hw1 : IntKind.i64.wrap ((pre.length : Int) + 1) = (pre.length : Int) + 1 := wrap64 (by omega) (by omega)
  have hlt : (pre.length : Int) < (t.kids.length : Int) := by omega
  have hn := nodes_eq x
  rw [R_loop' F.f102l0.eq_1]
  rcases budT_le x m with hb | hb
  ·simp [h1,h2,h5,hg,hw1,hlt,ih x (by rw [hk]; simp) m bs (by omega),hb,F.f102R,F.f102K,budL]
  ·have hb0 : ¬ budT x m < 0 := by omega
   simp [h1,h2,h5,hg,hw1,hlt,ih x (by rw [hk]; simp) m bs (by omega),hb0,budL]
   rw [IH (pre ++ [x]) (budT x m)] <;> first | omega | (simp [h1,h2,h5,hk]; done) | (simp; omega)
theorem call_bud : ∀ (t : Tm) (m : Int) (bs : List (List AV)),m < 1000000 → call F.tb 102 [.agg (encT t),.int .i64 m] bs = some (.int .i64 (budT t m),bs) := by
 refine tm_ind ?_
 intro k n s ks ih m bs hm
 rw [call_code F.tb_102 _ _ rfl]
 have hn : (40 < (n.length : Int)) = (40 < n.length) := by rw [eq_iff_iff]; omega
 simp [F.f102B,F.f102C,F.f102R,F.f102K,guardB_ite,hn,budT]
 split
 ·rfl
 ·rename_i hc
  have hw : IntKind.i64.wrap (m - 1) = m - 1 := wrap64 (by omega) (by omega)
  refine bud_loop (.mk k n s ks) bs m hm (fun x hx => ih x hx) ks [] (m - 1) _ ?_ ?_ ?_ ?_ ?_ ?_ <;> first | (simp [hw]; done) | (simp; omega)
def few (l : List Tm) (n : Nat) (m : Int) : Bool := decide (l.length ≤ n) && decide (0 ≤ budL l m)
theorem few_loop (l : List Tm) (o : Bool) (bs : List (List AV)) (hl : l.length < 1000000) :
  ∀ (post pre : List Tm) (m : Int) (ρ : Nat → AV),l = pre ++ post → 0 ≤ m → m < 1000000 → ρ 0 = .sl o 4 (encTs l) → ρ 7 = .int .i64 pre.length → ρ 2 = .int .i64 m →
  R F.tb (.loop F.f101l0) ρ bs (blockK 0 (seqK F.tb F.f101r0 (finK F.f101 bs))) = some (.bool (decide (0 ≤ budL post m)),bs) := by
 intro post
 induction post with
 | nil =>
  intro pre m ρ hk h0 hm hr0 h7 h2
  rw [R_loop' F.f101l0.eq_1]
  simp at hk
  simp [hr0,h7,h2,hk,F.f101r0,F.f101R,F.f101K,budL,h0]
 | cons x post IH =>
  intro pre m ρ hk h0 hm hr0 h7 h2
  have hg := get_pre hk
  have hl : l.length = pre.length + (post.length + 1) := by rw [hk]; simp
  have hw1 : IntKind.i64.wrap ((pre.length : Int) + 1) = (pre.length : Int) + 1 := wrap64 (by omega) (by omega)
  have hlt : (pre.length : Int) < (l.length : Int) := by omega
  rw [R_loop' F.f101l0.eq_1]
  rcases budT_le x m with hb | hb
  ·simp [hr0,h7,h2,hg,hw1,hlt,call_bud x m bs (by omega),hb,F.f101R,F.f101K,budL]
  ·have hb0 : ¬ budT x m < 0 := by omega
   simp [hr0,h7,h2,hg,hw1,hlt,call_bud x m bs (by omega),hb0,budL]
   rw [IH (pre ++ [x]) (budT x m)] <;> first | omega | (simp [hr0,h7,h2,hk]; done)
theorem call_few (l : List Tm) (o : Bool) (n : Nat) (m : Int) (bs : List (List AV)) (hn : n < 1000000) (h0 : 0 ≤ m) (hm : m < 1000000) :
  call F.tb 101 [.sl o 4 (encTs l),.int .i64 n,.int .i64 m] bs = some (.bool (few l n m),bs) := by
 rw [call_code F.tb_101 _ _ rfl]
 have e1 : ((n : Int) < (l.length : Int)) = (n < l.length) := by rw [eq_iff_iff]; omega
 simp [F.f101B,F.f101C,F.f101R,F.f101K,guardB_ite,few]
 split
 ·have : ¬ l.length ≤ n := by omega
  simp [this]
 ·have : l.length ≤ n := by omega
  rw [few_loop l false bs (by omega) l [] m] <;> simp [this,h0,hm]
end Go.Am
namespace Go.Am
set_option maxRecDepth 8000
def letterB (c : UInt8) : Bool := (97 ≤ c.toNat && c.toNat ≤ 122) || (65 ≤ c.toNat && c.toNat ≤ 90)
def digitB (c : UInt8) : Bool := 48 ≤ c.toNat && c.toNat ≤ 57
theorem partB_eq (c : UInt8) : partB c = (letterB c || digitB c || c.toNat == 95 || c.toNat == 35) := rfl
theorem int_le_nat (m n : Nat) : ((m : Int) ≤ (n : Int)) = (m ≤ n) := by rw [eq_iff_iff]; omega
theorem call_letter (c : UInt8) (bs : List (List AV)) : call F.tb 58 [.int .u8 c.toNat] bs = some (.bool (letterB c),bs) := by
 rw [call_code F.tb_58 _ _ rfl]
 have e1 : ((97 : Int) ≤ (c.toNat : Int)) = (97 ≤ c.toNat) := int_le_nat 97 _
 have e2 : ((c.toNat : Int) ≤ 122) = (c.toNat ≤ 122) := int_le_nat _ 122
 have e3 : ((65 : Int) ≤ (c.toNat : Int)) = (65 ≤ c.toNat) := int_le_nat 65 _
 have e4 : ((c.toNat : Int) ≤ 90) = (c.toNat ≤ 90) := int_le_nat _ 90
 simp [F.f58,F.f58C,letterB,e1,e2,e3,e4]
theorem call_digit (c : UInt8) (bs : List (List AV)) : call F.tb 59 [.int .u8 c.toNat] bs = some (.bool (digitB c),bs) := by
 rw [call_code F.tb_59 _ _ rfl]
 have e1 : ((48 : Int) ≤ (c.toNat : Int)) = (48 ≤ c.toNat) := int_le_nat 48 _
 have e2 : ((c.toNat : Int) ≤ 57) = (c.toNat ≤ 57) := int_le_nat _ 57
 simp [F.f59,F.f59C,digitB,e1,e2]
theorem cast_eq95 (n : Nat) : ((n : Int) = 95) = (n = 95) := by rw [eq_iff_iff]; omega
theorem cast_eq35 (n : Nat) : ((n : Int) = 35) = (n = 35) := by rw [eq_iff_iff]; omega
theorem RIsName_loop (s : List UInt8) (bs : List (List AV)) (hs : s.length < 4611686018427387904) : ∀ (post pre : List UInt8) (ρ : Nat → AV),s = pre ++ post → ρ 0 = .str s → ρ 3 = .int .i64 pre.length →
  R F.tb (.loop F.f57l0) ρ bs (blockK 0 (seqK F.tb F.f57r0 (finK F.f57 bs))) = some (.bool (post.all partB),bs) := by
 intro post
 induction post with
 | nil =>
  intro pre ρ hk h0 h3
  rw [R_loop' F.f57l0.eq_1]
  simp at hk
  simp [h0,h3,hk,F.f57r0,F.f57R,F.f57K]
 | cons x post IH =>
  intro pre ρ hk h0 h3
  have hg := get_pre hk
  have hl : s.length = pre.length + (post.length + 1) := by rw [hk]; simp
  have hw1 : IntKind.i64.wrap ((pre.length : Int) + 1) = (pre.length : Int) + 1 := wrap64 (by omega) (by omega)
  have hlt : (pre.length : Int) < (s.length : Int) := by omega
  rw [R_loop' F.f57l0.eq_1]
  cases hp : partB x
  ·rw [partB_eq] at hp
   simp only [Bool.or_eq_false_iff] at hp
   obtain ⟨⟨⟨p1,p2⟩,p3⟩,p4⟩ := hp
   have p3' : ¬ x.toNat = 95 := by simpa using p3
   have p4' : ¬ x.toNat = 35 := by simpa using p4
   simp [h0,h3,hg,hw1,hlt,call_letter,call_digit,p1,p2,p3',p4',cast_eq95,cast_eq35,F.f57R,F.f57K,partB_eq]
  ·simp [h0,h3,hg,hw1,hlt,call_letter,call_digit,cast_eq95,cast_eq35,F.f57R,F.f57K,partB_eq,guardB_ite]
   split
   ·rename_i hc
    simp [partB_eq,hc] at hp
   ·rw [IH (pre ++ [x])]
    ·simp [partB_eq] at hp
     simp [hp]
    ·simp [hk]
    ·simp [h0]
    ·simp
theorem letter_not {c : UInt8} (h : letterB c = true) : digitB c = false ∧ (c.toNat == 95) = false ∧ (c.toNat == 35) = false := by
 simp only [letterB,Bool.or_eq_true,Bool.and_eq_true,decide_eq_true_eq] at h
 refine ⟨?_,?_,?_⟩
 ·simp only [digitB,Bool.and_eq_false_iff,decide_eq_false_iff_not]; omega
 ·simp; omega
 ·simp; omega
theorem isNameB_ref (c : UInt8) (r : List UInt8) : isNameB (c :: r) = (decide (r.length < 24) && letterB c && (c :: r).all partB) := by
 have hd : (decide (48 ≤ c.toNat) && decide (c.toNat ≤ 57)) = digitB c := rfl
 simp only [isNameB,List.all_cons,hd,bne]
 cases hl : letterB c
 ·rw [partB_eq,hl]
  cases digitB c <;> cases (c.toNat == 95) <;> cases (c.toNat == 35) <;> simp
 ·obtain ⟨h1,h2,h3⟩ := letter_not hl
  rw [partB_eq,hl,h1,h2,h3]
  simp
theorem call_RIsName (s : List UInt8) (bs : List (List AV)) (hs : s.length < 4611686018427387904) : call F.tb 57 [.str s] bs = some (.bool (isNameB s),bs) := by
 rw [call_code F.tb_57 _ _ rfl]
 cases s with
 | nil => simp [F.f57B,F.f57C,F.f57R,F.f57K,isNameB]
 | cons c r =>
  have e1 : (24 < (r.length : Int) + 1) = ¬ (r.length < 24) := by rw [eq_iff_iff]; omega
  have e2 : ((r.length : Int) + 1 = 0) = False := eq_false (by omega)
  rw [isNameB_ref]
  by_cases h1 : r.length < 24 <;> cases h2 : letterB c <;>
  simp [F.f57B,F.f57C,F.f57R,F.f57K,call_letter,e1,e2,h1,h2,-List.all_cons]
  rw [RIsName_loop (c :: r) bs hs (c :: r) []] <;> (try simp)
theorem digit_at {n : Nat} (h : n < 10) : (([48,49,50,51,52,53,54,55,56,57] : List UInt8).take (n + 1)).drop n = [(48 + n).toUInt8] := by
 have : ∀ n < 10,(([48,49,50,51,52,53,54,55,56,57] : List UInt8).take (n + 1)).drop n = [(48 + n).toUInt8] := by decide
 exact this n h
theorem call_Itoa (n : Nat) (bs : List (List AV)) (h : n < 1000000000) : call F.tb 18 [.int .i64 n] bs = some (.str (decN n),bs) := by
 rw [call_orc F.tb_18]
 have h2 : -9223372036854775808 ≤ (n : Int) ∧ (n : Int) ≤ 9223372036854775807 := by omega
 show Option.map _ (itoaO [.int .i64 n]) = _
 unfold itoaO
 simp only [if_pos h2,dec_nat]
 rfl
theorem call_RAtom (s : List UInt8) (n : Int) (bs : List (List AV)) : call F.tb 107 [.str s,.int .i64 n] bs = some (.agg (encT (.mk 2 s n [])),bs) := by
 rw [call_code F.tb_107 _ _ rfl]
 simp [F.f107,F.f107C,encT_fold0]
end Go.Am
namespace Go.Am
set_option maxRecDepth 8000
theorem bytesLess_irrefl : ∀ a : List UInt8,Op.bytesLess a a = false
 | [] => rfl
 | c :: r => by simp [Op.bytesLess,bytesLess_irrefl r]
theorem cmpS_refl (a : List UInt8) : cmpS a a = 0 := by simp [cmpS,bytesLess_irrefl]
theorem sgn_refl (a : Int) : sgn a a = 0 := sgn0.2 rfl
theorem hdT_refl (t : Tm) : hdT t t = 0 := by simp [hdT,sgn_refl,cmpS_refl,or0]
mutual
theorem cmpT_refl : ∀ t : Tm,cmpT t t = 0
 | .mk k n s ks => by rw [cmpT,hdT_refl,or0_0]; exact cmpL_refl ks
theorem cmpL_refl : ∀ ts : List Tm,cmpL ts ts = 0
 | [] => by simp [cmpL]
 | t :: ts => by rw [cmpL,cmpT_refl t,or0_0]; exact cmpL_refl ts
end
theorem Lists_loop (a : List Tm) (bs : List (List AV)) (oa ob : Bool) (ha : massL a < big) (hl : a.length < 4611686018427387904) :
  ∀ (post pre : List Tm) (ρ : Nat → AV),a = pre ++ post → ρ 0 = .sl oa 4 (encTs a) → ρ 1 = .sl ob 4 (encTs a) → ρ 5 = .int .i64 pre.length →
  R F.tb (.loop F.f112l0) ρ bs (blockK 0 (seqK F.tb F.f112r0 (finK F.f112 bs))) = some (.bool true,bs) := by
 intro post
 induction post with
 | nil =>
  intro pre ρ hk h0 h1 h5
  rw [R_loop' F.f112l0.eq_1]
  simp at hk
  simp [h0,h1,h5,hk,F.f112r0,F.f112R,F.f112K]
 | cons x post IH =>
  intro pre ρ hk h0 h1 h5
  have hg := get_pre hk
  have hl : a.length = pre.length + (post.length + 1) := by rw [hk]; simp
  have hw1 : IntKind.i64.wrap ((pre.length : Int) + 1) = (pre.length : Int) + 1 := wrap64 (by omega) (by omega)
  have hlt : (pre.length : Int) < (a.length : Int) := by omega
  have hx : x.mass < big := by have := massL_mem (x := x) (ks := a) (by rw [hk]; simp); omega
  rw [R_loop' F.f112l0.eq_1]
  simp [h0,h1,h5,hg,hw1,hlt,call_RSame x x bs hx hx,cmpT_refl]
  rw [IH (pre ++ [x])] <;> simp [h0,h1,hk]
theorem call_Lists_refl (a : List Tm) (bs : List (List AV)) (oa ob : Bool) (ha : massL a < big) (hl : a.length < 4611686018427387904) :
  call F.tb 112 [.sl oa 4 (encTs a),.sl ob 4 (encTs a)] bs = some (.bool true,bs) := by
 rw [call_code F.tb_112 _ _ rfl]
 simp [F.f112B,F.f112C,F.f112R,F.f112K]
 rw [Lists_loop a bs false false ha hl a []] <;> simp
theorem few_mass {l : List Tm} {n : Nat} {m : Int} (h0 : 0 ≤ m) (h : few l n m = true) : l.length ≤ n ∧ massL l + l.length ≤ 42 * m.toNat ∧ nodesL l ≤ m.toNat := by
 simp only [few,Bool.and_eq_true,decide_eq_true_eq] at h
 rcases budL_le l m h0 with h1 | h1
 ·omega
 ·omega
end Go.Am
namespace Go.Am
set_option maxRecDepth 8000
theorem clone_loop (t : Tm) (bs : List (List AV)) (hm : t.mass < big) (ih : ∀ x ∈ t.kids,∀ bs,call F.tb 48 [.agg (encT x)] bs = some (.agg (encT x),bs)) :
  ∀ (post pre : List Tm) (ρ : Nat → AV),t.kids = pre ++ post → ρ 1 = .bx [.int .i64 t.kind,.str t.name,.int .i64 t.sort,.sl true 4 (encTs pre)] → ρ 2 = .bx [.int .i64 0,.str [],.int .i64 0,.sl true 4 []] →
   ρ 9 = .sl false 4 (encTs t.kids) → ρ 10 = .int .i64 t.kids.length → ρ 11 = .int .i64 pre.length →
  R F.tb (.loop F.f48l0) ρ bs (blockK 0 (seqK F.tb F.f48r0 (finK F.f48 bs))) = some (.agg (encT t),bs) := by
 have hm2 := mass_eq t
 unfold big at hm
 intro post
 induction post with
 | nil =>
  intro pre ρ hk h1 h2 h9 h10 h11
  rw [R_loop' F.f48l0.eq_1]
  simp at hk
  rw [← hk] at h1 h11
  simp [h1,h2,h9,h10,h11,F.f48r0,F.f48R,F.f48K,encT_fold,Tm.eta]
 | cons x post IH =>
  intro pre ρ hk h1 h2 h9 h10 h11
  have hg := get_pre hk
  have hl : t.kids.length = pre.length + (post.length + 1) := by rw [hk]; simp
  have hw1 : IntKind.i64.wrap ((pre.length : Int) + 1) = (pre.length : Int) + 1 := wrap64 (by omega) (by omega)
  have hlt : (pre.length : Int) < (t.kids.length : Int) := by omega
  have ha : (pre.length + 1) * 56 ≤ 140737488355328 := by omega
  rw [R_loop' F.f48l0.eq_1]
  simp [h1,h2,h9,h10,h11,hg,hw1,hlt,ha,ih x (by rw [hk]; simp),encTs_one,encTs_append]
  rw [IH (pre ++ [x])] <;> simp [h2,h9,h10,hk]
theorem call_clone : ∀ (t : Tm) (bs : List (List AV)),t.mass < big → call F.tb 48 [.agg (encT t)] bs = some (.agg (encT t),bs) := by
 refine tm_ind ?_
 intro k n s ks ih bs hm
 rw [call_code F.tb_48 _ _ rfl]
 simp [F.f48B,F.f48C,encT]
 refine clone_loop (.mk k n s ks) bs hm (fun x hx bs => ih x hx bs ?_) ks [] _ ?_ ?_ ?_ ?_ ?_ ?_ <;> (try simp [encTs])
 have := massL_mem hx; have := mass_eq (.mk k n s ks); simp at *; omega
theorem call_At0 (t : Tm) (bs : List (List AV)) (hm : t.mass < big) (o : Bool) : call F.tb 47 [.agg (encT t),.sl o 1 []] bs = some (.tup [.agg (encT t),.int .i64 0],bs) := by
 rw [call_code F.tb_47 _ _ rfl]
 simp [F.f47B,F.f47C,F.f47R,F.f47K]
 rw [R_loop' F.f47l0.eq_1]
 simp [F.f47r0,call_clone t bs hm,F.f47R,F.f47K]
theorem call_app (n : List UInt8) (ks : List Tm) (o : Bool) (bs : List (List AV)) : call F.tb 49 [.str n,.sl o 4 (encTs ks)] bs = some (.agg (encT (.mk 3 n 0 ks)),bs) := by
 rw [call_code F.tb_49 _ _ rfl]
 simp [F.f49,F.f49C,encT_fold]
structure Sy where
 n : List UInt8
 l : Int
 m : Int
 k : Int
def encY (s : Sy) : List AV := [.str s.n,.int .i64 s.l,.int .i64 s.m,.int .i64 s.k]
def symL : List Sy := [⟨[112,97,105,114],2,2,1⟩,⟨[101,110,99],2,2,1⟩,⟨[97,101,110,99],2,2,1⟩,⟨[112,107],1,1,1⟩,⟨[115,105,103,110],2,2,1⟩,⟨[104,97,115,104],1,1,1⟩,
 ⟨[120,111,114],2,8,1⟩,⟨[122,101,114,111],0,0,1⟩,⟨[101,120,112],2,2,1⟩,⟨[109,117,108],2,8,1⟩,⟨[105,110,118],1,1,1⟩,⟨[111,110,101],0,0,1⟩,
 ⟨[115,107],1,1,2⟩,⟨[115,104,107],2,2,2⟩,⟨[110,101,119],1,8,2⟩,⟨[102,115,116],1,1,3⟩,⟨[115,110,100],1,1,3⟩,⟨[100,101,99],2,2,3⟩,⟨[97,100,101,99],2,2,3⟩,⟨[111,112,101,110],2,2,3⟩,⟨[114,101,97,100],1,1,3⟩]
def encYs (ys : List Sy) : List (List AV) := ys.map encY
@[simp] theorem gpfreeE_encYs (ys : List Sy) : gpfreeE (encYs ys) = true := by
 induction ys with
 | nil => rfl
 | cons y ys ih => simpa [encYs,encY,gpfreeE,gpfreeL,AV.gpfree] using ih
@[simp] theorem encYs_len (ys : List Sy) : (encYs ys).length = ys.length := by simp [encYs]
theorem call_add (k l m : Int) (n : List UInt8) (ys : List Sy) (bs : List (List AV)) (hx : ys.length < 1000) : 
  call F.tb 45 [.int .i64 k,.str n,.int .i64 l,.int .i64 m,.gp bs.length 0] (bs ++ [[.sl true 4 (encYs ys)]]) = some (.tup [],bs ++ [[.sl true 4 (encYs (ys ++ [⟨n,l,m,k⟩]))]]) := by
 rw [call_code F.tb_45 _ _ rfl]
 have ha : (ys.length + 1) * 40 ≤ 140737488355328 := by omega
 have h1 : encYs (ys ++ [⟨n,l,m,k⟩]) = encYs ys ++ [[.str n,.int .i64 l,.int .i64 m,.int .i64 k]] := by simp [encYs,encY]
 have h2 : gpfreeE (encYs ys ++ [[.str n,.int .i64 l,.int .i64 m,.int .i64 k]]) = true := by rw [← h1]; exact gpfreeE_encYs _
 simp [F.f45,F.f45C,ha,h1,h2,List.take_of_length_le,gpfreeL]
theorem call_add0 (k l m : Int) (n : List UInt8) (bs : List (List AV)) : 
  call F.tb 45 [.int .i64 k,.str n,.int .i64 l,.int .i64 m,.gp bs.length 0] (bs ++ [[.sl true 4 []]]) = some (.tup [],bs ++ [[.sl true 4 (encYs [⟨n,l,m,k⟩])]]) := call_add k l m n [] bs (by simp)
theorem call_Symbols (bs : List (List AV)) : call F.tb 44 [] bs = some (.sl false 4 (encYs symL),bs) := by
 rw [call_code F.tb_44 _ _ rfl]
 simp only [F.f44,F.f44C]
 simp [call_add0,call_add,symL]
def findSy (n : List UInt8) : List Sy → Option Sy
 | [] => none
 | s :: ss => if s.n = n then some s else findSy n ss
theorem encYs_get {l : List Sy} {pre post : List Sy} {s : Sy} (h : l = pre ++ s :: post) : (encYs l)[pre.length]? = some (encY s) := by
 subst h; simp [encYs]
theorem symbol_loop (n : List UInt8) (l : List Sy) (bs : List (List AV)) (hn : l.length < 1000) :
  ∀ (post pre : List Sy) (ρ : Nat → AV),l = pre ++ post → ρ 0 = .str n → ρ 2 = .bx [.str [],.int .i64 0,.int .i64 0,.int .i64 0] →
   ρ 5 = .sl false 4 (encYs l) → ρ 6 = .int .i64 l.length → ρ 7 = .int .i64 pre.length →
  R F.tb (.loop F.f43l0) ρ bs (blockK 0 (seqK F.tb F.f43r0 (finK F.f43 bs))) =
   some (.agg (match findSy n post with | some s => encY s | none => [.str [],.int .i64 0,.int .i64 0,.int .i64 0]),bs) := by
 intro post
 induction post with
 | nil =>
  intro pre ρ hk h0 h2 h5 h6 h7
  rw [R_loop' F.f43l0.eq_1]
  simp at hk
  rw [← hk] at h7
  simp [h0,h2,h5,h6,h7,F.f43r0,F.f43R,F.f43K,findSy]
 | cons x post IH =>
  intro pre ρ hk h0 h2 h5 h6 h7
  have hg := encYs_get hk
  have hl : l.length = pre.length + (post.length + 1) := by rw [hk]; simp
  have hw1 : IntKind.i64.wrap ((pre.length : Int) + 1) = (pre.length : Int) + 1 := wrap64 (by omega) (by omega)
  have hlt : (pre.length : Int) < (l.length : Int) := by omega
  rw [R_loop' F.f43l0.eq_1]
  by_cases hx : x.n = n
  ·simp [h0,h2,h5,h6,h7,hg,hw1,hlt,encY,hx,findSy,F.f43R,F.f43K]
  ·have hxb : (x.n == n) = false := by simp [hx]
   simp [h0,h2,h5,h6,h7,hg,hw1,hlt,encY,hx,hxb,findSy]
   rw [IH (pre ++ [x])] <;> simp [h0,h2,h5,h6,hk,encY]
theorem call_symbol (n : List UInt8) (bs : List (List AV)) : call F.tb 43 [.str n] bs = some (.agg (match findSy n symL with | some s => encY s | none => [.str [],.int .i64 0,.int .i64 0,.int .i64 0]),bs) := by
 rw [call_code F.tb_43 _ _ rfl]
 simp [F.f43B,F.f43C,call_Symbols]
 refine symbol_loop n symL bs (by simp [symL]) symL [] _ rfl ?_ ?_ ?_ ?_ ?_ <;> simp
end Go.Am
namespace Go.Am
set_option maxRecDepth 8000
def notAg (k : Tm) : Bool := k.kind == 3 || k.sort != 1
mutual
def chkT : Tm → Int
 | .mk k n _ ks => if k ≠ 3 then 0 else match findSy n symL with
  | none => 10
  | some y => if (ks.length : Int) < y.l ∨ y.m < ks.length then 6 else if (n = [115,107] ∨ n = [115,104,107]) ∧ ks.any notAg then 10
   else if n = [110,101,119] ∧ ks.head?.map Tm.kind ≠ some 2 then 10 else chkL ks
def chkL : List Tm → Int
 | [] => 0
 | t :: ts => if chkT t ≠ 0 then chkT t else chkL ts
end
theorem check_l1 (t : Tm) (bs : List (List AV)) (hm : t.mass < big) (ih : ∀ x ∈ t.kids,∀ bs,call F.tb 42 [.agg (encT x)] bs = some (.int .i64 (chkT x),bs)) :
  ∀ (post pre : List Tm) (ρ : Nat → AV),t.kids = pre ++ post → ρ 62 = .sl false 4 (encTs t.kids) → ρ 63 = .int .i64 t.kids.length → ρ 64 = .int .i64 pre.length →
  R F.tb (.loop F.f42l1) ρ bs (blockK 3 (seqK F.tb F.f42r0 (finK F.f42 bs))) = some (.int .i64 (chkL post),bs) := by
 have hm2 := mass_eq t
 unfold big at hm
 intro post
 induction post with
 | nil =>
  intro pre ρ hk h1 h2 h3
  rw [R_loop' F.f42l1.eq_1]
  simp at hk
  rw [← hk] at h3
  simp [h1,h2,h3,F.f42r0,F.f42R,F.f42K,chkL]
 | cons x post IH =>
  intro pre ρ hk h1 h2 h3
  have hg := get_pre hk
  have hl : t.kids.length = pre.length + (post.length + 1) := by rw [hk]; simp
  have hw1 : IntKind.i64.wrap ((pre.length : Int) + 1) = (pre.length : Int) + 1 := wrap64 (by omega) (by omega)
  have hlt : (pre.length : Int) < (t.kids.length : Int) := by omega
  rw [R_loop' F.f42l1.eq_1]
  by_cases hc : chkT x = 0
  ·simp [h1,h2,h3,hg,hw1,hlt,ih x (by rw [hk]; simp),hc,chkL]
   rw [IH (pre ++ [x])] <;> simp [h1,h2,hk]
  ·simp [h1,h2,h3,hg,hw1,hlt,ih x (by rw [hk]; simp),hc,chkL,F.f42R,F.f42K]
theorem check_r1 (t : Tm) (bs : List (List AV)) (hm : t.mass < big) (ih : ∀ x ∈ t.kids,∀ bs,call F.tb 42 [.agg (encT x)] bs = some (.int .i64 (chkT x),bs)) (ρ : Nat → AV) (h1 : ρ 1 = .bx (encT t)) :
  R F.tb F.f42r1 ρ bs (finK F.f42 bs) = some (.int .i64 (chkL t.kids),bs) := by
 simp [F.f42r1,h1,encT_eq]
 refine check_l1 t bs hm ih t.kids [] _ rfl ?_ ?_ ?_ <;> simp
theorem check_l0 (t : Tm) (bs : List (List AV)) (hm : t.mass < big) (ih : ∀ x ∈ t.kids,∀ bs,call F.tb 42 [.agg (encT x)] bs = some (.int .i64 (chkT x),bs)) :
  ∀ (post pre : List Tm) (ρ : Nat → AV),t.kids = pre ++ post → ρ 1 = .bx (encT t) → ρ 38 = .sl false 4 (encTs t.kids) → ρ 39 = .int .i64 t.kids.length → ρ 40 = .int .i64 pre.length →
  R F.tb (.loop F.f42l0) ρ bs (blockK 1 (blockK 0 (seqK F.tb F.f42r1 (finK F.f42 bs)))) = some (.int .i64 (if post.any notAg then 10 else chkL t.kids),bs) := by
 have hm2 := mass_eq t
 have hm0 := hm
 unfold big at hm
 intro post
 induction post with
 | nil =>
  intro pre ρ hk h0 h1 h2 h3
  rw [R_loop' F.f42l0.eq_1]
  simp at hk
  rw [← hk] at h3
  simp [h0,h1,h2,h3]
  rw [check_r1 t bs hm0 ih] <;> simp [h0]
 | cons x post IH =>
  intro pre ρ hk h0 h1 h2 h3
  have hg := get_pre hk
  have hl : t.kids.length = pre.length + (post.length + 1) := by rw [hk]; simp
  have hw1 : IntKind.i64.wrap ((pre.length : Int) + 1) = (pre.length : Int) + 1 := wrap64 (by omega) (by omega)
  have hlt : (pre.length : Int) < (t.kids.length : Int) := by omega
  rw [R_loop' F.f42l0.eq_1]
  by_cases h3' : x.kind = 3
  ·simp [h0,h1,h2,h3,hg,hw1,hlt,encT_eq,h3',notAg,F.f42R,F.f42K]
  ·by_cases h4 : x.sort = 1
   ·have hb : notAg x = false := by simp [notAg,h3',h4]
    have hb3 : (x.kind == 3) = false := by simp [h3']
    simp [h0,h1,h2,h3,hg,hw1,hlt,encT_eq x,h3',h4,hb,hb3]
    rw [IH (pre ++ [x])] <;> simp [h0,h1,h2,hk,hb]
   ·have hb : notAg x = true := by simp [notAg,h4]
    have hb3 : (x.kind == 3) = false := by simp [h3']
    have hb4 : (x.sort != 1) = true := by simp [h4]
    simp [h0,h1,h2,h3,hg,hw1,hlt,encT_eq x,h3',h4,hb,hb3,hb4,F.f42R,F.f42K]
theorem findSy_mem {n : List UInt8} {y : Sy} : ∀ {l : List Sy},findSy n l = some y → y ∈ l ∧ y.n = n
 | [],h => by simp [findSy] at h
 | s :: ss,h => by
  simp only [findSy] at h
  split at h
  ·rename_i e; injection h with h; subst h; exact ⟨by simp,e⟩
  ·have := findSy_mem h; exact ⟨List.mem_cons_of_mem _ this.1,this.2⟩
theorem symL_k {y : Sy} (h : y ∈ symL) : y.k ≠ 0 ∧ (y.n = [110,101,119] → y.l = 1) := by
 have : symL.all (fun y => y.k ≠ 0 ∧ (y.n = [110,101,119] → y.l = 1)) = true := by decide
 have := List.all_eq_true.1 this y h
 simpa only [decide_eq_true_eq] using this
theorem call_thcheck : ∀ (t : Tm) (bs : List (List AV)),t.mass < big → call F.tb 42 [.agg (encT t)] bs = some (.int .i64 (chkT t),bs) := by
 refine tm_ind ?_
 intro k n s ks ih bs hm
 have hmk := mass_eq (.mk k n s ks)
 have ih' : ∀ x ∈ (Tm.mk k n s ks).kids,∀ bs,call F.tb 42 [.agg (encT x)] bs = some (.int .i64 (chkT x),bs) := fun x hx bs => ih x hx bs (by
  have := massL_mem hx; simp at *; omega)
 have r1 := fun ρ h => check_r1 (.mk k n s ks) bs hm ih' ρ h
 have l0 := fun ρ h0 h1 h2 h3 => check_l0 (.mk k n s ks) bs hm ih' ks [] ρ rfl h0 h1 h2 h3
 simp only [encT,mk_kids,List.length_nil] at r1 l0
 rw [call_code F.tb_42 _ _ rfl]
 by_cases hk : k = 3
 ·subst hk
  cases hy : findSy n symL with
  | none => simp [F.f42B,F.f42C,encT,call_symbol,hy,F.f42R,F.f42K,chkT]
  | some y =>
   obtain ⟨hy1,hy2⟩ := findSy_mem hy
   obtain ⟨hy3,hy4⟩ := symL_k hy1
   by_cases ha : (ks.length : Int) < y.l
   ·simp [F.f42B,F.f42C,encT,call_symbol,hy,hy3,ha,encY,F.f42R,F.f42K,chkT]
   ·by_cases hb : y.m < (ks.length : Int)
    ·simp [F.f42B,F.f42C,encT,call_symbol,hy,hy3,ha,hb,encY,F.f42R,F.f42K,chkT]
    ·by_cases h1 : n = [115,107]
     ·subst h1
      simp [F.f42B,F.f42C,encT,call_symbol,hy,hy3,ha,hb,encY,chkT]
      rw [l0] <;> simp
     ·by_cases h2 : n = [115,104,107]
      ·subst h2
       simp [F.f42B,F.f42C,encT,call_symbol,hy,hy3,ha,hb,encY,chkT]
       rw [l0] <;> simp
      ·have b1 : (n == [115,107]) = false := by simp [h1]
       have b2 : (n == [115,104,107]) = false := by simp [h2]
       by_cases h3 : n = [110,101,119]
       ·subst h3
        have hl := hy4 hy2
        cases ks with
        | nil => simp at ha; omega
        | cons x xs =>
         have ha' : ¬ ((xs.length : Int) + 1 < y.l) := by simpa using ha
         have hb' : ¬ (y.m < (xs.length : Int) + 1) := by simpa using hb
         by_cases hx : x.kind = 2
         ·simp [F.f42B,F.f42C,encT,encTs,encT_eq x,call_symbol,hy,hy3,ha',hb',encY,chkT,hx] at *
          refine (r1 _ ?_).trans ?_ <;> simp [encTs,encT_eq x]
         ·simp [F.f42B,F.f42C,encT,encTs,encT_eq x,call_symbol,hy,hy3,ha',hb',encY,chkT,hx,F.f42R,F.f42K]
       ·have b3 : (n == [110,101,119]) = false := by simp [h3]
        simp [F.f42B,F.f42C,encT,call_symbol,hy,hy3,ha,hb,encY,chkT,h1,h2,h3,b1,b2,b3]
        rw [r1] <;> simp
 ·simp [F.f42B,F.f42C,encT,hk,F.f42R,F.f42K,chkT]
def thV (t : Tm) : Int := if validT t ≠ 0 then validT t else chkT t
theorem call_thValid (t : Tm) (bs : List (List AV)) (hm : t.mass < big) : call F.tb 41 [.agg (encT t)] bs = some (.int .i64 (thV t),bs) := by
 rw [call_code F.tb_41 _ _ rfl]
 have h1 := call_Valid t bs hm
 have h2 := call_thcheck t bs hm
 rw [encT_eq] at *
 by_cases h : validT t = 0
 ·simp [F.f41B,F.f41C,h1,h2,h,thV,F.f41R,F.f41K]
 ·simp [F.f41B,F.f41C,h1,h,thV,F.f41R,F.f41K]
end Go.Am
namespace Go.Am
set_option maxRecDepth 8000
theorem at_pre {α : Type} {l pre post : List α} {x : α} (h : l = pre ++ x :: post) (hb : l.length < 4611686018427387904) :
  l[pre.length]? = some x ∧ IntKind.i64.wrap ((pre.length : Int) + 1) = (pre.length : Int) + 1 ∧ (pre.length : Int) < (l.length : Int) ∧ x ∈ l := by
 have hl : l.length = pre.length + (post.length + 1) := by rw [h]; simp
 exact ⟨get_pre h,wrap64 (by omega) (by omega),by omega,by rw [h]; simp⟩
theorem mass_kids {t : Tm} (h : t.mass < big) : t.kids.length < 4611686018427387904 := by
 have := mass_eq t; unfold big at h; omega
theorem mass_kid {t x : Tm} (h : t.mass < big) (hx : x ∈ t.kids) : x.mass < big := by
 have := massL_mem hx; have := mass_eq t; omega
theorem call_Rnode (t : Tm) (bs : List (List AV)) (hm : t.mass < big) : call F.tb 56 [.agg (encT t)] bs = some (.int .i64 (nodeE t),bs) := by
 rw [call_code F.tb_56 _ _ rfl]
 have hn := call_RIsName t.name bs (by have := mass_eq t; unfold big at hm; omega)
 have hks : ((8 : Int) < t.kids.length) = (8 < t.kids.length) := by rw [eq_iff_iff]; omega
 obtain ⟨k,n,s,ks⟩ := t
 simp at hn hks
 unfold nodeE
 simp only [mk_kind,mk_sort,mk_name,mk_kids]
 by_cases k1 : k = 1
 ·subst k1
  simp [F.f56B,F.f56C,F.f56R,F.f56K,encT,hn,hks]
  rcases Bool.eq_false_or_eq_true (isNameB n) with c4 | c4 <;> by_cases c1 : s < 0 <;> by_cases c2 : 5 < s <;> by_cases c3 : 0 < ks.length <;> simp [c1,c2,c3,c4] <;> omega
 by_cases k2 : k = 2
 ·subst k2
  simp [F.f56B,F.f56C,F.f56R,F.f56K,encT,hn,hks]
  rcases Bool.eq_false_or_eq_true (isNameB n) with c4 | c4 <;> by_cases c1 : s < 0 <;> by_cases c2 : 5 < s <;> by_cases c3 : 0 < ks.length <;> simp [c1,c2,c3,c4] <;> omega
 by_cases k3 : k = 3
 ·subst k3
  simp [F.f56B,F.f56C,F.f56R,F.f56K,encT,hn,hks]
  rcases Bool.eq_false_or_eq_true (isNameB n) with c4 | c4 <;> by_cases c1 : s < 0 <;> by_cases c2 : 5 < s <;> by_cases c3 : s = 0 <;> simp [c1,c2,c3,c4] <;> omega
 ·simp [F.f56B,F.f56C,F.f56R,F.f56K,encT,hn,hks,k1,k2,k3]
theorem Rnodes_loop (t : Tm) (bs : List (List AV)) (hm : t.mass < big) (ih : ∀ x ∈ t.kids,∀ bs,call F.tb 55 [.agg (encT x)] bs = some (.int .i64 (errT x),bs)) :
  ∀ (post pre : List Tm) (ρ : Nat → AV),t.kids = pre ++ post → ρ 1 = .bx (encT t) → ρ 4 = .int .i64 pre.length →
  R F.tb (.loop F.f55l0) ρ bs (blockK 0 (seqK F.tb F.f55r0 (finK F.f55 bs))) = some (.int .i64 (errL post),bs) := by
 intro post
 induction post with
 | nil =>
  intro pre ρ hk h1 h4
  rw [R_loop' F.f55l0.eq_1]
  simp at hk
  simp [h1,h4,← hk,F.f55r0,F.f55R,F.f55K,errL]
 | cons x post IH =>
  intro pre ρ hk h1 h4
  obtain ⟨hg,hw,hlt,hx⟩ := at_pre hk (mass_kids hm)
  have hh := ih x hx bs
  rw [R_loop' F.f55l0.eq_1]
  by_cases he : errT x = 0
  ·simp [h1,h4,hg,hw,hlt,hh,he,errL]
   rw [IH (pre ++ [x])] <;> simp [h1,hk]
  ·simp [h1,h4,hg,hw,hlt,hh,he,errL,F.f55R,F.f55K]
theorem call_Rnodes : ∀ (t : Tm) (bs : List (List AV)),t.mass < big → call F.tb 55 [.agg (encT t)] bs = some (.int .i64 (errT t),bs) := by
 refine tm_ind ?_
 intro k n s ks ih bs hm
 have hl := Rnodes_loop (.mk k n s ks) bs hm (fun x hx bs => ih x hx bs (mass_kid hm hx)) ks []
 have hn := call_Rnode (.mk k n s ks) bs hm
 rw [call_code F.tb_55 _ _ rfl]
 by_cases he : nodeE (.mk k n s ks) = 0
 ·simp [F.f55B,F.f55C,hn,he,errT]
  rw [hl] <;> simp
 ·simp [F.f55B,F.f55C,F.f55R,F.f55K,hn,he,errT]
theorem call_RValid1 (t : Tm) (bs : List (List AV)) (hm : t.mass < big) : call F.tb 54 [.agg (encT t)] bs = some (.int .i64 (validT t),bs) := by
 have h1 := call_Rnodes t bs hm
 have h2 := call_RSize t bs hm
 have h3 := call_RDepth t bs hm
 rw [call_code F.tb_54 _ _ rfl]
 have e1 : (400 < (t.nodes : Int)) = (400 < t.nodes) := by rw [eq_iff_iff]; omega
 have e2 : (40 < (t.depth : Int)) = (40 < t.depth) := by rw [eq_iff_iff]; omega
 simp [F.f54B,F.f54C,F.f54R,F.f54K,h1,h2,h3,e1,e2,validT]
 by_cases he : errT t = 0 <;> by_cases c1 : 400 < t.nodes <;> by_cases c2 : 40 < t.depth <;> simp [he,c1,c2]
theorem call_RSymbols (bs : List (List AV)) : call F.tb 129 [] bs = some (.sl true 4 (encYs symL),bs) := by
 rw [call_code F.tb_129 _ _ rfl]
 simp [F.f129,F.f129C,symL,encYs,encY]
theorem Kind_loop (n : List UInt8) (bs : List (List AV)) (l : List Sy) (hl : l.length < 1000) : ∀ (post pre : List Sy) (ρ : Nat → AV),l = pre ++ post → ρ 0 = .str n → (∃ o,ρ 3 = .sl o 4 (encYs l)) → ρ 4 = .int .i64 pre.length →
  R F.tb (.loop F.f128l0) ρ bs (blockK 0 (seqK F.tb F.f128r0 (finK F.f128 bs))) = some (.int .i64 (match findSy n post with | some y => y.k | none => 0),bs) := by
 intro post
 induction post with
 | nil =>
  intro pre ρ hk h0 ⟨o,h3⟩ h4
  rw [R_loop' F.f128l0.eq_1]
  simp at hk
  rw [← hk] at h4
  simp [h0,h3,h4,F.f128r0,F.f128R,F.f128K,findSy]
 | cons x post IH =>
  intro pre ρ hk h0 ⟨o,h3⟩ h4
  have hg := encYs_get hk
  obtain ⟨_,hw,hlt,_⟩ := at_pre hk (by omega)
  rw [R_loop' F.f128l0.eq_1]
  by_cases hx : x.n = n
  ·simp [h0,h3,h4,hg,hw,hlt,encY,hx,findSy,F.f128R,F.f128K]
  ·have hxb : (x.n == n) = false := by simp [hx]
   simp [h0,h3,h4,hg,hw,hlt,encY,hx,hxb,findSy]
   rw [IH (pre ++ [x])] <;> simp [h0,h3,hk]
theorem call_Kind (n : List UInt8) (bs : List (List AV)) : call F.tb 128 [.str n] bs = some (.int .i64 (match findSy n symL with | some y => y.k | none => 0),bs) := by
 rw [call_code F.tb_128 _ _ rfl]
 simp [F.f128B,F.f128C,call_RSymbols]
 rw [Kind_loop n bs symL (by decide) symL []] <;> simp
theorem fits_loop (t : Tm) (bs : List (List AV)) (l : List Sy) (hl : l.length < 1000) : ∀ (post pre : List Sy) (ρ : Nat → AV),l = pre ++ post → ρ 1 = .bx (encT t) → (∃ o,ρ 3 = .sl o 4 (encYs l)) → ρ 4 = .int .i64 pre.length →
  R F.tb (.loop F.f130l0) ρ bs (blockK 0 (seqK F.tb F.f130r0 (finK F.f130 bs))) =
   some (.bool (match findSy t.name post with | some y => decide (y.l ≤ t.kids.length) && decide (t.kids.length ≤ y.m) | none => false),bs) := by
 intro post
 induction post with
 | nil =>
  intro pre ρ hk h1 ⟨o,h3⟩ h4
  rw [R_loop' F.f130l0.eq_1]
  simp at hk
  rw [← hk] at h4
  simp [h1,h3,h4,F.f130r0,F.f130R,F.f130K,findSy]
 | cons x post IH =>
  intro pre ρ hk h1 ⟨o,h3⟩ h4
  have hg := encYs_get hk
  obtain ⟨_,hw,hlt,_⟩ := at_pre hk (by omega)
  rw [R_loop' F.f130l0.eq_1]
  by_cases hx : x.n = t.name
  ·by_cases c1 : x.l ≤ t.kids.length <;>
   simp [h1,h3,h4,hg,hw,hlt,encY,hx,findSy,c1,F.f130R,F.f130K]
  ·have hxb : (x.n == t.name) = false := by simp [hx]
   simp [h1,h3,h4,hg,hw,hlt,encY,hx,hxb,findSy]
   rw [IH (pre ++ [x])] <;> simp [h1,h3,hk]
theorem call_fits (t : Tm) (bs : List (List AV)) : call F.tb 130 [.agg (encT t)] bs =
  some (.bool (match findSy t.name symL with | some y => decide (y.l ≤ t.kids.length) && decide (t.kids.length ≤ y.m) | none => false),bs) := by
 rw [call_code F.tb_130 _ _ rfl]
 simp [F.f130B,F.f130C,call_RSymbols]
 rw [fits_loop t bs symL (by decide) symL []] <;> simp
theorem agents_loop (t : Tm) (bs : List (List AV)) (hm : t.mass < big) : ∀ (post pre : List Tm) (ρ : Nat → AV),t.kids = pre ++ post → ρ 1 = .bx (encT t) → ρ 3 = .int .i64 pre.length →
  R F.tb (.loop F.f131l0) ρ bs (blockK 0 (seqK F.tb F.f131r0 (finK F.f131 bs))) = some (.bool (!(post.any notAg)),bs) := by
 intro post
 induction post with
 | nil =>
  intro pre ρ hk h1 h3
  rw [R_loop' F.f131l0.eq_1]
  simp at hk
  simp [h1,h3,← hk,F.f131r0,F.f131R,F.f131K]
 | cons x post IH =>
  intro pre ρ hk h1 h3
  obtain ⟨hg,hw,hlt,hx⟩ := at_pre hk (mass_kids hm)
  rw [R_loop' F.f131l0.eq_1]
  by_cases c1 : x.kind = 3 <;> by_cases c2 : x.sort = 1 <;>
   simp [h1,h3,hg,hw,hlt,c1,c2,notAg,F.f131R,F.f131K]
  rw [IH (pre ++ [x])] <;> simp [h1,hk,notAg]
theorem call_agents (t : Tm) (bs : List (List AV)) (hm : t.mass < big) (hk : t.name = [110,101,119] → t.kids ≠ []) : call F.tb 131 [.agg (encT t)] bs =
  some (.bool (if t.name = [110,101,119] then decide (t.kids.head?.map Tm.kind = some 2) else !(t.kids.any notAg)),bs) := by
 rw [call_code F.tb_131 _ _ rfl]
 by_cases hn : t.name = [110,101,119]
 ·cases hkk : t.kids with
  | nil => exact absurd hkk (hk hn)
  | cons x xs => simp [F.f131B,F.f131C,F.f131R,F.f131K,hn,hkk,encT_eq t,encTs]
 ·have hnb : (t.name == [110,101,119]) = false := by simp [hn]
  simp [F.f131B,F.f131C,hn,hnb]
  rw [agents_loop t bs hm t.kids []] <;> simp
theorem Rthnodes_loop (t : Tm) (bs : List (List AV)) (hm : t.mass < big) (ih : ∀ x ∈ t.kids,∀ bs,call F.tb 127 [.agg (encT x)] bs = some (.int .i64 (chkT x),bs)) :
  ∀ (post pre : List Tm) (ρ : Nat → AV),t.kids = pre ++ post → ρ 1 = .bx (encT t) → ρ 4 = .int .i64 pre.length →
  R F.tb (.loop F.f127l0) ρ bs (blockK 0 (seqK F.tb F.f127r0 (finK F.f127 bs))) = some (.int .i64 (chkL post),bs) := by
 intro post
 induction post with
 | nil =>
  intro pre ρ hk h1 h4
  rw [R_loop' F.f127l0.eq_1]
  simp at hk
  simp [h1,h4,← hk,F.f127r0,F.f127R,F.f127K,chkL]
 | cons x post IH =>
  intro pre ρ hk h1 h4
  obtain ⟨hg,hw,hlt,hx⟩ := at_pre hk (mass_kids hm)
  have hh := ih x hx bs
  rw [R_loop' F.f127l0.eq_1]
  by_cases he : chkT x = 0
  ·simp [h1,h4,hg,hw,hlt,hh,he,chkL]
   rw [IH (pre ++ [x])] <;> simp [h1,hk]
  ·simp [h1,h4,hg,hw,hlt,hh,he,chkL,F.f127R,F.f127K]
theorem symL_priv {y : Sy} (h : y ∈ symL) : (y.k = 2) = (y.n = [115,107] ∨ y.n = [115,104,107] ∨ y.n = [110,101,119]) := by
 have : symL.all (fun y => decide ((y.k = 2) = (y.n = [115,107] ∨ y.n = [115,104,107] ∨ y.n = [110,101,119]))) = true := by
  simp only [eq_iff_iff]; decide
 have := List.all_eq_true.1 this y h
 exact of_decide_eq_true this
theorem call_Rthnodes : ∀ (t : Tm) (bs : List (List AV)),t.mass < big → call F.tb 127 [.agg (encT t)] bs = some (.int .i64 (chkT t),bs) := by
 refine tm_ind ?_
 intro k n s ks ih bs hm
 have hl := Rthnodes_loop (.mk k n s ks) bs hm (fun x hx bs => ih x hx bs (mass_kid hm hx)) ks []
 have hf := call_fits (.mk k n s ks) bs
 have ha := call_agents (.mk k n s ks) bs hm
 have hkd := call_Kind n bs
 simp only [mk_name,mk_kids] at hf ha
 rw [call_code F.tb_127 _ _ rfl]
 by_cases hk : k = 3
 ·subst hk
  simp only [encT] at hf ha hl
  cases hy : findSy n symL with
  | none =>
   rw [hy] at hkd
   simp [F.f127B,F.f127C,F.f127R,F.f127K,encT,hkd,hy,chkT]
  | some y =>
   obtain ⟨hy1,hy2⟩ := findSy_mem hy
   obtain ⟨hy3,hy4⟩ := symL_k hy1
   have hp := symL_priv hy1
   rw [hy] at hkd hf
   simp only at hkd hf
   by_cases c : y.l ≤ ks.length ∧ (ks.length : Int) ≤ y.m
   ·have c1 := c.1
    have c2 := c.2
    have d1 : ¬ (ks.length : Int) < y.l := by omega
    have d2 : ¬ y.m < (ks.length : Int) := by omega
    have ha' := ha (fun e => by
     have := hy4 (by rw [hy2]; exact e)
     intro e2; subst e2; simp at c1; omega)
    rw [hy2] at hp
    have hl' := fun ρ => hl ρ rfl
    by_cases h1 : n = [115,107]
    ·subst h1
     have hk2 : y.k = 2 := by rw [hp]; simp
     simp at ha'
     rcases Bool.eq_false_or_eq_true (ks.any notAg) with c4 | c4 <;>
      simp [F.f127B,F.f127C,F.f127R,F.f127K,encT,hkd,hk2,hf,c1,c2,d1,d2,ha',chkT,hy,c4]
     rw [hl'] <;> simp
    by_cases h2 : n = [115,104,107]
    ·subst h2
     have hk2 : y.k = 2 := by rw [hp]; simp
     simp at ha'
     rcases Bool.eq_false_or_eq_true (ks.any notAg) with c4 | c4 <;>
      simp [F.f127B,F.f127C,F.f127R,F.f127K,encT,hkd,hk2,hf,c1,c2,d1,d2,ha',chkT,hy,c4]
     rw [hl'] <;> simp
    by_cases h3 : n = [110,101,119]
    ·subst h3
     have hk2 : y.k = 2 := by rw [hp]; simp
     simp at ha'
     by_cases c4 : ∃ a,ks.head? = some a ∧ a.kind = 2 <;>
      simp [F.f127B,F.f127C,F.f127R,F.f127K,encT,hkd,hk2,hf,c1,c2,d1,d2,ha',chkT,hy,c4]
     rw [hl'] <;> simp
    ·have hk2 : ¬ y.k = 2 := by rw [hp]; simp [h1,h2,h3]
     have hk2b : (y.k == 2) = false := by simp [hk2]
     simp [F.f127B,F.f127C,F.f127R,F.f127K,encT,hkd,hk2,hy3,hf,c1,c2,d1,d2,chkT,hy,h1,h2,h3]
     rw [hl'] <;> simp
   ·have d : (ks.length : Int) < y.l ∨ y.m < ks.length := by omega
    have e : (decide (y.l ≤ ks.length) && decide ((ks.length : Int) ≤ y.m)) = false := by
     rw [Bool.and_eq_false_iff]; simp; omega
    have hf2 : call F.tb 130 [.agg [.int .i64 3,.str n,.int .i64 s,.sl false 4 (encTs ks)]] bs = some (.bool (decide (y.l ≤ (ks.length : Int)) && decide ((ks.length : Int) ≤ y.m)),bs) := hf
    rw [e] at hf2
    simp [F.f127B,F.f127C,F.f127R,F.f127K,encT,hkd,hy,hy3,hf2,d,chkT]
 ·simp [F.f127B,F.f127C,F.f127R,F.f127K,encT,hk,chkT]
theorem call_R9Valid (t : Tm) (bs : List (List AV)) (hm : t.mass < big) : call F.tb 126 [.agg (encT t)] bs = some (.int .i64 (thV t),bs) := by
 have h1 := call_RValid1 t bs hm
 have h2 := call_Rthnodes t bs hm
 rw [call_code F.tb_126 _ _ rfl]
 rw [encT_eq] at *
 by_cases h : validT t = 0
 ·simp [F.f126B,F.f126C,h1,h2,h,thV,F.f126R,F.f126K]
 ·simp [F.f126B,F.f126C,h1,h,thV,F.f126R,F.f126K]
end Go.Am
namespace Go.Am
set_option maxRecDepth 8000
theorem bytesLess_eq : ∀ {a b : List UInt8},cmpS a b = 0 → a = b := by
 intro a b h
 unfold cmpS at h
 split at h
 ·simp at h
 ·split at h
  ·rename_i h2; exact beq_iff_eq.1 h2
  ·simp at h
mutual
theorem cmpT_eq0 : ∀ (t u : Tm),cmpT t u = 0 → t = u
 | .mk k n s ks,.mk k' n' s' ks',h => by
  rw [cmpT_eq,or0_eq0] at h
  obtain ⟨h1,h2⟩ := h
  unfold hdT at h1
  simp only [or0_eq0,sgn0,mk_kind,mk_name,mk_sort,mk_kids] at h1 h2
  obtain ⟨_,h3,h4,h5,h6⟩ := h1
  have e1 := bytesLess_eq h4
  have e2 := cmpL_eq0 ks ks' (by omega) h2
  rw [h3,e1,h5,e2]
theorem cmpL_eq0 : ∀ (ts us : List Tm),ts.length = us.length → cmpL ts us = 0 → ts = us
 | [],[],_,_ => rfl
 | [],_ :: _,h,_ => by simp at h
 | _ :: _,[],h,_ => by simp at h
 | t :: ts,u :: us,h,h2 => by
  rw [cmpL,or0_eq0] at h2
  rw [cmpT_eq0 t u h2.1,cmpL_eq0 ts us (by simpa using h) h2.2]
end
theorem cmpT_iff {t u : Tm} : cmpT t u = 0 ↔ t = u := ⟨cmpT_eq0 t u,fun h => h ▸ cmpT_refl t⟩
end Go.Am
namespace Go.Am
set_option maxRecDepth 8000
def isB (t : Tm) (n : List UInt8) : Bool := decide (t.kind = 3) && (t.name == n)
theorem isB_iff {t : Tm} {n : List UInt8} : isB t n = true ↔ t.kind = 3 ∧ t.name = n := by simp [isB]
theorem call_this (t : Tm) (n : List UInt8) (bs : List (List AV)) : call F.tb 71 [.agg (encT t),.str n] bs = some (.bool (isB t n),bs) := by
 rw [call_code F.tb_71 _ _ rfl]
 by_cases h : t.kind = 3 <;> simp [F.f71,F.f71C,isB,h]
theorem call_RIs (t : Tm) (n : List UInt8) (bs : List (List AV)) : call F.tb 132 [.agg (encT t),.str n] bs = some (.bool (isB t n),bs) := by
 rw [call_code F.tb_132 _ _ rfl]
 by_cases h : t.kind = 3 <;> simp [F.f132,F.f132C,isB,h]
end Go.Am
namespace Go.Am
set_option maxRecDepth 8000
theorem decN_len10 : ∀ (k n : Nat),n < 10 ^ (k + 1) → (decN n).length ≤ k + 1
 | 0,n,h => by rw [decN_small (by simpa using h)]; simp
 | k + 1,n,h => by
  by_cases h0 : n < 10
  ·rw [decN_small h0]; simp
  ·rw [decN_large h0,List.length_append]
   have := decN_len10 k (n / 10) (by rw [Nat.pow_succ] at h; omega)
   simp; omega
theorem call_RApp (n : List UInt8) (ks : List Tm) (o : Bool) (bs : List (List AV)) (hl : ks.length ≤ 1000) : call F.tb 120 [.str n,.sl o 4 (encTs ks)] bs = some (.agg (encT (.mk 3 n 0 ks)),bs) := by
 rw [call_code F.tb_120 _ _ rfl]
 have ha : ks.length * 56 ≤ 140737488355328 := by omega
 simp [F.f120,F.f120C,encT_fold,encTs_length,ha,encTs_gp]
end Go.Am
namespace Go.Am
theorem sgn_anti (a b : Int) : sgn b a = - sgn a b := by unfold sgn; split <;> (try split) <;> (try split) <;> omega
theorem sgn_le {a b : Int} : sgn a b ≤ 0 ↔ a ≤ b := by unfold sgn; split <;> (try split) <;> omega
theorem less_tri : ∀ a b : List UInt8,Op.bytesLess a b = true ∨ a = b ∨ Op.bytesLess b a = true
 | [],[] => .inr (.inl rfl)
 | [],_ :: _ => .inl rfl
 | _ :: _,[] => .inr (.inr rfl)
 | x :: xs,y :: ys => by
  simp only [Op.bytesLess,Bool.or_eq_true,decide_eq_true_eq,Bool.and_eq_true,beq_iff_eq,List.cons.injEq]
  rcases Nat.lt_trichotomy x.toNat y.toNat with h | h | h
  ·have : x < y := by rw [UInt8.lt_iff_toNat_lt]; exact h
   simp [this]
  ·have e : x = y := UInt8.toNat_inj.1 h
   subst e
   have hi : ¬ x < x := by rw [UInt8.lt_iff_toNat_lt]; omega
   rcases less_tri xs ys with h | h | h
   ·simp [hi,h]
   ·simp [hi,h]
   ·simp [hi,h]
  ·have : y < x := by rw [UInt8.lt_iff_toNat_lt]; exact h
   have h2 : ¬ x < y := by rw [UInt8.lt_iff_toNat_lt]; omega
   simp [this,h2]
theorem less_trans : ∀ a b c : List UInt8,Op.bytesLess a b = true → Op.bytesLess b c = true → Op.bytesLess a c = true
 | [],_,[],_,h => by cases ‹List UInt8› <;> simp [Op.bytesLess] at h
 | [],_,_ :: _,_,_ => rfl
 | _ :: _,[],_,h,_ => by simp [Op.bytesLess] at h
 | _ :: _,_ :: _,[],_,h => by simp [Op.bytesLess] at h
 | x :: xs,y :: ys,z :: zs,h1,h2 => by
  have ih := less_trans xs ys zs
  simp only [Op.bytesLess,Bool.or_eq_true,decide_eq_true_eq,Bool.and_eq_true,beq_iff_eq] at h1 h2 ⊢
  rcases h1 with h1 | ⟨rfl,h1⟩
  ·rcases h2 with h2 | ⟨rfl,h2⟩
   ·left; rw [UInt8.lt_iff_toNat_lt] at *; omega
   ·exact .inl h1
  ·rcases h2 with h2 | ⟨rfl,h2⟩
   ·exact .inl h2
   ·exact .inr ⟨rfl,ih h1 h2⟩
theorem less_asymm (a b : List UInt8) (h : Op.bytesLess a b = true) : Op.bytesLess b a = false := by
 cases hb : Op.bytesLess b a
 ·rfl
 ·have := less_trans a b a h hb; rw [bytesLess_irrefl] at this; cases this
theorem cmpS_anti (a b : List UInt8) : cmpS b a = - cmpS a b := by
 unfold cmpS
 rcases less_tri a b with h | h | h
 ·have h2 := less_asymm a b h
  have hne : (b == a) = false := by
   rw [beq_eq_false_iff_ne]; intro e; subst e; rw [bytesLess_irrefl] at h; cases h
  simp [h,h2,hne]
 ·subst h; simp [bytesLess_irrefl]
 ·have h2 := less_asymm b a h
  have hne : (a == b) = false := by
   rw [beq_eq_false_iff_ne]; intro e; subst e; rw [bytesLess_irrefl] at h; cases h
  simp [h,h2,hne]
theorem cmpS_le {a b : List UInt8} : cmpS a b ≤ 0 ↔ Op.bytesLess a b = true ∨ a = b := by
 unfold cmpS
 split
 ·rename_i h; simp [h]
 ·rename_i h
  split
  ·rename_i h2; simp at h2; simp [h2]
  ·rename_i h2; simp at h2; simp [h,h2]
theorem cmpS_trans {a b c : List UInt8} (h1 : cmpS a b ≤ 0) (h2 : cmpS b c ≤ 0) : cmpS a c ≤ 0 := by
 rw [cmpS_le] at *
 rcases h1 with h1 | rfl
 ·rcases h2 with h2 | rfl
  ·exact .inl (less_trans _ _ _ h1 h2)
  ·exact .inl h1
 ·exact h2
theorem cmpS_eq0 {a b : List UInt8} (h : cmpS a b = 0) : a = b := by
 rcases less_tri a b with h2 | h2 | h2
 ·simp [cmpS,h2] at h
 ·exact h2
 ·have := cmpS_anti a b
  rw [h] at this
  simp [cmpS,h2] at this
theorem or0_anti {a b a' b' : Int} (h1 : a' = -a) (h2 : b' = -b) : or0 a' b' = - or0 a b := by
 subst h1 h2
 unfold or0
 split <;> split <;> omega
theorem or0_trans {a1 a2 a3 b1 b2 b3 : Int} (ha : a1 ≤ 0 → a2 ≤ 0 → a3 ≤ 0) (hz : a3 = 0 → a1 ≤ 0 → a2 ≤ 0 → a1 = 0 ∧ a2 = 0) (hb : a1 = 0 → a2 = 0 → b1 ≤ 0 → b2 ≤ 0 → b3 ≤ 0)
  (h1 : or0 a1 b1 ≤ 0) (h2 : or0 a2 b2 ≤ 0) : or0 a3 b3 ≤ 0 := by
 have g1 : a1 ≤ 0 := by unfold or0 at h1; split at h1 <;> omega
 have g2 : a2 ≤ 0 := by unfold or0 at h2; split at h2 <;> omega
 have g3 := ha g1 g2
 by_cases hc : a3 = 0
 ·obtain ⟨z1,z2⟩ := hz hc g1 g2
  rw [z1,or0_0] at h1
  rw [z2,or0_0] at h2
  rw [hc,or0_0]
  exact hb z1 z2 h1 h2
 ·rw [or0_ne hc]; exact g3
theorem sgn_trans {a b c : Int} (h1 : sgn a b ≤ 0) (h2 : sgn b c ≤ 0) : sgn a c ≤ 0 := by rw [sgn_le] at *; omega
theorem sgn_zero {a b c : Int} (h : sgn a c = 0) (h1 : sgn a b ≤ 0) (h2 : sgn b c ≤ 0) : sgn a b = 0 ∧ sgn b c = 0 := by
 rw [sgn0] at *; rw [sgn_le] at h1 h2; rw [sgn0]; omega
theorem cmpS_zero {a b c : List UInt8} (h : cmpS a c = 0) (h1 : cmpS a b ≤ 0) (h2 : cmpS b c ≤ 0) : cmpS a b = 0 ∧ cmpS b c = 0 := by
 have e := cmpS_eq0 h
 subst e
 have := cmpS_anti a b
 constructor <;> omega
theorem hdT_anti (t u : Tm) : hdT u t = - hdT t u := by
 unfold hdT
 exact or0_anti (sgn_anti _ _) (or0_anti (sgn_anti _ _) (or0_anti (cmpS_anti _ _) (or0_anti (sgn_anti _ _) (sgn_anti _ _))))
theorem hdT_zero {t u : Tm} : hdT t u = 0 ↔ t.nodes = u.nodes ∧ t.kind = u.kind ∧ t.name = u.name ∧ t.sort = u.sort ∧ t.kids.length = u.kids.length := by
 unfold hdT
 rw [or0_eq0,or0_eq0,or0_eq0,or0_eq0,sgn0,sgn0,sgn0,sgn0]
 constructor
 ·rintro ⟨h1,h2,h3,h4,h5⟩
  exact ⟨by omega,h2,cmpS_eq0 h3,h4,by omega⟩
 ·rintro ⟨h1,h2,h3,h4,h5⟩
  exact ⟨by omega,h2,by rw [h3]; exact cmpS_refl _,h4,by omega⟩
theorem hdT_trans {t u v : Tm} (h1 : hdT t u ≤ 0) (h2 : hdT u v ≤ 0) : hdT t v ≤ 0 := by
 unfold hdT at *
 refine or0_trans sgn_trans (fun h a b => sgn_zero h a b) (fun _ _ => ?_) h1 h2
 refine or0_trans sgn_trans (fun h a b => sgn_zero h a b) (fun _ _ => ?_)
 refine or0_trans cmpS_trans (fun h a b => cmpS_zero h a b) (fun _ _ => ?_)
 exact or0_trans sgn_trans (fun h a b => sgn_zero h a b) (fun _ _ => sgn_trans)
theorem cmpL_anti_of : ∀ (ts us : List Tm),(∀ x ∈ ts,∀ y,cmpT y x = - cmpT x y) → cmpL us ts = - cmpL ts us
 | [],[],_ => by simp [cmpL]
 | [],_ :: _,_ => by simp [cmpL]
 | _ :: _,[],_ => by simp [cmpL]
 | t :: ts,u :: us,h => by
  simp only [cmpL]
  exact or0_anti (h t (by simp) u) (cmpL_anti_of ts us fun x hx => h x (by simp [hx]))
theorem cmpT_anti : ∀ (t u : Tm),cmpT u t = - cmpT t u := by
 refine tm_ind ?_
 intro k n s ks ih u
 rw [cmpT_eq,cmpT_eq]
 exact or0_anti (hdT_anti _ _) (cmpL_anti_of _ _ fun x hx y => ih x hx y)
theorem cmpL_trans_of : ∀ (ts us vs : List Tm),ts.length = us.length → us.length = vs.length → (∀ x ∈ ts,∀ y z,cmpT x y ≤ 0 → cmpT y z ≤ 0 → cmpT x z ≤ 0) → cmpL ts us ≤ 0 → cmpL us vs ≤ 0 → cmpL ts vs ≤ 0
 | [],[],[],_,_,_,_,_ => by simp [cmpL]
 | t :: ts,u :: us,v :: vs,h1,h2,h,g1,g2 => by
  simp only [cmpL] at g1 g2 ⊢
  refine or0_trans (h t (by simp) u v) (fun h0 a b => ?_) (fun _ _ => cmpL_trans_of ts us vs (by simpa using h1) (by simpa using h2) fun x hx => h x (by simp [hx])) g1 g2
  have e := cmpT_eq0 _ _ h0
  subst e
  have := cmpT_anti t u
  constructor <;> omega
 | [],_ :: _,_,h1,_,_,_,_ => by simp at h1
 | _ :: _,[],_,h1,_,_,_,_ => by simp at h1
 | [],[],_ :: _,_,h2,_,_,_ => by simp at h2
 | _ :: _,_ :: _,[],_,h2,_,_,_ => by simp at h2
theorem cmpT_trans : ∀ (t u v : Tm),cmpT t u ≤ 0 → cmpT u v ≤ 0 → cmpT t v ≤ 0 := by
 refine tm_ind ?_
 intro k n s ks ih u v h1 h2
 rw [cmpT_eq] at *
 refine or0_trans hdT_trans (fun h0 a b => ?_) (fun e1 e2 => ?_) h1 h2
 ·rw [hdT_zero] at h0
  have z1 := hdT_zero (t := .mk k n s ks) (u := u)
  have e2 : hdT u v = hdT u (.mk k n s ks) := by unfold hdT; rw [h0.1,h0.2.1,h0.2.2.1,h0.2.2.2.1,h0.2.2.2.2]
  rw [e2] at b ⊢
  have := hdT_anti (.mk k n s ks) u
  constructor <;> omega
 ·rw [hdT_zero] at e1 e2
  exact cmpL_trans_of _ _ _ e1.2.2.2.2 e2.2.2.2.2 fun x hx => ih x hx
theorem lt_trans' {a b c : Tm} (h1 : cmpT a b < 0) (h2 : cmpT b c < 0) : cmpT a c < 0 := by
 have h := cmpT_trans a b c (by omega) (by omega)
 rcases Int.lt_or_eq_of_le h with h | h
 ·exact h
 ·have e := cmpT_eq0 _ _ h
  subst e
  have := cmpT_anti a b
  omega
theorem lt_irr (a : Tm) : ¬ cmpT a a < 0 := by rw [cmpT_refl]; omega
theorem gt_iff {a b : Tm} : 0 < cmpT a b ↔ cmpT b a < 0 := by have := cmpT_anti a b; omega
theorem cmpT_tri (a b : Tm) : cmpT a b < 0 ∨ a = b ∨ cmpT b a < 0 := by
 rcases Int.lt_trichotomy (cmpT a b) 0 with h | h | h
 ·exact .inl h
 ·exact .inr (.inl (cmpT_eq0 _ _ h))
 ·exact .inr (.inr (gt_iff.1 h))
def Asc (l : List Tm) : Prop := l.Pairwise fun a b => cmpT a b < 0
theorem Asc.nil : Asc [] := List.Pairwise.nil
theorem asc_one (t : Tm) : Asc [t] := by simp [Asc]
theorem asc_cons {x : Tm} {l : List Tm} : Asc (x :: l) ↔ (∀ y ∈ l,cmpT x y < 0) ∧ Asc l := List.pairwise_cons
theorem asc_ext : ∀ {a b : List Tm},Asc a → Asc b → (∀ x,x ∈ a ↔ x ∈ b) → a = b
 | [],[],_,_,_ => rfl
 | [],y :: ys,_,_,h => by have := (h y).2 (by simp); simp at this
 | x :: xs,[],_,_,h => by have := (h x).1 (by simp); simp at this
 | x :: xs,y :: ys,ha,hb,h => by
  rw [asc_cons] at ha hb
  have hxy : x = y := by
   rcases cmpT_tri x y with h1 | h1 | h1
   ·have := (h x).1 (by simp)
    rcases List.mem_cons.1 this with e | e
    ·exact e
    ·have := lt_trans' h1 (hb.1 x e); exact absurd this (lt_irr x)
   ·exact h1
   ·have := (h y).2 (by simp)
    rcases List.mem_cons.1 this with e | e
    ·exact e.symm
    ·have := lt_trans' h1 (ha.1 y e); exact absurd this (lt_irr y)
  subst hxy
  congr 1
  refine asc_ext ha.2 hb.2 fun z => ?_
  have hz := h z
  simp only [List.mem_cons] at hz
  constructor
  ·intro hm
   rcases hz.1 (.inr hm) with e | e
   ·subst e; exact absurd (ha.1 z hm) (lt_irr z)
   ·exact e
  ·intro hm
   rcases hz.2 (.inr hm) with e | e
   ·subst e; exact absurd (hb.1 z hm) (lt_irr z)
   ·exact e
def addS (t : Tm) : List Tm → List Tm
 | [] => [t]
 | x :: xs => if cmpT t x < 0 then t :: x :: xs else if cmpT t x = 0 then x :: xs else x :: addS t xs
theorem mem_addS {t y : Tm} : ∀ {l : List Tm},y ∈ addS t l ↔ y = t ∨ y ∈ l
 | [] => by simp [addS]
 | x :: xs => by
  simp only [addS]
  split
  ·simp
  ·split
   ·rename_i h; have := cmpT_eq0 _ _ h; subst this; simp
   ·simp only [List.mem_cons,mem_addS (l := xs)]
    constructor
    ·rintro (h | h | h) <;> simp [h]
    ·rintro (h | h | h) <;> simp [h]
theorem asc_addS {t : Tm} : ∀ {l : List Tm},Asc l → Asc (addS t l)
 | [],_ => asc_one t
 | x :: xs,h => by
  have h0 := h
  rw [asc_cons] at h
  simp only [addS]
  split
  ·rename_i h1
   rw [asc_cons]
   refine ⟨fun y hy => ?_,h0⟩
   rcases List.mem_cons.1 hy with rfl | hy
   ·exact h1
   ·exact lt_trans' h1 (h.1 y hy)
  ·split
   ·exact h0
   ·rename_i h1 h2
    rw [asc_cons]
    refine ⟨fun y hy => ?_,asc_addS h.2⟩
    rcases mem_addS.1 hy with rfl | hy
    ·exact gt_iff.1 (by omega)
    ·exact h.1 y hy
theorem addS_len (t : Tm) : ∀ l : List Tm,(addS t l).length ≤ l.length + 1
 | [] => by simp [addS]
 | x :: xs => by
  simp only [addS]
  have := addS_len t xs
  split
  ·simp
  ·split <;> simp <;> omega
def addAll (acc : List Tm) (l : List Tm) : List Tm := l.foldl (fun a x => addS x a) acc
def setT (l : List Tm) : List Tm := addAll [] l
theorem mem_addAll {y : Tm} : ∀ {l acc : List Tm},y ∈ addAll acc l ↔ y ∈ acc ∨ y ∈ l
 | [],acc => by simp [addAll]
 | x :: xs,acc => by
  have := mem_addAll (y := y) (l := xs) (acc := addS x acc)
  simp only [addAll,List.foldl_cons] at this ⊢
  rw [this,mem_addS]
  simp only [List.mem_cons]
  constructor
  ·rintro ((h | h) | h) <;> simp [h]
  ·rintro (h | h | h) <;> simp [h]
theorem asc_addAll : ∀ {l acc : List Tm},Asc acc → Asc (addAll acc l)
 | [],_,h => h
 | x :: xs,acc,h => asc_addAll (l := xs) (asc_addS h)
theorem mem_setT {y : Tm} {l : List Tm} : y ∈ setT l ↔ y ∈ l := by unfold setT; rw [mem_addAll]; simp
theorem asc_setT (l : List Tm) : Asc (setT l) := asc_addAll Asc.nil
theorem addAll_len : ∀ (l acc : List Tm),(addAll acc l).length ≤ acc.length + l.length
 | [],acc => by simp [addAll]
 | x :: xs,acc => by
  have h1 := addAll_len xs (addS x acc)
  have h2 := addS_len x acc
  simp only [addAll,List.foldl_cons,List.length_cons] at *
  omega
theorem setT_len (l : List Tm) : (setT l).length ≤ l.length := by have := addAll_len l []; simpa [setT] using this
theorem mem_insT {t y : Tm} : ∀ {l : List Tm},y ∈ insT t l ↔ y = t ∨ y ∈ l
 | [] => by simp [insT]
 | x :: xs => by
  simp only [insT]
  split
  ·simp only [List.mem_cons,mem_insT (l := xs)]
   constructor
   ·rintro (h | h | h) <;> simp [h]
   ·rintro (h | h | h) <;> simp [h]
  ·simp
theorem mem_sortT {y : Tm} : ∀ {l : List Tm},y ∈ sortT l ↔ y ∈ l
 | [] => by simp [sortT]
 | x :: xs => by simp only [sortT,mem_insT,mem_sortT (l := xs),List.mem_cons]
theorem insT_len (t : Tm) : ∀ l : List Tm,(insT t l).length = l.length + 1
 | [] => rfl
 | x :: xs => by simp only [insT]; split <;> simp [insT_len t xs]
theorem sortT_len : ∀ l : List Tm,(sortT l).length = l.length
 | [] => rfl
 | x :: xs => by simp [sortT,insT_len,sortT_len xs]
def Srt (l : List Tm) : Prop := l.Pairwise fun a b => cmpT a b ≤ 0
theorem srt_insT {t : Tm} : ∀ {l : List Tm},Srt l → Srt (insT t l)
 | [],_ => by simp [insT,Srt]
 | x :: xs,h => by
  have h0 := h
  unfold Srt at h
  rw [List.pairwise_cons] at h
  simp only [insT]
  split
  ·rename_i h1
   unfold Srt
   rw [List.pairwise_cons]
   refine ⟨fun y hy => ?_,srt_insT h.2⟩
   rcases mem_insT.1 hy with rfl | hy
   ·omega
   ·exact h.1 y hy
  ·rename_i h1
   unfold Srt
   rw [List.pairwise_cons]
   refine ⟨fun y hy => ?_,h0⟩
   have htx : cmpT t x ≤ 0 := by have := cmpT_anti x t; omega
   rcases List.mem_cons.1 hy with rfl | hy
   ·exact htx
   ·exact cmpT_trans _ _ _ htx (h.1 y hy)
theorem srt_sortT : ∀ l : List Tm,Srt (sortT l)
 | [] => List.Pairwise.nil
 | x :: xs => srt_insT (srt_sortT xs)
def compT : List Tm → List Tm
 | [] => []
 | [x] => [x]
 | x :: y :: r => if cmpT y x = 0 then compT (x :: r) else x :: compT (y :: r)
termination_by l => l.length
theorem mem_compT : ∀ (n : Nat) (l : List Tm) (y : Tm),l.length ≤ n → (y ∈ compT l ↔ y ∈ l)
 | _,[],y,_ => by simp [compT]
 | _,[x],y,_ => by simp [compT]
 | n + 1,x :: z :: r,y,h => by
  rw [compT]
  split
  ·rename_i e
   have e := cmpT_eq0 _ _ e
   subst e
   rw [mem_compT n (z :: r) y (by simp at h ⊢; omega)]
   simp
  ·rw [List.mem_cons,mem_compT n (z :: r) y (by simp at h ⊢; omega)]
   simp only [List.mem_cons]
 | 0,_ :: _ :: _,_,h => by simp at h
theorem asc_compT : ∀ (n : Nat) (l : List Tm),l.length ≤ n → Srt l → Asc (compT l)
 | _,[],_,_ => by simp [compT,Asc.nil]
 | _,[x],_,_ => by simp [compT,asc_one]
 | n + 1,x :: z :: r,h,hs => by
  have hs0 := hs
  unfold Srt at hs
  rw [List.pairwise_cons] at hs
  rw [compT]
  split
  ·rename_i e
   have e := cmpT_eq0 _ _ e
   subst e
   exact asc_compT n _ (by simp at h ⊢; omega) hs.2
  ·rename_i e
   rw [asc_cons]
   refine ⟨fun y hy => ?_,asc_compT n _ (by simp at h ⊢; omega) hs.2⟩
   rw [mem_compT n _ y (by simp at h ⊢; omega)] at hy
   have hxz : cmpT x z < 0 := by
    have h1 := hs.1 z (by simp)
    have h2 := cmpT_anti x z
    omega
   rcases List.mem_cons.1 hy with rfl | hy
   ·exact hxz
   ·have h2 : cmpT z y ≤ 0 := by
     have := hs.2
     rw [List.pairwise_cons] at this
     exact this.1 y hy
    rcases Int.lt_or_eq_of_le (cmpT_trans x z y (by omega) h2) with h3 | h3
    ·exact h3
    ·have e3 := cmpT_eq0 _ _ h3
     subst e3
     have := cmpT_anti x z
     omega
 | 0,_ :: _ :: _,h,_ => by simp at h
theorem compT_sortT (l : List Tm) : compT (sortT l) = setT l :=
 asc_ext (asc_compT _ _ (Nat.le_refl _) (srt_sortT l)) (asc_setT l) fun x => by rw [mem_compT _ _ x (Nat.le_refl _),mem_sortT,mem_setT]
end Go.Am
