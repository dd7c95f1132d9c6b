/-
  Rc34, Rc35, Rc36, Rc37, Rc38, Rc39, Rc40.
-/
import Derived.Test.YteahheknpdcoeaaGreatDoorG22
set_option linter.unusedVariables false
set_option linter.unusedSimpArgs false
namespace Go.Am
set_option maxRecDepth 8000
def newB (sec acc : List Tm) (x : Tm) : Bool := !pubT x && !sec.any (eqB x) && !acc.any (eqB x)
def foldF (sec : List Tm) : List Tm → List Tm → List Tm
 | acc,[] => acc
 | acc,x :: r => foldF sec (if newB sec acc x then acc ++ [x] else acc) r
def outsF (sec : List Tm) : List Tm → List Tm → List Tm
 | acc,[] => acc
 | acc,t :: r => outsF sec (foldF sec acc (atomsT t)) r
theorem foldF_len (sec : List Tm) : ∀ (l acc : List Tm),(foldF sec acc l).length ≤ acc.length + l.length
 | [],acc => by simp [foldF]
 | x :: r,acc => by
  have h := foldF_len sec r (if newB sec acc x then acc ++ [x] else acc)
  simp only [foldF,List.length_cons]
  split at h
  ·rename_i c; simp only [c,if_true]; simp only [List.length_append,List.length_singleton] at h; omega
  ·rename_i c; simp only [c]; simp only [Bool.false_eq_true,if_false]; omega
theorem foldF_mem {sec : List Tm} : ∀ {l acc : List Tm} {y : Tm},y ∈ foldF sec acc l → y ∈ acc ∨ y ∈ l
 | [],acc,y,h => .inl h
 | x :: r,acc,y,h => by
  simp only [foldF] at h
  rcases foldF_mem h with h | h
  ·split at h
   ·rcases List.mem_append.1 h with h | h
    ·exact .inl h
    ·simp at h; exact .inr (by simp [h])
   ·exact .inl h
  ·exact .inr (by simp [h])
theorem ts_app {B0 B : List (List AV)} {v : AV} {l : List Tm} (x : Tm) (o : Bool) (h : TS B0 B v l) (hl : l.length < 1000000) : ∃ v' B',appM 56 4 v (.sl o 4 [encT x]) B = some (v',B') ∧ TS B0 B' v' (l ++ [x]) := by
 obtain ⟨M,id,sz,rfl,rfl,hc⟩ := h
 have hb : (l.length + 1) * 56 ≤ 140737488355328 := lim56 (by omega)
 have hs : srcOf 4 (.sl o 4 [encT x]) (B0 ++ M) = some (1,encT x) := by simp [srcOf]
 rcases hc with ⟨rfl,rfl,rfl⟩ | ⟨rfl,hid,hne0,hbx⟩
 ·refine ⟨.gs (B0 ++ M).length 0 4 1,B0 ++ (M ++ [encT x]),?_,M ++ [encT x],(B0 ++ M).length,4,rfl,rfl,.inr ⟨rfl,by simp,by simp,?_⟩⟩
  ·simp [appM,hs]
  ·rw [← List.append_assoc,List.getElem?_concat_length]; simp [rowT,rowOf]
 ·have hr : (rowT l).length = l.length * 4 := row_len encT_len4 l
  have hrow : rowT (l ++ [x]) = rowT l ++ encT x := by simp [rowT,row_app,row_one]
  have hst : (rowT l).map AV.strip = rowT l := row_strip encT_strip l
  have hne : rowT l ≠ [] := by
   intro e; rw [e] at hr; simp at hr
   exact hne0 (List.eq_nil_of_length_eq_zero (by omega))
  have hroom : ¬ (l.length + 1) * 4 ≤ (rowT l).length := by omega
  refine ⟨.gs (B0 ++ M).length 0 4 (l.length + 1),(B0 ++ M).set id [] ++ [rowT l ++ encT x],?_,M.set (id - B0.length) [] ++ [rowT l ++ encT x],(B0 ++ M).length,4,?_,by simp,.inr ⟨rfl,by simp,by simp,?_⟩⟩
  ·simp only [appM,hs,Option.bind_some]
   rw [if_pos ⟨by omega,hb⟩,if_neg (by omega),if_neg (by omega),if_pos ⟨trivial,trivial⟩,hbx]
   simp only [Option.bind_some]
   rw [if_pos ⟨hne,by omega⟩,if_neg hroom,List.take_of_length_le (by omega),hst]
  ·rw [set_base hid,List.append_assoc]
  ·have e : (B0 ++ M).length = ((B0 ++ M).set id []).length := by simp
   rw [hrow,e,List.getElem?_concat_length]
theorem free_l0 (f : Fr) (hf : FOk f) (B0 : List (List AV)) (A : List Tm) (hA : ∀ x ∈ A,x.mass < 1000000) (hAl : A.length < 1000000) (c : AC) (K : Kn) (X : Out) :
  ∀ (post pre acc : List Tm) (B : List (List AV)) (v : AV) (o : Bool) (ρ : Nat → AV),A = pre ++ post → TS B0 B v acc → acc.length + post.length < 1000000 → (∀ x ∈ acc,x.mass < 1000000) →
   ρ 1 = .bx (encF f) → ρ 3 = v → ρ 16 = .sl o 4 (encTs A) → ρ 17 = .int .i64 A.length → ρ 18 = .int .i64 pre.length →
   (∀ (ρ' : Nat → AV) (B' : List (List AV)) (v' : AV),TS B0 B' v' (foldF f.s acc post) → ρ' 3 = v' → (∀ j,j < 12 → j ≠ 3 → j ≠ 7 → ρ' j = ρ j) → R F.tb c ρ' B' K = X) →
  R F.tb (.loop F.f209l0) ρ B (blockK 2 (blockK 1 (seqK F.tb c K))) = X := by
 intro post
 induction post with
 | nil =>
  intro pre acc B v o ρ hk hts hal ham h1 h3 h16 h17 h18 h
  simp only [List.append_nil] at hk
  rw [← hk] at h18
  rw [R_loop' F.f209l0.eq_1]
  simp [h1,h16,h17,h18]
  refine h _ B v hts ?_ ?_
  ·simp [h3]
  ·intro j hj h3j h7j
   have : j ≠ 19 := by omega
   simp [this]
 | cons x post IH =>
  intro pre acc B v o ρ hk hts hal ham h1 h3 h16 h17 h18 h
  have hg := get_pre hk
  have hll : A.length = pre.length + (post.length + 1) := by rw [hk]; simp
  have hw1 : IntKind.i64.wrap ((pre.length : Int) + 1) = (pre.length : Int) + 1 := wrap64 (by omega) (by omega)
  have hlt : (pre.length : Int) < (A.length : Int) := by omega
  have hxm := hA x (by rw [hk]; simp)
  have hxb : x.mass < big := by unfold big; omega
  simp only [List.length_cons] at hal
  have c1 := call159 x B hxm
  have c2 := call211 f.s x false B hf.sl (fun y hy => by have := hf.s y hy; unfold big; omega) hxb
  have c3 := call216 hts x (by omega) (fun y hy => by have := ham y hy; unfold big; omega) hxb
  obtain ⟨id,sz,rfl⟩ := ts_gs hts
  have hfr : ∀ (ρ2 : Nat → AV) (j : Nat),j < 12 → j ≠ 3 → j ≠ 7 → (∀ i,ρ2 i = ρ2 i) := fun _ _ _ _ _ _ => rfl
  have hjn : ∀ j : Nat,j < 12 → j ≠ 18 ∧ j ≠ 19 ∧ j ≠ 20 ∧ j ≠ 21 ∧ j ≠ 22 ∧ j ≠ 23 ∧ j ≠ 24 ∧ j ≠ 25 ∧ j ≠ 26 ∧ j ≠ 27 ∧ j ≠ 28 ∧ j ≠ 29 ∧ j ≠ 30 ∧ j ≠ 31 ∧ j ≠ 32 ∧ j ≠ 33 ∧ j ≠ 34 ∧ j ≠ 35 ∧ j ≠ 36 ∧ j ≠ 37 ∧ j ≠ 38 ∧ j ≠ 39 ∧ j ≠ 40 ∧ j ≠ 41 ∧ j ≠ 42 := fun j hj => by omega
  rw [R_loop' F.f209l0.eq_1]
  cases hn : newB f.s acc x
  ·have e : foldF f.s acc (x :: post) = foldF f.s acc post := by simp [foldF,hn]
   have hi := fun ρ2 h2 => IH (pre ++ [x]) acc B _ o ρ2 (by rw [hk]; simp) hts (by omega) ham h2
   have key : ∀ ρ2 : Nat → AV,ρ2 1 = .bx (encF f) → ρ2 3 = .gs id 0 sz acc.length → ρ2 16 = .sl o 4 (encTs A) → ρ2 17 = .int .i64 A.length → ρ2 18 = .int .i64 ((pre ++ [x]).length : Nat) → (∀ j,j < 12 → j ≠ 3 → j ≠ 7 → ρ2 j = ρ j) →
     R F.tb (.loop F.f209l0) ρ2 B (blockK 2 (blockK 1 (seqK F.tb c K))) = X := by
    intro ρ2 a1 a3 a16 a17 a18 aj
    refine hi ρ2 a1 a3 a16 a17 a18 fun ρ' B' v' t1 t2 t3 => h ρ' B' v' (by rw [e]; exact t1) t2 fun j j1 j2 j3 => ?_
    rw [t3 j j1 j2 j3,aj j j1 j2 j3]
   unfold newB at hn
   cases p1 : pubT x
   ·rw [p1] at c1 hn
    cases p2 : f.s.any (eqB x)
    ·rw [p2] at c2 hn
     have p3 : acc.any (eqB x) = true := by simpa using hn
     rw [p3] at c3
     simp [encF,h1,h3,h16,h17,h18,hg,hlt,hw1,c1,c2,c3]
     refine key _ ?_ ?_ ?_ ?_ ?_ ?_
     all_goals first | (intro j j1 j2 j3; have := hjn j j1; simp [this,j3]; done) | simp [encF,h1,h3,h16,h17]
    ·rw [p2] at c2
     simp [encF,h1,h3,h16,h17,h18,hg,hlt,hw1,c1,c2]
     refine key _ ?_ ?_ ?_ ?_ ?_ ?_
     all_goals first | (intro j j1 j2 j3; have := hjn j j1; simp [this,j3]; done) | simp [encF,h1,h3,h16,h17]
   ·rw [p1] at c1
    simp [encF,h1,h3,h16,h17,h18,hg,hlt,hw1,c1]
    refine key _ ?_ ?_ ?_ ?_ ?_ ?_
    all_goals first | (intro j j1 j2 j3; have := hjn j j1; simp [this,j3]; done) | simp [encF,h1,h3,h16,h17]
  ·have e : foldF f.s acc (x :: post) = foldF f.s (acc ++ [x]) post := by simp [foldF,hn]
   obtain ⟨v2,B2,ha,hts2⟩ := ts_app x false hts (by omega)
   have hi := fun ρ2 h2 => IH (pre ++ [x]) (acc ++ [x]) B2 v2 o ρ2 (by rw [hk]; simp) hts2 (by simp; omega) (fun y hy => by
    rcases List.mem_append.1 hy with hy | hy
    ·exact ham y hy
    ·simp at hy; subst hy; exact hxm) h2
   have key : ∀ ρ2 : Nat → AV,ρ2 1 = .bx (encF f) → ρ2 3 = v2 → ρ2 16 = .sl o 4 (encTs A) → ρ2 17 = .int .i64 A.length → ρ2 18 = .int .i64 ((pre ++ [x]).length : Nat) → (∀ j,j < 12 → j ≠ 3 → j ≠ 7 → ρ2 j = ρ j) →
     R F.tb (.loop F.f209l0) ρ2 B2 (blockK 2 (blockK 1 (seqK F.tb c K))) = X := by
    intro ρ2 a1 a3 a16 a17 a18 aj
    refine hi ρ2 a1 a3 a16 a17 a18 fun ρ' B' v' t1 t2 t3 => h ρ' B' v' (by rw [e]; exact t1) t2 fun j j1 j2 j3 => ?_
    rw [t3 j j1 j2 j3,aj j j1 j2 j3]
   obtain ⟨id2,sz2,rfl⟩ := ts_gs hts2
   unfold newB at hn
   simp only [Bool.and_eq_true,Bool.not_eq_true'] at hn
   obtain ⟨⟨p1,p2⟩,p3⟩ := hn
   rw [p1] at c1
   rw [p2] at c2
   rw [p3] at c3
   simp [encF,h1,h3,h16,h17,h18,hg,hlt,hw1,c1,c2,c3,ha]
   refine key _ ?_ ?_ ?_ ?_ ?_ ?_
   all_goals first | (intro j j1 j2 j3; have := hjn j j1; simp [this,j2,j3]; done) | simp [encF,h1,h3,h16,h17]
end Go.Am
namespace Go.Am
set_option maxRecDepth 8000
theorem atomsT_len (t : Tm) : (atomsT t).length ≤ t.nodes := by
 have h1 := setT_len ((allT t).filter (kindB 2))
 have h2 := List.length_filter_le (kindB 2) (allT t)
 rw [allT_len] at h2
 unfold atomsT; omega
theorem mem_atomsT {x t : Tm} : x ∈ atomsT t ↔ x ∈ allT t ∧ x.kind = 2 := by
 unfold atomsT
 rw [mem_setT,List.mem_filter]
 simp [kindB]
theorem atomsT_mass {x t : Tm} (h : x ∈ atomsT t) : x.mass ≤ t.mass := allT_mass t x (mem_atomsT.1 h).1
theorem outsF_len (sec : List Tm) : ∀ (l acc : List Tm),(outsF sec acc l).length ≤ acc.length + nodesL l
 | [],acc => by simp [outsF]
 | t :: r,acc => by
  have h1 := outsF_len sec r (foldF sec acc (atomsT t))
  have h2 := foldF_len sec (atomsT t) acc
  have h3 := atomsT_len t
  simp only [outsF,nodesL]; omega
theorem ts_sort {B0 B : List (List AV)} {v : AV} {l : List Tm} (h : TS B0 B v l) (hl : l.length < 1000000) (hm : ∀ x ∈ l,x.mass < 1000000) :
  ∃ B',call F.tb 170 [v,.fn 30 []] B = some (.tup [],B') ∧ TS B0 B' v (sortT l) := by
 obtain ⟨M,id,sz,rfl,rfl,hc⟩ := h
 rcases hc with ⟨rfl,rfl,rfl⟩ | ⟨rfl,hid,hne,hb⟩
 ·refine ⟨B0 ++ M,?_,M,0,0,rfl,rfl,.inl ⟨rfl,rfl,rfl⟩⟩
  rw [call_orc F.tb_170]; simp [sortO]
 ·have hs := call_sort l (B0 ++ M) id hb (by omega) fun x hx => by have := hm x hx; unfold big; omega
  refine ⟨_,hs,M.set (id - B0.length) (rowT (sortT l)),id,4,set_base hid _,by rw [sortT_len],.inr ⟨rfl,hid,?_,?_⟩⟩
  ·intro e
   obtain ⟨x,hx⟩ := List.exists_mem_of_ne_nil l hne
   have := (mem_sortT (l := l)).2 hx
   rw [e] at this; simp at this
  ·have hlt := get_lt hb
   rw [List.getElem?_set,if_pos rfl,if_pos hlt]
theorem ts_frz {B0 B : List (List AV)} {v : AV} {l : List Tm} (h : TS B0 B v l) (n : Nat) : ∃ M2,∀ ρ : Nat → AV,ρ n = v → frzAt { env := ρ,bs := B } n 4 = some (.sl true 4 (encTs l),{ env := upd ρ n .undef,bs := B0 ++ M2 }) := by
 obtain ⟨M,id,sz,rfl,rfl,hc⟩ := h
 rcases hc with ⟨rfl,rfl,rfl⟩ | ⟨rfl,hid,hne,hb⟩
 ·exact ⟨M,fun ρ hn => by simp [frzAt,hn,encTs]⟩
 ·refine ⟨M.set (id - B0.length) [],fun ρ hn => ?_⟩
  have hz : ¬ l.length = 0 := fun e => hne (List.eq_nil_of_length_eq_zero e)
  have hr : (rowT l).length = l.length * 4 := row_len encT_len4 l
  have hch : chunks (rowT l) 0 4 l.length = encTs l := by
   have := row_chunks (f := encT) (k := 4) encT_len4 encT_strip l []
   rw [List.append_nil,rowT_map] at this; exact this
  simp only [frzAt,hn]
  rw [if_pos ⟨trivial,by omega⟩,if_neg hz,hb]
  simp only [Option.bind_some]
  rw [if_pos (by omega),hch,set_base hid]
  rfl
theorem free_r1 {B0 B : List (List AV)} {v : AV} {l : List Tm} (h : TS B0 B v l) (hl : l.length < 1000000) (hm : ∀ x ∈ l,x.mass < 1000000) (ρ : Nat → AV) (h3 : ρ 3 = v) :
  R F.tb F.f209r1 ρ B (finK F.f209 B0) = some (.sl true 4 (encTs (sortT l)),B0) := by
 obtain ⟨B',hs,hts⟩ := ts_sort h hl hm
 obtain ⟨M2,hf⟩ := ts_frz hts 46
 obtain ⟨id,sz,rfl⟩ := ts_gs h
 have hg := encTs_gp (sortT l)
 rw [← sortT_len l] at hs hf h3
 simp [F.f209r1,h3,hs,hf,F.f209R,F.f209K]
theorem free_l1 (f : Fr) (hf : FOk f) (B0 : List (List AV)) (hM : massL f.t < 1000000) :
  ∀ (post pre acc : List Tm) (B : List (List AV)) (v : AV) (o : Bool) (ρ : Nat → AV),f.t = pre ++ post → TS B0 B v acc → acc.length + nodesL post < 1000000 → (∀ x ∈ acc,x.mass < 1000000) →
   ρ 1 = .bx (encF f) → ρ 3 = v → ρ 9 = .sl o 4 (encTs f.t) → ρ 10 = .int .i64 f.t.length → ρ 11 = .int .i64 pre.length →
  R F.tb (.loop F.f209l1) ρ B (blockK 0 (seqK F.tb F.f209r1 (finK F.f209 B0))) = some (.sl true 4 (encTs (sortT (outsF f.s acc post))),B0) := by
 have htl := hf.tl
 intro post
 induction post with
 | nil =>
  intro pre acc B v o ρ hk hts hal ham h1 h3 h9 h10 h11
  simp only [List.append_nil] at hk
  rw [← hk] at h11
  have hr := free_r1 hts (by simp [nodesL] at hal; omega) ham
  rw [R_loop' F.f209l1.eq_1]
  simp [h1,h9,h10,h11,outsF]
  apply hr; simp [h3]
 | cons x post IH =>
  intro pre acc B v o ρ hk hts hal ham h1 h3 h9 h10 h11
  have hg := get_pre hk
  have hll : f.t.length = pre.length + (post.length + 1) := by rw [hk]; simp
  have hw1 : IntKind.i64.wrap ((pre.length : Int) + 1) = (pre.length : Int) + 1 := wrap64 (by omega) (by omega)
  have hlt : (pre.length : Int) < (f.t.length : Int) := by omega
  have hxm := hf.t x (by rw [hk]; simp)
  have hnm := nodes_le_mass x
  simp only [nodesL] at hal
  have hat := atomsT_len x
  have c1 := call_Atoms x B (by omega)
  have hfl := foldF_len f.s (atomsT x) acc
  have e : outsF f.s acc (x :: post) = outsF f.s (foldF f.s acc (atomsT x)) post := rfl
  rw [e]
  have hAm : ∀ y ∈ atomsT x,y.mass < 1000000 := fun y hy => by have := atomsT_mass hy; omega
  rw [R_loop' F.f209l1.eq_1]
  simp [h1,h9,h10,h11,hg,hlt,c1]
  refine free_l0 f hf B0 (atomsT x) hAm (by omega) _ _ _ (atomsT x) [] acc B v true _ rfl hts (by omega) ham ?_ ?_ ?_ ?_ ?_ ?_
  ·simp [h1]
  ·simp [h3]
  ·simp
  ·simp
  ·simp
  ·intro ρ' B' v' t1 t2 t3
   have g1 : ρ' 1 = _ := t3 1 (by omega) (by omega) (by omega)
   have g9 : ρ' 9 = _ := t3 9 (by omega) (by omega) (by omega)
   have g10 : ρ' 10 = _ := t3 10 (by omega) (by omega) (by omega)
   have g11 : ρ' 11 = _ := t3 11 (by omega) (by omega) (by omega)
   simp [h1,h9,h10,h11] at g1 g9 g10 g11
   have hi := fun ρ2 => IH (pre ++ [x]) (foldF f.s acc (atomsT x)) B' v' o ρ2 (by rw [hk]; simp) t1 (by omega) (fun y hy => by
    rcases foldF_mem hy with hy | hy
    ·exact ham y hy
    ·exact hAm y hy)
   simp [F.f209r0,g11,hw1]
   apply hi <;> simp [g1,t2,g9,g10]
def freeT (f : Fr) : List Tm := sortT (outsF f.s [] f.t)
theorem call209 (f : Fr) (hf : FOk f) (hM : massL f.t < 1000000) (bs : List (List AV)) : call F.tb 209 [.agg (encF f)] bs = some (.sl true 4 (encTs (freeT f)),bs) := by
 have hn := nodesL_le_mass f.t
 have h := fun ρ => free_l1 f hf bs hM f.t [] [] bs (.gs 0 0 0 0) false ρ rfl (ts_nil bs) (by simp; omega) (by simp)
 rw [call_code F.tb_209 _ _ rfl]
 simp [F.f209B,F.f209C,encF]
 apply h <;> simp [encF]
end Go.Am
namespace Go.Am
set_option maxRecDepth 8000
def okFree (sec : List Tm) (x : Tm) : Bool := decide (x.kind = 2) && !pubT x && !hasT sec x
theorem Rfree_loop (f : Fr) (hf : FOk f) (L : List Tm) (bs : List (List AV)) (hL : L.length < 1000000) (hm : ∀ x ∈ L,x.mass < 1000000) :
  ∀ (post pre acc : List Tm) (o : Bool) (ρ : Nat → AV),L = pre ++ post → acc.length + post.length < 1000000 → ρ 1 = .bx (encF f) → ρ 3 = .sl true 4 (encTs acc) → ρ 4 = .sl o 4 (encTs L) → ρ 5 = .int .i64 pre.length →
  R F.tb (.loop F.f264l0) ρ bs (blockK 0 (seqK F.tb F.f264r0 (finK F.f264 bs))) = some (.sl false 4 (encTs (acc ++ post.filter (okFree f.s))),bs) := by
 intro post
 induction post with
 | nil =>
  intro pre acc o ρ hk ha h1 h3 h4 h5
  simp only [List.append_nil] at hk
  rw [← hk] at h5
  rw [R_loop' F.f264l0.eq_1]
  simp [h1,h3,h4,h5,F.f264r0,F.f264R,F.f264K]
 | cons x post IH =>
  intro pre acc o ρ hk ha h1 h3 h4 h5
  have hg := get_pre hk
  have hll : L.length = pre.length + (post.length + 1) := by rw [hk]; simp
  have hw1 : IntKind.i64.wrap ((pre.length : Int) + 1) = (pre.length : Int) + 1 := wrap64 (by omega) (by omega)
  have hlt : (pre.length : Int) < (L.length : Int) := by omega
  have hxm := hm x (by rw [hk]; simp)
  have c1 := call231 x bs hxm
  have hsl := hf.sl
  have c2 := call_Has f.s x false bs (by omega) (fun y hy => by have := hf.s y hy; unfold big; omega) (by unfold big; omega)
  simp only [List.length_cons] at ha
  have hb : (acc.length + 1) * 56 ≤ 140737488355328 := lim56 (by omega)
  have h2 := fun ρ => IH (pre ++ [x]) acc o ρ (by rw [hk]; simp) (by omega)
  have h2' := fun ρ => IH (pre ++ [x]) (acc ++ [x]) o ρ (by rw [hk]; simp) (by simp; omega)
  simp only [List.append_assoc,List.cons_append,List.nil_append] at h2'
  rw [R_loop' F.f264l0.eq_1]
  by_cases e1 : x.kind = 2
  ·cases e2 : pubT x
   ·cases e3 : hasT f.s x
    ·have e : (x :: post).filter (okFree f.s) = x :: post.filter (okFree f.s) := by simp [okFree,e1,e2,e3]
     rw [e]
     generalize post.filter (okFree f.s) = P at *
     simp [encF,h1,h3,h4,h5,hg,hlt,hw1,c1,c2,e1,e2,e3,hb,encTs_one,encTs_append]
     apply h2' <;> simp [h1,encF,h4]
    ·have e : (x :: post).filter (okFree f.s) = post.filter (okFree f.s) := by simp [okFree,e1,e2,e3]
     rw [e]
     generalize post.filter (okFree f.s) = P at *
     simp [encF,h1,h3,h4,h5,hg,hlt,hw1,c1,c2,e1,e2,e3]
     apply h2 <;> simp [h1,h3,encF,h4]
   ·have e : (x :: post).filter (okFree f.s) = post.filter (okFree f.s) := by simp [okFree,e1,e2]
    rw [e]
    generalize post.filter (okFree f.s) = P at *
    simp [encF,h1,h3,h4,h5,hg,hlt,hw1,c1,e1,e2]
    apply h2 <;> simp [h1,h3,encF,h4]
  ·have e : (x :: post).filter (okFree f.s) = post.filter (okFree f.s) := by simp [okFree,e1]
   rw [e]
   generalize post.filter (okFree f.s) = P at *
   simp [encF,h1,h3,h4,h5,hg,hlt,hw1,e1]
   apply h2 <;> simp [h1,h3,encF,h4]
theorem nodup_foldF {sec : List Tm} : ∀ {l acc : List Tm},acc.Nodup → (foldF sec acc l).Nodup
 | [],acc,h => h
 | x :: r,acc,h => by
  simp only [foldF]
  apply nodup_foldF
  split
  ·rename_i hn
   simp only [newB,Bool.and_eq_true,Bool.not_eq_true'] at hn
   have h3 : x ∉ acc := by
    intro hx
    have : acc.any (eqB x) = true := List.any_eq_true.2 ⟨x,hx,by simp [eqB,cmpT_refl]⟩
    rw [hn.2] at this; cases this
   rw [List.nodup_append]
   exact ⟨h,by simp,fun a ha b hb => by simp at hb; subst hb; intro e; subst e; exact h3 ha⟩
  ·exact h
theorem nodup_outsF {sec : List Tm} : ∀ {l acc : List Tm},acc.Nodup → (outsF sec acc l).Nodup
 | [],acc,h => h
 | t :: r,acc,h => nodup_outsF (l := r) (nodup_foldF h)
theorem asc_insT {t : Tm} : ∀ {l : List Tm},Asc l → t ∉ l → Asc (insT t l)
 | [],_,_ => asc_one t
 | x :: xs,h,hn => by
  obtain ⟨h1,h2⟩ := asc_cons.1 h
  simp only [List.mem_cons,not_or] at hn
  simp only [insT]
  split
  ·rename_i c
   refine asc_cons.2 ⟨fun y hy => ?_,asc_insT h2 hn.2⟩
   rcases mem_insT.1 hy with rfl | hy
   ·exact c
   ·exact h1 y hy
  ·rename_i c
   have c2 : cmpT t x < 0 := by
    rcases cmpT_tri t x with h | h | h
    ·exact h
    ·exact absurd h hn.1
    ·exact absurd h c
   refine asc_cons.2 ⟨fun y hy => ?_,h⟩
   rcases List.mem_cons.1 hy with rfl | hy
   ·exact c2
   ·exact lt_trans' c2 (h1 y hy)
theorem asc_sortT : ∀ {l : List Tm},l.Nodup → Asc (sortT l)
 | [],_ => Asc.nil
 | t :: ts,h => by
  obtain ⟨h1,h2⟩ := List.nodup_cons.1 h
  exact asc_insT (asc_sortT h2) fun hm => h1 (mem_sortT.1 hm)
def fineB (sec : List Tm) (x : Tm) : Prop := pubT x = false ∧ hasT sec x = false
theorem hasT_any (l : List Tm) (x : Tm) : l.any (eqB x) = hasT l x := rfl
theorem mem_foldF {sec : List Tm} : ∀ {l acc : List Tm} {y : Tm},y ∈ foldF sec acc l ↔ y ∈ acc ∨ (y ∈ l ∧ fineB sec y)
 | [],acc,y => by simp [foldF]
 | x :: r,acc,y => by
  simp only [foldF]
  rw [mem_foldF]
  cases hn : newB sec acc x
  ·simp only [Bool.false_eq_true,if_false,List.mem_cons]
   constructor
   ·rintro (h | h)
    ·exact .inl h
    ·exact .inr ⟨.inr h.1,h.2⟩
   ·rintro (h | ⟨h | h,hf⟩)
    ·exact .inl h
    ·subst h
     left
     simp only [newB,hasT_any,hf.1,hf.2,Bool.not_false,Bool.true_and,Bool.not_eq_false'] at hn
     exact hasT_iff.1 hn
    ·exact .inr ⟨h,hf⟩
  ·simp only [if_true,List.mem_append,List.mem_cons]
   simp only [newB,hasT_any,Bool.and_eq_true,Bool.not_eq_true'] at hn
   constructor
   ·rintro ((h | h) | h)
    ·exact .inl h
    ·simp at h; subst h; exact .inr ⟨.inl rfl,hn.1.1,hn.1.2⟩
    ·exact .inr ⟨.inr h.1,h.2⟩
   ·rintro (h | ⟨h | h,hf⟩)
    ·exact .inl (.inl h)
    ·exact .inl (.inr (by simp [h]))
    ·exact .inr ⟨h,hf⟩
theorem mem_outsF {sec : List Tm} : ∀ {l acc : List Tm} {y : Tm},y ∈ outsF sec acc l ↔ y ∈ acc ∨ (y ∈ allL l ∧ y.kind = 2 ∧ fineB sec y)
 | [],acc,y => by simp [outsF,allL]
 | t :: r,acc,y => by
  simp only [outsF]
  rw [mem_outsF,mem_foldF,mem_atomsT]
  simp only [allL,List.mem_append]
  constructor
  ·rintro ((h | ⟨⟨h1,h2⟩,h3⟩) | ⟨h1,h2,h3⟩)
   ·exact .inl h
   ·exact .inr ⟨.inl h1,h2,h3⟩
   ·exact .inr ⟨.inr h1,h2,h3⟩
  ·rintro (h | ⟨h1 | h1,h2,h3⟩)
   ·exact .inl (.inl h)
   ·exact .inl (.inr ⟨⟨h1,h2⟩,h3⟩)
   ·exact .inr ⟨h1,h2,h3⟩
theorem free_eq (f : Fr) : (setT (allL f.t)).filter (okFree f.s) = freeT f := by
 refine asc_ext (List.Pairwise.filter _ (asc_setT _)) (asc_sortT (nodup_outsF List.nodup_nil)) fun x => ?_
 rw [List.mem_filter,mem_setT,freeT,mem_sortT,mem_outsF]
 simp only [okFree,fineB,Bool.and_eq_true,decide_eq_true_eq,Bool.not_eq_true',List.not_mem_nil,false_or]
 constructor
 ·rintro ⟨h1,⟨h2,h3⟩,h4⟩; exact ⟨h1,h2,h3,h4⟩
 ·rintro ⟨h1,h2,h3,h4⟩; exact ⟨h1,⟨h2,h3⟩,h4⟩
theorem allL_massM {x : Tm} : ∀ {l : List Tm},x ∈ allL l → x.mass ≤ massL l
 | [],h => by simp [allL] at h
 | t :: ts,h => by
  simp only [allL,List.mem_append] at h
  simp only [massL]
  rcases h with h | h
  ·have := allT_mass t x h; omega
  ·have := allL_massM h; omega
theorem call264 (f : Fr) (hf : FOk f) (hM : massL f.t < 1000000) (bs : List (List AV)) : call F.tb 264 [.agg (encF f)] bs = some (.sl false 4 (encTs (freeT f)),bs) := by
 have hn := nodesL_le_mass f.t
 have htl := hf.tl
 have hs := call_Subterms f.t false bs (by omega) (by omega)
 have hlen := setT_len (allL f.t)
 rw [allL_len] at hlen
 have h := fun o ρ => Rfree_loop f hf (setT (allL f.t)) bs (by omega) (fun x hx => by have := allL_massM (mem_setT.1 hx); omega) (setT (allL f.t)) [] [] o ρ rfl (by simp; omega)
 rw [free_eq,List.nil_append] at h
 rw [call_code F.tb_264 _ _ rfl]
 simp [F.f264B,F.f264C,encF,hs]
 refine h false _ ?_ ?_ ?_ ?_ <;> simp [encF,encTs]
end Go.Am
namespace Go.Am
set_option maxRecDepth 8000
theorem encF_take (f : Fr) : (encF f).take 2 = encF f := rfl
theorem encF_strip (f : Fr) : (encF f).map AV.strip = encF f := rfl
theorem encF_len (f : Fr) : (encF f).length = 2 := rfl
theorem freeT_len (f : Fr) : (freeT f).length ≤ nodesL f.t := by
 unfold freeT
 rw [sortT_len]
 have := outsF_len f.s f.t []
 simpa using this
def fewF (f : Fr) : Bool := few f.s 45 120 && few f.t 45 200
theorem call228 (f : Fr) (bs : List (List AV)) : call F.tb 228 [.agg (encF f)] bs = some (.bool (fewF f),bs) := by
 have h1 : call F.tb 101 [.sl false 4 (encTs f.s),.int .i64 45,.int .i64 120] bs = some (.bool (few f.s 45 120),bs) := call_few f.s false 45 120 bs (by omega) (by omega) (by omega)
 have h2 : call F.tb 101 [.sl false 4 (encTs f.t),.int .i64 45,.int .i64 200] bs = some (.bool (few f.t 45 200),bs) := call_few f.t false 45 200 bs (by omega) (by omega) (by omega)
 rw [call_code F.tb_228 _ _ rfl]
 cases c1 : few f.s 45 120
 ·rw [c1] at h1
  simp [F.f228B,F.f228C,F.f228R,F.f228K,encF,h1,fewF,c1]
 ·rw [c1] at h1
  simp [F.f228B,F.f228C,F.f228R,F.f228K,encF,h1,h2,fewF,c1]
theorem few_fok {f : Fr} (h : fewF f = true) : FOk f ∧ massL f.t < 1000000 := by
 simp only [fewF,Bool.and_eq_true] at h
 obtain ⟨a1,a2,_⟩ := few_mass (by omega) h.1
 obtain ⟨b1,b2,_⟩ := few_mass (by omega) h.2
 exact ⟨⟨fun x hx => by have := massL_mem hx; omega,fun x hx => by have := massL_mem hx; omega,by omega,by omega⟩,by omega⟩
theorem massL_le {l : List Tm} {M : Nat} (h : ∀ x ∈ l,x.mass ≤ M) : massL l ≤ l.length * M := by
 induction l with
 | nil => simp [massL]
 | cons x xs ih =>
  have h1 := ih fun y hy => h y (by simp [hy])
  have h2 := h x (by simp)
  simp only [massL,List.length_cons,Nat.succ_mul]; omega
end Go.Am
namespace Go.Am
set_option maxRecDepth 8000
def hndT (i : Nat) : Tm := .mk 1 (119 :: decN i) 0 []
theorem hndT_mass (i : Nat) (h : i < 1000000000) : (hndT i).mass ≤ 100 := by
 have := decN_len10 9 i (by omega)
 simp only [hndT,Tm.mass,massL,List.length_cons,List.length_nil]; omega
theorem call223 (i : Nat) (bs : List (List AV)) (h : i < 1000000000) : call F.tb 223 [.int .i64 i] bs = some (.agg (encT (hndT i)),bs) := by
 have h1 := call_Itoa i bs h
 have h2 := decN_len10 9 i (by omega)
 have h3 : 1 + (decN i).length ≤ 9223372036854775807 := by omega
 rw [call_code F.tb_223 _ _ rfl]
 simp [F.f223,F.f223C,h1,h3,hndT,encT_fold]
 simp [encT,encTs]
def getT (x : Tm) : Nat → List Tm → Option (Nat × Tm)
 | _,[] => none
 | k,t :: ts => if cmpT (hndT k) x = 0 then some (k,t) else getT x (k + 1) ts
def ixT (x : Tm) (k : Nat) (l : List Tm) : Int := match getT x k l with
 | some p => p.1
 | none => -1
theorem ixT_nil (x : Tm) (k : Nat) : ixT x k [] = -1 := rfl
theorem ixT_cons (x t : Tm) (k : Nat) (ts : List Tm) : ixT x k (t :: ts) = if cmpT (hndT k) x = 0 then (k : Int) else ixT x (k + 1) ts := by
 simp only [ixT,getT]
 by_cases c : cmpT (hndT k) x = 0
 ·simp [c]
 ·simp [c]
theorem index_loop (f : Fr) (hf : FOk f) (x : Tm) (hx : x.mass < big) (bs : List (List AV)) :
  ∀ (post pre : List Tm) (ρ : Nat → AV),f.t = pre ++ post → ρ 3 = .bx (encT x) → ρ 8 = .int .i64 f.t.length → ρ 9 = .int .i64 pre.length →
  R F.tb (.loop F.f222l0) ρ bs (blockK 0 (seqK F.tb F.f222r0 (finK F.f222 bs))) = some (.int .i64 (ixT x pre.length post),bs) := by
 have htl := hf.tl
 intro post
 induction post with
 | nil =>
  intro pre ρ hk h3 h8 h9
  simp only [List.append_nil] at hk
  rw [← hk] at h9
  rw [R_loop' F.f222l0.eq_1]
  simp [h3,h8,h9,F.f222r0,F.f222R,F.f222K,ixT_nil]
 | cons y post IH =>
  intro pre ρ hk h3 h8 h9
  have hll : f.t.length = pre.length + (post.length + 1) := by rw [hk]; simp
  have hw1 : IntKind.i64.wrap ((pre.length : Int) + 1) = (pre.length : Int) + 1 := wrap64 (by omega) (by omega)
  have hlt : (pre.length : Int) < (f.t.length : Int) := by omega
  have hc1 := call223 pre.length bs (by omega)
  have hc2 := call213 (hndT pre.length) x bs (by have := hndT_mass pre.length (by omega); unfold big; omega) hx
  rw [R_loop' F.f222l0.eq_1,ixT_cons]
  by_cases c : cmpT (hndT pre.length) x = 0
  ·simp [h3,h8,h9,hlt,hc1,hc2,c,F.f222R,F.f222K]
  ·have hi := fun ρ => IH (pre ++ [y]) ρ (by rw [hk]; simp)
   simp only [List.length_append,List.length_singleton] at hi
   simp [h3,h8,h9,hlt,hc1,hc2,hw1,c]
   apply hi <;> simp [h3,h8]
theorem call222 (f : Fr) (hf : FOk f) (x : Tm) (hx : x.mass < big) (bs : List (List AV)) : call F.tb 222 [.agg (encF f),.agg (encT x)] bs = some (.int .i64 (ixT x 0 f.t),bs) := by
 have h := fun ρ => index_loop f hf x hx bs f.t [] ρ rfl
 rw [call_code F.tb_222 _ _ rfl]
 simp only [List.length_nil] at h
 simp [F.f222B,F.f222C,encF_take,encF_strip,encF_len]
 simp [encF]
 apply h <;> simp
def SK : List UInt8 := [115,107]
def SHK : List UInt8 := [115,104,107]
def NEW : List UInt8 := [110,101,119]
def privN (n : List UInt8) : Bool := n == SK || n == SHK || n == NEW
theorem call224 (n : List UInt8) (bs : List (List AV)) : call F.tb 224 [.str n] bs = some (.bool (privN n),bs) := by
 rw [call_code F.tb_224 _ _ rfl]
 by_cases c1 : n = SK
 ·simp [F.f224B,F.f224C,F.f224R,F.f224K,privN,SK,c1]
 ·by_cases c2 : n = SHK
  ·simp only [SK,SHK] at c1 c2
   simp [F.f224B,F.f224C,F.f224R,F.f224K,privN,SK,SHK,c1,c2]
  ·simp only [SK,SHK] at c1 c2
   simp [F.f224B,F.f224C,F.f224R,F.f224K,privN,SK,SHK,NEW,c1,c2]
def nodF (f a : List Tm) (x : Tm) : Int := if x.kind = 1 then (if ixT x 0 f < 0 then 13 else 0) else if x.kind = 2 then (if pubT x then 0 else if a.any (eqB x) then 0 else 13) else if privN x.name then 10 else 0
def frE (f a : List Tm) : List Tm → Int
 | [] => 0
 | x :: xs => if nodF f a x ≠ 0 then nodF f a x else frE f a xs
theorem frE_app (f a : List Tm) : ∀ l m : List Tm,frE f a (l ++ m) = if frE f a l ≠ 0 then frE f a l else frE f a m
 | [],m => by simp [frE]
 | x :: l,m => by
  simp only [List.cons_append,frE,frE_app f a l m]
  by_cases c : nodF f a x = 0
  ·simp [c]
  ·simp [c]
theorem first_loop (f : Fr) (a : List Tm) (t : Tm) (bs : List (List AV)) (hm : t.mass < 1000000)
  (ih : ∀ x ∈ t.kids,∀ (bs : List (List AV)) (o : Bool),call F.tb 221 [.agg (encF f),.sl o 4 (encTs a),.agg (encT x)] bs = some (.int .i64 (frE f.t a (allT x)),bs)) :
  ∀ (post pre : List Tm) (ρ : Nat → AV) (o : Bool),t.kids = pre ++ post → ρ 1 = .sl o 4 (encTs a) → ρ 3 = .bx (encF f) → ρ 33 = .sl false 4 (encTs t.kids) → ρ 34 = .int .i64 t.kids.length → ρ 35 = .int .i64 pre.length →
  R F.tb (.loop F.f221l0) ρ bs (blockK 1 (seqK F.tb F.f221r0 (finK F.f221 bs))) = some (.int .i64 (frE f.t a (allL post)),bs) := by
 have hm2 := mass_eq t
 intro post
 induction post with
 | nil =>
  intro pre ρ o hk h1 h3 h33 h34 h35
  simp only [List.append_nil] at hk
  rw [← hk] at h35
  rw [R_loop' F.f221l0.eq_1]
  simp [h1,h3,h33,h34,h35,F.f221r0,F.f221R,F.f221K,allL,frE]
 | cons x post IH =>
  intro pre ρ o hk h1 h3 h33 h34 h35
  have hg := get_pre hk
  have hll : t.kids.length = pre.length + (post.length + 1) := by rw [hk]; simp
  have hw1 : IntKind.i64.wrap ((pre.length : Int) + 1) = (pre.length : Int) + 1 := wrap64 (by omega) (by omega)
  have hlt : (pre.length : Int) < (t.kids.length : Int) := by omega
  have hc := ih x (by rw [hk]; simp) bs
  rw [R_loop' F.f221l0.eq_1]
  simp only [allL,frE_app]
  by_cases c : frE f.t a (allT x) = 0
  ·have h2 := fun ρ => IH (pre ++ [x]) ρ o (by rw [hk]; simp)
   rw [if_neg (by simpa using c)]
   simp [h1,h3,h33,h34,h35,hg,hlt,hw1,hc,c,encF_take,encF_strip,encF_len]
   apply h2 <;> simp [h1,h3,h33,h34]
  ·rw [if_pos c]
   simp [h1,h3,h33,h34,h35,hg,hlt,hc,c,encF_take,encF_strip,encF_len,F.f221R,F.f221K]
theorem call221 (f : Fr) (hf : FOk f) (a : List Tm) (ha : a.length < 1000000) (hma : ∀ x ∈ a,x.mass < big) :
  ∀ (t : Tm) (bs : List (List AV)) (o : Bool),t.mass < 1000000 → call F.tb 221 [.agg (encF f),.sl o 4 (encTs a),.agg (encT t)] bs = some (.int .i64 (frE f.t a (allT t)),bs) := by
 refine tm_ind (P := fun t => ∀ (bs : List (List AV)) (o : Bool),t.mass < 1000000 → call F.tb 221 [.agg (encF f),.sl o 4 (encTs a),.agg (encT t)] bs = some (.int .i64 (frE f.t a (allT t)),bs)) ?_
 intro k n s ks ih bs o hm
 have hb : (Tm.mk k n s ks).mass < big := by unfold big; omega
 have hme := mass_eq (.mk k n s ks)
 simp only [mk_kids,mk_name] at hme
 have h1 := call222 f hf (.mk k n s ks) hb bs
 have h2 := call159 (.mk k n s ks) bs hm
 have h3 := fun o => call211 a (.mk k n s ks) o bs ha hma hb
 have h4 := call224 n bs
 have hl := fun ρ => first_loop f a (.mk k n s ks) bs hm (fun x hx bs o => ih x hx bs o (by have h1 : x.mass ≤ massL ks := massL_mem hx; omega)) ks [] ρ false rfl
 simp only [mk_kids] at hl
 have e : frE f.t a (allT (.mk k n s ks)) = if nodF f.t a (.mk k n s ks) ≠ 0 then nodF f.t a (.mk k n s ks) else frE f.t a (allL ks) := by simp [allT,frE]
 rw [call_code F.tb_221 _ _ rfl,e]
 by_cases k1 : k = 1
 ·subst k1
  by_cases c : ixT (.mk 1 n s ks) 0 f.t < 0
  ·have e2 : nodF f.t a (.mk 1 n s ks) = 13 := by simp [nodF,c]
   rw [e2]
   simp [F.f221B,F.f221C,F.f221R,F.f221K,encF_take,encF_strip,encF_len,h1,c]
  ·have e2 : nodF f.t a (.mk 1 n s ks) = 0 := by simp [nodF,c]
   rw [e2]
   simp [F.f221B,F.f221C,encF_take,encF_strip,encF_len,h1,c]
   apply hl <;> simp
 ·by_cases k2 : k = 2
  ·subst k2
   by_cases c : pubT (.mk 2 n s ks) = true
   ·have e2 : nodF f.t a (.mk 2 n s ks) = 0 := by simp [nodF,c]
    rw [e2]
    simp [F.f221B,F.f221C,encF_take,encF_strip,encF_len,h2,c]
    apply hl <;> simp
   ·by_cases d : a.any (eqB (.mk 2 n s ks)) = true
    ·have e2 : nodF f.t a (.mk 2 n s ks) = 0 := by simp [nodF,c,d,-List.any_eq_true]
     rw [e2]
     simp [F.f221B,F.f221C,encF_take,encF_strip,encF_len,h2,h3,c,d,-List.any_eq_true,-List.any_eq_false]
     apply hl <;> simp
    ·have e2 : nodF f.t a (.mk 2 n s ks) = 13 := by simp [nodF,c,d,-List.any_eq_true]
     rw [e2]
     simp [F.f221B,F.f221C,F.f221R,F.f221K,encF_take,encF_strip,encF_len,h2,h3,c,d,-List.any_eq_true,-List.any_eq_false]
  ·cases c : privN n
   ·have e2 : nodF f.t a (.mk k n s ks) = 0 := by simp [nodF,c,k1,k2]
    rw [e2]
    simp [F.f221B,F.f221C,encF_take,encF_strip,encF_len,h4,c,k1,k2]
    apply hl <;> simp
   ·have e2 : nodF f.t a (.mk k n s ks) = 10 := by simp [nodF,c,k1,k2]
    rw [e2]
    simp [F.f221B,F.f221C,F.f221R,F.f221K,encF_take,encF_strip,encF_len,h4,c,k1,k2]
def rigT (f : Fr) (r : Tm) : Int := if validF f ≠ 0 then validF f else if thV r ≠ 0 then thV r else frE f.t (freeT f) (allT r)
theorem freeT_mass {f : Fr} (hM : massL f.t < 1000000) : ∀ x ∈ freeT f,x.mass < 1000000 := fun x hx => by
 unfold freeT at hx
 rw [mem_sortT,mem_outsF] at hx
 simp at hx
 have := allL_massM hx.1; omega
theorem call220 (f : Fr) (hf : FOk f) (hM : massL f.t < 1000000) (r : Tm) (hr : r.mass < 1000000) (bs : List (List AV)) : call F.tb 220 [.agg (encF f),.agg (encT r)] bs = some (.int .i64 (rigT f r),bs) := by
 have h1 := call158 f bs hf
 have h2 := call_thValid r bs (by unfold big; omega)
 have h3 := call209 f hf hM bs
 have hn := nodesL_le_mass f.t
 have hfl := freeT_len f
 have h4 := fun o => call221 f hf (freeT f) (by omega) (fun x hx => by have := freeT_mass hM x hx; unfold big; omega) r bs o hr
 rw [call_code F.tb_220 _ _ rfl]
 unfold rigT
 by_cases c1 : validF f = 0
 ·by_cases c2 : thV r = 0
  ·simp [F.f220B,F.f220C,F.f220R,F.f220K,encF_take,encF_strip,encF_len,h1,h2,h3,h4,c1,c2]
  ·simp [F.f220B,F.f220C,F.f220R,F.f220K,encF_take,encF_strip,encF_len,h1,h2,c1,c2]
 ·simp [F.f220B,F.f220C,F.f220R,F.f220K,encF_take,encF_strip,encF_len,h1,c1]
end Go.Am
namespace Go.Am
set_option maxRecDepth 8000
mutual
def putT (f : List Tm) : Tm → Tm
 | .mk k n s ks => if k = 1 then (match getT (.mk k n s ks) 0 f with
  | some p => p.2
  | none => .mk k n s ks) else .mk k n s (putL f ks)
def putL (f : List Tm) : List Tm → List Tm
 | [] => []
 | t :: ts => putT f t :: putL f ts
end
theorem putL_len (f : List Tm) : ∀ l : List Tm,(putL f l).length = l.length
 | [] => rfl
 | t :: ts => by simp [putL,putL_len f ts]
theorem getT_get {x : Tm} : ∀ {l : List Tm} {k : Nat} {p : Nat × Tm},getT x k l = some p → k ≤ p.1 ∧ l[p.1 - k]? = some p.2
 | [],k,p,h => by simp [getT] at h
 | t :: ts,k,p,h => by
  simp only [getT] at h
  split at h
  ·injection h with h; subst h; simp
  ·obtain ⟨h1,h2⟩ := getT_get h
   refine ⟨by omega,?_⟩
   obtain ⟨m,hm⟩ : ∃ m,p.1 - k = m + 1 := ⟨p.1 - k - 1,by omega⟩
   rw [hm,List.getElem?_cons_succ,← h2]
   congr 1; omega
theorem getT_mem {x : Tm} {l : List Tm} {k : Nat} {p : Nat × Tm} (h : getT x k l = some p) : p.2 ∈ l := List.mem_of_getElem? (getT_get h).2
def bndT (f : List Tm) (r : Tm) : Prop := ∀ x ∈ allT r,x.kind = 1 → getT x 0 f ≠ none
theorem bnd_kid {f : List Tm} {k : Int} {n : List UInt8} {s : Int} {ks : List Tm} (h : bndT f (.mk k n s ks)) {x : Tm} (hx : x ∈ ks) : bndT f x := fun y hy => h y (by
 simp only [allT]
 refine List.mem_cons_of_mem _ ?_
 clear h
 induction ks with
 | nil => cases hx
 | cons z zs ih =>
  simp only [allL,List.mem_append]
  rcases List.mem_cons.1 hx with rfl | hx
  ·exact .inl hy
  ·exact .inr (ih hx))
theorem put_loop (f : Fr) (t : Tm) (bs : List (List AV)) (hm : t.mass < 1000000) (ih : ∀ x ∈ t.kids,∀ bs : List (List AV),call F.tb 225 [.agg (encF f),.agg (encT x)] bs = some (.agg (encT (putT f.t x)),bs)) :
  ∀ (post pre us : List Tm) (ρ : Nat → AV),t.kids = pre ++ post → us.length = pre.length → ρ 2 = .bx (encF f) → ρ 4 = .bx [.int .i64 0,.str [],.int .i64 0,.sl true 4 []] →
   ρ 5 = .bx [.int .i64 t.kind,.str t.name,.int .i64 t.sort,.sl true 4 (encTs us)] → ρ 27 = .sl false 4 (encTs t.kids) → ρ 28 = .int .i64 t.kids.length → ρ 29 = .int .i64 pre.length →
  R F.tb (.loop F.f225l0) ρ bs (blockK 0 (seqK F.tb F.f225r0 (finK F.f225 bs))) = some (.agg (encT (.mk t.kind t.name t.sort (us ++ putL f.t post))),bs) := by
 have hme := mass_eq t
 intro post
 induction post with
 | nil =>
  intro pre us ρ hk hl h2 h4 h5 h27 h28 h29
  simp only [List.append_nil] at hk
  rw [← hk] at h29
  rw [R_loop' F.f225l0.eq_1]
  simp [h2,h4,h5,h27,h28,h29,F.f225r0,F.f225R,F.f225K,putL]
  simp [encT]
 | cons x post IH =>
  intro pre us ρ hk hl h2 h4 h5 h27 h28 h29
  have hg2 := get_pre hk
  have hll : t.kids.length = pre.length + (post.length + 1) := by rw [hk]; simp
  have hw1 : IntKind.i64.wrap ((pre.length : Int) + 1) = (pre.length : Int) + 1 := wrap64 (by omega) (by omega)
  have hlt : (pre.length : Int) < (t.kids.length : Int) := by omega
  have hc := ih x (by rw [hk]; simp) bs
  have hb : (us.length + 1) * 56 ≤ 140737488355328 := lim56 (by omega)
  have hi := fun ρ => IH (pre ++ [x]) (us ++ [putT f.t x]) ρ (by rw [hk]; simp) (by simp [hl])
  have e : us ++ putL f.t (x :: post) = us ++ [putT f.t x] ++ putL f.t post := by simp [putL]
  rw [R_loop' F.f225l0.eq_1,e]
  simp [h2,h4,h5,h27,h28,h29,hg2,hlt,hw1,hc,hb,encF_take,encF_strip,encF_len,encTs_one,encTs_append,-List.append_assoc]
  apply hi <;> simp [h2,h4,h27,h28]
theorem call225 (f : Fr) (hf : FOk f) : ∀ (r : Tm) (bs : List (List AV)),r.mass < 1000000 → bndT f.t r → call F.tb 225 [.agg (encF f),.agg (encT r)] bs = some (.agg (encT (putT f.t r)),bs) := by
 refine tm_ind (P := fun r => ∀ (bs : List (List AV)),r.mass < 1000000 → bndT f.t r → call F.tb 225 [.agg (encF f),.agg (encT r)] bs = some (.agg (encT (putT f.t r)),bs)) ?_
 intro k n s ks ih bs hm hb
 have hme := mass_eq (.mk k n s ks)
 simp only [mk_kids,mk_name] at hme
 rw [call_code F.tb_225 _ _ rfl]
 by_cases k1 : k = 1
 ·subst k1
  have h1 := call222 f hf (.mk 1 n s ks) (by unfold big; omega) bs
  obtain ⟨p,hp⟩ : ∃ p,getT (.mk 1 n s ks) 0 f.t = some p := by
   cases hx : getT (.mk 1 n s ks) 0 f.t with
   | none => exact absurd hx (hb _ (by simp [allT]) rfl)
   | some p => exact ⟨p,rfl⟩
  have hix : ixT (.mk 1 n s ks) 0 f.t = p.1 := by simp [ixT,hp]
  rw [hix] at h1
  have hg := (getT_get hp).2
  simp only [Nat.sub_zero] at hg
  have hlt := (List.getElem?_eq_some_iff.1 hg).1
  have h2 := call208 p.2 bs (by have := hf.t p.2 (getT_mem hp); unfold big; omega)
  have e : putT f.t (.mk 1 n s ks) = p.2 := by simp [putT,hp]
  rw [e]
  have hte : encF f = [.sl false 4 (encTs f.s),.sl false 4 (encTs f.t)] := rfl
  rw [hte] at h1 ⊢
  have hgi : (encTs f.t)[p.1]'(by rw [encTs_length]; exact hlt) = encT p.2 := by
   have h3 : (encTs f.t)[p.1]? = some (encT p.2) := by simp [hg]
   exact (List.getElem?_eq_some_iff.1 h3).2
  simp [F.f225B,F.f225C,F.f225R,F.f225K,h1,hg,hlt,h2,hgi]
 ·have hl := fun ρ => put_loop f (.mk k n s ks) bs hm (fun x hx bs => ih x hx bs (by have h1 : x.mass ≤ massL ks := massL_mem hx; omega) (bnd_kid hb hx)) ks [] [] ρ rfl rfl
  have e : putT f.t (.mk k n s ks) = .mk k n s ([] ++ putL f.t ks) := by simp [putT,k1]
  rw [e]
  simp only [mk_name,mk_kids,mk_kind,mk_sort] at hl
  simp [F.f225B,F.f225C,k1]
  apply hl <;> simp [encTs,encF_strip]
theorem any_loop (l : List Tm) (g : Nat) (cs : List AV) (p : Tm → Bool) (bs : List (List AV)) (hl : l.length < 1000000) (hcs : ∀ x ∈ cs,x.ok = true) (hp : ∀ x ∈ l,call F.tb g (.agg (encT x) :: cs) bs = some (.bool (p x),bs)) :
  ∀ (post pre : List Tm) (o : Bool) (ρ : Nat → AV),l = pre ++ post → pre.any p = false → ρ 0 = .sl o 4 (encTs l) → ρ 1 = .fn g cs → ρ 7 = .int .i64 l.length → ρ 8 = .int .i64 pre.length →
  IxOk (l.any p) bs (R F.tb (.loop F.f215l0) ρ bs (blockK 0 (seqK F.tb F.f215r0 (finK F.f215 bs)))) := by
 intro post
 induction post with
 | nil =>
  intro pre o ρ hk hpp h0 h1 h7 h8
  simp only [List.append_nil] at hk
  rw [← hk] at h8 hpp
  rw [R_loop' F.f215l0.eq_1]
  refine ⟨-1,?_,by rw [hpp]; simp⟩
  simp [h0,h1,h7,h8,F.f215r0,F.f215R,F.f215K]
 | cons x post IH =>
  intro pre o ρ hk hpp h0 h1 h7 h8
  have hgt := get_pre hk
  have hll : l.length = pre.length + (post.length + 1) := by rw [hk]; simp
  have hw1 : IntKind.i64.wrap ((pre.length : Int) + 1) = (pre.length : Int) + 1 := wrap64 (by omega) (by omega)
  have hlt : (pre.length : Int) < (l.length : Int) := by omega
  have hcall := hp x (by rw [hk]; simp)
  have hcs2 : (∀ (x : AV),x ∈ cs → x.ok = true) = True := eq_true hcs
  have ih := fun ρ hpp => IH (pre ++ [x]) o ρ (by rw [hk]; simp) hpp
  rw [R_loop' F.f215l0.eq_1]
  cases ho : p x
  ·have ih2 := fun ρ => ih ρ (by rw [List.any_append,hpp]; simp [ho])
   simp [h0,h1,h7,h8,hlt,hgt,hw1,hcall,hcs2,ho,-List.any_eq_false,-List.any_eq_true]
   apply ih2 <;> simp [h0,h1,h7]
  ·have hany : l.any p = true := List.any_eq_true.2 ⟨x,by rw [hk]; simp,ho⟩
   refine ⟨pre.length,?_,by rw [hany]; simp⟩
   simp [h0,h1,h7,h8,hlt,hgt,hcall,hcs2,ho,F.f215R,F.f215K]
theorem call214g (l : List Tm) (g : Nat) (cs : List AV) (p : Tm → Bool) (o : Bool) (bs : List (List AV)) (hl : l.length < 1000000) (hcs : ∀ x ∈ cs,x.ok = true) (hp : ∀ x ∈ l,call F.tb g (.agg (encT x) :: cs) bs = some (.bool (p x),bs)) :
  call F.tb 214 [.sl o 4 (encTs l),.fn g cs] bs = some (.bool (l.any p),bs) := by
 have h1 := fun ρ => any_loop l g cs p bs hl hcs hp l [] false ρ rfl rfl
 have hcs2 : (∀ (x : AV),x ∈ cs → x.ok = true) = True := eq_true hcs
 have h2 : IxOk (l.any p) bs (call F.tb 215 [.sl false 4 (encTs l),.fn g cs] bs) := by
  rw [call_code F.tb_215 _ _ rfl]
  simp [F.f215B,F.f215C,hcs2,-List.any_eq_false,-List.any_eq_true]
  apply h1 <;> simp
 obtain ⟨i,hi,hb⟩ := h2
 rw [call_code F.tb_214 _ _ rfl]
 simp [F.f214B,F.f214C,hi,hcs2,F.f214R,F.f214K,-List.any_eq_false,-List.any_eq_true]
 cases hx : l.any p
 ·rw [hx] at hb; simp at hb; simpa using hb
 ·rw [hx] at hb; simp at hb; simpa using hb
theorem call227 (n : List UInt8) (bs : List (List AV)) : call F.tb 227 [.str n] bs = some (.bool (destN n),bs) := by
 rw [call_code F.tb_227 _ _ rfl]
 by_cases c1 : n = FST
 ·simp [F.f227B,F.f227C,F.f227R,F.f227K,destN,FST,SND,DEC,ADEC,OPEN,READ,c1]
 ·by_cases c2 : n = SND
  ·simp [F.f227B,F.f227C,F.f227R,F.f227K,destN,FST,SND,DEC,ADEC,OPEN,READ,c2]
  ·by_cases c3 : n = DEC
   ·simp [F.f227B,F.f227C,F.f227R,F.f227K,destN,FST,SND,DEC,ADEC,OPEN,READ,c3]
   ·by_cases c4 : n = ADEC
    ·simp [F.f227B,F.f227C,F.f227R,F.f227K,destN,FST,SND,DEC,ADEC,OPEN,READ,c4]
    ·by_cases c5 : n = OPEN
     ·simp [F.f227B,F.f227C,F.f227R,F.f227K,destN,FST,SND,DEC,ADEC,OPEN,READ,c5]
     ·by_cases c6 : n = READ
      ·simp [F.f227B,F.f227C,F.f227R,F.f227K,destN,FST,SND,DEC,ADEC,OPEN,READ,c6]
      ·simp only [FST,SND,DEC,ADEC,OPEN,READ] at c1 c2 c3 c4 c5 c6
       simp [F.f227B,F.f227C,F.f227R,F.f227K,destN,FST,SND,DEC,ADEC,OPEN,READ,c1,c2,c3,c4,c5,c6,Bool.or_assoc]
theorem evL_any : ∀ l : List Tm,(l.any fun x => !evT x) = !evL l
 | [] => rfl
 | t :: ts => by simp only [List.any_cons,evL,evL_any ts,Bool.not_and]
theorem call226 : ∀ (t : Tm) (bs : List (List AV)),t.mass < 1000000 → call F.tb 226 [.agg (encT t)] bs = some (.bool (!evT t),bs) := by
 refine tm_ind ?_
 intro k n s ks ih bs hm
 have hme := mass_eq (.mk k n s ks)
 simp only [mk_kids,mk_name] at hme
 have h1 := call227 n bs
 have h2 := fun o => call214g ks 226 [] (fun x => !evT x) o bs (by omega) (by simp) (fun x hx => ih x hx bs (by have h1 : x.mass ≤ massL ks := massL_mem hx; omega))
 rw [evL_any] at h2
 rw [call_code F.tb_226 _ _ rfl,evT_eq]
 simp only [mk_kids]
 by_cases hk : k = 3
 ·cases hd : destN n
  ·have e : ndN (.mk k n s ks) = true := by simp [ndN,hd]
   rw [e]
   simp [F.f226B,F.f226C,F.f226R,F.f226K,hk,hd,h1,h2]
  ·have e : ndN (.mk k n s ks) = false := by simp [ndN,hd,hk]
   rw [e]
   simp [F.f226B,F.f226C,F.f226R,F.f226K,hk,hd,h1]
 ·have e : ndN (.mk k n s ks) = true := by simp [ndN,hk]
  rw [e]
  simp [F.f226B,F.f226C,F.f226R,F.f226K,hk,h2]
def valT (f : Fr) (r : Tm) : Tm × Int :=
 if rigT f r ≠ 0 then (zeroT,rigT f r) else if (normV (putT f.t r)).2 ≠ 0 then (zeroT,(normV (putT f.t r)).2) else if evT (normV (putT f.t r)).1 then ((normV (putT f.t r)).1,0) else (zeroT,11)
mutual
theorem put_mass {f : List Tm} {M : Nat} (hf : ∀ x ∈ f,x.mass ≤ M) : ∀ r : Tm,(putT f r).mass ≤ r.mass + M * r.nodes
 | .mk k n s ks => by
  simp only [putT]
  split
  ·split
   ·rename_i p hp
    have := hf p.2 (getT_mem hp)
    simp only [Tm.nodes,Nat.mul_add,Nat.mul_one]; omega
   ·simp only [Tm.mass,Tm.nodes]; omega
  ·have := putL_mass hf ks
   simp only [Tm.mass,Tm.nodes,putL_len,Nat.mul_add]; omega
theorem putL_mass {f : List Tm} {M : Nat} (hf : ∀ x ∈ f,x.mass ≤ M) : ∀ l : List Tm,massL (putL f l) ≤ massL l + M * nodesL l
 | [] => by simp [putL,massL]
 | t :: ts => by
  have h1 := put_mass hf t
  have h2 := putL_mass hf ts
  simp only [putL,massL,nodesL,Nat.mul_add]; omega
end
theorem frE_bnd {f a : List Tm} : ∀ {l : List Tm},frE f a l = 0 → ∀ x ∈ l,nodF f a x = 0
 | [],_,x,hx => by cases hx
 | y :: l,h,x,hx => by
  simp only [frE] at h
  by_cases c : nodF f a y = 0
  ·rw [if_neg (by simpa using c)] at h
   rcases List.mem_cons.1 hx with rfl | hx
   ·exact c
   ·exact frE_bnd h x hx
  ·rw [if_pos c] at h
   exact absurd h c
theorem rig_bnd {f : Fr} {r : Tm} (h : rigT f r = 0) : validF f = 0 ∧ thV r = 0 ∧ frE f.t (freeT f) (allT r) = 0 ∧ bndT f.t r := by
 unfold rigT at h
 by_cases c1 : validF f = 0
 ·rw [if_neg (by simpa using c1)] at h
  by_cases c2 : thV r = 0
  ·rw [if_neg (by simpa using c2)] at h
   refine ⟨c1,c2,h,fun x hx hk => ?_⟩
   have h3 := frE_bnd h x hx
   simp only [nodF,hk,if_true] at h3
   intro e
   simp [ixT,e] at h3
  ·rw [if_pos c2] at h; exact absurd h c2
 ·rw [if_pos c1] at h; exact absurd h c1
theorem call219 (f : Fr) (hf : FOk f) (hM : massL f.t < 1000000) (r : Tm) (hr : r.mass < 1000000) (bs : List (List AV)) : call F.tb 219 [.agg (encF f),.agg (encT r)] bs = some (encR (valT f r),bs) := by
 have h1 := call220 f hf hM r hr bs
 have hte : encF f = [.sl false 4 (encTs f.s),.sl false 4 (encTs f.t)] := rfl
 rw [call_code F.tb_219 _ _ rfl]
 by_cases c1 : rigT f r = 0
 ·obtain ⟨v1,v2,v3,v4⟩ := rig_bnd c1
  have h2 := call225 f hf r bs hr v4
  obtain ⟨t1,t2,t3,t4,t5⟩ := thV_inv v2
  have hpm := put_mass (f := f.t) (M := 1000000) (fun x hx => by have := hf.t x hx; omega) r
  have h3 := call174 (putT f.t r) bs (by have : 1000000 * r.nodes ≤ 1000000 * 400 := Nat.mul_le_mul_left _ t5; unfold big; omega)
  have hnm := normV_mass (putT f.t r)
  have h4 := call226 (normV (putT f.t r)).1 bs (by omega)
  simp only [encR] at h3
  by_cases c2 : (normV (putT f.t r)).2 = 0
  ·cases c3 : evT (normV (putT f.t r)).1
   ·have e : valT f r = (zeroT,11) := by simp [valT,c1,c2,c3]
    rw [e]
    simp [F.f219B,F.f219C,F.f219R,F.f219K,encF_take,encF_strip,encF_len,h1,h2,h3,h4,c1,c2,c3,encR_mk,encT_zero]
   ·have e : valT f r = ((normV (putT f.t r)).1,0) := by simp [valT,c1,c2,c3]
    rw [e]
    simp [F.f219B,F.f219C,F.f219R,F.f219K,encF_take,encF_strip,encF_len,h1,h2,h3,h4,c1,c2,c3,encR_mk]
  ·have e : valT f r = (zeroT,(normV (putT f.t r)).2) := by simp [valT,c1,c2]
   rw [e]
   simp [F.f219B,F.f219C,F.f219R,F.f219K,encF_take,encF_strip,encF_len,h1,h2,h3,c1,c2,encR_mk,encT_zero]
 ·have e : valT f r = (zeroT,rigT f r) := by simp [valT,c1]
  rw [e]
  simp [F.f219B,F.f219C,F.f219R,F.f219K,encF_take,encF_strip,encF_len,h1,c1,encR_mk,encT_zero]
end Go.Am
namespace Go.Am
set_option maxRecDepth 8000
theorem call271 : ∀ (n : Nat) (bs : List (List AV)),n < 1000000000000 → call F.tb 271 [.int .i64 n] bs = some (.str (decN n),bs) := by
 intro n
 induction n using Nat.strongRecOn with
 | ind n ih =>
  intro bs hn
  rw [call_code F.tb_271 _ _ rfl]
  by_cases h : n < 10
  ·have e1 : ((n : Int) < 10) := by omega
   have e2 : IntKind.i64.wrap ((n : Int) + 1) = (n : Int) + 1 := wrap64 (by omega) (by omega)
   have e3 : 0 ≤ (n : Int) + 1 ∧ (n : Int) + 1 ≤ 10 := by omega
   have e4 : ((n : Int) + 1).toNat = n + 1 := by omega
   have hd := digit_at h
   simp [F.f271,F.f271C,e1,e2,e3,e4,decN_small h]
   simpa using hd
  ·have e1 : ¬ ((n : Int) < 10) := by omega
   have e2 : IntKind.i64.wrap ((n : Int) / 10) = (n : Int) / 10 := wrap64 (by omega) (by omega)
   have i1 : ∀ bs,call F.tb 271 [.int .i64 ((n : Int) / 10)] bs = some (.str (decN (n / 10)),bs) := fun bs => by
    have := ih (n / 10) (by omega) bs (by omega); simpa using this
   have i2 : ∀ bs,call F.tb 271 [.int .i64 ((n : Int) % 10)] bs = some (.str (decN (n % 10)),bs) := fun bs => by
    have := ih (n % 10) (by omega) bs (by omega); simpa using this
   have hl := decN_len (n / 10)
   have hl2 : (decN (n / 10)).length + 1 ≤ 9223372036854775807 := by omega
   have e3 : (n : Int).tmod 10 = (n : Int) % 10 := Int.tmod_eq_emod_of_nonneg (by omega)
   rw [decN_small (show n % 10 < 10 by omega)] at i2
   simp [F.f271,F.f271C,e1,e2,e3,decN_large h,i1,i2,hl2]
theorem call272 (n : List UInt8) (s : Int) (bs : List (List AV)) : call F.tb 272 [.str n,.int .i64 s] bs = some (.agg (encT (.mk 1 n s [])),bs) := by
 rw [call_code F.tb_272 _ _ rfl]
 simp [F.f272,F.f272C,encT_fold0]
theorem call270 (i : Nat) (bs : List (List AV)) (h : i < 1000000000) : call F.tb 270 [.int .i64 i] bs = some (.agg (encT (hndT i)),bs) := by
 have h1 := call271 i bs (by omega)
 have h4 := decN_len10 9 i (by omega)
 have h3 : 1 + (decN i).length ≤ 9223372036854775807 := by omega
 have h2 := call272 (119 :: decN i) 0 bs
 rw [call_code F.tb_270 _ _ rfl]
 simp [F.f270B,F.f270C,F.f270R,F.f270K,h1,h2,h3,hndT]
def hbs : Nat → List Tm → List (List AV)
 | _,[] => []
 | k,t :: ts => (encT (hndT k) ++ encT t) :: hbs (k + 1) ts
theorem hbs_len : ∀ (l : List Tm) (k : Nat),(hbs k l).length = l.length
 | [],_ => rfl
 | t :: ts,k => by simp [hbs,hbs_len ts]
theorem hbs_gp : ∀ (l : List Tm) (k : Nat),gpfreeE (hbs k l) = true
 | [],_ => rfl
 | t :: ts,k => by simp [hbs,gpfreeE,hbs_gp ts,encT_eq]
theorem hbs_app : ∀ (l : List Tm) (k : Nat) (x : Tm),hbs k (l ++ [x]) = hbs k l ++ [encT (hndT (k + l.length)) ++ encT x]
 | [],k,x => by simp [hbs]
 | t :: ts,k,x => by
  simp only [List.cons_append,hbs,hbs_app ts,List.length_cons]
  rw [show k + 1 + ts.length = k + (ts.length + 1) by omega]
theorem hbs_get : ∀ {l : List Tm} {k i : Nat} {x : Tm},l[i]? = some x → (hbs k l)[i]? = some (encT (hndT (k + i)) ++ encT x)
 | [],_,_,_,h => by simp at h
 | t :: ts,k,0,x,h => by simp at h; subst h; simp [hbs]
 | t :: ts,k,i + 1,x,h => by
  simp only [List.getElem?_cons_succ] at h
  simp only [hbs,List.getElem?_cons_succ]
  rw [hbs_get h,show k + 1 + i = k + (i + 1) by omega]
theorem handles_loop (f : Fr) (hf : FOk f) (bs : List (List AV)) :
  ∀ (post pre : List Tm) (ρ : Nat → AV),f.t = pre ++ post → ρ 1 = .bx (encF f) → ρ 3 = .sl true 8 (hbs 0 pre) → ρ 4 = .int .i64 pre.length →
  R F.tb (.loop F.f269l0) ρ bs (blockK 0 (seqK F.tb F.f269r0 (finK F.f269 bs))) = some (.sl false 8 (hbs 0 f.t),bs) := by
 have htl := hf.tl
 have hte : encF f = [.sl false 4 (encTs f.s),.sl false 4 (encTs f.t)] := rfl
 intro post
 induction post with
 | nil =>
  intro pre ρ hk h1 h3 h4
  simp only [List.append_nil] at hk
  rw [← hk] at h3 h4
  rw [R_loop' F.f269l0.eq_1]
  simp [h1,h3,h4,hte,F.f269r0,F.f269R,F.f269K,hbs_gp]
 | cons x post IH =>
  intro pre ρ hk h1 h3 h4
  have hg := get_pre hk
  have hll : f.t.length = pre.length + (post.length + 1) := by rw [hk]; simp
  have hw1 : IntKind.i64.wrap ((pre.length : Int) + 1) = (pre.length : Int) + 1 := wrap64 (by omega) (by omega)
  have hlt : (pre.length : Int) < (f.t.length : Int) := by omega
  have hc := call270 pre.length bs (by omega)
  have hb : (pre.length + 1) * 112 ≤ 140737488355328 := by clear hw1; omega
  have hi := fun ρ => IH (pre ++ [x]) ρ (by rw [hk]; simp)
  simp only [hbs_app,Nat.zero_add] at hi
  rw [R_loop' F.f269l0.eq_1]
  simp [h1,h3,h4,hte,hg,hlt,hw1,hc,hb,hbs_len]
  apply hi <;> simp [h1,hte]
theorem call269 (f : Fr) (hf : FOk f) (bs : List (List AV)) : call F.tb 269 [.agg (encF f)] bs = some (.sl false 8 (hbs 0 f.t),bs) := by
 have h := fun ρ => handles_loop f hf bs f.t [] ρ rfl
 rw [call_code F.tb_269 _ _ rfl]
 simp [F.f269B,F.f269C,encF_take,encF_strip,encF_len]
 apply h <;> simp [hbs]
def getV (x : Tm) (k : Nat) (l : List Tm) : Tm := match getT x k l with
 | some p => p.2
 | none => x
theorem getV_cons (x t : Tm) (k : Nat) (ts : List Tm) : getV x k (t :: ts) = if cmpT (hndT k) x = 0 then t else getV x (k + 1) ts := by
 simp only [getV,getT]
 by_cases c : cmpT (hndT k) x = 0
 ·simp [c]
 ·simp [c]
theorem Get_loop (l : List Tm) (hl : l.length < 1000000) (x : Tm) (hx : x.mass < big) (bs : List (List AV)) :
  ∀ (post pre : List Tm) (o : Bool) (ρ : Nat → AV),l = pre ++ post → ρ 0 = .sl o 8 (hbs 0 l) → ρ 3 = .bx (encT x) → ρ 4 = .bx [.int .i64 0,.str [],.int .i64 0,.sl true 4 []] → ρ 5 = .int .i64 pre.length →
  R F.tb (.loop F.f273l0) ρ bs (blockK 0 (seqK F.tb F.f273r0 (finK F.f273 bs))) = some (.agg (encT (getV x pre.length post)),bs) := by
 intro post
 induction post with
 | nil =>
  intro pre o ρ hk h0 h3 h4 h5
  simp only [List.append_nil] at hk
  rw [← hk] at h5
  have e : getV x pre.length [] = x := rfl
  rw [R_loop' F.f273l0.eq_1,e]
  simp [h0,h3,h4,h5,hbs_len,F.f273r0,F.f273R,F.f273K]
 | cons y post IH =>
  intro pre o ρ hk h0 h3 h4 h5
  have hg := hbs_get (k := 0) (get_pre hk)
  simp only [Nat.zero_add] at hg
  have hll : l.length = pre.length + (post.length + 1) := by rw [hk]; simp
  have hw1 : IntKind.i64.wrap ((pre.length : Int) + 1) = (pre.length : Int) + 1 := wrap64 (by omega) (by omega)
  have hlt : (pre.length : Int) < (l.length : Int) := by omega
  have hc := call_RSame (hndT pre.length) x bs (by have := hndT_mass pre.length (by omega); unfold big; omega) hx
  rw [R_loop' F.f273l0.eq_1,getV_cons]
  by_cases c : cmpT (hndT pre.length) x = 0
  ·simp [h0,h3,h4,h5,hg,hlt,hbs_len,hc,c,F.f273R,F.f273K]
  ·have hi := fun ρ => IH (pre ++ [y]) o ρ (by rw [hk]; simp)
   simp only [List.length_append,List.length_singleton] at hi
   simp [h0,h3,h4,h5,hg,hlt,hw1,hbs_len,hc,c]
   apply hi <;> simp [h0,h3,h4]
theorem call273 (l : List Tm) (hl : l.length < 1000000) (x : Tm) (hx : x.mass < big) (o : Bool) (bs : List (List AV)) : call F.tb 273 [.sl o 8 (hbs 0 l),.agg (encT x)] bs = some (.agg (encT (getV x 0 l)),bs) := by
 have h := fun ρ => Get_loop l hl x hx bs l [] false ρ rfl
 simp only [List.length_nil] at h
 rw [call_code F.tb_273 _ _ rfl]
 simp [F.f273B,F.f273C]
 apply h <;> simp
theorem Put_loop (f : List Tm) (t : Tm) (bs : List (List AV)) (hm : t.mass < 1000000) (ih : ∀ x ∈ t.kids,∀ (o : Bool) (bs : List (List AV)),call F.tb 274 [.sl o 8 (hbs 0 f),.agg (encT x)] bs = some (.agg (encT (putT f x)),bs)) :
  ∀ (post pre us : List Tm) (o : Bool) (ρ : Nat → AV),t.kids = pre ++ post → us.length = pre.length → ρ 0 = .sl o 8 (hbs 0 f) → ρ 3 = .bx (encT t) → ρ 4 = .bx [.int .i64 0,.str [],.int .i64 0,.sl true 4 []] →
   ρ 5 = .bx [.int .i64 t.kind,.str t.name,.int .i64 t.sort,.sl true 4 (encTs us)] → ρ 6 = .int .i64 pre.length →
  R F.tb (.loop F.f274l0) ρ bs (blockK 0 (seqK F.tb F.f274r0 (finK F.f274 bs))) = some (.agg (encT (.mk t.kind t.name t.sort (us ++ putL f post))),bs) := by
 have hme := mass_eq t
 intro post
 induction post with
 | nil =>
  intro pre us o ρ hk hl h0 h3 h4 h5 h6
  simp only [List.append_nil] at hk
  rw [← hk] at h6
  rw [R_loop' F.f274l0.eq_1]
  simp [h0,h3,h4,h5,h6,F.f274r0,F.f274R,F.f274K,putL]
  simp [encT]
 | cons x post IH =>
  intro pre us o ρ hk hl h0 h3 h4 h5 h6
  have hg2 := get_pre hk
  have hll : t.kids.length = pre.length + (post.length + 1) := by rw [hk]; simp
  have hw1 : IntKind.i64.wrap ((pre.length : Int) + 1) = (pre.length : Int) + 1 := wrap64 (by omega) (by omega)
  have hlt : (pre.length : Int) < (t.kids.length : Int) := by omega
  have hc := fun o => ih x (by rw [hk]; simp) o bs
  have hb : (us.length + 1) * 56 ≤ 140737488355328 := lim56 (by omega)
  have hi := fun ρ => IH (pre ++ [x]) (us ++ [putT f x]) o ρ (by rw [hk]; simp) (by simp [hl])
  have e : us ++ putL f (x :: post) = us ++ [putT f x] ++ putL f post := by simp [putL]
  rw [R_loop' F.f274l0.eq_1,e]
  simp [h0,h3,h4,h5,h6,hg2,hlt,hw1,hc,hb,encTs_one,encTs_append,-List.append_assoc]
  apply hi <;> simp [h0,h3,h4]
theorem call274 (f : List Tm) (hf : f.length < 1000000) : ∀ (r : Tm) (o : Bool) (bs : List (List AV)),r.mass < 1000000 → call F.tb 274 [.sl o 8 (hbs 0 f),.agg (encT r)] bs = some (.agg (encT (putT f r)),bs) := by
 refine tm_ind (P := fun r => ∀ (o : Bool) (bs : List (List AV)),r.mass < 1000000 → call F.tb 274 [.sl o 8 (hbs 0 f),.agg (encT r)] bs = some (.agg (encT (putT f r)),bs)) ?_
 intro k n s ks ih o bs hm
 have hme := mass_eq (.mk k n s ks)
 simp only [mk_kids,mk_name] at hme
 rw [call_code F.tb_274 _ _ rfl]
 by_cases k1 : k = 1
 ·subst k1
  have h1 := fun o => call273 f hf (.mk 1 n s ks) (by unfold big; omega) o bs
  have e : putT f (.mk 1 n s ks) = getV (.mk 1 n s ks) 0 f := by simp only [putT,getV,if_true] <;> cases getT (Tm.mk 1 n s ks) 0 f <;> rfl
  rw [e]
  simp [F.f274B,F.f274C,F.f274R,F.f274K,h1]
 ·have hl := fun ρ => Put_loop f (.mk k n s ks) bs hm (fun x hx o bs => ih x hx o bs (by have h1 : x.mass ≤ massL ks := massL_mem hx; omega)) ks [] [] false ρ rfl rfl
  have e : putT f (.mk k n s ks) = .mk k n s ([] ++ putL f ks) := by simp [putT,k1]
  rw [e]
  simp only [mk_name,mk_kids,mk_kind,mk_sort] at hl
  simp [F.f274B,F.f274C,k1,encT_eq]
  apply hl <;> simp [encTs,encT_eq]
end Go.Am
