/-
  Rc46, Rc47.
-/
import Derived.Test.YteahheknpdcoeaaGreatDoorG24
set_option linter.unusedVariables false
set_option linter.unusedSimpArgs false
namespace Go.Am
set_option maxRecDepth 8000
def GP (f : Fr) (t : Tm) : Prop := ∀ y ∈ allT t,nodF f.t (freeT f) y = 0
theorem gp_mk {f : Fr} {n : List UInt8} {ks : List Tm} (hn : privN n = false) (h : ∀ x ∈ ks,GP f x) : GP f (.mk 3 n 0 ks) := by
 intro y hy
 simp only [allT] at hy
 rcases List.mem_cons.1 hy with rfl | hy
 ·simp [nodF,hn]
 ·obtain ⟨t,ht,hyt⟩ := allL_mem.1 hy
  exact h t ht y hyt
theorem getT_some {l : List Tm} {i k : Nat} (h : i < l.length) : getT (hndT (k + i)) k l ≠ none := by
 induction l generalizing i k with
 | nil => simp at h
 | cons t ts ih =>
  simp only [getT]
  split
  ·simp
  ·rename_i c
   cases i with
   | zero => exact absurd (cmpT_refl _) (by simpa using c)
   | succ i =>
    have := ih (i := i) (k := k + 1) (by simpa using h)
    rwa [show k + 1 + i = k + (i + 1) by omega] at this
theorem gp_hnd {f : Fr} {i : Nat} (h : i < f.t.length) : GP f (hndT i) := by
 intro y hy
 simp only [hndT,allT,allL,List.mem_singleton] at hy
 subst hy
 have h1 := getT_some (k := 0) h
 rw [Nat.zero_add] at h1
 simp only [hndT] at h1
 cases h2 : getT (.mk 1 (119 :: decN i) 0 []) 0 f.t with
 | none => exact absurd h2 h1
 | some p =>
  have : ixT (.mk 1 (119 :: decN i) 0 []) 0 f.t = p.1 := by simp [ixT,h2]
  simp [nodF,this]
theorem gp_free {f : Fr} (he : ∀ t ∈ f.t,errT t = 0) {x : Tm} (hx : x ∈ freeT f) : GP f x := by
 obtain ⟨h1,h2,h3,h4⟩ := freeT_iff.1 hx
 obtain ⟨t,ht,hxt⟩ := allL_mem.1 h1
 obtain ⟨_,_,_,n4⟩ := nodeE_ok (err_nodes t (he t ht) x hxt)
 have hk := n4 (by omega)
 intro y hy
 have hyx : y = x := by
  cases x with
  | mk k n s ks =>
   simp only [mk_kids] at hk
   subst hk
   simpa [allT,allL] using hy
 subst hyx
 have ha : (freeT f).any (eqB y) = true := List.any_eq_true.2 ⟨y,hx,by simp [eqB,cmpT_refl]⟩
 simp [nodF,h2,ha,-List.any_eq_true]
def LfOk (f : Fr) (bs : List (List AV)) (r : Out) : Prop := ∃ t : Tm,r = some (.agg (encT t),bs) ∧ t.mass ≤ 13200 ∧ GP f t
theorem leaf_loop (f : Fr) (hf : MFr f) (n : Nat) (hn : n < 1000000) (bs : List (List AV)) :
  ∀ (post pre acc : List Tm) (ρ : Nat → AV),f.t = pre ++ post → acc.length ≤ 200000 + 2 * pre.length → acc ≠ [] → (∀ x ∈ acc,x.mass ≤ 13200 ∧ GP f x) → ρ 1 = .int .i64 n → ρ 2 = .bx (encF f) → ρ 4 = .bx [.int .i64 0,.str [],.int .i64 0,.sl true 4 []] →
   ρ 5 = .sl true 4 (encTs acc) → ρ 6 = .int .i64 pre.length →
  LfOk f bs (R F.tb (.loop F.f290l0) ρ bs (blockK 0 (seqK F.tb F.f290r0 (finK F.f290 bs)))) := by
 have htl := hf.tl
 have hte : encF f = [.sl false 4 (encTs f.s),.sl false 4 (encTs f.t)] := rfl
 intro post
 induction post with
 | nil =>
  intro pre acc ρ hk ha hne hm h1 h2 h4 h5 h6
  simp only [List.append_nil] at hk
  rw [← hk] at h6
  have hp : 0 < acc.length := List.length_pos_iff.2 hne
  obtain ⟨k,hk1,hk2⟩ : ∃ k : Nat,((n : Int)).tmod (acc.length : Int) = (k : Int) ∧ k < acc.length := ⟨n % acc.length,by rw [Int.tmod_eq_emod_of_nonneg (by omega)]; exact (Int.natCast_emod n acc.length).symm,Nat.mod_lt _ hp⟩
  have hgi : (encTs acc)[k]'(by rw [encTs_length]; exact hk2) = encT (acc[k]'hk2) := by
   have h3 : (encTs acc)[k]? = some (encT (acc[k]'hk2)) := by simp [List.getElem?_eq_getElem hk2]
   exact (List.getElem?_eq_some_iff.1 h3).2
  obtain ⟨m1,m2⟩ := hm (acc[k]'hk2) (List.getElem_mem hk2)
  rw [R_loop' F.f290l0.eq_1]
  refine ⟨acc[k]'hk2,?_,m1,m2⟩
  generalize acc[k]'hk2 = X at *
  simp [h1,h2,h4,h5,h6,hte,hne,hk1,hk2,hgi,F.f290r0,F.f290R,F.f290K]
 | cons x post IH =>
  intro pre acc ρ hk ha hne hm h1 h2 h4 h5 h6
  have hll : f.t.length = pre.length + (post.length + 1) := by rw [hk]; simp
  have hw1 : IntKind.i64.wrap ((pre.length : Int) + 1) = (pre.length : Int) + 1 := wrap64 (by omega) (by omega)
  have hlt : (pre.length : Int) < (f.t.length : Int) := by omega
  have hc := call270 pre.length bs (by omega)
  have hb : (acc.length + 2) * 56 ≤ 140737488355328 := lim56 (by omega)
  have hmh := hndT_mass pre.length (by omega)
  have hi := fun ρ => IH (pre ++ [x]) (acc ++ [hndT pre.length,hndT pre.length]) ρ (by rw [hk]; simp) (by simp; omega) (by simp) (fun y hy => by
   rcases List.mem_append.1 hy with hy | hy
   ·exact hm y hy
   ·simp at hy; subst hy; exact ⟨by omega,gp_hnd (by omega)⟩)
  have e2 : [encT (hndT pre.length),encT (hndT pre.length)] = encTs [hndT pre.length,hndT pre.length] := by simp [encTs]
  rw [R_loop' F.f290l0.eq_1]
  simp [h1,h2,h4,h5,h6,hte,hlt,hw1,hc,hb,e2,encTs_append]
  apply hi <;> simp [h1,h2,h4,hte]
theorem call290 (f : Fr) (hf : MFr f) (n : Nat) (hn : n < 1000000) (bs : List (List AV)) : LfOk f bs (call F.tb 290 [.agg (encF f),.int .i64 n] bs) := by
 obtain ⟨f1,f2⟩ := mfr_ok hf
 have h1 := call_RAtom [97] 1 bs
 have h2 := call_RAtom [116] 5 bs
 have h3 := call264 f f1 (by omega) bs
 have hfl := freeT_len f
 have hnm := nodesL_le_mass f.t
 have hb : (2 + (freeT f).length) * 56 ≤ 140737488355328 := lim56 (by omega)
 have hl := fun ρ => leaf_loop f hf n hn bs f.t [] ([.mk 2 [97] 1 [],.mk 2 [116] 5 []] ++ freeT f) ρ rfl (by simp; omega) (by simp) (fun x hx => by
  rcases List.mem_append.1 hx with hx | hx
  ·have hp : ∀ y : Tm,y.kind = 2 → y.kids = [] → pubT y = true → GP f y := fun y h1 h2 h3 z hz => by
    cases y with
    | mk k n s ks =>
     simp only [mk_kids,mk_kind] at h1 h2
     subst h2
     subst h1
     simp only [allT,allL,List.mem_singleton] at hz
     subst hz
     simp [nodF,h3]
   simp only [List.mem_cons,List.mem_nil_iff,or_false] at hx
   rcases hx with rfl | rfl
   ·exact ⟨by decide,hp _ rfl rfl (by decide)⟩
   ·exact ⟨by decide,hp _ rfl rfl (by decide)⟩
  ·exact ⟨freeT_small hf.t x hx,gp_free hf.e hx⟩)
 rw [call_code F.tb_290 _ _ rfl]
 simp [F.f290B,F.f290C,encF_take,encF_strip,encF_len,h1,h2,h3,hb]
 apply hl <;> simp [encTs]
def gK : Nat → Nat
 | 0 => 1
 | j + 1 => 2 * gK j + 1
def gM : Nat → Nat
 | 0 => 13200
 | j + 1 => 2 * gM j + 20
theorem gK_pos : ∀ j,1 ≤ gK j
 | 0 => Nat.le_refl _
 | j + 1 => by simp only [gK]; omega
theorem gM_pos : ∀ j,13200 ≤ gM j
 | 0 => Nat.le_refl _
 | j + 1 => by have := gM_pos j; simp only [gM]; omega
def GrwOk (f : Fr) (bs : List (List AV)) (at_ K M : Nat) (r : Out) : Prop := ∃ (t : Tm) (m : Nat),r = some (.tup [.agg (encT t),.int .i64 m],bs) ∧ at_ ≤ m ∧ m ≤ at_ + K ∧ t.mass ≤ M ∧ GP f t
theorem grown_end (f : Fr) (hf : MFr f) (b : List Nat) (at_ d : Nat) (o : Bool) (bs : List (List AV)) (j : Nat) (hat : at_ < 1000) (hl : b.length ≤ at_) :
  GrwOk f bs at_ (gK j) (gM j) (call F.tb 289 [.agg (encF f),.sl o 1 (encB b),.int .i64 at_,.int .i64 d] bs) := by
 obtain ⟨t,h1,h2,h3⟩ := call290 f hf at_ (by omega) bs
 have hge : (b.length : Int) ≤ (at_ : Int) := by omega
 refine ⟨t,at_,?_,Nat.le_refl _,by omega,by have := gM_pos j; omega,h3⟩
 rw [call_code F.tb_289 _ _ rfl]
 simp [F.f289B,F.f289C,F.f289R,F.f289K,encF_take,encF_strip,encF_len,encB_len,hge,h1]
theorem grown_leaf (f : Fr) (hf : MFr f) (b : List Nat) (at_ c d : Nat) (o : Bool) (bs : List (List AV)) (j : Nat) (hat : at_ < 1000) (hb : b[at_]? = some c) (hc : c < 256) (h : 11 ≤ c % 16 ∨ 5 < d) :
  GrwOk f bs at_ (gK j) (gM j) (call F.tb 289 [.agg (encF f),.sl o 1 (encB b),.int .i64 at_,.int .i64 d] bs) := by
 have hl := (List.getElem?_eq_some_iff.1 hb).1
 have hg := encB_get hb
 have hlt : ¬ (b.length : Int) ≤ (at_ : Int) := by omega
 have hw : IntKind.i64.wrap (c : Int) = c := wrap64 (by omega) (by omega)
 have hw1 : IntKind.i64.wrap ((at_ : Int) + 1) = (at_ : Int) + 1 := wrap64 (by omega) (by omega)
 obtain ⟨q,hq,hq2⟩ : ∃ q : Nat,IntKind.i64.wrap ((c : Int) / 16) = (q : Int) ∧ q = c / 16 := ⟨c / 16,by rw [wrap64 (by omega) (by omega)]; omega,rfl⟩
 obtain ⟨t,h1,h2,h3⟩ := call290 f hf (q + c) (by omega) bs
 rw [Int.natCast_add] at h1
 have hw2 : IntKind.i64.wrap ((q : Int) + (c : Int)) = (q : Int) + (c : Int) := wrap64 (by omega) (by omega)
 obtain ⟨r,hr,hr2⟩ : ∃ r : Nat,((c : Int)).tmod 16 = (r : Int) ∧ r = c % 16 := ⟨c % 16,by rw [Int.tmod_eq_emod_of_nonneg (by omega)]; omega,rfl⟩
 have e5 : (5 < (d : Int)) = (5 < d) := propext (by omega)
 have e11 : (11 ≤ (r : Int)) = (11 ≤ r) := propext (by omega)
 refine ⟨t,at_ + 1,?_,by omega,by have := gK_pos j; omega,by have := gM_pos j; omega,h3⟩
 rw [call_code F.tb_289 _ _ rfl]
 by_cases c1 : 11 ≤ r
 ·simp [F.f289B,F.f289C,F.f289R,F.f289K,encF_take,encF_strip,encF_len,encB_len,hlt,hg,hw,hw1,hq,hw2,hr,e11,c1,h1]
 ·have c2 : 5 < d := by omega
  simp [F.f289B,F.f289C,F.f289R,F.f289K,encF_take,encF_strip,encF_len,encB_len,hlt,hg,hw,hw1,hq,hw2,hr,e11,e5,c1,c2,h1]
set_option maxHeartbeats 20000000 in
theorem grown_app (f : Fr) (hf : MFr f) (b : List Nat) (at_ c d : Nat) (o : Bool) (bs : List (List AV)) (j : Nat) (hat : at_ + gK (j + 1) ≤ 1000) (hb : b[at_]? = some c) (hc : c < 256) (h : c % 16 < 11) (hd : d ≤ 5)
  (ih : ∀ (a : Nat),a + gK j ≤ 1000 → GrwOk f bs a (gK j) (gM j) (call F.tb 289 [.agg (encF f),.sl false 1 (encB b),.int .i64 a,.int .i64 ((d : Int) + 1)] bs)) :
  GrwOk f bs at_ (gK (j + 1)) (gM (j + 1)) (call F.tb 289 [.agg (encF f),.sl o 1 (encB b),.int .i64 at_,.int .i64 d] bs) := by
 have hl := (List.getElem?_eq_some_iff.1 hb).1
 have hg := encB_get hb
 have hlt : ¬ (b.length : Int) ≤ (at_ : Int) := by omega
 have hw : IntKind.i64.wrap (c : Int) = c := wrap64 (by omega) (by omega)
 have hw1 : IntKind.i64.wrap ((at_ : Int) + 1) = (at_ : Int) + 1 := wrap64 (by omega) (by omega)
 have hw2 : IntKind.i64.wrap ((d : Int) + 1) = (d : Int) + 1 := wrap64 (by omega) (by omega)
 have e5 : (5 < (d : Int)) = False := by simp; omega
 have hr : ((c : Int)).tmod 16 = ((c % 16 : Nat) : Int) := by rw [Int.tmod_eq_emod_of_nonneg (by omega)]; omega
 generalize c % 16 = r at *
 simp only [gK] at hat
 obtain ⟨x,m1,a1,a2,a3,a4,a5⟩ := ih (at_ + 1) (by omega)
 obtain ⟨y,m2,b1,b2,b3,b4,b5⟩ := ih m1 (by omega)
 simp only [Int.natCast_add,Int.natCast_one] at a1
 have hA1 : ∀ n z o,call F.tb 120 [.str n,.sl o 4 [encT z]] bs = some (.agg (encT (.mk 3 n 0 [z])),bs) := fun n z o => call_RApp n [z] o bs (by simp)
 have hA2 : ∀ n z w o,call F.tb 120 [.str n,.sl o 4 [encT z,encT w]] bs = some (.agg (encT (.mk 3 n 0 [z,w])),bs) := fun n z w o => call_RApp n [z,w] o bs (by simp)
 have hone : ∀ n : List UInt8,n.length ≤ 10 → privN n = false → (∀ X,X = some (.tup [.agg (encT (.mk 3 n 0 [x])),.int .i64 m1],bs) → GrwOk f bs at_ (gK (j + 1)) (gM (j + 1)) X) := fun n hn hf X hX =>
  ⟨_,_,hX,by omega,by simp only [gK]; omega,by simp only [gM,Tm.mass,massL,List.length_cons,List.length_nil]; omega,gp_mk hf (by simp [a5])⟩
 have htwo : ∀ n : List UInt8,n.length ≤ 10 → privN n = false → (∀ X,X = some (.tup [.agg (encT (.mk 3 n 0 [x,y])),.int .i64 m2],bs) → GrwOk f bs at_ (gK (j + 1)) (gM (j + 1)) X) := fun n hn hf X hX =>
  ⟨_,_,hX,by omega,by simp only [gK]; omega,by simp only [gM,Tm.mass,massL,List.length_cons,List.length_nil]; omega,gp_mk hf (by simp [a5,b5])⟩
 have hpk : ∀ X,X = some (.tup [.agg (encT (.mk 3 OPEN 0 [x,.mk 3 PK 0 [y]])),.int .i64 m2],bs) → GrwOk f bs at_ (gK (j + 1)) (gM (j + 1)) X := fun X hX =>
  ⟨_,_,hX,by omega,by simp only [gK]; omega,by simp only [gM,Tm.mass,massL,List.length_cons,List.length_nil,OPEN,PK]; omega,gp_mk (by decide) (by
   intro z hz
   simp only [List.mem_cons,List.mem_nil_iff,or_false] at hz
   rcases hz with rfl | rfl
   ·exact a5
   ·exact gp_mk (by decide) (by simp [b5]))⟩
 rw [call_code F.tb_289 _ _ rfl]
 have hr11 : r = 0 ∨ r = 1 ∨ r = 2 ∨ r = 3 ∨ r = 4 ∨ r = 5 ∨ r = 6 ∨ r = 7 ∨ r = 8 ∨ r = 9 ∨ r = 10 := by omega
 clear h
 rcases hr11 with rfl | rfl | rfl | rfl | rfl | rfl | rfl | rfl | rfl | rfl | rfl
 ·refine htwo [112,97,105,114] (by simp) (by decide) _ ?_
  simp [F.f289B,F.f289C,F.f289R,F.f289K,encF_take,encF_strip,encF_len,encB_len,hlt,hg,hw,hw1,hw2,hr,e5,a1,b1,hA1,hA2,OPEN,PK]
 ·refine hone [102,115,116] (by simp) (by decide) _ ?_
  simp [F.f289B,F.f289C,F.f289R,F.f289K,encF_take,encF_strip,encF_len,encB_len,hlt,hg,hw,hw1,hw2,hr,e5,a1,b1,hA1,hA2,OPEN,PK]
 ·refine hone [115,110,100] (by simp) (by decide) _ ?_
  simp [F.f289B,F.f289C,F.f289R,F.f289K,encF_take,encF_strip,encF_len,encB_len,hlt,hg,hw,hw1,hw2,hr,e5,a1,b1,hA1,hA2,OPEN,PK]
 ·refine htwo [101,110,99] (by simp) (by decide) _ ?_
  simp [F.f289B,F.f289C,F.f289R,F.f289K,encF_take,encF_strip,encF_len,encB_len,hlt,hg,hw,hw1,hw2,hr,e5,a1,b1,hA1,hA2,OPEN,PK]
 ·refine htwo [100,101,99] (by simp) (by decide) _ ?_
  simp [F.f289B,F.f289C,F.f289R,F.f289K,encF_take,encF_strip,encF_len,encB_len,hlt,hg,hw,hw1,hw2,hr,e5,a1,b1,hA1,hA2,OPEN,PK]
 ·refine htwo [97,100,101,99] (by simp) (by decide) _ ?_
  simp [F.f289B,F.f289C,F.f289R,F.f289K,encF_take,encF_strip,encF_len,encB_len,hlt,hg,hw,hw1,hw2,hr,e5,a1,b1,hA1,hA2,OPEN,PK]
 ·refine hpk _ ?_
  simp [F.f289B,F.f289C,F.f289R,F.f289K,encF_take,encF_strip,encF_len,encB_len,hlt,hg,hw,hw1,hw2,hr,e5,a1,b1,hA1,hA2,OPEN,PK]
 ·refine hone [114,101,97,100] (by simp) (by decide) _ ?_
  simp [F.f289B,F.f289C,F.f289R,F.f289K,encF_take,encF_strip,encF_len,encB_len,hlt,hg,hw,hw1,hw2,hr,e5,a1,b1,hA1,hA2,OPEN,PK]
 ·refine hone [104,97,115,104] (by simp) (by decide) _ ?_
  simp [F.f289B,F.f289C,F.f289R,F.f289K,encF_take,encF_strip,encF_len,encB_len,hlt,hg,hw,hw1,hw2,hr,e5,a1,b1,hA1,hA2,OPEN,PK]
 ·refine htwo [120,111,114] (by simp) (by decide) _ ?_
  simp [F.f289B,F.f289C,F.f289R,F.f289K,encF_take,encF_strip,encF_len,encB_len,hlt,hg,hw,hw1,hw2,hr,e5,a1,b1,hA1,hA2,OPEN,PK]
 ·refine htwo [101,120,112] (by simp) (by decide) _ ?_
  simp [F.f289B,F.f289C,F.f289R,F.f289K,encF_take,encF_strip,encF_len,encB_len,hlt,hg,hw,hw1,hw2,hr,e5,a1,b1,hA1,hA2,OPEN,PK]
theorem call289 (f : Fr) (hf : MFr f) (b : List Nat) (hb : ∀ n ∈ b,n < 256) (bs : List (List AV)) : ∀ (j at_ d : Nat) (o : Bool),d + j = 6 → at_ + gK j ≤ 1000 →
  GrwOk f bs at_ (gK j) (gM j) (call F.tb 289 [.agg (encF f),.sl o 1 (encB b),.int .i64 at_,.int .i64 d] bs) := by
 intro j
 induction j with
 | zero =>
  intro at_ d o hd hat
  have := gK_pos 0
  rcases Nat.lt_or_ge at_ b.length with hl | hl
  ·exact grown_leaf f hf b at_ b[at_] d o bs 0 (by omega) (List.getElem?_eq_getElem hl) (hb _ (List.getElem_mem hl)) (.inr (by omega))
  ·exact grown_end f hf b at_ d o bs 0 (by omega) hl
 | succ j ih =>
  intro at_ d o hd hat
  have := gK_pos (j + 1)
  rcases Nat.lt_or_ge at_ b.length with hl | hl
  ·have h1 : b[at_]? = some b[at_] := List.getElem?_eq_getElem hl
   have h2 := hb _ (List.getElem_mem hl)
   by_cases h3 : b[at_] % 16 < 11
   ·exact grown_app f hf b at_ b[at_] d o bs j hat h1 h2 h3 (by omega) fun a ha => by
     have := ih a (d + 1) false (by omega) ha
     simpa using this
   ·exact grown_leaf f hf b at_ b[at_] d o bs (j + 1) (by omega) h1 h2 (.inl (by omega))
  ·exact grown_end f hf b at_ d o bs (j + 1) (by omega) hl
def GwOk (f : Fr) (bs : List (List AV)) (r : Out) : Prop := ∃ t : Tm,r = some (.agg (encT t),bs) ∧ t.mass < 1000000 ∧ GP f t
theorem call288 (f : Fr) (hf : MFr f) (b : List Nat) (hb : ∀ n ∈ b,n < 256) (hbl : b.length < 4611686018427387904) (o : Bool) (bs : List (List AV)) : GwOk f bs (call F.tb 288 [.agg (encF f),.sl o 1 (encB b)] bs) := by
 obtain ⟨n,hn,hn6,hnl⟩ : ∃ n : Nat,(if 12 < (b.length : Int) then (12 : Int) else (b.length : Int)) = (n : Int) ∧ n ≤ 12 ∧ n ≤ b.length := ⟨min b.length 12,by split <;> omega,by omega,by omega⟩
 have hll2 : (n : Int) ≤ (b.length : Int) := by omega
 have htk : (encB b).take n = encB (b.take n) := by simp [encB,List.map_take]
 obtain ⟨t,m,h1,h2,h3,h4,h5⟩ := call289 f hf (b.take n) (fun m hm => hb m (List.mem_of_mem_take hm)) bs 5 0 1 false rfl (by decide)
 have h1' : call F.tb 289 [.agg (encF f),.sl false 1 (encB (b.take n)),.int .i64 0,.int .i64 1] bs = some (.tup [.agg (encT t),.int .i64 m],bs) := h1
 have h4' : t.mass ≤ 423020 := h4
 refine ⟨t,?_,by omega,h5⟩
 rw [call_code F.tb_288 _ _ rfl]
 simp [F.f288B,F.f288C,F.f288R,F.f288K,encF_take,encF_strip,encF_len,encB_len,hn,hnl,hll2,htk,h1']
end Go.Am
namespace Go.Am
set_option maxRecDepth 8000
def addF (f : Fr) (t : Tm) : Fr := ⟨f.s,f.t ++ [t]⟩
def extE (f : Fr) (t : Tm) : Int := validF (addF f t)
def extF (f : Fr) (t : Tm) : Fr := if extE f t = 0 then addF f t else ⟨[],[]⟩
def encX (f : Fr) (t : Tm) : AV := .tup [.agg (encF (extF f t)),.int .i64 (extE f t)]
theorem ext_r0 (f : Fr) (t : Tm) (hx : FOk (addF f t)) (bs : List (List AV)) (ρ : Nat → AV) (h3 : ρ 3 = .bx (encT t)) (h4 : ρ 4 = .bx [.sl true 4 [],.sl true 4 []]) (h6 : ρ 6 = .bx [.sl true 4 (encTs f.s),.sl true 4 (encTs f.t)]) :
  R F.tb F.f285r0 ρ bs (finK F.f285 bs) = some (encX f t,bs) := by
 have htl := hx.tl
 have hxt : t ∈ (addF f t).t := by simp [addF]
 have htm := hx.t t hxt
 simp only [addF,List.length_append,List.length_singleton] at htl
 have h1 := call208 t bs (by unfold big; omega)
 have hb : (f.t.length + 1) * 56 ≤ 140737488355328 := lim56 (by omega)
 have h2 := call158 (addF f t) bs hx
 have e : encF (addF f t) = [.sl false 4 (encTs f.s),.sl false 4 (encTs (f.t ++ [t]))] := rfl
 have e0 : encF ⟨[],[]⟩ = [.sl false 4 [],.sl false 4 []] := rfl
 rw [e] at h2
 by_cases c : validF (addF f t) = 0
 ·have ex : encX f t = .tup [.agg [.sl false 4 (encTs f.s),.sl false 4 (encTs (f.t ++ [t]))],.int .i64 0] := by simp [encX,extF,extE,c,e]
  rw [ex]
  rw [c] at h2
  simp [F.f285r0,F.f285R,F.f285K,h3,h4,h6,h1,hb,encTs_one,encTs_append,h2]
 ·have ex : encX f t = .tup [.agg [.sl false 4 [],.sl false 4 []],.int .i64 (validF (addF f t))] := by simp [encX,extF,extE,c,e0]
  rw [ex]
  simp [F.f285r0,F.f285R,F.f285K,h3,h4,h6,h1,hb,encTs_one,encTs_append,h2,c]
theorem ext_l1 (f : Fr) (t : Tm) (hx : FOk (addF f t)) (bs : List (List AV)) :
  ∀ (post pre : List Tm) (ρ : Nat → AV),f.t = pre ++ post → ρ 3 = .bx (encT t) → ρ 4 = .bx [.sl true 4 [],.sl true 4 []] → ρ 6 = .bx [.sl true 4 (encTs f.s),.sl true 4 (encTs pre)] → ρ 28 = .sl false 4 (encTs f.t) → ρ 29 = .int .i64 f.t.length → ρ 30 = .int .i64 pre.length →
  R F.tb (.loop F.f285l1) ρ bs (blockK 2 (seqK F.tb F.f285r0 (finK F.f285 bs))) = some (encX f t,bs) := by
 have htl := hx.tl
 simp only [addF,List.length_append,List.length_singleton] at htl
 intro post
 induction post with
 | nil =>
  intro pre ρ hk h3 h4 h6 h28 h29 h30
  simp only [List.append_nil] at hk
  rw [← hk] at h6 h30
  have hr := fun ρ => ext_r0 f t hx bs ρ
  rw [R_loop' F.f285l1.eq_1]
  simp [h3,h4,h6,h28,h29,h30]
  apply hr <;> simp [h3,h4,h6]
 | cons x post IH =>
  intro pre ρ hk h3 h4 h6 h28 h29 h30
  have hg := get_pre hk
  have hll : f.t.length = pre.length + (post.length + 1) := by rw [hk]; simp
  have hw1 : IntKind.i64.wrap ((pre.length : Int) + 1) = (pre.length : Int) + 1 := wrap64 (by omega) (by omega)
  have hlt : (pre.length : Int) < (f.t.length : Int) := by omega
  have hxm := hx.t x (by simp [addF,hk])
  have hc := call208 x bs (by unfold big; omega)
  have hb : (pre.length + 1) * 56 ≤ 140737488355328 := lim56 (by omega)
  have hi := fun ρ => IH (pre ++ [x]) ρ (by rw [hk]; simp)
  rw [R_loop' F.f285l1.eq_1]
  simp [h3,h4,h6,h28,h29,h30,hg,hlt,hw1,hc,hb,encTs_one,encTs_append]
  apply hi <;> simp [h3,h4,h28,h29]
theorem ext_l0 (f : Fr) (t : Tm) (hx : FOk (addF f t)) (bs : List (List AV)) :
  ∀ (post pre : List Tm) (ρ : Nat → AV),f.s = pre ++ post → ρ 2 = .bx (encF f) → ρ 3 = .bx (encT t) → ρ 4 = .bx [.sl true 4 [],.sl true 4 []] → ρ 6 = .bx [.sl true 4 (encTs pre),.sl true 4 []] → ρ 13 = .sl false 4 (encTs f.s) → ρ 14 = .int .i64 f.s.length → ρ 15 = .int .i64 pre.length →
  R F.tb (.loop F.f285l0) ρ bs (blockK 0 (seqK F.tb F.f285r1 (finK F.f285 bs))) = some (encX f t,bs) := by
 have hsl := hx.sl
 have hte : encF f = [.sl false 4 (encTs f.s),.sl false 4 (encTs f.t)] := rfl
 simp only [addF] at hsl
 intro post
 induction post with
 | nil =>
  intro pre ρ hk h2 h3 h4 h6 h13 h14 h15
  simp only [List.append_nil] at hk
  rw [← hk] at h6 h15
  have hr := fun ρ => ext_l1 f t hx bs f.t [] ρ rfl
  rw [R_loop' F.f285l0.eq_1]
  simp [h2,h3,h4,h6,h13,h14,h15,F.f285r1,hte]
  apply hr <;> simp [h3,h4,h6,encTs]
 | cons x post IH =>
  intro pre ρ hk h2 h3 h4 h6 h13 h14 h15
  have hg := get_pre hk
  have hll : f.s.length = pre.length + (post.length + 1) := by rw [hk]; simp
  have hw1 : IntKind.i64.wrap ((pre.length : Int) + 1) = (pre.length : Int) + 1 := wrap64 (by omega) (by omega)
  have hlt : (pre.length : Int) < (f.s.length : Int) := by omega
  have hxm := hx.s x (by simp [addF,hk])
  have hc := call208 x bs (by unfold big; omega)
  have hb : (pre.length + 1) * 56 ≤ 140737488355328 := lim56 (by omega)
  have hi := fun ρ => IH (pre ++ [x]) ρ (by rw [hk]; simp)
  rw [R_loop' F.f285l0.eq_1]
  simp [h2,h3,h4,h6,h13,h14,h15,hg,hlt,hw1,hc,hb,encTs_one,encTs_append]
  apply hi <;> simp [h2,h3,h4,h13,h14]
theorem call285 (f : Fr) (t : Tm) (hx : FOk (addF f t)) (bs : List (List AV)) : call F.tb 285 [.agg (encF f),.agg (encT t)] bs = some (encX f t,bs) := by
 have hl := fun ρ => ext_l0 f t hx bs f.s [] ρ rfl
 have hte : encF f = [.sl false 4 (encTs f.s),.sl false 4 (encTs f.t)] := rfl
 rw [call_code F.tb_285 _ _ rfl]
 simp [F.f285B,F.f285C,encF_take,encF_strip,encF_len]
 simp [hte]
 apply hl <;> simp [encTs,hte]
theorem call286 (f : Fr) (t : Tm) (hx : FOk (addF f t)) (bs : List (List AV)) : call F.tb 286 [.agg (encF f),.agg (encT t)] bs = some (encX f t,bs) := by
 have htl := hx.tl
 have hsl := hx.sl
 simp only [addF,List.length_append,List.length_singleton] at htl hsl
 have hb : (f.t.length + 1) * 56 ≤ 140737488355328 := lim56 (by omega)
 have hb1 : f.t.length * 56 ≤ 140737488355328 := lim56 (by omega)
 have hb2 : f.s.length * 56 ≤ 140737488355328 := lim56 (by omega)
 have h2 := call230 (addF f t) bs hx
 have hte : encF f = [.sl false 4 (encTs f.s),.sl false 4 (encTs f.t)] := rfl
 have e : encF (addF f t) = [.sl false 4 (encTs f.s),.sl false 4 (encTs (f.t ++ [t]))] := rfl
 have e0 : encF ⟨[],[]⟩ = [.sl false 4 [],.sl false 4 []] := rfl
 rw [e] at h2
 rw [call_code F.tb_286 _ _ rfl]
 by_cases c : validF (addF f t) = 0
 ·have ex : encX f t = .tup [.agg [.sl false 4 (encTs f.s),.sl false 4 (encTs (f.t ++ [t]))],.int .i64 0] := by simp [encX,extF,extE,c,e]
  rw [ex]
  rw [c] at h2
  simp [F.f286B,F.f286C,F.f286R,F.f286K,hte,hb,hb1,hb2,encTs_one,encTs_append,h2]
 ·have ex : encX f t = .tup [.agg [.sl false 4 [],.sl false 4 []],.int .i64 (validF (addF f t))] := by simp [encX,extF,extE,c,e0]
  rw [ex]
  simp [F.f286B,F.f286C,F.f286R,F.f286K,hte,hb,hb1,hb2,encTs_one,encTs_append,h2,c]
theorem call287 (f : Fr) (hs : massL f.s < big) (hsl : f.s.length < 1000000000) (ht : massL f.t < big) (htl : f.t.length < 1000000000) (bs : List (List AV)) : call F.tb 287 [.agg (encF f),.agg (encF f)] bs = some (.bool true,bs) := by
 have h1 := fun o1 o2 => call_Lists_refl f.s bs o1 o2 hs (by omega)
 have h2 := fun o1 o2 => call_Lists_refl f.t bs o1 o2 ht (by omega)
 have hte : encF f = [.sl false 4 (encTs f.s),.sl false 4 (encTs f.t)] := rfl
 rw [call_code F.tb_287 _ _ rfl]
 simp [F.f287B,F.f287C,F.f287R,F.f287K,hte,h1,h2]
theorem getT_app {y t : Tm} : ∀ {l : List Tm} {k : Nat} {p : Nat × Tm},getT y k l = some p → getT y k (l ++ [t]) = some p
 | [],k,p,h => by simp [getT] at h
 | x :: l,k,p,h => by
  simp only [List.cons_append,getT] at h ⊢
  split
  ·rename_i c; rw [if_pos c] at h; exact h
  ·rename_i c; rw [if_neg c] at h; exact getT_app h
mutual
theorem put_ext {f : List Tm} {t : Tm} : ∀ r : Tm,bndT f r → putT (f ++ [t]) r = putT f r
 | .mk k n s ks,h => by
  simp only [putT]
  by_cases c : k = 1
  ·rw [if_pos c,if_pos c]
   cases h1 : getT (.mk k n s ks) 0 f with
   | none => exact absurd h1 (h _ (allT_self _) c)
   | some p => rw [getT_app h1]
  ·rw [if_neg c,if_neg c,putL_ext ks fun x hx => bnd_kid h hx]
theorem putL_ext {f : List Tm} {t : Tm} : ∀ l : List Tm,(∀ x ∈ l,bndT f x) → putL (f ++ [t]) l = putL f l
 | [],_ => rfl
 | x :: l,h => by simp only [putL,put_ext x (h x (by simp)),putL_ext l fun y hy => h y (by simp [hy])]
end
theorem trmE_app : ∀ {l m : List Tm},trmE (l ++ m) = 0 → trmE l = 0
 | [],m,_ => rfl
 | x :: l,m,h => by
  simp only [List.cons_append,trmE] at h ⊢
  by_cases c : rightTE x = 0
  ·rw [if_neg (by simpa using c)] at h ⊢; exact trmE_app h
  ·rw [if_pos c] at h; exact absurd h c
theorem valid_ext {f : Fr} {t : Tm} (h : validF (addF f t) = 0) : validF f = 0 := by
 change validF ⟨f.s,f.t ++ [t]⟩ = 0 at h
 unfold validF at h ⊢
 dsimp only at h
 split at h
 ·exact absurd h (by decide)
 ·rename_i c
  rw [List.length_append,List.length_singleton] at c
  rw [if_neg (by omega)]
  by_cases d : secE none f.s = 0
  ·rw [if_neg (by simpa using d)] at h ⊢; exact trmE_app h
  ·rw [if_pos d] at h; exact absurd h d
theorem gp_fr {f a : List Tm} : ∀ {l : List Tm},(∀ y ∈ l,nodF f a y = 0) → frE f a l = 0
 | [],_ => rfl
 | x :: l,h => by
  simp only [frE]
  rw [if_neg (by simpa using h x (by simp))]
  exact gp_fr fun y hy => h y (by simp [hy])
theorem gp_ext {f : Fr} {t r : Tm} (h : GP f r) : GP (addF f t) r := by
 intro y hy
 have h1 := h y hy
 unfold nodF at h1 ⊢
 by_cases k1 : y.kind = 1
 ·rw [if_pos k1] at h1 ⊢
  cases h2 : getT y 0 f.t with
  | none => simp [ixT,h2] at h1
  | some p =>
   have h3 : ixT y 0 (addF f t).t = p.1 := by simp [ixT,addF,getT_app h2]
   rw [h3,if_neg (by omega)]
 ·rw [if_neg k1] at h1 ⊢
  by_cases k2 : y.kind = 2
  ·rw [if_pos k2] at h1 ⊢
   by_cases c : pubT y = true
   ·rw [if_pos c]
   ·rw [if_neg c] at h1 ⊢
    by_cases d : (freeT f).any (eqB y) = true
    ·obtain ⟨z,hz,hzy⟩ := List.any_eq_true.1 d
     have hzy2 : z = y := cmpT_iff.1 (by simpa [eqB] using hzy)
     subst hzy2
     obtain ⟨g1,g2,g3⟩ := freeT_iff.1 hz
     have g4 : z ∈ freeT (addF f t) := freeT_iff.2 ⟨by
      obtain ⟨u,hu,hzu⟩ := allL_mem.1 g1
      exact allL_mem.2 ⟨u,by simp [addF,hu],hzu⟩,g2,g3⟩
     rw [if_pos (List.any_eq_true.2 ⟨z,g4,hzy⟩)]
    ·rw [if_neg d] at h1; exact absurd h1 (by decide)
  ·rw [if_neg k2] at h1 ⊢
   exact h1
theorem gp_bnd {f : Fr} {r : Tm} (h : GP f r) : bndT f.t r := fun x hx hk e => by
 have h1 := h x hx
 simp [nodF,hk,ixT,e] at h1
theorem val_ext {f : Fr} {t r : Tm} (hv : validF (addF f t) = 0) (h : GP f r) : valT (addF f t) r = valT f r := by
 have h1 := valid_ext hv
 have h2 : rigT (addF f t) r = rigT f r := by
  unfold rigT
  rw [hv,h1,gp_fr h,gp_fr (gp_ext h)]
 have h3 : putT (addF f t).t r = putT f.t r := put_ext r (gp_bnd h)
 unfold valT
 rw [h2,h3]
theorem law_RecipeExtend (d : Dr13) (hd : DOk d) (t : Tm) (b : List Nat) (hbl : b.length < 4611686018427387904) (hb : ∀ n ∈ b,n < 256) (h0 : call F.tb 151 [] [] = some (.bool true,[])) :
  call F.tb 279 [.agg (encD d),.agg (encT t),.sl false 1 (encB b)] [] = some (.bool true,[]) := by
 have h2 : ∀ o,call F.tb 101 [.sl o 4 [encT t],.int .i64 1,.int .i64 40] [] = some (.bool (few [t] 1 40),[]) := fun o => call_few [t] o 1 40 [] (by omega) (by omega) (by omega)
 have hds : (encD d).map AV.strip = encD d := rfl
 have hdl : (encD d).length = 3 := rfl
 have hdt : (encD d).take 3 = encD d := rfl
 rw [call_code F.tb_279 _ _ rfl]
 cases hr : few [t] 1 40
 ·rw [hr] at h2
  simp [F.f279B,F.f279C,F.f279R,F.f279K,hds,hdl,hdt,h0,h2]
 ·rw [hr] at h2
  obtain ⟨b1,b2,_⟩ := few_mass (by omega) hr
  simp only [massL] at b2
  obtain ⟨f,e1,hf⟩ := call280 d hd []
  obtain ⟨f1,f2⟩ := mfr_ok hf
  have hxo : FOk (addF f t) := ⟨f1.s,fun x hx => by
   simp only [addF] at hx
   rcases List.mem_append.1 hx with hx | hx
   ·exact f1.t x hx
   ·simp at hx; subst hx; omega,f1.sl,by have := hf.tl; simp [addF]; omega⟩
  have hsm : massL f.s < 1000000 := by
   have h1 := massL_le hf.s
   have h2 : f.s.length * 13200 ≤ 16 * 13200 := Nat.mul_le_mul_right _ hf.sl
   omega
  have hxm : massL (addF f t).t < 1000000 := by simp only [addF,massL_append,massL]; omega
  have e2 := call285 f t hxo []
  have e3 := call286 f t hxo []
  have htl := hf.tl
  have hsl := hf.sl
  have e4 : call F.tb 287 [.agg (encF (extF f t)),.agg (encF (extF f t))] [] = some (.bool true,[]) := by
   unfold extF
   split
   ·exact call287 _ (by simp only [addF]; unfold big; omega) (by simp only [addF]; omega) (by unfold big; omega) (by simp [addF]; omega) []
   ·exact call287 _ (by simp [massL,big]) (by simp) (by simp [massL,big]) (by simp) []
  obtain ⟨r,e5,e6,e7⟩ := call288 f hf b hb hbl false []
  have e8 := call219 f f1 (by omega) r e6 []
  simp only [encX] at e2 e3
  by_cases c : extE f t = 0
  ·have hx : extF f t = addF f t := by simp [extF,c]
   have e9 := call219 (addF f t) hxo hxm r e6 []
   rw [val_ext c e7] at e9
   rw [hx] at e2 e3 e4
   rw [c] at e2 e3
   have hv := valT_mass f r
   have h7 := call_RSame (valT f r).1 (valT f r).1 [] (by unfold big; omega) (by unfold big; omega)
   rw [cmpT_refl] at h7
   simp only [encR] at e8 e9
   generalize valT f r = V at *
   generalize addF f t = X at *
   simp [F.f279B,F.f279C,F.f279R,F.f279K,hds,hdl,hdt,encF_take,encF_strip,encF_len,h0,h2,e1,e2,e3,e4,e5,e8,e9,h7]
  ·generalize extF f t = X at *
   generalize extE f t = E at *
   simp [F.f279B,F.f279C,F.f279R,F.f279K,hds,hdl,hdt,encF_take,encF_strip,encF_len,h0,h2,e1,e2,e3,e4,c]
end Go.Am
