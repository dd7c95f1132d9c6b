/-
  Rc41, Rc42, Rc43, Rc44, Rc45.
-/
import Derived.Test.YteahheknpdcoeaaGreatDoorG23
set_option linter.unusedVariables false
set_option linter.unusedSimpArgs false
namespace Go.Am
set_option maxRecDepth 8000
theorem sym_priv : symL.all (fun y => (y.k == 2) == privN y.n) = true := by decide
theorem kind2 (n : List UInt8) : decide (kindN n = 2) = privN n := by
 unfold kindN
 cases h : findSy n symL with
 | none =>
  simp only
  cases hp : privN n
  ·rfl
  ·exfalso
   simp only [privN,Bool.or_eq_true,beq_iff_eq] at hp
   rcases hp with (rfl | rfl) | rfl <;> revert h <;> decide
 | some y =>
  obtain ⟨h1,h2⟩ := findSy_mem2 h
  have h3 := List.all_eq_true.1 sym_priv y h1
  simp only [beq_iff_eq] at h3
  rw [← h2,← h3]
  simp only
  by_cases c : y.k = 2
  ·simp [c]
  ·simp [c]
def nodR (f a : List Tm) (x : Tm) : Int := if x.kind = 3 then (if privN x.name then 10 else 0) else if x.kind = 1 then (if cmpT (getV x 0 f) x = 0 then 13 else 0) else if pubT x then 0 else if hasT a x then 0 else 13
def frR (f a : List Tm) : List Tm → Int
 | [] => 0
 | x :: xs => if nodR f a x ≠ 0 then nodR f a x else frR f a xs
theorem getV_mass {f : List Tm} {x : Tm} {M : Nat} (hf : ∀ y ∈ f,y.mass < M) (hx : x.mass < M) : (getV x 0 f).mass < M := by
 unfold getV
 split
 ·rename_i p hp; exact hf p.2 (getT_mem hp)
 ·exact hx
theorem Right_loop (f a l : List Tm) (bs : List (List AV)) (hf : f.length < 1000000) (hfm : ∀ x ∈ f,x.mass < 1000000) (ha : a.length < 1000000) (ham : ∀ x ∈ a,x.mass < 1000000) (hl : l.length < 1000000) (hm : ∀ x ∈ l,x.mass < 1000000) :
  ∀ (post pre : List Tm) (o1 o2 o3 : Bool) (ρ : Nat → AV),l = pre ++ post → ρ 7 = .sl o1 4 (encTs l) → ρ 8 = .sl o2 4 (encTs a) → ρ 9 = .sl o3 8 (hbs 0 f) → ρ 10 = .int .i64 pre.length →
  R F.tb (.loop F.f268l0) ρ bs (blockK 0 (seqK F.tb F.f268r0 (finK F.f268 bs))) = some (.int .i64 (frR f a post),bs) := by
 intro post
 induction post with
 | nil =>
  intro pre o1 o2 o3 ρ hk h7 h8 h9 h10
  simp only [List.append_nil] at hk
  rw [← hk] at h10
  rw [R_loop' F.f268l0.eq_1]
  simp [h7,h8,h9,h10,F.f268r0,F.f268R,F.f268K,frR]
 | cons x post IH =>
  intro pre o1 o2 o3 ρ hk h7 h8 h9 h10
  have hg := get_pre hk
  have hll : l.length = pre.length + (post.length + 1) := by rw [hk]; simp
  have hw1 : IntKind.i64.wrap ((pre.length : Int) + 1) = (pre.length : Int) + 1 := wrap64 (by omega) (by omega)
  have hlt : (pre.length : Int) < (l.length : Int) := by omega
  have hxm := hm x (by rw [hk]; simp)
  have hxb : x.mass < big := by unfold big; omega
  have hc1 := call128 x.name bs
  have hc2 := fun o => call273 f hf x hxb o bs
  have hc3 := call_RSame (getV x 0 f) x bs (by have := getV_mass hfm hxm; unfold big; omega) hxb
  have hc4 := call231 x bs hxm
  have hc5 := fun o => call_Has a x o bs (by omega) (fun y hy => by have := ham y hy; unfold big; omega) hxb
  have hp := kind2 x.name
  have h2 := fun ρ => IH (pre ++ [x]) o1 o2 o3 ρ (by rw [hk]; simp)
  rw [R_loop' F.f268l0.eq_1]
  by_cases k3 : x.kind = 3
  ·cases c : privN x.name
   ·rw [c] at hp
    have e : frR f a (x :: post) = frR f a post := by simp [frR,nodR,k3,c]
    rw [e]
    simp at hp
    simp [h7,h8,h9,h10,hg,hlt,hw1,k3,hc1,hp]
    apply h2 <;> simp [h7,h8,h9]
   ·rw [c] at hp
    have e : frR f a (x :: post) = 10 := by simp [frR,nodR,k3,c]
    rw [e]
    simp at hp
    simp [h7,h8,h9,h10,hg,hlt,k3,hc1,hp,F.f268R,F.f268K]
  ·by_cases k1 : x.kind = 1
   ·by_cases c : cmpT (getV x 0 f) x = 0
    ·have e : frR f a (x :: post) = 13 := by simp [frR,nodR,k1,c]
     rw [e]
     simp [h7,h8,h9,h10,hg,hlt,k1,hc2,hc3,c,F.f268R,F.f268K]
    ·have e : frR f a (x :: post) = frR f a post := by simp [frR,nodR,k1,c]
     rw [e]
     simp [h7,h8,h9,h10,hg,hlt,hw1,k1,hc2,hc3,c]
     apply h2 <;> simp [h7,h8,h9]
   ·cases c : pubT x
    ·cases d : hasT a x
     ·have e : frR f a (x :: post) = 13 := by simp [frR,nodR,k3,k1,c,d]
      rw [e]
      simp [h7,h8,h9,h10,hg,hlt,k3,k1,hc4,hc5,c,d,F.f268R,F.f268K]
     ·have e : frR f a (x :: post) = frR f a post := by simp [frR,nodR,k3,k1,c,d]
      rw [e]
      simp [h7,h8,h9,h10,hg,hlt,hw1,k3,k1,hc4,hc5,c,d]
      apply h2 <;> simp [h7,h8,h9]
    ·have e : frR f a (x :: post) = frR f a post := by simp [frR,nodR,k3,k1,c]
     rw [e]
     simp [h7,h8,h9,h10,hg,hlt,hw1,k3,k1,hc4,c]
     apply h2 <;> simp [h7,h8,h9]
mutual
theorem err_nodes : ∀ t : Tm,errT t = 0 → ∀ x ∈ allT t,nodeE x = 0
 | .mk k n s ks,h,x,hx => by
  simp only [errT] at h
  by_cases c : nodeE (.mk k n s ks) = 0
  ·rw [if_neg (by simpa using c)] at h
   simp only [allT] at hx
   rcases List.mem_cons.1 hx with rfl | hx
   ·exact c
   ·exact err_nodesL ks h x hx
  ·rw [if_pos c] at h; exact absurd h c
theorem err_nodesL : ∀ l : List Tm,errL l = 0 → ∀ x ∈ allL l,nodeE x = 0
 | [],_,x,hx => by simp [allL] at hx
 | t :: ts,h,x,hx => by
  simp only [errL] at h
  by_cases c : errT t = 0
  ·rw [if_neg (by simpa using c)] at h
   simp only [allL,List.mem_append] at hx
   rcases hx with hx | hx
   ·exact err_nodes t c x hx
   ·exact err_nodesL ts h x hx
  ·rw [if_pos c] at h; exact absurd h c
end
theorem node_kind {x : Tm} (h : nodeE x = 0) : x.kind = 1 ∨ x.kind = 2 ∨ x.kind = 3 := by
 unfold nodeE at h
 by_cases c : x.kind = 1 ∨ x.kind = 2
 ·rcases c with c | c <;> simp [c]
 ·rw [if_neg c] at h
  by_cases d : x.kind = 3
  ·simp [d]
  ·rw [if_neg d] at h; exact absurd h (by decide)
theorem trm_ground : ∀ {l : List Tm},trmE l = 0 → ∀ x ∈ l,rightTE x = 0
 | [],_,x,hx => by cases hx
 | y :: l,h,x,hx => by
  simp only [trmE] at h
  by_cases c : rightTE y = 0
  ·rw [if_neg (by simpa using c)] at h
   rcases List.mem_cons.1 hx with rfl | hx
   ·exact c
   ·exact trm_ground h x hx
  ·rw [if_pos c] at h; exact absurd h c
theorem allT_self (t : Tm) : t ∈ allT t := by cases t; simp [allT]
theorem ground_kind {x : Tm} (h : rightTE x = 0) : x.kind ≠ 1 := by
 intro hk
 unfold rightTE at h
 by_cases c : thV x = 0
 ·rw [if_neg (by simpa using c)] at h
  by_cases d : varsT x = []
  ·unfold varsT at d
   have h1 : x ∈ (allT x).filter (kindB 1) := List.mem_filter.2 ⟨allT_self x,by simp [kindB,hk]⟩
   have h2 : x ∈ setT ((allT x).filter (kindB 1)) := mem_setT.2 h1
   rw [d] at h2; cases h2
  ·rw [if_pos d] at h; exact absurd h (by decide)
 ·rw [if_pos c] at h; exact absurd h c
theorem nod_eq {f a : List Tm} {x : Tm} (hg : ∀ y ∈ f,y.kind ≠ 1) (hk : x.kind = 1 ∨ x.kind = 2 ∨ x.kind = 3) : nodR f a x = nodF f a x := by
 unfold nodR nodF
 rcases hk with hk | hk | hk
 ·simp only [hk]
  have h0 : ¬ (1 : Int) = 3 := by decide
  rw [if_neg h0,if_pos trivial,if_pos trivial]
  cases h : getT x 0 f with
  | none =>
   have h1 : ixT x 0 f = -1 := by simp [ixT,h]
   have h2 : getV x 0 f = x := by simp [getV,h]
   rw [h1,h2,cmpT_refl]; rfl
  | some p =>
   have h1 : ixT x 0 f = p.1 := by simp [ixT,h]
   have h2 : getV x 0 f = p.2 := by simp [getV,h]
   have h3 : ¬ cmpT p.2 x = 0 := fun e => hg p.2 (getT_mem h) (by rw [cmpT_iff.1 e]; exact hk)
   have h4 : ¬ (p.1 : Int) < 0 := by omega
   rw [h1,h2,if_neg h3,if_neg h4]
 ·simp only [hk]
  rfl
 ·simp only [hk]
  rfl
theorem fr_eq {f a : List Tm} (hg : ∀ y ∈ f,y.kind ≠ 1) : ∀ {l : List Tm},(∀ x ∈ l,nodeE x = 0) → frR f a l = frE f a l
 | [],_ => rfl
 | x :: l,h => by
  simp only [frR,frE,nod_eq hg (node_kind (h x (by simp))),fr_eq hg (l := l) fun y hy => h y (by simp [hy])]
theorem thV_err {t : Tm} (h : thV t = 0) : errT t = 0 := (validT_inv (thV_inv h).1).1
theorem call268 (f : Fr) (hf : FOk f) (hM : massL f.t < 1000000) (r : Tm) (hr : r.mass < 1000000) (bs : List (List AV)) : call F.tb 268 [.agg (encF f),.agg (encT r)] bs = some (.int .i64 (rigT f r),bs) := by
 have h1 := call230 f bs hf
 have h2 := call_R9Valid r bs (by unfold big; omega)
 have h3 := call264 f hf hM bs
 have h5 := call269 f hf bs
 have h6 := call_All r bs (by omega)
 have hn := nodesL_le_mass f.t
 have hfl := freeT_len f
 have hnl := allT_len r
 have hnm := nodes_le_mass r
 rw [call_code F.tb_268 _ _ rfl]
 unfold rigT
 by_cases c1 : validF f = 0
 ·by_cases c2 : thV r = 0
  ·have h4 := fun ρ o1 o2 o3 => Right_loop f.t (freeT f) (allT r) bs hf.tl hf.t (by omega) (freeT_mass hM) (by omega) (fun x hx => by have := allT_mass r x hx; omega) (allT r) [] o1 o2 o3 ρ rfl
   have hgr : ∀ y ∈ f.t,y.kind ≠ 1 := fun y hy => by
    have h0 := c1
    unfold validF at h0
    split at h0
    ·exact absurd h0 (by decide)
    ·split at h0
     ·rename_i h; exact absurd h0 h
     ·exact ground_kind (trm_ground h0 y hy)
   rw [fr_eq hgr (err_nodes r (thV_err c2))] at h4
   simp [F.f268B,F.f268C,encF_take,encF_strip,encF_len,h1,h2,h3,h5,h6,c1,c2]
   apply h4 <;> first | rfl | simp
  ·simp [F.f268B,F.f268C,F.f268R,F.f268K,encF_take,encF_strip,encF_len,h1,h2,c1,c2]
 ·simp [F.f268B,F.f268C,F.f268R,F.f268K,encF_take,encF_strip,encF_len,h1,c1]
theorem dest_loop (l : List Tm) (bs : List (List AV)) (hl : l.length < 1000000) :
  ∀ (post pre : List Tm) (o : Bool) (ρ : Nat → AV),l = pre ++ post → ρ 3 = .sl o 4 (encTs l) → ρ 4 = .int .i64 pre.length →
  R F.tb (.loop F.f275l0) ρ bs (blockK 0 (seqK F.tb F.f275r0 (finK F.f275 bs))) = some (.bool (!post.all ndN),bs) := by
 intro post
 induction post with
 | nil =>
  intro pre o ρ hk h3 h4
  simp only [List.append_nil] at hk
  rw [← hk] at h4
  rw [R_loop' F.f275l0.eq_1]
  simp [h3,h4,F.f275r0,F.f275R,F.f275K]
 | cons x post IH =>
  intro pre o ρ hk h3 h4
  have hg := get_pre hk
  have hll : l.length = pre.length + (post.length + 1) := by rw [hk]; simp
  have hw1 : IntKind.i64.wrap ((pre.length : Int) + 1) = (pre.length : Int) + 1 := wrap64 (by omega) (by omega)
  have hlt : (pre.length : Int) < (l.length : Int) := by omega
  have hc1 := call128 x.name bs
  have hp := kind3 x.name
  have h2 := fun ρ => IH (pre ++ [x]) o ρ (by rw [hk]; simp)
  rw [R_loop' F.f275l0.eq_1]
  by_cases k3 : x.kind = 3
  ·cases c : destN x.name
   ·rw [c] at hp
    have e : (x :: post).all ndN = post.all ndN := by simp [ndN,k3,c]
    rw [e]
    simp at hp
    simp [h3,h4,hg,hlt,hw1,k3,hc1,hp,-List.all_eq_true,-List.all_eq_false]
    apply h2 <;> simp [h3]
   ·rw [c] at hp
    have e : (x :: post).all ndN = false := by simp [ndN,k3,c]
    rw [e]
    simp at hp
    simp [h3,h4,hg,hlt,k3,hc1,hp,F.f275R,F.f275K]
  ·have e : (x :: post).all ndN = post.all ndN := by simp [ndN,k3]
   rw [e]
   simp [h3,h4,hg,hlt,hw1,k3,-List.all_eq_true,-List.all_eq_false]
   apply h2 <;> simp [h3]
theorem call275 (t : Tm) (bs : List (List AV)) (hm : t.mass < 1000000) : call F.tb 275 [.agg (encT t)] bs = some (.bool (!evT t),bs) := by
 have h1 := call_All t bs (by omega)
 have hnl := allT_len t
 have hnm := nodes_le_mass t
 have h2 := fun ρ o => dest_loop (allT t) bs (by omega) (allT t) [] o ρ rfl
 rw [call_code F.tb_275 _ _ rfl,evT_all]
 simp [F.f275B,F.f275C,h1,-List.all_eq_true,-List.all_eq_false]
 apply h2 <;> first | rfl | simp
theorem call267 (f : Fr) (hf : FOk f) (hM : massL f.t < 1000000) (r : Tm) (hr : r.mass < 1000000) (bs : List (List AV)) : call F.tb 267 [.agg (encF f),.agg (encT r)] bs = some (encR (valT f r),bs) := by
 have h1 := call268 f hf hM r hr bs
 rw [call_code F.tb_267 _ _ rfl]
 by_cases c1 : rigT f r = 0
 ·obtain ⟨v1,v2,v3,v4⟩ := rig_bnd c1
  have h0 := call269 f hf bs
  have h2 := fun o => call274 f.t hf.tl r o bs hr
  obtain ⟨t1,t2,t3,t4,t5⟩ := thV_inv v2
  have hpm := put_mass (f := f.t) (M := 1000000) (fun x hx => by have := hf.t x hx; omega) r
  have h3 := call241 (putT f.t r) bs (by have : 1000000 * r.nodes ≤ 1000000 * 400 := Nat.mul_le_mul_left _ t5; unfold big; omega)
  have hnm := normV_mass (putT f.t r)
  have h4 := call275 (normV (putT f.t r)).1 bs (by omega)
  simp only [encR] at h3
  by_cases c2 : (normV (putT f.t r)).2 = 0
  ·cases c3 : evT (normV (putT f.t r)).1
   ·have e : valT f r = (zeroT,11) := by simp [valT,c1,c2,c3]
    rw [e]
    simp [F.f267B,F.f267C,F.f267R,F.f267K,encF_take,encF_strip,encF_len,h0,h1,h2,h3,h4,c1,c2,c3,encR_mk,encT_zero]
   ·have e : valT f r = ((normV (putT f.t r)).1,0) := by simp [valT,c1,c2,c3]
    rw [e]
    simp [F.f267B,F.f267C,F.f267R,F.f267K,encF_take,encF_strip,encF_len,h0,h1,h2,h3,h4,c1,c2,c3,encR_mk]
  ·have e : valT f r = (zeroT,(normV (putT f.t r)).2) := by simp [valT,c1,c2]
   rw [e]
   simp [F.f267B,F.f267C,F.f267R,F.f267K,encF_take,encF_strip,encF_len,h0,h1,h2,h3,c1,c2,encR_mk,encT_zero]
 ·have e : valT f r = (zeroT,rigT f r) := by simp [valT,c1]
  rw [e]
  simp [F.f267B,F.f267C,F.f267R,F.f267K,encF_take,encF_strip,encF_len,h1,c1,encR_mk,encT_zero]
end Go.Am
namespace Go.Am
set_option maxRecDepth 8000
theorem valT_mass (f : Fr) (r : Tm) : (valT f r).1.mass ≤ 13200 := by
 have h := normV_mass (putT f.t r)
 have hz := zero_mass
 unfold valT
 split
 ·simp only; omega
 ·split
  ·simp only; omega
  ·split
   ·exact h
   ·simp only; omega
theorem law_RecipeValue (f : Fr) (r : Tm) (h0 : call F.tb 151 [] [] = some (.bool true,[])) : call F.tb 266 [.agg (encF f),.agg (encT r)] [] = some (.bool true,[]) := by
 have h1 := call228 f []
 have h2 : ∀ o,call F.tb 101 [.sl o 4 [encT r],.int .i64 1,.int .i64 40] [] = some (.bool (few [r] 1 40),[]) := fun o => call_few [r] o 1 40 [] (by omega) (by omega) (by omega)
 rw [call_code F.tb_266 _ _ rfl]
 cases hw : fewF f
 ·rw [hw] at h1
  simp [F.f266B,F.f266C,F.f266R,F.f266K,encF_take,encF_strip,encF_len,h0,h1]
 ·rw [hw] at h1
  obtain ⟨hf,hM⟩ := few_fok hw
  cases hr : few [r] 1 40
  ·rw [hr] at h2
   simp [F.f266B,F.f266C,F.f266R,F.f266K,encF_take,encF_strip,encF_len,h0,h1,h2]
  ·rw [hr] at h2
   obtain ⟨b1,b2,_⟩ := few_mass (by omega) hr
   simp only [massL] at b2
   have hrm : r.mass < 1000000 := by omega
   have h3 := call219 f hf hM r hrm []
   have h4 := call267 f hf hM r hrm []
   have h5 := call220 f hf hM r hrm []
   have h6 := call268 f hf hM r hrm []
   have hv := valT_mass f r
   have h7 := call_RSame (valT f r).1 (valT f r).1 [] (by unfold big; omega) (by unfold big; omega)
   rw [cmpT_refl] at h7
   simp only [encR] at h3 h4
   generalize valT f r = V at *
   simp [F.f266B,F.f266C,F.f266R,F.f266K,encF_take,encF_strip,encF_len,h0,h1,h2,h3,h4,h5,h6,h7]
def equT (f : Fr) (r s : Tm) : Bool × Int := if (valT f r).2 ≠ 0 then (false,(valT f r).2) else if (valT f s).2 ≠ 0 then (false,(valT f s).2) else (decide (cmpT (valT f r).1 (valT f s).1 = 0),0)
theorem call277 (f : Fr) (hf : FOk f) (hM : massL f.t < 1000000) (r s : Tm) (hr : r.mass < 1000000) (hs : s.mass < 1000000) (bs : List (List AV)) : call F.tb 277 [.agg (encF f),.agg (encT r),.agg (encT s)] bs = some (.tup [.bool (equT f r s).1,.int .i64 (equT f r s).2],bs) := by
 have h1 := call219 f hf hM r hr bs
 have h2 := call219 f hf hM s hs bs
 have v1 := valT_mass f r
 have v2 := valT_mass f s
 have h3 := call213 (valT f r).1 (valT f s).1 bs (by unfold big; omega) (by unfold big; omega)
 simp only [encR] at h1 h2
 rw [call_code F.tb_277 _ _ rfl]
 unfold equT
 by_cases c1 : (valT f r).2 = 0
 ·by_cases c2 : (valT f s).2 = 0
  ·simp [F.f277B,F.f277C,F.f277R,F.f277K,encF_take,encF_strip,encF_len,h1,h2,h3,c1,c2]
  ·simp [F.f277B,F.f277C,F.f277R,F.f277K,encF_take,encF_strip,encF_len,h1,h2,c1,c2]
 ·simp [F.f277B,F.f277C,F.f277R,F.f277K,encF_take,encF_strip,encF_len,h1,c1]
theorem call278 (f : Fr) (hf : FOk f) (hM : massL f.t < 1000000) (r s : Tm) (hr : r.mass < 1000000) (hs : s.mass < 1000000) (bs : List (List AV)) : call F.tb 278 [.agg (encF f),.agg (encT r),.agg (encT s)] bs = some (.tup [.bool (equT f r s).1,.int .i64 (equT f r s).2],bs) := by
 have h1 := call267 f hf hM r hr bs
 have h2 := call267 f hf hM s hs bs
 have v1 := valT_mass f r
 have v2 := valT_mass f s
 have h3 := call_RSame (valT f r).1 (valT f s).1 bs (by unfold big; omega) (by unfold big; omega)
 simp only [encR] at h1 h2
 rw [call_code F.tb_278 _ _ rfl]
 unfold equT
 by_cases c1 : (valT f r).2 = 0
 ·by_cases c2 : (valT f s).2 = 0
  ·simp [F.f278B,F.f278C,F.f278R,F.f278K,encF_take,encF_strip,encF_len,h1,h2,h3,c1,c2]
  ·simp [F.f278B,F.f278C,F.f278R,F.f278K,encF_take,encF_strip,encF_len,h1,h2,c1,c2]
 ·simp [F.f278B,F.f278C,F.f278R,F.f278K,encF_take,encF_strip,encF_len,h1,c1]
theorem law_RecipeEqual (f : Fr) (r s : Tm) (h0 : call F.tb 151 [] [] = some (.bool true,[])) : call F.tb 276 [.agg (encF f),.agg (encT r),.agg (encT s)] [] = some (.bool true,[]) := by
 have h1 := call228 f []
 have h2 : ∀ o,call F.tb 101 [.sl o 4 [encT r,encT s],.int .i64 2,.int .i64 40] [] = some (.bool (few [r,s] 2 40),[]) := fun o => call_few [r,s] o 2 40 [] (by omega) (by omega) (by omega)
 rw [call_code F.tb_276 _ _ rfl]
 cases hw : fewF f
 ·rw [hw] at h1
  simp [F.f276B,F.f276C,F.f276R,F.f276K,encF_take,encF_strip,encF_len,h0,h1]
 ·rw [hw] at h1
  obtain ⟨hf,hM⟩ := few_fok hw
  cases hr : few [r,s] 2 40
  ·rw [hr] at h2
   simp [F.f276B,F.f276C,F.f276R,F.f276K,encF_take,encF_strip,encF_len,h0,h1,h2]
  ·rw [hr] at h2
   obtain ⟨b1,b2,_⟩ := few_mass (by omega) hr
   simp only [massL] at b2
   have h3 := call277 f hf hM r s (by omega) (by omega) []
   have h4 := call278 f hf hM r s (by omega) (by omega) []
   generalize equT f r s = V at *
   simp [F.f276B,F.f276C,F.f276R,F.f276K,encF_take,encF_strip,encF_len,h0,h1,h2,h3,h4]
end Go.Am
namespace Go.Am
set_option maxRecDepth 8000
def atA : Tm := .mk 2 [97] 1 []
def atB : Tm := .mk 2 [98] 1 []
def leafL : List Tm := [.mk 2 [110,97] 2 [],.mk 2 [110,98] 2 [],.mk 2 [107] 3 [],.mk 2 [108] 3 [],.mk 2 [103] 4 [],atA,.mk 2 [104,105] 5 [],.mk 2 [100] 0 [],.mk 3 SK 0 [atA],.mk 3 SHK 0 [atA,atB]]
theorem call284 (bs : List (List AV)) : call F.tb 284 [] bs = some (.sl true 4 (encTs leafL),bs) := by
 have h1 := fun s n => call_RAtom s n bs
 have h2 : ∀ o,call F.tb 120 [.str [115,107],.sl o 4 [encT atA]] bs = some (.agg (encT (.mk 3 SK 0 [atA])),bs) := fun o => call_RApp SK [atA] o bs (by simp)
 have h3 : ∀ o,call F.tb 120 [.str [115,104,107],.sl o 4 [encT atA,encT atB]] bs = some (.agg (encT (.mk 3 SHK 0 [atA,atB])),bs) := fun o => call_RApp SHK [atA,atB] o bs (by simp)
 simp only [atA,atB] at h2 h3
 rw [call_code F.tb_284 _ _ rfl]
 simp [F.f284B,F.f284C,F.f284R,F.f284K,h1,h2,h3,leafL,atA,atB,encTs]
def encB (b : List Nat) : List (List AV) := b.map fun n : Nat => [AV.int .u8 (n : Int)]
theorem encB_len (b : List Nat) : (encB b).length = b.length := by simp [encB]
theorem encB_get {b : List Nat} {i n : Nat} (h : b[i]? = some n) : (encB b)[i]? = some [AV.int .u8 (n : Int)] := by simp [encB,h]
def algN (n : List UInt8) : Bool := n == XOR || n == EXP || n == MUL || n == INV || n == ZERO || n == ONE
def frB (t : Tm) : Bool := (allT t).all fun x => !decide (x.kind = 3) || !algN x.name
theorem frB_mk (n : List UInt8) (ks : List Tm) : frB (.mk 3 n 0 ks) = (!algN n && ks.all frB) := by
 have h : ∀ l : List Tm,(allL l).all (fun x => !decide (x.kind = 3) || !algN x.name) = l.all frB := by
  intro l
  induction l with
  | nil => rfl
  | cons t ts ih => simp only [allL,List.all_append,List.all_cons,ih,frB]
 simp only [frB,allT,List.all_cons,h]
 simp [frB]
def nK : Nat → Nat
 | 0 => 1
 | j + 1 => 2 * nK j + 1
def nM : Nat → Nat
 | 0 => 40
 | j + 1 => 2 * nM j + 20
theorem nK_pos : ∀ j,1 ≤ nK j
 | 0 => Nat.le_refl _
 | j + 1 => by simp only [nK]; omega
theorem nM_pos : ∀ j,40 ≤ nM j
 | 0 => Nat.le_refl _
 | j + 1 => by have := nM_pos j; simp only [nM]; omega
def NodOk (bs : List (List AV)) (at_ K M : Nat) (fr : Bool) (r : Out) : Prop := ∃ (t : Tm) (m : Nat),r = some (.tup [.agg (encT t),.int .i64 m],bs) ∧ at_ ≤ m ∧ m ≤ at_ + K ∧ t.mass ≤ M ∧ (fr = true → frB t = true)
theorem leaf_ok {k : Nat} {t : Tm} (h : leafL[k]? = some t) : t.mass ≤ 40 ∧ frB t = true := by
 have hm : t ∈ leafL := List.mem_of_getElem? h
 simp only [leafL,List.mem_cons,List.mem_nil_iff,or_false] at hm
 rcases hm with rfl | rfl | rfl | rfl | rfl | rfl | rfl | rfl | rfl | rfl <;> exact ⟨by decide,by decide⟩
theorem node_leaf (b : List Nat) (at_ c d : Nat) (fr o : Bool) (bs : List (List AV)) (j : Nat) (hat : at_ < 1000) (hd : d < 100) (hb : (at_ < b.length ∧ b[at_]? = some c) ∨ (b.length ≤ at_ ∧ c = 0)) (hc : c < 256) (h3 : 4 ≤ d ∨ c % 3 = 0) :
  NodOk bs at_ (nK j) (nM j) fr (call F.tb 283 [.sl o 1 (encB b),.int .i64 at_,.int .i64 d,.bool fr] bs) := by
 have h1 := call284 bs
 have hw : IntKind.i64.wrap (c : Int) = c := wrap64 (by omega) (by omega)
 have hw1 : IntKind.i64.wrap ((at_ : Int) + 1) = (at_ : Int) + 1 := wrap64 (by omega) (by omega)
 obtain ⟨q,hq,hq2⟩ : ∃ q : Nat,IntKind.i64.wrap ((c : Int) / 3) = (q : Int) ∧ q = c / 3 := ⟨c / 3,by rw [wrap64 (by omega) (by omega)]; omega,rfl⟩
 obtain ⟨k,hk,hk2⟩ : ∃ k : Nat,((q : Int)).tmod 10 = (k : Int) ∧ k < 10 := ⟨q % 10,by rw [Int.tmod_eq_emod_of_nonneg (by omega)]; omega,by omega⟩
 have hll : leafL.length = 10 := rfl
 obtain ⟨t,ht⟩ : ∃ t,leafL[k]? = some t := ⟨leafL[k]'(by omega),List.getElem?_eq_getElem _⟩
 obtain ⟨m1,m2⟩ := leaf_ok ht
 have hne : ¬ leafL = [] := by simp [leafL]
 have hkl : k < leafL.length := by omega
 refine ⟨t,at_ + 1,?_,by omega,by have := nK_pos j; omega,by have := nM_pos j; omega,fun _ => m2⟩
 rw [call_code F.tb_283 _ _ rfl]
 have e3 : ((c : Int).tmod 3 = 0) = (c % 3 = 0) := by rw [Int.tmod_eq_emod_of_nonneg (by omega)]; exact propext (by omega)
 have e4 : (4 ≤ (d : Int)) = (4 ≤ d) := propext (by omega)
 have hgk : leafL[k]'hkl = t := (List.getElem?_eq_some_iff.1 ht).2
 have hgi : (encTs leafL)[k]'(by rw [encTs_length]; exact hkl) = encT t := by
  have h3 : (encTs leafL)[k]? = some (encT t) := by simp [ht]
  exact (List.getElem?_eq_some_iff.1 h3).2
 rcases hb with ⟨hl,hb⟩ | ⟨hl,rfl⟩
 ·have hg := encB_get hb
  have hlt : (at_ : Int) < (b.length : Int) := by omega
  by_cases h4 : 4 ≤ d
  ·simp [F.f283B,F.f283C,F.f283R,F.f283K,hg,hlt,encB_len,hw,hw1,e4,h4,h1,hq,hk,hll,hne,hkl,hgi,hk2]
  ·have h5 : c % 3 = 0 := by omega
   simp [F.f283B,F.f283C,F.f283R,F.f283K,hg,hlt,encB_len,hw,hw1,e3,e4,h4,h5,h1,hq,hk,hll,hne,hkl,hgi,hk2]
 ·have hlt : ¬ (at_ : Int) < (b.length : Int) := by omega
  have hq0 : q = 0 := by omega
  subst hq0
  simp only [Int.natCast_zero] at hk
  have hk0 : k = 0 := by have : (0 : Int).tmod 10 = 0 := rfl; omega
  subst hk0
  have hw0 : IntKind.i64.wrap 0 = 0 := rfl
  have ht0 : t = .mk 2 [110,97] 2 [] := by simp [leafL] at ht; exact ht.symm
  by_cases h4 : 4 ≤ d
  ·simp [F.f283B,F.f283C,F.f283R,F.f283K,hlt,encB_len,hw1,e4,h4,h1,leafL,encTs,ht0,hw0]
  ·simp [F.f283B,F.f283C,F.f283R,F.f283K,hlt,encB_len,hw1,e4,h4,h1,leafL,encTs,ht0,hw0]
set_option maxHeartbeats 20000000 in
theorem node_app (b : List Nat) (at_ c d : Nat) (fr o : Bool) (bs : List (List AV)) (j : Nat) (hat : at_ + nK (j + 1) ≤ 1000) (hd : d < 4) (hb : b[at_]? = some c) (hc : c < 256) (h3 : c % 3 ≠ 0)
  (ih : ∀ (a : Nat),a + nK j ≤ 1000 → NodOk bs a (nK j) (nM j) fr (call F.tb 283 [.sl false 1 (encB b),.int .i64 a,.int .i64 ((d : Int) + 1),.bool fr] bs)) :
  NodOk bs at_ (nK (j + 1)) (nM (j + 1)) fr (call F.tb 283 [.sl o 1 (encB b),.int .i64 at_,.int .i64 d,.bool fr] bs) := by
 have h1 := call284 bs
 have hl := (List.getElem?_eq_some_iff.1 hb).1
 have hg := encB_get hb
 have hlt : (at_ : Int) < (b.length : Int) := by omega
 have e3 : ((c : Int).tmod 3 = 0) = (c % 3 = 0) := by rw [Int.tmod_eq_emod_of_nonneg (by omega)]; exact propext (by omega)
 have e4 : (4 ≤ (d : Int)) = (4 ≤ d) := propext (by omega)
 have h4 : ¬ 4 ≤ d := by omega
 have hw : IntKind.i64.wrap (c : Int) = c := wrap64 (by omega) (by omega)
 have hw1 : IntKind.i64.wrap ((at_ : Int) + 1) = (at_ : Int) + 1 := wrap64 (by omega) (by omega)
 have hw2 : IntKind.i64.wrap ((d : Int) + 1) = (d : Int) + 1 := wrap64 (by omega) (by omega)
 obtain ⟨q,hq,hq2⟩ : ∃ q : Nat,IntKind.i64.wrap ((c : Int) / 3) = (q : Int) ∧ q = c / 3 := ⟨c / 3,by rw [wrap64 (by omega) (by omega)]; omega,rfl⟩
 have hr : ((q : Int)).tmod 11 = ((q % 11 : Nat) : Int) := by rw [Int.tmod_eq_emod_of_nonneg (by omega)]; omega
 have hrl : q % 11 < 11 := by omega
 generalize q % 11 = r at *
 simp only [nK] at hat
 obtain ⟨x,m1,a1,a2,a3,a4,a5⟩ := ih (at_ + 1) (by omega)
 obtain ⟨y,m2,b1,b2,b3,b4,b5⟩ := ih m1 (by omega)
 simp only [Int.natCast_add,Int.natCast_one] at a1
 have hA1 : ∀ n z o,call F.tb 120 [.str n,.sl o 4 [encT z]] bs = some (.agg (encT (.mk 3 n 0 [z])),bs) := fun n z o => call_RApp n [z] o bs (by simp)
 have hA2 : ∀ n z w o,call F.tb 120 [.str n,.sl o 4 [encT z,encT w]] bs = some (.agg (encT (.mk 3 n 0 [z,w])),bs) := fun n z w o => call_RApp n [z,w] o bs (by simp)
 have hone : ∀ n : List UInt8,n.length ≤ 10 → (fr = true → algN n = false) → (∀ X,X = some (.tup [.agg (encT (.mk 3 n 0 [x])),.int .i64 m1],bs) → NodOk bs at_ (nK (j + 1)) (nM (j + 1)) fr X) := fun n hn hf X hX =>
  ⟨_,_,hX,by omega,by simp only [nK]; omega,by simp only [nM,Tm.mass,massL,List.length_cons,List.length_nil]; omega,fun h => by rw [frB_mk,hf h]; simp [a5 h]⟩
 have htwo : ∀ n : List UInt8,n.length ≤ 10 → (fr = true → algN n = false) → (∀ X,X = some (.tup [.agg (encT (.mk 3 n 0 [x,y])),.int .i64 m2],bs) → NodOk bs at_ (nK (j + 1)) (nM (j + 1)) fr X) := fun n hn hf X hX =>
  ⟨_,_,hX,by omega,by simp only [nK]; omega,by simp only [nM,Tm.mass,massL,List.length_cons,List.length_nil]; omega,fun h => by rw [frB_mk,hf h]; simp [a5 h,b5 h]⟩
 have hpk : ∀ X,X = some (.tup [.agg (encT (.mk 3 AENC 0 [x,.mk 3 PK 0 [y]])),.int .i64 m2],bs) → NodOk bs at_ (nK (j + 1)) (nM (j + 1)) fr X := fun X hX =>
  ⟨_,_,hX,by omega,by simp only [nK]; omega,by simp only [nM,Tm.mass,massL,List.length_cons,List.length_nil,AENC,PK]; omega,fun h => by rw [frB_mk]; simp [a5 h,b5 h,frB_mk,algN,AENC,PK,XOR,EXP,MUL,INV,ZERO,ONE]⟩
 rw [call_code F.tb_283 _ _ rfl]
 have hr11 : r = 0 ∨ r = 1 ∨ r = 2 ∨ r = 3 ∨ r = 4 ∨ r = 5 ∨ r = 6 ∨ r = 7 ∨ r = 8 ∨ r = 9 ∨ r = 10 := by omega
 clear hq2 hrl
 cases fr <;> rcases hr11 with rfl | rfl | rfl | rfl | rfl | rfl | rfl | rfl | rfl | rfl | rfl
 ·refine hone [104,97,115,104] (by simp) (fun _ => by decide) _ ?_
  simp [F.f283B,F.f283C,F.f283R,F.f283K,hg,hlt,encB_len,hw,hw1,hw2,e3,h3,e4,h4,h1,hq,hr,a1,b1,hA1,hA2,AENC,PK]
 ·refine hone [112,107] (by simp) (fun _ => by decide) _ ?_
  simp [F.f283B,F.f283C,F.f283R,F.f283K,hg,hlt,encB_len,hw,hw1,hw2,e3,h3,e4,h4,h1,hq,hr,a1,b1,hA1,hA2,AENC,PK]
 ·refine hone [105,110,118] (by simp) (fun h => by cases h) _ ?_
  simp [F.f283B,F.f283C,F.f283R,F.f283K,hg,hlt,encB_len,hw,hw1,hw2,e3,h3,e4,h4,h1,hq,hr,a1,b1,hA1,hA2,AENC,PK]
 ·refine htwo [101,110,99] (by simp) (fun _ => by decide) _ ?_
  simp [F.f283B,F.f283C,F.f283R,F.f283K,hg,hlt,encB_len,hw,hw1,hw2,e3,h3,e4,h4,h1,hq,hr,a1,b1,hA1,hA2,AENC,PK]
 ·refine htwo [101,110,99] (by simp) (fun _ => by decide) _ ?_
  simp [F.f283B,F.f283C,F.f283R,F.f283K,hg,hlt,encB_len,hw,hw1,hw2,e3,h3,e4,h4,h1,hq,hr,a1,b1,hA1,hA2,AENC,PK]
 ·refine hpk _ ?_
  simp [F.f283B,F.f283C,F.f283R,F.f283K,hg,hlt,encB_len,hw,hw1,hw2,e3,h3,e4,h4,h1,hq,hr,a1,b1,hA1,hA2,AENC,PK]
 ·refine htwo [115,105,103,110] (by simp) (fun _ => by decide) _ ?_
  simp [F.f283B,F.f283C,F.f283R,F.f283K,hg,hlt,encB_len,hw,hw1,hw2,e3,h3,e4,h4,h1,hq,hr,a1,b1,hA1,hA2,AENC,PK]
 ·refine htwo [120,111,114] (by simp) (fun h => by cases h) _ ?_
  simp [F.f283B,F.f283C,F.f283R,F.f283K,hg,hlt,encB_len,hw,hw1,hw2,e3,h3,e4,h4,h1,hq,hr,a1,b1,hA1,hA2,AENC,PK]
 ·refine htwo [101,120,112] (by simp) (fun h => by cases h) _ ?_
  simp [F.f283B,F.f283C,F.f283R,F.f283K,hg,hlt,encB_len,hw,hw1,hw2,e3,h3,e4,h4,h1,hq,hr,a1,b1,hA1,hA2,AENC,PK]
 ·refine htwo [109,117,108] (by simp) (fun h => by cases h) _ ?_
  simp [F.f283B,F.f283C,F.f283R,F.f283K,hg,hlt,encB_len,hw,hw1,hw2,e3,h3,e4,h4,h1,hq,hr,a1,b1,hA1,hA2,AENC,PK]
 ·refine htwo [112,97,105,114] (by simp) (fun _ => by decide) _ ?_
  simp [F.f283B,F.f283C,F.f283R,F.f283K,hg,hlt,encB_len,hw,hw1,hw2,e3,h3,e4,h4,h1,hq,hr,a1,b1,hA1,hA2,AENC,PK]
 ·refine hone [104,97,115,104] (by simp) (fun _ => by decide) _ ?_
  simp [F.f283B,F.f283C,F.f283R,F.f283K,hg,hlt,encB_len,hw,hw1,hw2,e3,h3,e4,h4,h1,hq,hr,a1,b1,hA1,hA2,AENC,PK]
 ·refine hone [112,107] (by simp) (fun _ => by decide) _ ?_
  simp [F.f283B,F.f283C,F.f283R,F.f283K,hg,hlt,encB_len,hw,hw1,hw2,e3,h3,e4,h4,h1,hq,hr,a1,b1,hA1,hA2,AENC,PK]
 ·refine htwo [112,97,105,114] (by simp) (fun _ => by decide) _ ?_
  simp [F.f283B,F.f283C,F.f283R,F.f283K,hg,hlt,encB_len,hw,hw1,hw2,e3,h3,e4,h4,h1,hq,hr,a1,b1,hA1,hA2,AENC,PK]
 ·refine htwo [101,110,99] (by simp) (fun _ => by decide) _ ?_
  simp [F.f283B,F.f283C,F.f283R,F.f283K,hg,hlt,encB_len,hw,hw1,hw2,e3,h3,e4,h4,h1,hq,hr,a1,b1,hA1,hA2,AENC,PK]
 ·refine htwo [101,110,99] (by simp) (fun _ => by decide) _ ?_
  simp [F.f283B,F.f283C,F.f283R,F.f283K,hg,hlt,encB_len,hw,hw1,hw2,e3,h3,e4,h4,h1,hq,hr,a1,b1,hA1,hA2,AENC,PK]
 ·refine hpk _ ?_
  simp [F.f283B,F.f283C,F.f283R,F.f283K,hg,hlt,encB_len,hw,hw1,hw2,e3,h3,e4,h4,h1,hq,hr,a1,b1,hA1,hA2,AENC,PK]
 ·refine htwo [115,105,103,110] (by simp) (fun _ => by decide) _ ?_
  simp [F.f283B,F.f283C,F.f283R,F.f283K,hg,hlt,encB_len,hw,hw1,hw2,e3,h3,e4,h4,h1,hq,hr,a1,b1,hA1,hA2,AENC,PK]
 ·refine htwo [112,97,105,114] (by simp) (fun _ => by decide) _ ?_
  simp [F.f283B,F.f283C,F.f283R,F.f283K,hg,hlt,encB_len,hw,hw1,hw2,e3,h3,e4,h4,h1,hq,hr,a1,b1,hA1,hA2,AENC,PK]
 ·refine htwo [112,97,105,114] (by simp) (fun _ => by decide) _ ?_
  simp [F.f283B,F.f283C,F.f283R,F.f283K,hg,hlt,encB_len,hw,hw1,hw2,e3,h3,e4,h4,h1,hq,hr,a1,b1,hA1,hA2,AENC,PK]
 ·refine htwo [112,97,105,114] (by simp) (fun _ => by decide) _ ?_
  simp [F.f283B,F.f283C,F.f283R,F.f283K,hg,hlt,encB_len,hw,hw1,hw2,e3,h3,e4,h4,h1,hq,hr,a1,b1,hA1,hA2,AENC,PK]
 ·refine htwo [112,97,105,114] (by simp) (fun _ => by decide) _ ?_
  simp [F.f283B,F.f283C,F.f283R,F.f283K,hg,hlt,encB_len,hw,hw1,hw2,e3,h3,e4,h4,h1,hq,hr,a1,b1,hA1,hA2,AENC,PK]
end Go.Am
namespace Go.Am
set_option maxRecDepth 8000
theorem call283 (b : List Nat) (hb : ∀ n ∈ b,n < 256) (fr : Bool) (bs : List (List AV)) : ∀ (j at_ d : Nat) (o : Bool),d + j = 4 → at_ + nK j ≤ 1000 →
  NodOk bs at_ (nK j) (nM j) fr (call F.tb 283 [.sl o 1 (encB b),.int .i64 at_,.int .i64 d,.bool fr] bs) := by
 intro j
 induction j with
 | zero =>
  intro at_ d o hd hat
  have := nK_pos 0
  rcases Nat.lt_or_ge at_ b.length with hl | hl
  ·exact node_leaf b at_ b[at_] d fr o bs 0 (by omega) (by omega) (.inl ⟨hl,List.getElem?_eq_getElem hl⟩) (hb _ (List.getElem_mem hl)) (.inl (by omega))
  ·exact node_leaf b at_ 0 d fr o bs 0 (by omega) (by omega) (.inr ⟨hl,rfl⟩) (by omega) (.inl (by omega))
 | succ j ih =>
  intro at_ d o hd hat
  have := nK_pos (j + 1)
  rcases Nat.lt_or_ge at_ b.length with hl | hl
  ·have h1 : b[at_]? = some b[at_] := List.getElem?_eq_getElem hl
   have h2 := hb _ (List.getElem_mem hl)
   by_cases h3 : b[at_] % 3 = 0
   ·exact node_leaf b at_ b[at_] d fr o bs (j + 1) (by omega) (by omega) (.inl ⟨hl,h1⟩) h2 (.inr h3)
   ·exact node_app b at_ b[at_] d fr o bs j hat (by omega) h1 h2 h3 fun a ha => by
     have := ih a (d + 1) false (by omega) ha
     simpa using this
  ·exact node_leaf b at_ 0 d fr o bs (j + 1) (by omega) (by omega) (.inr ⟨hl,rfl⟩) (by omega) (.inr rfl)
def DT (fr : Bool) (t : Tm) : Prop := t.mass ≤ 13200 ∧ errT t = 0
def GrOk (bs : List (List AV)) (fr : Bool) (r : Out) : Prop := ∃ t : Tm,r = some (.agg (encT t),bs) ∧ DT fr t
theorem call282 (b : List Nat) (hb : ∀ n ∈ b,n < 256) (fr : Bool) (o : Bool) (bs : List (List AV)) : GrOk bs fr (call F.tb 282 [.sl o 1 (encB b),.bool fr] bs) := by
 obtain ⟨t,m,h1,h2,h3,h4,h5⟩ := call283 b hb fr bs 3 0 1 false rfl (by decide)
 have h1' : call F.tb 283 [.sl false 1 (encB b),.int .i64 0,.int .i64 1,.bool fr] bs = some (.tup [.agg (encT t),.int .i64 m],bs) := h1
 have h4' : t.mass ≤ 460 := h4
 have h6 := call241 t bs (by unfold big; omega)
 have hv := normV_mass t
 have h7 := call240 (normV t).1 bs (by omega)
 have h8 := call284 bs
 simp only [encR] at h6
 rw [call_code F.tb_282 _ _ rfl]
 have hleaf : DT fr (.mk 2 [110,97] 2 []) := ⟨by decide,by decide⟩
 by_cases c1 : (normV t).2 = 0
 ·cases c2 : plainB (normV t).1
  ·refine ⟨_,?_,hleaf⟩
   simp [F.f282B,F.f282C,F.f282R,F.f282K,h1',h6,h7,h8,c1,c2,leafL,encTs]
  ·have he : errT (normV t).1 = 0 := by
    unfold normV at c1 ⊢
    by_cases d1 : thV t = 0
    ·rw [if_neg (by simpa using d1)] at c1 ⊢
     by_cases d2 : (normT t).2 = 0
     ·rw [if_neg (by simpa using d2)] at c1 ⊢
      by_cases d3 : validT (normT t).1 = 0
      ·rw [if_neg (by simpa using d3)]; exact (validT_inv d3).1
      ·rw [if_pos d3] at c1; exact absurd c1 d3
     ·rw [if_pos d2] at c1; exact absurd c1 d2
    ·rw [if_pos d1] at c1; exact absurd c1 d1
   refine ⟨(normV t).1,?_,hv,he⟩
   simp [F.f282B,F.f282C,F.f282R,F.f282K,h1',h6,h7,h8,c1,c2]
 ·refine ⟨_,?_,hleaf⟩
  simp [F.f282B,F.f282C,F.f282R,F.f282K,h1',h6,h8,c1,leafL,encTs]
def encBs (l : List (List Nat)) : List (List AV) := l.map fun b => [AV.sl false 1 (encB b)]
theorem encBs_len (l : List (List Nat)) : (encBs l).length = l.length := by simp [encBs]
theorem encBs_get {l : List (List Nat)} {i : Nat} {b : List Nat} (h : l[i]? = some b) : (encBs l)[i]? = some [AV.sl false 1 (encB b)] := by simp [encBs,h]
def LsOk (bs : List (List AV)) (fr : Bool) (n : Nat) (r : Out) : Prop := ∃ l : List Tm,r = some (.sl false 4 (encTs l),bs) ∧ l.length ≤ n ∧ ∀ t ∈ l,DT fr t
theorem List_loop (l : List (List Nat)) (hl : ∀ b ∈ l,∀ n ∈ b,n < 256) (fr : Bool) (bs : List (List AV)) (hln : l.length < 1000000) :
  ∀ (post pre : List (List Nat)) (us : List Tm) (o : Bool) (ρ : Nat → AV),l = pre ++ post → us.length = pre.length → pre.length ≤ 8 → (∀ t ∈ us,DT fr t) → ρ 0 = .sl o 1 (encBs l) → ρ 1 = .bool fr → ρ 5 = .sl true 4 (encTs us) → ρ 6 = .int .i64 pre.length →
  LsOk bs fr (min l.length 8) (R F.tb (.loop F.f281l0) ρ bs (blockK 0 (seqK F.tb F.f281r0 (finK F.f281 bs)))) := by
 intro post
 induction post with
 | nil =>
  intro pre us o ρ hk hu h8 hd h0 h1 h5 h6
  simp only [List.append_nil] at hk
  subst hk
  rw [R_loop' F.f281l0.eq_1]
  refine ⟨us,?_,by omega,hd⟩
  simp [h0,h1,h5,h6,encBs_len,F.f281r0,F.f281R,F.f281K]
 | cons x post IH =>
  intro pre us o ρ hk hu h8 hd h0 h1 h5 h6
  have hg := encBs_get (get_pre hk)
  have hll : l.length = pre.length + (post.length + 1) := by rw [hk]; simp
  have hw1 : IntKind.i64.wrap ((pre.length : Int) + 1) = (pre.length : Int) + 1 := wrap64 (by omega) (by omega)
  have hlt : (pre.length : Int) < (l.length : Int) := by omega
  rw [R_loop' F.f281l0.eq_1]
  by_cases h8' : pre.length = 8
  ·refine ⟨us,?_,by omega,hd⟩
   have e : (pre.length : Int) = 8 := by omega
   rw [e] at h6 hlt
   simp [h0,h1,h5,h6,hlt,encBs_len,F.f281r0,F.f281R,F.f281K]
  ·have hlt8 : (pre.length : Int) < 8 := by omega
   obtain ⟨t,ht,hdt⟩ := call282 x (hl x (by rw [hk]; simp)) fr false bs
   have hb : (us.length + 1) * 56 ≤ 140737488355328 := lim56 (by omega)
   have hi := fun ρ => IH (pre ++ [x]) (us ++ [t]) o ρ (by rw [hk]; simp) (by simp [hu]) (by simp; omega) (fun y hy => by
    rcases List.mem_append.1 hy with hy | hy
    ·exact hd y hy
    ·simp at hy; subst hy; exact hdt)
   simp [h0,h1,h5,h6,hg,hlt,hlt8,hw1,ht,hb,encBs_len,encTs_one,encTs_append]
   apply hi <;> simp [h0,h1]
theorem call281 (l : List (List Nat)) (hl : ∀ b ∈ l,∀ n ∈ b,n < 256) (fr : Bool) (bs : List (List AV)) (hln : l.length < 1000000) (o : Bool) : LsOk bs fr (min l.length 8) (call F.tb 281 [.sl o 1 (encBs l),.bool fr] bs) := by
 have h := fun ρ => List_loop l hl fr bs hln l [] [] false ρ rfl rfl (by simp) (by simp)
 rw [call_code F.tb_281 _ _ rfl]
 simp [F.f281B,F.f281C]
 apply h <;> simp [encTs]
end Go.Am
namespace Go.Am
set_option maxRecDepth 8000
structure Dr13 where
 t : List (List Nat)
 fr : Bool
 s : Nat
def encD (d : Dr13) : List AV := [.sl false 1 (encBs d.t),.bool d.fr,.int .u16 (d.s : Int)]
structure DOk (d : Dr13) : Prop where
 b : ∀ b ∈ d.t,∀ n ∈ b,n < 256
 s : d.s < 65536
 l : d.t.length < 4611686018427387904
structure MFr (f : Fr) : Prop where
 t : ∀ x ∈ f.t,x.mass ≤ 13200
 e : ∀ x ∈ f.t,errT x = 0
 tl : f.t.length ≤ 6
 s : ∀ x ∈ f.s,x.mass ≤ 13200
 sl : f.s.length ≤ 16
theorem mfr_ok {f : Fr} (h : MFr f) : FOk f ∧ massL f.t < 100000 := by
 have h1 := massL_le h.t
 have h2 : f.t.length * 13200 ≤ 6 * 13200 := Nat.mul_le_mul_right _ h.tl
 exact ⟨⟨fun x hx => by have := h.s x hx; omega,fun x hx => by have := h.t x hx; omega,by have := h.sl; omega,by have := h.tl; omega⟩,by omega⟩
theorem freeT_iff {f : Fr} {x : Tm} : x ∈ freeT f ↔ x ∈ allL f.t ∧ x.kind = 2 ∧ fineB f.s x := by
 unfold freeT
 rw [mem_sortT,mem_outsF]
 simp
theorem allL_mem {x : Tm} : ∀ {l : List Tm},x ∈ allL l ↔ ∃ t ∈ l,x ∈ allT t
 | [] => by simp [allL]
 | t :: ts => by simp [allL,allL_mem (l := ts)]
theorem freeT_small {f : Fr} {M : Nat} (h : ∀ t ∈ f.t,t.mass ≤ M) : ∀ x ∈ freeT f,x.mass ≤ M := fun x hx => by
 obtain ⟨h1,_⟩ := freeT_iff.1 hx
 obtain ⟨t,ht,hxt⟩ := allL_mem.1 h1
 have := h t ht
 have := allT_mass t x hxt
 omega
def MdOk (bs : List (List AV)) (P : Fr → Prop) (r : Out) : Prop := ∃ f : Fr,r = some (.agg (encF f),bs) ∧ P f
theorem guard_elim {P : Out → Prop} {c : Bool} {A B : Out} (h1 : P A) (h2 : P B) : P (guardB c true A B) := by
 cases c
 ·exact h2
 ·exact h1
theorem Made_loop (d : Dr13) (T L : List Tm) (bs : List (List AV)) (hL : L.length < 1000000) (hs : d.s < 65536) :
  ∀ (post pre acc : List Tm) (o o2 : Bool) (ρ : Nat → AV),L = pre ++ post → acc.length ≤ pre.length → pre.length ≤ 16 → (∀ x ∈ acc,x ∈ L) → ρ 1 = .bx (encD d) → ρ 2 = .bx [.sl true 4 [],.sl true 4 []] → ρ 3 = .bx [.sl true 4 (encTs acc),.sl o2 4 (encTs T)] → ρ 4 = .sl o 4 (encTs L) → ρ 5 = .int .i64 pre.length →
  MdOk bs (fun f => f.t = T ∧ (∀ x ∈ f.s,x ∈ L) ∧ f.s.length ≤ 16) (R F.tb (.loop F.f280l0) ρ bs (blockK 0 (seqK F.tb F.f280r0 (finK F.f280 bs)))) := by
 intro post
 induction post with
 | nil =>
  intro pre acc o o2 ρ hk ha h16 hm h1 h2 h3 h4 h5
  simp only [List.append_nil] at hk
  subst hk
  rw [R_loop' F.f280l0.eq_1]
  refine ⟨⟨acc,T⟩,?_,rfl,hm,by simp only; omega⟩
  simp [h1,h2,h3,h4,h5,F.f280r0,F.f280R,F.f280K]
  rfl
 | cons x post IH =>
  intro pre acc o o2 ρ hk ha h16 hm h1 h2 h3 h4 h5
  have hg := get_pre hk
  have hll : L.length = pre.length + (post.length + 1) := by rw [hk]; simp
  have hw1 : IntKind.i64.wrap ((pre.length : Int) + 1) = (pre.length : Int) + 1 := wrap64 (by omega) (by omega)
  have hlt : (pre.length : Int) < (L.length : Int) := by omega
  have hte : encD d = [.sl false 1 (encBs d.t),.bool d.fr,.int .u16 (d.s : Int)] := rfl
  rw [R_loop' F.f280l0.eq_1]
  by_cases h8' : pre.length = 16
  ·refine ⟨⟨acc,T⟩,?_,rfl,hm,by simp only; omega⟩
   have e : (pre.length : Int) = 16 := by omega
   rw [e] at h5 hlt
   simp [h1,h2,h3,h4,h5,hlt,F.f280r0,F.f280R,F.f280K]
   rfl
  ·have hlt8 : (pre.length : Int) < 16 := by omega
   have hi := fun ρ => IH (pre ++ [x]) acc o o2 ρ (by rw [hk]; simp) (by simp; omega) (by simp; omega) hm
   have hj := fun ρ => IH (pre ++ [x]) (acc ++ [x]) o o2 ρ (by rw [hk]; simp) (by simp; omega) (by simp; omega) (fun y hy => by
    rcases List.mem_append.1 hy with hy | hy
    ·exact hm y hy
    ·simp at hy; subst hy; rw [hk]; simp)
   have hb : (acc.length + 1) * 56 ≤ 140737488355328 := lim56 (by omega)
   simp [h1,h2,h3,h4,h5,hg,hlt,hlt8,hw1,hte]
   refine guard_elim (P := MdOk bs _) ?_ ?_
   ·simp [h1,h2,h3,h4,h5,hlt,hlt8,hw1,hb,encTs_one,encTs_append]
    apply hj <;> simp [h1,h2,h4,hte]
   ·apply hi <;> simp [h1,h2,h3,h4,hte]
theorem call280 (d : Dr13) (hd : DOk d) (bs : List (List AV)) : MdOk bs MFr (call F.tb 280 [.agg (encD d)] bs) := by
 have hte : encD d = [.sl false 1 (encBs d.t),.bool d.fr,.int .u16 (d.s : Int)] := rfl
 obtain ⟨n,hn⟩ : ∃ n : Nat,(if 6 < (d.t.length : Int) then (6 : Int) else (d.t.length : Int)) = (n : Int) ∧ n ≤ 6 ∧ n ≤ d.t.length := ⟨min d.t.length 6,by split <;> omega,by omega,by omega⟩
 obtain ⟨hn,hn6,hnl⟩ := hn
 have hb2 : ∀ b ∈ d.t.take n,∀ m ∈ b,m < 256 := fun b hb => hd.b b (List.mem_of_mem_take hb)
 obtain ⟨l,h1,h2,h3⟩ := call281 (d.t.take n) hb2 d.fr bs (by have := hd.l; simp; omega) false
 have hll : l.length ≤ 6 := by simp at h2; omega
 have hf : MFr ⟨[],l⟩ := ⟨fun x hx => (h3 x hx).1,fun x hx => (h3 x hx).2,hll,fun x hx => (by cases hx),by simp⟩
 obtain ⟨f1,f2⟩ := mfr_ok hf
 have h4 := call264 ⟨[],l⟩ f1 (by simp only at f2 ⊢; omega) bs
 have hfl := freeT_len ⟨[],l⟩
 have hnm := nodesL_le_mass l
 have hsm := freeT_small hf.t
 simp only at f2 hfl
 have hll2 : (n : Int) ≤ (d.t.length : Int) := by omega
 have hl := fun ρ o o2 => Made_loop d l (freeT ⟨[],l⟩) bs (by omega) hd.s (freeT ⟨[],l⟩) [] [] o o2 ρ rfl (by simp) (by simp) (by simp)
 have key : ∀ r,MdOk bs (fun f => f.t = l ∧ (∀ x ∈ f.s,x ∈ freeT ⟨[],l⟩) ∧ f.s.length ≤ 16) r → MdOk bs MFr r := fun r ⟨f,e,e1,e2,e3⟩ => ⟨f,e,⟨by rw [e1]; exact hf.t,by rw [e1]; exact hf.e,by rw [e1]; exact hll,fun x hx => hsm x (e2 x hx),e3⟩⟩
 have htk : (encBs d.t).take n = encBs (d.t.take n) := by simp [encBs,List.map_take]
 rw [call_code F.tb_280 _ _ rfl]
 refine key _ ?_
 simp only [encF,encTs] at h4
 simp [F.f280B,F.f280C,hte,encBs_len,hn,hnl,hll2,htk,h1,h4]
 apply hl <;> first | rfl | simp [hte,encTs]
end Go.Am
