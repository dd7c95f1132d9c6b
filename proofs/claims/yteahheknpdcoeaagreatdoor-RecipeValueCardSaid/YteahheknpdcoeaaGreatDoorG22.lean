/-
  Rc27, Rc28, Rc29, Rc30, Rc31, Rc32, Rc33.
-/
import Derived.Test.YteahheknpdcoeaaGreatDoorG21
set_option linter.unusedVariables false
set_option linter.unusedSimpArgs false
namespace Go.Am
set_option maxRecDepth 8000
theorem findSy_mem2 {n : List UInt8} : ∀ {l : List Sy} {y : Sy},findSy n l = some y → y ∈ l ∧ y.n = n
 | [],y,h => by simp [findSy] at h
 | s :: ss,y,h => by
  simp only [findSy] at h
  split at h
  ·rename_i hs; injection h with h; subst h; exact ⟨by simp,hs⟩
  ·obtain ⟨h1,h2⟩ := findSy_mem2 h; exact ⟨by simp [h1],h2⟩
theorem sym_dest : symL.all (fun y => !(y.k == 3) || destN y.n) = true := by decide
def kindN (n : List UInt8) : Int := match findSy n symL with | some y => y.k | none => 0
theorem kind3 (n : List UInt8) : decide (kindN n = 3) = destN n := by
 unfold kindN
 cases hd : destN n
 ·cases hf : findSy n symL with
  | none => simp
  | some y =>
   obtain ⟨h1,h2⟩ := findSy_mem2 hf
   have h3 := List.all_eq_true.1 sym_dest y h1
   rw [h2,hd] at h3
   simpa using h3
 ·rcases destN_inv hd with (rfl | rfl | rfl) | (rfl | rfl | rfl) <;> simp [FST,SND,DEC,ADEC,OPEN,READ,findSy,symL]
theorem call128 (n : List UInt8) (bs : List (List AV)) : call F.tb 128 [.str n] bs = some (.int .i64 (kindN n),bs) := call_Kind n bs
set_option maxHeartbeats 4000000 in
theorem Rnorm_r0 (t : Tm) (us : List Tm) (bs : List (List AV)) (ha : arOk t.name us.length = true) (hg : goodL us = true) (hm : MX us t.name) (ρ : Nat → AV) (h1 : ρ 1 = .bx (encT t)) (h2 : ρ 2 = .bx [.int .i64 0,.str [],.int .i64 0,.sl true 4 []])
  (h4 : ρ 4 = .sl true 4 (encTs us)) : R F.tb F.f242r0 ρ bs (finK F.f242 bs) = some (encR (headN t.name us),bs) := by
 unfold MX at hm
 obtain ⟨n,hn⟩ : ∃ n,t.name = n := ⟨_,rfl⟩
 rw [hn] at ha hm ⊢
 have hap := call120 n us false bs (by omega)
 have hkn := call128 n bs
 have hk3 := kind3 n
 cases hd : destN n
 ·rw [hd] at hk3
  have hk3' : ¬ kindN n = 3 := by simpa using hk3
  generalize kindN n = KK at *
  by_cases hx : n = XOR
  ·subst hx
   have e : headN XOR us = sumX us := by simp [headN,hd]
   have hc := call_RSum8 us false bs (by omega) (by omega)
   rw [e]
   simp only [encR] at hc ⊢
   simp only [XOR] at *
   simp [F.f242r0,h1,h2,h4,hn,hap,hkn,hk3',hc,F.f242R,F.f242K]
  ·have b1 : (n == XOR) = false := by simpa using hx
   simp only [XOR] at b1
   by_cases hp : n = MUL ∨ n = INV ∨ n = ONE
   ·have e : headN n us = productT (.mk 3 n 0 us) := by simp only [headN,hd,hx,hp,if_true,if_false]; simp
    have hmass : (Tm.mk 3 n 0 us).mass < 20000000 := by simp only [Tm.mass]; omega
    have hc := call252 (.mk 3 n 0 us) bs (by omega)
    rw [e]
    simp only [encR] at hc ⊢
    generalize productT (.mk 3 n 0 us) = P at *
    rcases hp with rfl | rfl | rfl
    ·simp only [MUL] at *
     simp [F.f242r0,h1,h2,h4,hn,hap,hkn,hk3',hc,F.f242R,F.f242K]
    ·simp only [INV] at *
     simp [F.f242r0,h1,h2,h4,hn,hap,hkn,hk3',hc,F.f242R,F.f242K]
    ·simp only [ONE] at *
     simp [F.f242r0,h1,h2,h4,hn,hap,hkn,hk3',hc,F.f242R,F.f242K]
   ·by_cases he : n = EXP
    ·have e : headN n us = powT (us.getD 0 zeroT) (us.getD 1 zeroT) := by subst he; simp only [headN,hd,if_neg hx,if_neg hp]; simp
     subst he
     have hl : us.length = 2 := by simpa [arOk] using ha
     match us,hl,hg,hm,h4,e,hap with
     | [x,y],_,hg,hm,h4,e,hap =>
      simp only [goodL,Bool.and_eq_true] at hg
      simp only [massL] at hm
      have hc := call261 x y bs hg.1 (by omega) (by omega)
      rw [e]
      simp only [encR] at hc ⊢
      simp only [List.getD_cons_zero,List.getD_cons_succ] at *
      simp only [EXP] at *
      simp [F.f242r0,h1,h2,h4,hn,hap,hkn,hk3',hc,F.f242R,F.f242K]
    ·have e : headN n us = (.mk 3 n 0 us,0) := by simp only [headN,hd,hx,hp,he,if_false]; simp
     rw [e]
     have b2 : (n == MUL) = false := by simp at hp ⊢; exact hp.1
     have b3 : (n == INV) = false := by simp at hp ⊢; exact hp.2.1
     have b4 : (n == ONE) = false := by simp at hp ⊢; exact hp.2.2
     have b5 : (n == EXP) = false := by simpa using he
     simp only [MUL,INV,ONE,EXP] at b2 b3 b4 b5
     simp [F.f242r0,h1,h2,h4,hn,hap,hkn,hk3',b1,b2,b3,b4,b5,F.f242R,F.f242K,encR_mk]
 ·rw [hd] at hk3
  have hk3' : kindN n = 3 := by simpa using hk3
  rw [hk3'] at hkn
  have e : headN n us = (destT n us,0) := by simp [headN,hd]
  obtain ⟨b,hc⟩ := call243 bs hd ha hg (by omega)
  rw [e]
  generalize destT n us = D at *
  simp [F.f242r0,h1,h2,h4,hn,hap,hkn,hc,F.f242R,F.f242K,encR_mk]
theorem Rnorm_loop (t : Tm) (bs : List (List AV)) (hg : goodT t = true) (hk3 : t.kind = 3) (hm : t.mass + 13200 * t.nodes < 15000000) (ih : ∀ x ∈ t.kids,∀ bs,call F.tb 242 [.agg (encT x)] bs = some (encR (normT x),bs)) :
  ∀ (post pre us : List Tm) (ρ : Nat → AV),t.kids = pre ++ post → us.length = pre.length → goodL us = true → massL us ≤ massL pre + 13200 * nodesL pre → ρ 1 = .bx (encT t) → ρ 2 = .bx [.int .i64 0,.str [],.int .i64 0,.sl true 4 []] →
   ρ 4 = .sl true 4 (encTs us) → ρ 5 = .int .i64 pre.length →
  R F.tb (.loop F.f242l0) ρ bs (blockK 0 (seqK F.tb F.f242r0 (finK F.f242 bs))) = some (encR (outN2 t.name us (normL post)),bs) := by
 have hme := mass_eq t
 have hne := nodes_eq t
 intro post
 induction post with
 | nil =>
  intro pre us ρ hk hl hgu hmu h1 h2 h4 h5
  simp only [List.append_nil] at hk
  rw [← hk] at h5 hl hmu
  have har := (good_node hg hk3).2
  have hr := Rnorm_r0 t us bs (by rw [hl]; exact har) hgu (by unfold MX; omega)
  have e : outN2 t.name us (normL []) = headN t.name us := by simp [outN2,normL]
  rw [R_loop' F.f242l0.eq_1,e]
  simp [h1,h2,h4,h5]
  apply hr <;> simp [h1,h2,h4]
 | cons x post IH =>
  intro pre us ρ hk hl hgu hmu h1 h2 h4 h5
  have hg2 := get_pre hk
  have hll : t.kids.length = pre.length + (post.length + 1) := by rw [hk]; simp
  have hw1 : IntKind.i64.wrap ((pre.length : Int) + 1) = (pre.length : Int) + 1 := wrap64 (by omega) (by omega)
  have hlt : (pre.length : Int) < (t.kids.length : Int) := by omega
  have hxk : x ∈ t.kids := by rw [hk]; simp
  have hc := ih x hxk bs
  obtain ⟨n1,n2⟩ := normT_ok x (goodL_mem.1 (good_kids hg) x hxk)
  simp only [encR] at hc
  rw [R_loop' F.f242l0.eq_1]
  by_cases c : (normT x).2 = 0
  ·have e : outN2 t.name us (normL (x :: post)) = outN2 t.name (us ++ [(normT x).1]) (normL post) := by
    simp only [outN2,normL,c,if_true]
    by_cases c2 : (normL post).2 = 0
    ·simp [c2]
    ·simp [c2]
   have hb : (us.length + 1) * 56 ≤ 140737488355328 := lim56 (by omega)
   have hi := fun ρ => IH (pre ++ [x]) (us ++ [(normT x).1]) ρ (by rw [hk]; simp) (by simp [hl]) (goodL_mem.2 fun y hy => by
    rcases List.mem_append.1 hy with hy | hy
    ·exact goodL_mem.1 hgu y hy
    ·simp at hy; subst hy; exact n1) (by rw [massL_append,massL_append,nodesL_append]; simp only [massL,nodesL]; omega)
   rw [e]
   simp [h1,h2,h4,h5,hg2,hlt,hw1,hc,c,hb,encTs_one,encTs_append]
   apply hi <;> simp [h1,h2]
  ·have e : outN2 t.name us (normL (x :: post)) = (zeroT,(normT x).2) := by simp [outN2,normL,c]
   rw [e]
   simp [h1,h2,h4,h5,hg2,hlt,hc,c,F.f242R,F.f242K,encR_mk,encT_zero]
theorem call242 : ∀ (t : Tm) (bs : List (List AV)),goodT t = true → t.mass + 13200 * t.nodes < 15000000 → call F.tb 242 [.agg (encT t)] bs = some (encR (normT t),bs) := by
 refine tm_ind ?_
 intro k n s ks ih bs hg hm
 have hme := mass_eq (.mk k n s ks)
 have hne := nodes_eq (.mk k n s ks)
 simp only [mk_kids,mk_name] at hme hne
 rw [call_code F.tb_242 _ _ rfl]
 by_cases hk : k = 3
 ·subst hk
  have hl := fun ρ => Rnorm_loop (.mk 3 n s ks) bs hg rfl hm (fun x hx bs => ih x hx bs (goodL_mem.1 (good_kids hg) x hx) (by have h1 : x.mass ≤ massL ks := massL_mem hx; have h2 : x.nodes ≤ nodesL ks := nodesL_mem hx; omega)) ks [] [] ρ rfl rfl rfl (by simp [massL])
  have e : normT (.mk 3 n s ks) = outN2 n [] (normL ks) := by simp [normT,outN2]
  rw [e]
  simp only [mk_name,mk_kids] at hl
  simp [F.f242B,F.f242C]
  apply hl <;> simp [encTs]
 ·have e : normT (.mk k n s ks) = (.mk k n s ks,0) := by simp [normT,hk]
  rw [e]
  simp [F.f242B,F.f242C,hk,F.f242R,F.f242K,encR_mk]
end Go.Am
namespace Go.Am
set_option maxRecDepth 8000
def normV (t : Tm) : Tm × Int := if thV t ≠ 0 then (zeroT,thV t) else if (normT t).2 ≠ 0 then (zeroT,(normT t).2) else if validT (normT t).1 ≠ 0 then (zeroT,validT (normT t).1) else ((normT t).1,0)
theorem thV_inv {t : Tm} (h : thV t = 0) : validT t = 0 ∧ chkT t = 0 ∧ goodT t = true ∧ t.mass ≤ 13200 ∧ t.nodes ≤ 400 := by
 unfold thV at h
 split at h
 ·rename_i h1; exact absurd h h1
 ·rename_i h1
  have h2 : validT t = 0 := by simpa using h1
  obtain ⟨a,b,c⟩ := validT_inv h2
  exact ⟨h2,h,good_valid t a h,c,b⟩
theorem normV_mass (t : Tm) : (normV t).1.mass ≤ 13200 := by
 unfold normV
 split
 ·show zeroT.mass ≤ _; rw [zero_mass]; omega
 ·split
  ·show zeroT.mass ≤ _; rw [zero_mass]; omega
  ·split
   ·show zeroT.mass ≤ _; rw [zero_mass]; omega
   ·rename_i h; exact (validT_inv (by simpa using h)).2.2
theorem call174 (t : Tm) (bs : List (List AV)) (hm : t.mass < big) : call F.tb 174 [.agg (encT t)] bs = some (encR (normV t),bs) := by
 have h1 := call_thValid t bs hm
 rw [call_code F.tb_174 _ _ rfl]
 by_cases c1 : thV t = 0
 ·obtain ⟨_,_,hg,hma,hno⟩ := thV_inv c1
  have h2 := call175 t bs hg (by omega)
  obtain ⟨n1,n2⟩ := normT_ok t hg
  have h3 := call_Valid (normT t).1 bs (by unfold big; omega)
  simp only [encR] at h2
  by_cases c2 : (normT t).2 = 0
  ·by_cases c3 : validT (normT t).1 = 0
   ·have e : normV t = ((normT t).1,0) := by simp [normV,c1,c2,c3]
    rw [e]
    simp [F.f174B,F.f174C,F.f174R,F.f174K,h1,h2,h3,c1,c2,c3,encR_mk]
   ·have e : normV t = (zeroT,validT (normT t).1) := by simp [normV,c1,c2,c3]
    rw [e]
    simp [F.f174B,F.f174C,F.f174R,F.f174K,h1,h2,h3,c1,c2,c3,encR_mk,encT_zero]
  ·have e : normV t = (zeroT,(normT t).2) := by simp [normV,c1,c2]
   rw [e]
   simp [F.f174B,F.f174C,F.f174R,F.f174K,h1,h2,c1,c2,encR_mk,encT_zero]
 ·have e : normV t = (zeroT,thV t) := by simp [normV,c1]
  rw [e]
  simp [F.f174B,F.f174C,F.f174R,F.f174K,h1,c1,encR_mk,encT_zero]
theorem call241 (t : Tm) (bs : List (List AV)) (hm : t.mass < big) : call F.tb 241 [.agg (encT t)] bs = some (encR (normV t),bs) := by
 have h1 := call_R9Valid t bs hm
 rw [call_code F.tb_241 _ _ rfl]
 by_cases c1 : thV t = 0
 ·obtain ⟨_,_,hg,hma,hno⟩ := thV_inv c1
  have h2 := call242 t bs hg (by omega)
  obtain ⟨n1,n2⟩ := normT_ok t hg
  have h3 := call_RValid1 (normT t).1 bs (by unfold big; omega)
  simp only [encR] at h2
  by_cases c2 : (normT t).2 = 0
  ·by_cases c3 : validT (normT t).1 = 0
   ·have e : normV t = ((normT t).1,0) := by simp [normV,c1,c2,c3]
    rw [e]
    simp [F.f241B,F.f241C,F.f241R,F.f241K,h1,h2,h3,c1,c2,c3,encR_mk]
   ·have e : normV t = (zeroT,validT (normT t).1) := by simp [normV,c1,c2,c3]
    rw [e]
    simp [F.f241B,F.f241C,F.f241R,F.f241K,h1,h2,h3,c1,c2,c3,encR_mk,encT_zero]
  ·have e : normV t = (zeroT,(normT t).2) := by simp [normV,c1,c2]
   rw [e]
   simp [F.f241B,F.f241C,F.f241R,F.f241K,h1,h2,c1,c2,encR_mk,encT_zero]
 ·have e : normV t = (zeroT,thV t) := by simp [normV,c1]
  rw [e]
  simp [F.f241B,F.f241C,F.f241R,F.f241K,h1,c1,encR_mk,encT_zero]
theorem call206 (n : List UInt8) (bs : List (List AV)) : call F.tb 206 [.str n] bs = some (.bool (!destN n),bs) := by
 have h := call_symbol n bs
 have hk := kind3 n
 rw [call_code F.tb_206 _ _ rfl,← hk]
 unfold kindN
 cases hf : findSy n symL with
 | none =>
  rw [hf] at h
  simp [F.f206B,F.f206C,F.f206R,F.f206K,h]
 | some y =>
  rw [hf] at h
  simp [F.f206B,F.f206C,F.f206R,F.f206K,h,encY]
def ndN (t : Tm) : Bool := !(decide (t.kind = 3) && destN t.name)
mutual
def evT : Tm → Bool
 | .mk k n s ks => ndN (.mk k n s ks) && evL ks
def evL : List Tm → Bool
 | [] => true
 | t :: ts => evT t && evL ts
end
theorem evT_eq (t : Tm) : evT t = (ndN t && evL t.kids) := by cases t; simp [evT]
mutual
theorem evT_all : ∀ t : Tm,evT t = (allT t).all ndN
 | .mk k n s ks => by simp only [evT,allT,List.all_cons,evL_all ks]
theorem evL_all : ∀ ts : List Tm,evL ts = (allL ts).all ndN
 | [] => rfl
 | t :: ts => by simp only [evL,allL,List.all_append,evT_all t,evL_all ts]
end
theorem every_loop (t : Tm) (bs : List (List AV)) (hm : t.mass < big) (ih : ∀ x ∈ t.kids,∀ bs,call F.tb 207 [.agg (encT x),.fn 206 []] bs = some (.bool (evT x),bs)) :
  ∀ (post pre : List Tm) (ρ : Nat → AV),t.kids = pre ++ post → ρ 1 = .fn 206 [] → ρ 18 = .sl false 4 (encTs t.kids) → ρ 19 = .int .i64 t.kids.length → ρ 20 = .int .i64 pre.length →
  R F.tb (.loop F.f207l0) ρ bs (blockK 0 (seqK F.tb F.f207r0 (finK F.f207 bs))) = some (.bool (evL post),bs) := by
 have hm2 := mass_eq t
 unfold big at hm
 intro post
 induction post with
 | nil =>
  intro pre ρ hk h1 h18 h19 h20
  simp only [List.append_nil] at hk
  rw [← hk] at h20
  rw [R_loop' F.f207l0.eq_1]
  simp [h1,h18,h19,h20,F.f207r0,F.f207R,F.f207K,evL]
 | cons x post IH =>
  intro pre ρ hk h1 h18 h19 h20
  have hg := get_pre hk
  have hll : t.kids.length = pre.length + (post.length + 1) := by rw [hk]; simp
  have hw1 : IntKind.i64.wrap ((pre.length : Int) + 1) = (pre.length : Int) + 1 := wrap64 (by omega) (by omega)
  have hlt : (pre.length : Int) < (t.kids.length : Int) := by omega
  have hc := ih x (by rw [hk]; simp) bs
  rw [R_loop' F.f207l0.eq_1]
  cases hb : evT x
  ·simp [h1,h18,h19,h20,hg,hlt,hc,hb,F.f207R,F.f207K,evL]
  ·have h2 := fun ρ => IH (pre ++ [x]) ρ (by rw [hk]; simp)
   simp [h1,h18,h19,h20,hg,hlt,hw1,hc,hb,evL]
   apply h2 <;> simp [h1,h18,h19]
theorem call207 : ∀ (t : Tm) (bs : List (List AV)),t.mass < big → call F.tb 207 [.agg (encT t),.fn 206 []] bs = some (.bool (evT t),bs) := by
 refine tm_ind ?_
 intro k n s ks ih bs hm
 have hl := fun ρ => every_loop (.mk k n s ks) bs hm (fun x hx bs => ih x hx bs (by have h1 : x.mass ≤ massL ks := massL_mem hx; have := mass_eq (.mk k n s ks); simp only [mk_kids] at this; omega)) ks [] ρ rfl
 have h2 := call206 n bs
 simp only [mk_kids] at hl
 rw [call_code F.tb_207 _ _ rfl,evT_eq]
 by_cases hk : k = 3
 ·cases hd : destN n
  ·have e : ndN (.mk k n s ks) = true := by simp [ndN,hd]
   rw [e]
   simp [F.f207B,F.f207C,hk,hd,h2]
   apply hl <;> simp
  ·have e : ndN (.mk k n s ks) = false := by simp [ndN,hd,hk]
   rw [e]
   simp [F.f207B,F.f207C,hk,hd,h2,F.f207R,F.f207K]
 ·have e : ndN (.mk k n s ks) = true := by simp [ndN,hk]
  rw [e]
  simp [F.f207B,F.f207C,hk]
  apply hl <;> simp
def plainB (t : Tm) : Bool := decide ((normV t).2 = 0) && decide (cmpT (normV t).1 t = 0) && evT t
theorem call173 (t : Tm) (bs : List (List AV)) (hm : t.mass < big) : call F.tb 173 [.agg (encT t)] bs = some (.bool (plainB t),bs) := by
 have h1 := call174 t bs hm
 have hnm := normV_mass t
 have h2 := call177 (normV t).1 t bs (by unfold big; omega) hm
 have h3 := call207 t bs hm
 simp only [encR] at h1
 rw [call_code F.tb_173 _ _ rfl]
 by_cases c1 : (normV t).2 = 0
 ·by_cases c2 : cmpT (normV t).1 t = 0
  ·simp [F.f173B,F.f173C,F.f173R,F.f173K,h1,h2,h3,c1,c2,plainB]
  ·simp [F.f173B,F.f173C,F.f173R,F.f173K,h1,h2,h3,c1,c2,plainB]
 ·simp [F.f173B,F.f173C,F.f173R,F.f173K,h1,c1,plainB]
theorem Rplain_loop (l : List Tm) (bs : List (List AV)) (hl : l.length < 100000000) : ∀ (post pre : List Tm) (o : Bool) (ρ : Nat → AV),l = pre ++ post → ρ 5 = .sl o 4 (encTs l) → ρ 6 = .int .i64 pre.length →
  R F.tb (.loop F.f240l0) ρ bs (blockK 0 (seqK F.tb F.f240r0 (finK F.f240 bs))) = some (.bool (post.all ndN),bs) := by
 intro post
 induction post with
 | nil =>
  intro pre o ρ hk h5 h6
  simp only [List.append_nil] at hk
  rw [← hk] at h6
  rw [R_loop' F.f240l0.eq_1]
  simp [h5,h6,F.f240r0,F.f240R,F.f240K]
 | cons x post IH =>
  intro pre o ρ hk h5 h6
  have hg := get_pre hk
  have hll : l.length = pre.length + (post.length + 1) := by rw [hk]; simp
  have hw1 : IntKind.i64.wrap ((pre.length : Int) + 1) = (pre.length : Int) + 1 := wrap64 (by omega) (by omega)
  have hlt : (pre.length : Int) < (l.length : Int) := by omega
  have hc := call128 x.name bs
  have hk3 := kind3 x.name
  have h2 := fun ρ => IH (pre ++ [x]) o ρ (by rw [hk]; simp)
  rw [List.all_cons]
  rw [R_loop' F.f240l0.eq_1]
  by_cases ck : x.kind = 3
  ·cases hd : destN x.name
   ·rw [hd] at hk3
    have hk3' : ¬ kindN x.name = 3 := by simpa using hk3
    have e : ndN x = true := by simp [ndN,hd]
    rw [e,Bool.true_and]
    generalize kindN x.name = KK at *
    simp [h5,h6,hg,hlt,hw1,hc,ck,hk3',-List.all_eq_true]
    apply h2 <;> simp [h5]
   ·rw [hd] at hk3
    have hk3' : kindN x.name = 3 := by simpa using hk3
    have e : ndN x = false := by simp [ndN,hd,ck]
    rw [e,Bool.false_and]
    simp [h5,h6,hg,hlt,hc,ck,hk3',F.f240R,F.f240K]
  ·have e : ndN x = true := by simp [ndN,ck]
   rw [e,Bool.true_and]
   simp [h5,h6,hg,hlt,hw1,ck,-List.all_eq_true]
   apply h2 <;> simp [h5]
theorem call240 (t : Tm) (bs : List (List AV)) (hm : t.mass < 1000000) : call F.tb 240 [.agg (encT t)] bs = some (.bool (plainB t),bs) := by
 have hmb : t.mass < big := by unfold big; omega
 have h1 := call241 t bs hmb
 have hnm := normV_mass t
 have h2 := call_RSame t (normV t).1 bs hmb (by unfold big; omega)
 have hsym : decide (cmpT t (normV t).1 = 0) = decide (cmpT (normV t).1 t = 0) := by
  have := cmpT_anti t (normV t).1
  rw [decide_eq_decide]; omega
 rw [hsym] at h2
 have h3 := call_All t bs (by omega)
 have hlen := allT_len t
 have hnn := nodes_le_mass t
 have h4 := fun o ρ => Rplain_loop (allT t) bs (by omega) (allT t) [] o ρ rfl
 simp only [encR] at h1
 rw [call_code F.tb_240 _ _ rfl]
 have e : plainB t = (decide ((normV t).2 = 0) && decide (cmpT (normV t).1 t = 0) && (allT t).all ndN) := by rw [← evT_all]; rfl
 rw [e]
 by_cases c1 : (normV t).2 = 0
 ·by_cases c2 : cmpT (normV t).1 t = 0
  ·simp [F.f240B,F.f240C,h1,h2,h3,c1,c2,-List.all_eq_true]
   refine h4 false _ ?_ ?_ <;> simp
  ·simp [F.f240B,F.f240C,F.f240R,F.f240K,h1,h2,c1,c2]
 ·simp [F.f240B,F.f240C,F.f240R,F.f240K,h1,c1]
end Go.Am
namespace Go.Am
set_option maxRecDepth 8000
def digB (c : UInt8) : Bool := decide (48 ≤ c.toNat) && decide (c.toNat ≤ 57)
def DIGS : List UInt8 := [48,49,50,51,52,53,54,55,56,57]
theorem digs_fin : ∀ d : Fin 256,DIGS.contains (UInt8.ofNat d.val) = digB (UInt8.ofNat d.val) := by decide
theorem digs_mem (c : UInt8) : DIGS.contains c = digB c := by
 have h := digs_fin ⟨c.toNat,c.toNat_lt⟩
 simp only [UInt8.ofNat_toNat] at h
 exact h
theorem dw_nil {p : UInt8 → Bool} : ∀ {l : List UInt8},l.dropWhile p = [] ↔ ∀ x ∈ l,p x = true
 | [] => by simp
 | a :: l => by
  rw [List.dropWhile_cons]
  cases h : p a
  ·simp [h]
  ·simp [h,dw_nil (l := l)]
theorem trim_nil (s : List UInt8) : (Lib.trimS s DIGS == []) = s.all digB := by
 have hp : (fun b => DIGS.contains b) = digB := funext digs_mem
 cases hs : s.all digB
 ·have hne : Lib.trimS s DIGS ≠ [] := by
   intro e
   unfold Lib.trimS Lib.trimLeftS Lib.trimRightS at e
   rw [hp] at e
   have h1 := dw_nil.1 e
   cases hw : s.reverse.dropWhile digB with
   | nil =>
    have h2 := dw_nil.1 hw
    have : s.all digB = true := List.all_eq_true.2 fun x hx => h2 x (by simpa using hx)
    rw [hs] at this; cases this
   | cons x r =>
    have h2 : digB x = false := by
     have := List.head_dropWhile_not digB (l := s.reverse) (by rw [hw]; simp)
     simpa [hw] using this
    have h3 := h1 x (by rw [hw]; simp)
    rw [h2] at h3; cases h3
  simpa using hne
 ·have : Lib.trimS s DIGS = [] := by
   unfold Lib.trimS Lib.trimLeftS Lib.trimRightS
   rw [hp]
   have : s.reverse.dropWhile digB = [] := dw_nil.2 fun x hx => List.all_eq_true.1 hs x (by simpa using hx)
   rw [this]; rfl
  simp [this]
def ownB (s : List UInt8) : Bool := match s with
 | 101 :: 35 :: c :: r => (c :: r).all digB
 | _ => false
def pubT (t : Tm) : Bool :=
 if t.kind = 3 then (t.name == ZERO || t.name == ONE) && decide (t.kids.length = 0)
 else if t.kind = 2 then (if t.sort = 1 ∨ t.sort = 5 then true else if t.sort = 4 then t.name == [103] || ownB t.name else if t.sort = 0 ∨ t.sort = 2 ∨ t.sort = 3 then ownB t.name else false)
 else false
def digS (s : List UInt8) : Bool := !(s == []) && s.all digB
theorem call163 (s : List UInt8) (bs : List (List AV)) (hs : s.length < 4294967281) : call F.tb 163 [.str s] bs = some (.bool (digS s),bs) := by
 have ht : call F.tb 164 [.str s,.str DIGS] bs = some (.str (Lib.trimS s DIGS),bs) := by
  rw [call_orc F.tb_164]
  have hc : (DIGS.all (· < 128) && decide (s.length < 4294967281) && decide (DIGS.length < 4294967281)) = true := by
   rw [show DIGS.all (· < 128) = true from by decide]
   simp [hs,DIGS]
  simp only [pureOrc,trimO,hc,if_true]
  rfl
 have hn := trim_nil s
 rw [call_code F.tb_163 _ _ rfl]
 simp only [DIGS] at ht hn
 cases he : s == []
 ·simp [F.f163B,F.f163C,F.f163R,F.f163K,ht,hn,he,digS,bne,-List.all_eq_true]
 ·simp [F.f163B,F.f163C,F.f163R,F.f163K,ht,hn,he,digS,bne,-List.all_eq_true]
def cutB (s : List UInt8) : Bool := decide (2 ≤ s.length) && (s.take 2 == [101,35])
theorem call75 (s : List UInt8) (bs : List (List AV)) : call F.tb 75 [.str s,.str [101,35]] bs = some (.bool (cutB s),bs) := by
 rw [call_code F.tb_75 _ _ rfl]
 by_cases h : 2 ≤ s.length
 ·have h' : (2 : Int) ≤ (s.length : Int) := by omega
  simp [F.f75B,F.f75C,F.f75R,F.f75K,cutB,h,h']
 ·have h' : ¬ (2 : Int) ≤ (s.length : Int) := by omega
  simp [F.f75B,F.f75C,F.f75R,F.f75K,cutB,h,h']
theorem call73 (s : List UInt8) (bs : List (List AV)) : call F.tb 73 [.str s,.str [101,35]] bs = some (.tup [.str (if cutB s then s.drop 2 else s),.bool (cutB s)],bs) := by
 have h1 := call75 s bs
 have h2 : call F.tb 74 [.str s,.str [101,35]] bs = some (.tup [.str (if cutB s then s.drop 2 else s),.bool (cutB s)],bs) := by
  rw [call_code F.tb_74 _ _ rfl]
  cases hc : cutB s
  ·simp [F.f74B,F.f74C,F.f74R,F.f74K,h1,hc]
  ·have hl : 2 ≤ s.length := by simp [cutB] at hc; exact hc.1
   have hl' : (2 : Int) ≤ (s.length : Int) := by omega
   simp [F.f74B,F.f74C,F.f74R,F.f74K,h1,hc,hl,hl']
 rw [call_code F.tb_73 _ _ rfl]
 generalize (if cutB s then s.drop 2 else s) = w at *
 simp [F.f73B,F.f73C,F.f73R,F.f73K,h2]
theorem own_cut (s : List UInt8) : (cutB s && digS (if cutB s then s.drop 2 else s)) = ownB s := by
 cases hc : cutB s
 ·rw [Bool.false_and]
  unfold ownB
  split
  ·simp [cutB] at hc
  ·rfl
 ·simp only [if_true,Bool.true_and]
  match s,hc with
  | [],hc => simp [cutB] at hc
  | [_],hc => simp [cutB] at hc
  | [a,b],hc => 
   simp [cutB] at hc
   obtain ⟨rfl,rfl⟩ := hc
   rfl
  | a :: b :: c :: r,hc =>
   simp [cutB] at hc
   obtain ⟨rfl,rfl⟩ := hc
   simp [digS,ownB]
theorem ix_str (x a b : List UInt8) (bs : List (List AV)) : call F.tb 162 [.sl false 1 [[.str a],[.str b]],.str x] bs = some (.int .i64 (if x == a then 0 else if x == b then 1 else -1),bs) := by
 rw [call_code F.tb_162 _ _ rfl]
 simp [F.f162B,F.f162C]
 rw [R_loop' F.f162l0.eq_1]
 cases h1 : x == a
 ·have g1 : ¬ x = a := by simpa using h1
  simp [h1,g1]
  rw [R_loop' F.f162l0.eq_1]
  cases h2 : x == b
  ·have hw : IntKind.i64.wrap 1 = 1 := rfl
   have hw2 : IntKind.i64.wrap 2 = 2 := rfl
   have g2 : ¬ x = b := by simpa using h2
   simp [h2,hw,hw2,g2]
   rw [R_loop' F.f162l0.eq_1]
   simp [F.f162r0,F.f162R,F.f162K]
  ·have hw : IntKind.i64.wrap 1 = 1 := rfl
   have g2 : x = b := by simpa using h2
   simp [h2,hw,← g2,F.f162R,F.f162K]
 ·have g1 : x = a := by simpa using h1
  simp [h1,← g1,F.f162R,F.f162K]
theorem call160 (t : Tm) (bs : List (List AV)) (hk : t.kind = 3) : call F.tb 160 [.agg (encT t),.sl false 1 [[.str ZERO],[.str ONE]]] bs = some (.bool (t.name == ZERO || t.name == ONE),bs) := by
 have h := ix_str t.name ZERO ONE bs
 have h2 : call F.tb 161 [.sl false 1 [[.str ZERO],[.str ONE]],.str t.name] bs = some (.bool (t.name == ZERO || t.name == ONE),bs) := by
  rw [call_code F.tb_161 _ _ rfl]
  cases h1 : t.name == ZERO
  ·cases h3 : t.name == ONE <;> simp [h1,h3] at h <;> simp [F.f161B,F.f161C,F.f161R,F.f161K,h]
  ·simp [h1] at h
   simp [F.f161B,F.f161C,F.f161R,F.f161K,h]
 rw [call_code F.tb_160 _ _ rfl]
 simp [F.f160B,F.f160C,F.f160R,F.f160K,hk,h2]
theorem call159 (t : Tm) (bs : List (List AV)) (hm : t.mass < 1000000) : call F.tb 159 [.agg (encT t)] bs = some (.bool (pubT t),bs) := by
 have hme := mass_eq t
 rw [call_code F.tb_159 _ _ rfl]
 by_cases hk : t.kind = 3
 ·have h1 := call160 t bs hk
  simp only [ZERO,ONE] at h1
  cases hz : (t.name == [122,101,114,111] || t.name == [111,110,101])
  ·rw [hz] at h1
   simp [F.f159B,F.f159C,F.f159R,F.f159K,hk,h1,pubT,ZERO,ONE,hz]
   try (simp at hz; simp [hz])
  ·rw [hz] at h1
   by_cases hl : t.kids = []
   ·simp [F.f159B,F.f159C,F.f159R,F.f159K,hk,h1,pubT,ZERO,ONE,hz,hl]
   ·have hl0 : ¬ t.kids.length = 0 := fun e => hl (List.eq_nil_of_length_eq_zero e)
    have hl' : ¬ (t.kids.length : Int) = 0 := by omega
    simp [F.f159B,F.f159C,F.f159R,F.f159K,hk,h1,pubT,ZERO,ONE,hl,hl']
 ·by_cases hk2 : t.kind = 2
  ·have h1 := call73 t.name bs
   have h2 := call163 (if cutB t.name then t.name.drop 2 else t.name) bs (by
    split
    ·rw [List.length_drop]; omega
    ·omega)
   have ho := own_cut t.name
   generalize (if cutB t.name then t.name.drop 2 else t.name) = w at *
   have hp : pubT t = if t.sort = 1 ∨ t.sort = 5 then true else if t.sort = 4 then t.name == [103] || ownB t.name else if t.sort = 0 ∨ t.sort = 2 ∨ t.sort = 3 then ownB t.name else false := by
    unfold pubT; rw [if_neg hk,if_pos hk2]
   rw [hp]
   generalize ownB t.name = O at *
   by_cases s1 : t.sort = 1
   ·simp [F.f159B,F.f159C,F.f159R,F.f159K,hk2,h1,s1]
   ·by_cases s5 : t.sort = 5
    ·simp [F.f159B,F.f159C,F.f159R,F.f159K,hk2,h1,s5]
    ·by_cases s4 : t.sort = 4
     ·cases hg : t.name == [103]
      ·cases hcu : cutB t.name
       ·rw [hcu] at h1 ho
        simp at ho
        subst ho
        simp [F.f159B,F.f159C,F.f159R,F.f159K,hk2,h1,s4,hg]
       ·rw [hcu] at h1 ho
        simp at ho
        subst ho
        simp [F.f159B,F.f159C,F.f159R,F.f159K,hk2,h1,h2,s4,hg]
      ·simp [F.f159B,F.f159C,F.f159R,F.f159K,hk2,h1,s4,hg]
     ·by_cases s0 : t.sort = 0 ∨ t.sort = 2 ∨ t.sort = 3
      ·cases hcu : cutB t.name
       ·rw [hcu] at h1 ho
        simp at ho
        subst ho
        rcases s0 with s0 | s0 | s0 <;> simp [F.f159B,F.f159C,F.f159R,F.f159K,hk2,h1,s0]
       ·rw [hcu] at h1 ho
        simp at ho
        subst ho
        rcases s0 with s0 | s0 | s0 <;> simp [F.f159B,F.f159C,F.f159R,F.f159K,hk2,h1,h2,s0]
      ·simp only [not_or] at s0
       simp [F.f159B,F.f159C,F.f159R,F.f159K,hk2,h1,s1,s5,s4,s0.1,s0.2.1,s0.2.2]
  ·have hp : pubT t = false := by unfold pubT; rw [if_neg hk,if_neg hk2]
   rw [hp]
   simp [F.f159B,F.f159C,F.f159R,F.f159K,hk,hk2]
end Go.Am
namespace Go.Am
set_option maxRecDepth 8000
theorem own_loop10 (s : List UInt8) (bs : List (List AV)) (hs : s.length < 1000000000) : ∀ (post pre : List UInt8) (ρ : Nat → AV),s = pre ++ post → ρ 0 = .str s → ρ 3 = .int .i64 pre.length →
  R F.tb (.loop F.f232l0) ρ bs (blockK 0 (seqK F.tb F.f232r0 (finK F.f232 bs))) = some (.bool (post.all digB),bs) := by
 intro post
 induction post with
 | nil =>
  intro pre ρ hk h0 h3
  simp only [List.append_nil] at hk
  rw [← hk] at h3
  rw [R_loop' F.f232l0.eq_1]
  simp [h0,h3,F.f232r0,F.f232R,F.f232K]
 | cons c post IH =>
  intro pre ρ hk h0 h3
  have hg := get_pre hk
  have hll : s.length = pre.length + (post.length + 1) := by rw [hk]; simp
  have hw1 : IntKind.i64.wrap ((pre.length : Int) + 1) = (pre.length : Int) + 1 := wrap64 (by omega) (by omega)
  have hlt : (pre.length : Int) < (s.length : Int) := by omega
  have h2 := fun ρ => IH (pre ++ [c]) ρ (by rw [hk]; simp)
  rw [List.all_cons]
  rw [R_loop' F.f232l0.eq_1]
  by_cases c1 : c.toNat < 48
  ·have e : digB c = false := by simp [digB]; omega
   have c1' : (c.toNat : Int) < 48 := by omega
   simp [-getElem?_pos,h0,h3,hg,hlt,c1,c1',e,F.f232R,F.f232K]
  ·have c1' : ¬ (c.toNat : Int) < 48 := by omega
   by_cases c2 : 57 < c.toNat
   ·have e : digB c = false := by simp [digB]; omega
    have c2' : (57 : Int) < (c.toNat : Int) := by omega
    simp [-getElem?_pos,h0,h3,hg,hlt,c1,c1',c2,c2',e,F.f232R,F.f232K]
   ·have e : digB c = true := by simp [digB]; omega
    have c2' : ¬ (57 : Int) < (c.toNat : Int) := by omega
    rw [e,Bool.true_and]
    simp [-getElem?_pos,h0,h3,hg,hlt,hw1,c1,c1',c2,c2',-List.all_eq_true]
    apply h2 <;> simp [h0]
theorem call232 (s : List UInt8) (bs : List (List AV)) (hs : s.length < 1000000000) : call F.tb 232 [.str s] bs = some (.bool (ownB s),bs) := by
 rw [call_code F.tb_232 _ _ rfl]
 by_cases h3 : s.length < 3
 ·have h3' : (s.length : Int) < 3 := by omega
  have e : ownB s = false := by
   unfold ownB
   split
   ·exfalso; simp only [List.length_cons] at h3; omega
   ·rfl
  simp [F.f232B,F.f232C,F.f232R,F.f232K,h3,h3',e]
 ·have h3' : ¬ (s.length : Int) < 3 := by omega
  have hl2 : 2 ≤ s.length := by omega
  have hl2' : (2 : Int) ≤ (s.length : Int) := by omega
  cases hp : s.take 2 == [101,35]
  ·have e : ownB s = false := by
    unfold ownB
    split
    ·simp at hp
    ·rfl
   simp [F.f232B,F.f232C,F.f232R,F.f232K,h3,h3',hl2,hl2',hp,e,bne]
  ·match s,hp,h3,hs with
   | a :: b :: c :: r,hp,h3,hs =>
    have h2 := fun ρ => own_loop10 (a :: b :: c :: r) bs hs (c :: r) [a,b] ρ rfl
    simp at hp
    obtain ⟨rfl,rfl⟩ := hp
    have e : ownB (101 :: 35 :: c :: r) = (c :: r).all digB := rfl
    rw [e]
    simp only [List.length_cons,List.length_nil] at h3' hl2 hl2' h2
    generalize (c :: r).all digB = O at *
    have h3'' : ¬ ((r.length : Int) + 1 + 1 + 1 < 3) := by omega
    have hl3 : (2 : Int) ≤ (r.length : Int) + 1 + 1 + 1 := by omega
    simp [F.f232B,F.f232C,h3'',hl3,bne]
    apply h2 <;> simp
   | [],hp,_,_ => simp at hp
   | [_],hp,_,_ => simp at hp
   | [_,_],hp,h3,_ => simp at h3
theorem call231 (t : Tm) (bs : List (List AV)) (hm : t.mass < 1000000) : call F.tb 231 [.agg (encT t)] bs = some (.bool (pubT t),bs) := by
 have hme := mass_eq t
 have ho := call232 t.name bs (by omega)
 rw [call_code F.tb_231 _ _ rfl]
 by_cases hk : t.kind = 3
 ·have hp : pubT t = ((t.name == ZERO || t.name == ONE) && decide (t.kids.length = 0)) := by unfold pubT; rw [if_pos hk]
  rw [hp]
  by_cases hl : t.kids = []
  ·cases h1 : t.name == ZERO
   ·cases h2 : t.name == ONE <;> simp only [ZERO,ONE] at h1 h2 <;> simp [F.f231B,F.f231C,F.f231R,F.f231K,hk,h1,h2,hl]
   ·simp only [ZERO] at h1; simp [F.f231B,F.f231C,F.f231R,F.f231K,hk,h1,hl]
  ·have hl0 : ¬ t.kids.length = 0 := fun e => hl (List.eq_nil_of_length_eq_zero e)
   have hl' : ¬ (t.kids.length : Int) = 0 := by omega
   cases h1 : t.name == ZERO
   ·cases h2 : t.name == ONE <;> simp only [ZERO,ONE] at h1 h2 <;> simp [F.f231B,F.f231C,F.f231R,F.f231K,hk,h1,h2,hl,hl']
   ·simp only [ZERO] at h1; simp [F.f231B,F.f231C,F.f231R,F.f231K,hk,h1,hl,hl']
 ·by_cases hk2 : t.kind = 2
  ·have hp : pubT t = if t.sort = 1 ∨ t.sort = 5 then true else if t.sort = 4 then t.name == [103] || ownB t.name else if t.sort = 0 ∨ t.sort = 2 ∨ t.sort = 3 then ownB t.name else false := by
    unfold pubT; rw [if_neg hk,if_pos hk2]
   rw [hp]
   generalize ownB t.name = O at *
   by_cases s1 : t.sort = 1
   ·simp [F.f231B,F.f231C,F.f231R,F.f231K,hk2,s1]
   ·by_cases s5 : t.sort = 5
    ·simp [F.f231B,F.f231C,F.f231R,F.f231K,hk2,s5]
    ·by_cases s4 : t.sort = 4
     ·cases hg : t.name == [103]
      ·simp [F.f231B,F.f231C,F.f231R,F.f231K,hk2,s4,hg,ho]
      ·simp [F.f231B,F.f231C,F.f231R,F.f231K,hk2,s4,hg]
     ·by_cases s0 : t.sort = 0 ∨ t.sort = 2 ∨ t.sort = 3
      ·cases hg : t.name == [103]
       ·rcases s0 with s0 | s0 | s0 <;> simp [F.f231B,F.f231C,F.f231R,F.f231K,hk2,s0,ho,hg]
       ·rcases s0 with s0 | s0 | s0 <;> simp [F.f231B,F.f231C,F.f231R,F.f231K,hk2,s0,ho,hg]
      ·simp only [not_or] at s0
       cases hg : t.name == [103]
       ·simp [F.f231B,F.f231C,F.f231R,F.f231K,hk2,s1,s5,s4,s0.1,s0.2.1,s0.2.2,hg]
       ·simp [F.f231B,F.f231C,F.f231R,F.f231K,hk2,s1,s5,s4,s0.1,s0.2.1,s0.2.2,hg]
  ·have hp : pubT t = false := by unfold pubT; rw [if_neg hk,if_neg hk2]
   rw [hp]
   simp [F.f231B,F.f231C,F.f231R,F.f231K,hk,hk2]
end Go.Am
namespace Go.Am
set_option maxRecDepth 8000
def rightTE (x : Tm) : Int := if thV x ≠ 0 then thV x else if varsT x ≠ [] then 13 else if plainB x then 0 else 10
def trmE : List Tm → Int
 | [] => 0
 | x :: r => if rightTE x ≠ 0 then rightTE x else trmE r
def secE : Option Tm → List Tm → Int
 | _,[] => 0
 | prev,x :: r => if validT x ≠ 0 then validT x else if x.kind ≠ 2 ∨ pubT x = true then 1 else if gtO prev x then secE (some x) r else 5
structure Fr where
 s : List Tm
 t : List Tm
def encF (f : Fr) : List AV := [.sl false 4 (encTs f.s),.sl false 4 (encTs f.t)]
def validF (f : Fr) : Int := if 40 < f.s.length ∨ 40 < f.t.length then 3 else if secE none f.s ≠ 0 then secE none f.s else trmE f.t
theorem trm_loop (l : List Tm) (bs : List (List AV)) (hl : l.length < 1000000) (hm : ∀ x ∈ l,x.mass < 1000000) :
  ∀ (post pre : List Tm) (ρ : Nat → AV),l = pre ++ post → ρ 54 = .sl false 4 (encTs l) → ρ 55 = .int .i64 l.length → ρ 56 = .int .i64 pre.length →
  R F.tb (.loop F.f158l1) ρ bs (blockK 2 (seqK F.tb F.f158r0 (finK F.f158 bs))) = some (.int .i64 (trmE post),bs) := by
 intro post
 induction post with
 | nil =>
  intro pre ρ hk h1 h2 h3
  simp only [List.append_nil] at hk
  rw [← hk] at h3
  rw [R_loop' F.f158l1.eq_1]
  simp [h1,h2,h3,F.f158r0,F.f158R,F.f158K,trmE]
 | cons x post IH =>
  intro pre ρ hk h1 h2 h3
  have hg := get_pre hk
  have hll : l.length = pre.length + (post.length + 1) := by rw [hk]; simp
  have hw1 : IntKind.i64.wrap ((pre.length : Int) + 1) = (pre.length : Int) + 1 := wrap64 (by omega) (by omega)
  have hlt : (pre.length : Int) < (l.length : Int) := by omega
  have hxm := hm x (by rw [hk]; simp)
  have hxb : x.mass < big := by unfold big; omega
  have c1 := call_thValid x bs hxb
  have c2 := call_Vars x bs (by omega)
  have c3 := call173 x bs hxb
  have hh := fun ρ => IH (pre ++ [x]) ρ (by rw [hk]; simp)
  rw [R_loop' F.f158l1.eq_1]
  by_cases e1 : thV x = 0
  ·by_cases e2 : varsT x = []
   ·rw [e2] at c2
    simp only [encTs] at c2
    cases e3 : plainB x
    ·simp [h1,h2,h3,hg,hlt,c1,c2,c3,e1,e2,e3,F.f158R,F.f158K,trmE,rightTE]
    ·simp [h1,h2,h3,hg,hlt,hw1,c1,c2,c3,e1,e2,e3,trmE,rightTE]
     apply hh <;> simp [h1,h2]
   ·have hp : 0 < (varsT x).length := List.length_pos_iff.2 e2
    have hp' : (0 : Int) < ((varsT x).length : Int) := by omega
    simp [h1,h2,h3,hg,hlt,c1,c2,e1,e2,hp,F.f158R,F.f158K,trmE,rightTE]
  ·simp [h1,h2,h3,hg,hlt,c1,e1,F.f158R,F.f158K,trmE,rightTE]
def lastT (l : List Tm) : Option Tm := l.getLast?
theorem lastT_nil : lastT [] = none := rfl
theorem lastT_app (l : List Tm) (p : Tm) : lastT (l ++ [p]) = some p := by simp [lastT]
theorem sec_loop (f : Fr) (bs : List (List AV)) (hl : f.s.length < 1000000) (hm : ∀ x ∈ f.s,x.mass < 1000000) (X : Int)
  (hX : ∀ ρ : Nat → AV,ρ 1 = .bx (encF f) → R F.tb F.f158r1 ρ bs (finK F.f158 bs) = some (.int .i64 X,bs)) :
  ∀ (post pre : List Tm) (ρ : Nat → AV),f.s = pre ++ post → ρ 1 = .bx (encF f) → ρ 20 = .sl false 4 (encTs f.s) → ρ 21 = .int .i64 f.s.length → ρ 22 = .int .i64 pre.length →
  R F.tb (.loop F.f158l0) ρ bs (blockK 0 (seqK F.tb F.f158r1 (finK F.f158 bs))) = some (.int .i64 (if secE (lastT pre) post ≠ 0 then secE (lastT pre) post else X),bs) := by
 intro post
 induction post with
 | nil =>
  intro pre ρ hk h1 h20 h21 h22
  simp only [List.append_nil] at hk
  rw [← hk] at h22
  rw [R_loop' F.f158l0.eq_1]
  simp [h1,h20,h21,h22,secE]
  apply hX; simp [h1]
 | cons x post IH =>
  intro pre ρ hk h1 h20 h21 h22
  have hg := get_pre hk
  have hll : f.s.length = pre.length + (post.length + 1) := by rw [hk]; simp
  have hw1 : IntKind.i64.wrap ((pre.length : Int) + 1) = (pre.length : Int) + 1 := wrap64 (by omega) (by omega)
  have hlt : (pre.length : Int) < (f.s.length : Int) := by omega
  have hxm := hm x (by rw [hk]; simp)
  have hxb : x.mass < big := by unfold big; omega
  have c1 := call_Valid x bs hxb
  have c2 := call159 x bs hxm
  have hh := fun ρ => IH (pre ++ [x]) ρ (by rw [hk]; simp)
  rw [lastT_app] at hh
  rw [R_loop' F.f158l0.eq_1]
  by_cases e1 : validT x = 0
  ·by_cases e2 : x.kind = 2
   ·cases e3 : pubT x
    ·rcases List.eq_nil_or_concat pre with rfl | ⟨pre2,q,rfl⟩
     ·have h22' : ρ 22 = .int .i64 0 := h22
      have hg' : f.s[0]? = some x := hg
      have hlt' : 0 < f.s.length := by omega
      have hw0 : IntKind.i64.wrap 1 = 1 := rfl
      clear h22 hg hlt hw1
      simp [-getElem?_pos,h1,h20,h21,h22',hg',hlt',hw0,c1,c2,e1,e2,e3,secE,gtO,lastT_nil]
      simp only [ite_not] at hh
      apply hh <;> simp [h1,h20,h21]
     ·simp only [List.concat_eq_append] at *
      have hg2 : f.s[pre2.length]? = some q := by rw [hk]; simp
      have hq := hm q (by rw [hk]; simp)
      have h4 := call_Compare q x bs (by unfold big; omega) hxb
      have hp0 : (0 : Int) < (pre2.length : Int) + 1 := by omega
      have hp1 : (0 : Int) ≤ (pre2.length : Int) + 1 := by omega
      have hp2 : ((pre2.length : Int) + 1).toNat = pre2.length + 1 := by omega
      have hw2 : IntKind.i64.wrap (pre2.length : Int) = (pre2.length : Int) := wrap64 (by simp at hll; omega) (by simp at hll; omega)
      rw [lastT_app]
      simp only [List.length_append,List.length_singleton,Int.natCast_add,Int.natCast_one] at h22 hg hlt hw1 hh
      by_cases c6 : cmpT q x < 0
      ·have c6' : ¬ 0 ≤ cmpT q x := by omega
       simp [encF,h1,h20,h21,h22,hg,hg2,hlt,hw1,hw2,hp0,hp1,hp2,h4,c1,c2,e1,e2,e3,c6,c6',secE,gtO]
       simp only [ite_not] at hh
       apply hh <;> simp [h1,h20,h21,encF]
      ·have c6' : 0 ≤ cmpT q x := by omega
       simp [encF,h1,h20,h21,h22,hg,hg2,hlt,hw1,hw2,hp0,hp1,hp2,h4,c1,c2,e1,e2,e3,c6,c6',secE,gtO,F.f158R,F.f158K]
    ·simp [h1,h20,h21,h22,hg,hlt,c1,c2,e1,e2,e3,secE,F.f158R,F.f158K]
   ·simp [h1,h20,h21,h22,hg,hlt,c1,e1,e2,secE,F.f158R,F.f158K]
  ·simp [h1,h20,h21,h22,hg,hlt,c1,e1,secE,F.f158R,F.f158K]
structure FOk (f : Fr) : Prop where
 s : ∀ x ∈ f.s,x.mass < 1000000
 t : ∀ x ∈ f.t,x.mass < 1000000
 sl : f.s.length < 1000000
 tl : f.t.length < 1000000
theorem call158 (f : Fr) (bs : List (List AV)) (h : FOk f) : call F.tb 158 [.agg (encF f)] bs = some (.int .i64 (validF f),bs) := by
 have ht := fun ρ => trm_loop f.t bs h.tl h.t f.t [] ρ rfl
 have hX : ∀ ρ : Nat → AV,ρ 1 = .bx (encF f) → R F.tb F.f158r1 ρ bs (finK F.f158 bs) = some (.int .i64 (trmE f.t),bs) := by
  intro ρ h1
  simp [F.f158r1,h1,encF]
  apply ht <;> simp
 have hs := fun ρ => sec_loop f bs h.sl h.s (trmE f.t) hX f.s [] ρ rfl
 rw [lastT_nil] at hs
 rw [call_code F.tb_158 _ _ rfl]
 by_cases c1 : 40 < f.s.length
 ·have c1' : (40 : Int) < (f.s.length : Int) := by omega
  simp [F.f158B,F.f158C,F.f158R,F.f158K,encF,c1,c1',validF]
 ·have c1' : ¬ (40 : Int) < (f.s.length : Int) := by omega
  by_cases c2 : 40 < f.t.length
  ·have c2' : (40 : Int) < (f.t.length : Int) := by omega
   simp [F.f158B,F.f158C,F.f158R,F.f158K,encF,c1,c1',c2,c2',validF]
  ·have c2' : ¬ (40 : Int) < (f.t.length : Int) := by omega
   have e : validF f = if secE none f.s ≠ 0 then secE none f.s else trmE f.t := by simp [validF,c1,c2]
   rw [e]
   generalize (if secE none f.s ≠ 0 then secE none f.s else trmE f.t) = V at *
   simp [F.f158B,F.f158C,encF,c1',c2']
   apply hs <;> simp [encF]
end Go.Am
namespace Go.Am
set_option maxRecDepth 8000
theorem call233 (x : Tm) (bs : List (List AV)) (hm : x.mass < 1000000) : call F.tb 233 [.agg (encT x)] bs = some (.int .i64 (rightTE x),bs) := by
 have c1 := call_R9Valid x bs (by unfold big; omega)
 have c2 := call_Ground x bs (by omega)
 have c3 := call240 x bs hm
 rw [call_code F.tb_233 _ _ rfl]
 by_cases e1 : thV x = 0
 ·by_cases e2 : varsT x = []
  ·cases e3 : plainB x
   ·simp [F.f233B,F.f233C,F.f233R,F.f233K,c1,c2,c3,e1,e2,e3,rightTE]
   ·simp [F.f233B,F.f233C,F.f233R,F.f233K,c1,c2,c3,e1,e2,e3,rightTE]
  ·simp [F.f233B,F.f233C,F.f233R,F.f233K,c1,c2,e1,e2,rightTE]
 ·simp [F.f233B,F.f233C,F.f233R,F.f233K,c1,e1,rightTE]
theorem Rtrm_loop (f : Fr) (bs : List (List AV)) (h : FOk f) : ∀ (post pre : List Tm) (ρ : Nat → AV),f.t = pre ++ post → ρ 1 = .bx (encF f) → ρ 5 = .int .i64 pre.length →
  R F.tb (.loop F.f230l1) ρ bs (blockK 2 (seqK F.tb F.f230r0 (finK F.f230 bs))) = some (.int .i64 (trmE post),bs) := by
 have hl := h.tl
 intro post
 induction post with
 | nil =>
  intro pre ρ hk h1 h5
  simp only [List.append_nil] at hk
  rw [← hk] at h5
  rw [R_loop' F.f230l1.eq_1]
  simp [h1,h5,encF,F.f230r0,F.f230R,F.f230K,trmE]
 | cons x post IH =>
  intro pre ρ hk h1 h5
  have hg := get_pre hk
  have hll : f.t.length = pre.length + (post.length + 1) := by rw [hk]; simp
  have hw1 : IntKind.i64.wrap ((pre.length : Int) + 1) = (pre.length : Int) + 1 := wrap64 (by omega) (by omega)
  have hlt : (pre.length : Int) < (f.t.length : Int) := by omega
  have c1 := call233 x bs (h.t x (by rw [hk]; simp))
  have hh := fun ρ => IH (pre ++ [x]) ρ (by rw [hk]; simp)
  rw [R_loop' F.f230l1.eq_1]
  by_cases e1 : rightTE x = 0
  ·simp [h1,h5,encF,hg,hlt,hw1,c1,e1,trmE]
   apply hh <;> simp [h1,encF]
  ·simp [h1,h5,encF,hg,hlt,c1,e1,F.f230R,F.f230K,trmE]
theorem Rsec_loop (f : Fr) (bs : List (List AV)) (h : FOk f) : ∀ (post pre : List Tm) (ρ : Nat → AV),f.s = pre ++ post → ρ 1 = .bx (encF f) → ρ 3 = .int .i64 pre.length →
  R F.tb (.loop F.f230l0) ρ bs (blockK 0 (seqK F.tb F.f230r1 (finK F.f230 bs))) = some (.int .i64 (if secE (lastT pre) post ≠ 0 then secE (lastT pre) post else trmE f.t),bs) := by
 have hl := h.sl
 have ht := fun ρ => Rtrm_loop f bs h f.t [] ρ rfl
 intro post
 induction post with
 | nil =>
  intro pre ρ hk h1 h3
  simp only [List.append_nil] at hk
  rw [← hk] at h3
  rw [R_loop' F.f230l0.eq_1]
  simp [h1,h3,encF,secE,F.f230r1]
  apply ht <;> simp [h1,encF]
 | cons x post IH =>
  intro pre ρ hk h1 h3
  have hg := get_pre hk
  have hll : f.s.length = pre.length + (post.length + 1) := by rw [hk]; simp
  have hw1 : IntKind.i64.wrap ((pre.length : Int) + 1) = (pre.length : Int) + 1 := wrap64 (by omega) (by omega)
  have hlt : (pre.length : Int) < (f.s.length : Int) := by omega
  have hxm := h.s x (by rw [hk]; simp)
  have hxb : x.mass < big := by unfold big; omega
  have c1 := call_RValid1 x bs hxb
  have c2 := call231 x bs hxm
  have hh := fun ρ => IH (pre ++ [x]) ρ (by rw [hk]; simp)
  rw [lastT_app] at hh
  rw [R_loop' F.f230l0.eq_1]
  by_cases e1 : validT x = 0
  ·by_cases e2 : x.kind = 2
   ·cases e3 : pubT x
    ·rcases List.eq_nil_or_concat pre with rfl | ⟨pre2,q,rfl⟩
     ·have h3' : ρ 3 = .int .i64 0 := h3
      have hg' : f.s[0]? = some x := hg
      have hlt' : 0 < f.s.length := by omega
      have hw0 : IntKind.i64.wrap 1 = 1 := rfl
      clear h3 hg hlt hw1
      simp [-getElem?_pos,some_get,List.getElem?_cons_succ,encF,h1,h3',hg',hlt',hw0,c1,c2,e1,e2,e3,secE,gtO,lastT_nil]
      simp only [ite_not] at hh
      apply hh <;> simp [h1,encF]
     ·simp only [List.concat_eq_append] at *
      have hg2 : f.s[pre2.length]? = some q := by rw [hk]; simp
      have hq := h.s q (by rw [hk]; simp)
      have h4 := call_RCompare q x bs (by unfold big; omega) hxb
      have hp0 : (0 : Int) < (pre2.length : Int) + 1 := by omega
      have hp1 : (0 : Int) ≤ (pre2.length : Int) + 1 := by omega
      have hp2 : ((pre2.length : Int) + 1).toNat = pre2.length + 1 := by omega
      have hw2 : IntKind.i64.wrap (pre2.length : Int) = (pre2.length : Int) := wrap64 (by simp at hll; omega) (by simp at hll; omega)
      rw [lastT_app]
      simp only [List.length_append,List.length_singleton,Int.natCast_add,Int.natCast_one] at h3 hg hlt hw1 hh
      by_cases c6 : cmpT q x < 0
      ·have c6' : ¬ 0 ≤ cmpT q x := by omega
       simp [encF,h1,h3,hg,hg2,hlt,hw1,hw2,hp0,hp1,hp2,h4,c1,c2,e1,e2,e3,c6,c6',secE,gtO]
       simp only [ite_not] at hh
       apply hh <;> simp [h1,encF]
      ·have c6' : 0 ≤ cmpT q x := by omega
       simp [encF,h1,h3,hg,hg2,hlt,hw1,hw2,hp0,hp1,hp2,h4,c1,c2,e1,e2,e3,c6,c6',secE,gtO,F.f230R,F.f230K]
    ·simp [h1,h3,encF,hg,hlt,c1,c2,e1,e2,e3,secE,F.f230R,F.f230K]
   ·simp [h1,h3,encF,hg,hlt,c1,e1,e2,secE,F.f230R,F.f230K]
  ·simp [h1,h3,encF,hg,hlt,c1,e1,secE,F.f230R,F.f230K]
theorem call230 (f : Fr) (bs : List (List AV)) (h : FOk f) : call F.tb 230 [.agg (encF f)] bs = some (.int .i64 (validF f),bs) := by
 have hs := fun ρ => Rsec_loop f bs h f.s [] ρ rfl
 rw [lastT_nil] at hs
 rw [call_code F.tb_230 _ _ rfl]
 by_cases c1 : 40 < f.s.length
 ·have c1' : (40 : Int) < (f.s.length : Int) := by omega
  simp [F.f230B,F.f230C,F.f230R,F.f230K,encF,c1,c1',validF]
 ·have c1' : ¬ (40 : Int) < (f.s.length : Int) := by omega
  by_cases c2 : 40 < f.t.length
  ·have c2' : (40 : Int) < (f.t.length : Int) := by omega
   simp [F.f230B,F.f230C,F.f230R,F.f230K,encF,c1,c1',c2,c2',validF]
  ·have c2' : ¬ (40 : Int) < (f.t.length : Int) := by omega
   have e : validF f = if secE none f.s ≠ 0 then secE none f.s else trmE f.t := by simp [validF,c1,c2]
   rw [e]
   generalize (if secE none f.s ≠ 0 then secE none f.s else trmE f.t) = V at *
   simp [F.f230B,F.f230C,encF,c1',c2']
   apply hs <;> simp [encF]
end Go.Am
namespace Go.Am
set_option maxRecDepth 8000
theorem call213 (x y : Tm) (bs : List (List AV)) (hx : x.mass < big) (hy : y.mass < big) : call F.tb 213 [.agg (encT x),.agg (encT y)] bs = some (.bool (decide (cmpT x y = 0)),bs) := by
 have h := call_Compare x y bs hx hy
 rw [call_code F.tb_213 _ _ rfl]
 simp [F.f213B,F.f213C,F.f213R,F.f213K,h]
theorem call212 (x y : Tm) (g : Nat) (bs : List (List AV)) (hg : bs[g]? = some (encT y)) (hx : x.mass < big) (hy : y.mass < big) : call F.tb 212 [.agg (encT x),.gp g 0] bs = some (.bool (decide (cmpT x y = 0)),bs) := by
 have h := call213 x y bs hx hy
 rw [call_code F.tb_212 _ _ rfl]
 simp [-getElem?_pos,F.f212B,F.f212C,F.f212R,F.f212K,hg,h]
def eqB (y x : Tm) : Bool := decide (cmpT x y = 0)
theorem ixT_loop (l : List Tm) (y : Tm) (g : Nat) (bs : List (List AV)) (hg : bs[g]? = some (encT y)) (hl : l.length < 1000000) (hm : ∀ x ∈ l,x.mass < big) (hy : y.mass < big) :
  ∀ (post pre : List Tm) (o : Bool) (ρ : Nat → AV),l = pre ++ post → pre.any (eqB y) = false → ρ 0 = .sl o 4 (encTs l) → ρ 1 = .fn 212 [.gp g 0] → ρ 7 = .int .i64 l.length → ρ 8 = .int .i64 pre.length →
  IxOk (l.any (eqB y)) bs (R F.tb (.loop F.f215l0) ρ bs (blockK 0 (seqK F.tb F.f215r0 (finK F.f215 bs)))) := by
 intro post
 induction post with
 | nil =>
  intro pre o ρ hk hp h0 h1 h7 h8
  simp only [List.append_nil] at hk
  rw [← hk] at h8 hp
  rw [R_loop' F.f215l0.eq_1]
  refine ⟨-1,?_,by rw [hp]; simp⟩
  simp [h0,h1,h7,h8,F.f215r0,F.f215R,F.f215K]
 | cons x post IH =>
  intro pre o ρ hk hp h0 h1 h7 h8
  have hgt := get_pre hk
  have hll : l.length = pre.length + (post.length + 1) := by rw [hk]; simp
  have hw1 : IntKind.i64.wrap ((pre.length : Int) + 1) = (pre.length : Int) + 1 := wrap64 (by omega) (by omega)
  have hlt : (pre.length : Int) < (l.length : Int) := by omega
  have hcall := call212 x y g bs hg (hm x (by rw [hk]; simp)) hy
  have ih := fun ρ hpp => IH (pre ++ [x]) o ρ (by rw [hk]; simp) hpp
  rw [R_loop' F.f215l0.eq_1]
  by_cases ho : cmpT x y = 0
  ·have hany : l.any (eqB y) = true := List.any_eq_true.2 ⟨x,by rw [hk]; simp,by simp [eqB,ho]⟩
   refine ⟨pre.length,?_,by rw [hany]; simp⟩
   simp [h0,h1,h7,h8,hlt,hgt,hcall,ho,F.f215R,F.f215K]
  ·have ih2 := fun ρ => ih ρ (by rw [List.any_append,hp]; simp [eqB,ho])
   simp [h0,h1,h7,h8,hlt,hgt,hw1,hcall,ho,-List.any_eq_false,-List.any_eq_true]
   apply ih2 <;> simp [h0,h1,h7]
theorem call211 (l : List Tm) (y : Tm) (o : Bool) (bs : List (List AV)) (hl : l.length < 1000000) (hm : ∀ x ∈ l,x.mass < big) (hy : y.mass < big) :
  call F.tb 211 [.sl o 4 (encTs l),.agg (encT y)] bs = some (.bool (l.any (eqB y)),bs) := by
 have hg : (bs ++ [encT y])[bs.length]? = some (encT y) := List.getElem?_concat_length
 have h1 := fun ρ => ixT_loop l y bs.length (bs ++ [encT y]) hg hl hm hy l [] false ρ rfl rfl
 have h2 : IxOk (l.any (eqB y)) (bs ++ [encT y]) (call F.tb 215 [.sl false 4 (encTs l),.fn 212 [.gp bs.length 0]] (bs ++ [encT y])) := by
  rw [call_code F.tb_215 _ _ rfl]
  simp [F.f215B,F.f215C,-List.any_eq_false,-List.any_eq_true]
  apply h1 <;> simp
 obtain ⟨i,hi,hb⟩ := h2
 have htk : (bs ++ [encT y]).take (bs.length + 1) = bs ++ [encT y] := List.take_of_length_le (by simp)
 have h3 : call F.tb 214 [.sl false 4 (encTs l),.fn 212 [.gp bs.length 0]] (bs ++ [encT y]) = some (.bool (l.any (eqB y)),bs ++ [encT y]) := by
  rw [call_code F.tb_214 _ _ rfl]
  simp [F.f214B,F.f214C,hi,F.f214R,F.f214K,htk,-List.any_eq_false,-List.any_eq_true]
  cases hx : l.any (eqB y)
  ·rw [hx] at hb; simp at hb; simpa using hb
  ·rw [hx] at hb; simp at hb; simpa using hb
 rw [call_code F.tb_211 _ _ rfl]
 simp [F.f211B,F.f211C,F.f211R,F.f211K,h3,-List.any_eq_false,-List.any_eq_true]
def TS (B0 B : List (List AV)) (v : AV) (l : List Tm) : Prop := ∃ (M : List (List AV)) (id sz : Nat),B = B0 ++ M ∧ v = .gs id 0 sz l.length ∧
 ((sz = 0 ∧ id = 0 ∧ l = []) ∨ (sz = 4 ∧ B0.length ≤ id ∧ l ≠ [] ∧ B[id]? = some (rowT l)))
theorem ts_gs {B0 B : List (List AV)} {v : AV} {l : List Tm} (h : TS B0 B v l) : ∃ id sz,v = .gs id 0 sz l.length := by
 obtain ⟨M,id,sz,_,rfl,_⟩ := h; exact ⟨id,sz,rfl⟩
theorem ts_nil (B0 : List (List AV)) : TS B0 B0 (.gs 0 0 0 0) [] := ⟨[],0,0,by simp,rfl,.inl ⟨rfl,rfl,rfl⟩⟩
theorem ixM_loop {B : List (List AV)} {id sz : Nat} (l : List Tm) (y : Tm) (g : Nat) (hb : l ≠ [] → sz = 4 ∧ B[id]? = some (rowT l)) (hg : B[g]? = some (encT y)) (hl : l.length < 1000000) (hm : ∀ x ∈ l,x.mass < big) (hy : y.mass < big) :
  ∀ (post pre : List Tm) (ρ : Nat → AV),l = pre ++ post → pre.any (eqB y) = false → ρ 0 = .gs id 0 sz l.length → ρ 1 = .fn 212 [.gp g 0] → ρ 7 = .int .i64 l.length → ρ 8 = .int .i64 pre.length →
  IxOk (l.any (eqB y)) B (R F.tb (.loop F.f218l0) ρ B (blockK 0 (seqK F.tb F.f218r0 (finK F.f218 B)))) := by
 intro post
 induction post with
 | nil =>
  intro pre ρ hk hp h0 h1 h7 h8
  simp only [List.append_nil] at hk
  rw [← hk] at h8 hp
  rw [R_loop' F.f218l0.eq_1]
  refine ⟨-1,?_,by rw [hp]; simp⟩
  simp [h0,h1,h7,h8,F.f218r0,F.f218R,F.f218K]
 | cons x post IH =>
  intro pre ρ hk hp h0 h1 h7 h8
  have hgt := get_pre hk
  have hll : l.length = pre.length + (post.length + 1) := by rw [hk]; simp
  have hw1 : IntKind.i64.wrap ((pre.length : Int) + 1) = (pre.length : Int) + 1 := wrap64 (by omega) (by omega)
  have hlt : (pre.length : Int) < (l.length : Int) := by omega
  have hlt' : pre.length < l.length := by omega
  obtain ⟨rfl,hbx⟩ := hb (by intro e; rw [e] at hlt'; simp at hlt')
  have r1 : (((rowT l).map AV.strip).drop (pre.length * 4)).take 4 = encT x := by
   have := row_rd (f := encT) (k := 4) encT_len4 hk []
   rw [List.append_nil] at this
   rw [row_strip encT_strip]; exact this
  have hle : pre.length * 4 + 4 ≤ (rowT l).length := by rw [row_len encT_len4]; omega
  have hcall := call212 x y g B hg (hm x (by rw [hk]; simp)) hy
  have ih := fun ρ hpp => IH (pre ++ [x]) ρ (by rw [hk]; simp) hpp
  generalize rowT l = c at *
  rw [R_loop' F.f218l0.eq_1]
  by_cases ho : cmpT x y = 0
  ·have hany : l.any (eqB y) = true := List.any_eq_true.2 ⟨x,by rw [hk]; simp,by simp [eqB,ho]⟩
   refine ⟨pre.length,?_,by rw [hany]; simp⟩
   simp [-getElem?_pos,h0,h1,h7,h8,hlt,hlt',hbx,hle,r1,hcall,ho,F.f218R,F.f218K]
  ·have ih2 := fun ρ => ih ρ (by rw [List.any_append,hp]; simp [eqB,ho])
   simp [-getElem?_pos,h0,h1,h7,h8,hlt,hlt',hw1,hbx,hle,r1,hcall,ho,-List.any_eq_false,-List.any_eq_true]
   apply ih2 <;> simp [h0,h1,h7]
theorem call216 {B0 B : List (List AV)} {v : AV} {l : List Tm} (h : TS B0 B v l) (y : Tm) (hl : l.length < 1000000) (hm : ∀ x ∈ l,x.mass < big) (hy : y.mass < big) :
  call F.tb 216 [v,.agg (encT y)] B = some (.bool (l.any (eqB y)),B) := by
 obtain ⟨M,id,sz,rfl,rfl,hc⟩ := h
 have hg : ((B0 ++ M) ++ [encT y])[(B0 ++ M).length]? = some (encT y) := List.getElem?_concat_length
 have hb : l ≠ [] → sz = 4 ∧ ((B0 ++ M) ++ [encT y])[id]? = some (rowT l) := by
  intro hne
  rcases hc with ⟨_,_,rfl⟩ | ⟨h1,_,_,h2⟩
  ·exact absurd rfl hne
  ·refine ⟨h1,?_⟩
   rw [List.getElem?_append_left (get_lt h2),h2]
 generalize B0 ++ M = B at *
 have h1 := fun ρ => ixM_loop l y B.length hb hg hl hm hy l [] ρ rfl rfl
 have h2 : IxOk (l.any (eqB y)) (B ++ [encT y]) (call F.tb 218 [.gs id 0 sz l.length,.fn 212 [.gp B.length 0]] (B ++ [encT y])) := by
  rw [call_code F.tb_218 _ _ rfl]
  simp [F.f218B,F.f218C,-List.any_eq_false,-List.any_eq_true]
  apply h1 <;> simp
 obtain ⟨i,hi,hb2⟩ := h2
 have htk : (B ++ [encT y]).take (B.length + 1) = B ++ [encT y] := List.take_of_length_le (by simp)
 have h3 : call F.tb 217 [.gs id 0 sz l.length,.fn 212 [.gp B.length 0]] (B ++ [encT y]) = some (.bool (l.any (eqB y)),B ++ [encT y]) := by
  rw [call_code F.tb_217 _ _ rfl]
  simp [F.f217B,F.f217C,hi,F.f217R,F.f217K,htk,-List.any_eq_false,-List.any_eq_true]
  cases hx : l.any (eqB y)
  ·rw [hx] at hb2; simp at hb2; simpa using hb2
  ·rw [hx] at hb2; simp at hb2; simpa using hb2
 rw [call_code F.tb_216 _ _ rfl]
 simp [F.f216B,F.f216C,F.f216R,F.f216K,h3,-List.any_eq_false,-List.any_eq_true]
theorem call208 (t : Tm) (bs : List (List AV)) (hm : t.mass < big) : call F.tb 208 [.agg (encT t)] bs = some (.agg (encT t),bs) := by
 have h := call_At0 t bs hm true
 rw [call_code F.tb_208 _ _ rfl]
 simp [F.f208B,F.f208C,F.f208R,F.f208K,h]
end Go.Am
