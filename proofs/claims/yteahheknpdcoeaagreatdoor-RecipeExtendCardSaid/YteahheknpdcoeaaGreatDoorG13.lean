/-
  Am28, AmT, AmO.
-/
import Derived.Test.YteahheknpdcoeaaGreatDoorG10
import Derived.Test.YteahheknpdcoeaaGreatDoorG12
import Derived.Test.YteahheknpdcoeaaGreatDoorG00
import Derived.Test.YteahheknpdcoeaaGreatDoorG09
import Derived.Lib.SlTrimSet
set_option linter.unusedVariables false
set_option linter.unusedSimpArgs false
namespace Go.Am
open Go.Shelf Go.RowKit Go.Lib Go.Proofs
def insC (i sz n : Nat) (cs : List AV) (vs : List (List AV)) : List AV := ((cs.take (n * sz)).take (i * sz) ++ vs.flatten ++ (cs.take (n * sz)).drop (i * sz)).map AV.strip
def insR (g : Bool) (sz N : Nat) (fl : List AV) (bs : List (List AV)) : Option (AV × List (List AV)) :=
 if gpfreeL fl = true then (if g then some (.gs bs.length 0 sz N,bs ++ [fl]) else some (.sl true sz (chunks fl 0 sz N),bs)) else none
def insO (g : Bool) (bytes sz : Nat) : List AV → List (List AV) → Option (AV × List (List AV))
 | [.gs id o sz1 n,.int .i64 i,.sl _ sz2 vs],bs =>
  if sz2 = sz ∧ 0 < sz ∧ vs ≠ [] ∧ 0 ≤ i ∧ i ≤ n ∧ (n + vs.length) * bytes ≤ 140737488355328 ∧ n + vs.length ≤ 140737488355328 then
   (if sz1 = 0 ∧ n = 0 then insR g sz vs.length (insC 0 sz 0 [] vs) bs
    else if sz1 = sz ∧ o = 0 then (bs[id]?).bind fun cs => if cs ≠ [] ∧ n * sz ≤ cs.length then insR g sz (n + vs.length) (insC i.toNat sz n cs vs) (bs.set id []) else none
    else none)
   else none
 | _,_ => none
section
variable {P : Program} {num : Nat → Option Nat} {β : List Blk} {w w' : World} {m : Nat → Nat} {ν : Own}
theorem ins_post [Dr] {Γ : Glob} (hD : ¬ Dr.d) {g : Bool} {sz N : Nat} {fl : List AV} {bs bs1 bs' : List (List AV)} {r : AV} {e : Ending} {flv : List Value} {b : Nat} (hsz : 0 < sz) (hN : 0 < N)
  (hr : insR g sz N fl bs1 = some (r,bs')) (hfl : fl.length = N * sz) (hflv : ∀ (j : Nat) (c : AV),fl[j]? = some c → ∃ u,flv[j]? = some u ∧ u.oneCell' = true ∧ RepV num β w m c u)
  (hst : ∀ c ∈ fl,c.strip = c)
  (hbox : Boxes num β w m ν bs) (hlt : ∀ b p,ν b = some p → b < w.heap.size ∧ Γ.Gb ≤ b ∧ p.isG = true)
  (hmb : b < w.heap.size → m b = 0 ∧ ∃ id,ν b = some (.g id) ∧ bs1 = bs.set id []) (hb1 : bs1 = bs ∨ ∃ id,bs1 = bs.set id [])
  (hp : InsPost w b N sz flv e w') : CallPost num β bs' r w m ν e w' := by
 obtain ⟨b',cap,cur',t,rfl,p1,p2,p3,p4,p5,p6,p7,p8,p9,p10⟩ := hp
 have hb' : b' < w'.heap.size := by
  rcases Nat.lt_or_ge b' w'.heap.size with h | h
  ·exact h
  ·rw [Array.getElem?_eq_none h] at p3; cases p3
 have hsize : w.heap.size ≤ w'.heap.size := by omega
 have hold : (b' = b ∧ b < w.heap.size) ∨ w.heap.size ≤ b' := by
  rcases p9 with ⟨h1,h2⟩ | ⟨h1,h2⟩
  ·left; exact ⟨h1,by omega⟩
  ·right; omega
 have hm0 : b' < w.heap.size → m b' = 0 := fun h => by
  rcases hold with ⟨rfl,h1⟩ | h1
  ·exact (hmb h1).1
  ·omega
 let q : Nat := if g then 0 else N * sz
 have hle : Le w m w' (m1 m b' q) := fun x i u h => by
  obtain ⟨g1,g2,g3⟩ := hg_some h
  have hx : x ≠ b' := fun e => by subst e; have := hm0 g3; omega
  unfold hg m1
  rw [if_neg hx,if_pos g1]
  have := p10 x g3 hx
  obtain ⟨cu,ee,ff,q1,q2⟩ := cell_of_heap g2
  exact cell_in (by rw [this]; exact q1) q2
 have hstep : Step (fun b => ∃ p,ν b = some p) w m w' (m1 m b' q) := by
  refine ⟨p6,p7,p8,hsize,fun x hx hX => ?_,hle,fun h => absurd h hD⟩
  have hxb : x ≠ b' := fun e => by
   subst e
   rcases hold with ⟨rfl,h1⟩ | h1
   ·obtain ⟨_,id,h2,_⟩ := hmb h1
    exact hX ⟨_,h2⟩
   ·omega
  exact ⟨p10 x hx hxb,by unfold m1; rw [if_neg hxb]⟩
 have hbs1 : ∀ (i : Nat) (cs : List AV),bs1[i]? = some cs → cs ≠ [] → bs[i]? = some cs ∧ ∀ k : Blk,β[i]? = some k → k.b ≠ b' := fun i cs h hne => by
  have h1 : bs[i]? = some cs := by
   rcases hb1 with rfl | ⟨id,rfl⟩
   ·exact h
   ·rw [List.getElem?_set] at h
    split at h
    ·split at h
     ·injection h with h; exact absurd h.symm hne
     ·cases h
    ·exact h
  refine ⟨h1,fun k hk e => ?_⟩
  have hν := (BoxK_ν (hbox.2 i cs k h1 hk hne)).1
  have hkb := (hlt _ _ hν).1
  rcases hold with ⟨h2,h3⟩ | h2
  ·obtain ⟨_,id,h4,h5⟩ := hmb h3
   rw [e,h2,h4] at hν
   injection hν with hν
   injection hν with hν
   subst hν
   rw [h5,List.getElem?_set_self (by
    rcases Nat.lt_or_ge id bs.length with h | h
    ·exact h
    ·rw [List.getElem?_eq_none h] at h1; cases h1)] at h
   injection h with h
   exact hne h.symm
  ·omega
 have hblen : bs1.length = bs.length := by rcases hb1 with rfl | ⟨id,rfl⟩ <;> simp
 have hcells : ∀ (j : Nat) (c : AV),fl[j]? = some c → ∃ u,cur'[j]? = some u ∧ u.oneCell' = true ∧ RepV num β w' (m1 m b' q) c u := fun j c hc => by
  obtain ⟨u,h1,h2,h3⟩ := hflv j c hc
  exact ⟨u,p5 j u h1,h2,RepV_mono (Ge.refl β) hle c u h3⟩
 unfold insR at hr
 split at hr
 ·rename_i hgp
  cases g
  ·-- published
   simp only [Bool.false_eq_true,if_false,Option.some.injEq,Prod.mk.injEq] at hr
   obtain ⟨rfl,rfl⟩ := hr
   have hq : q = N * sz := rfl
   let ν' : Own := own1 ν b' .f
   have hkeep : ∀ x p,ν x = some p → x ≠ b' → w'.heap[x]? = w.heap[x]? ∧ m1 m b' q x = m x ∧ ν' x = some p := fun x p hx hxb =>
    ⟨p10 x (hlt x p hx).1 hxb,by unfold m1; rw [if_neg hxb],by simp only [ν',own1]; rw [if_neg hxb]; exact hx⟩
   have hnotc : ∀ x i j,ν x = some (.gc i j) → x ≠ b' := fun x i j hx e => by
    subst e
    rcases hold with ⟨rfl,h1⟩ | h1
    ·obtain ⟨_,id,h2,_⟩ := hmb h1
     rw [h2] at hx; cases hx
    ·have := (hlt _ _ hx).1; omega
   refine ⟨_,m1 m b' q,β,ν',rfl,Ge.refl β,hstep,⟨by rw [hblen]; exact hbox.1,fun i cs k h1 h2 hne => ?_⟩,rfl,?_,?_,fun x p hx => ?_⟩
   ·obtain ⟨g1,g2⟩ := hbs1 i cs h1 hne
    have hkb := g2 k h2
    refine BoxK_keep (Ge.refl β) hle (fun x hx => ?_) (fun j x hx => hkeep x _ hx (hnotc x _ _ hx)) (hbox.2 i cs k g1 h2 hne)
    have : x ≠ b' := fun e => by
     subst e
     rcases hold with ⟨h3,h4⟩ | h4
     ·obtain ⟨_,id,h5,h6⟩ := hmb h4
      rw [h3,h5] at hx
      injection hx with hx
      injection hx with hx
      subst hx
      rw [h6,List.getElem?_set_self (by
       rcases Nat.lt_or_ge id bs.length with h | h
       ·exact h
       ·rw [List.getElem?_eq_none h] at g1; cases g1)] at h1
      injection h1 with h1
      exact hne h1.symm
     ·have := (hlt _ _ hx).1; omega
    exact hkeep x _ hx this
   ·simp only [RepV]
    refine ⟨_,N,cap,rfl,chunks_len _ _ _ _,p1,p2,.inr ⟨b',0,rfl,?_⟩⟩
    rw [RepE_get]
    intro i x hx
    obtain ⟨hi,rfl⟩ := chunks_get hx
    have hi2 : i * sz + sz ≤ N * sz := by rw [← Nat.succ_mul]; exact Nat.mul_le_mul_right _ hi
    refine ⟨by simp; omega,?_⟩
    rw [RepC_get]
    intro j c hc
    obtain ⟨d,hd,rfl⟩ := map_strip_get hc
    rw [List.getElem?_take] at hd
    split at hd
    ·rename_i hj
     rw [List.getElem?_drop] at hd
     obtain ⟨u,r1,r2,r3⟩ := hcells _ d hd
     refine ⟨u,?_,r2,by rw [RepV_strip]; exact r3⟩
     unfold hg
     rw [show m1 m b' q b' = N * sz by simp [m1,hq],if_pos (by omega)]
     exact cell_in p3 r1
    ·cases hd
   ·refine .inr ⟨b',cap,cur',t,by rw [chunks_len],p3,p4,by rw [chunks_len]; simp [m1,hq],by simp [ν',own1]⟩
   ·simp only [ν',own1] at hx
    split at hx
    ·rename_i e
     injection hx with hx
     subst hx e
     refine ⟨hb',?_,.inr rfl⟩
     rcases hold with ⟨rfl,h1⟩ | h1
     ·obtain ⟨_,id,h2,_⟩ := hmb h1
      exact .inr ⟨_,h2⟩
     ·exact .inl h1
    ·have := hlt x p hx
     exact ⟨by omega,.inr ⟨p,hx⟩,.inl this.2.2⟩
  ·-- a box
   simp only [if_true,Option.some.injEq,Prod.mk.injEq] at hr
   obtain ⟨rfl,rfl⟩ := hr
   have hq : q = 0 := rfl
   let ν' : Own := own1 ν b' (.g bs1.length)
   have hkeep : ∀ x p,ν x = some p → x ≠ b' → w'.heap[x]? = w.heap[x]? ∧ m1 m b' q x = m x ∧ ν' x = some p := fun x p hx hxb =>
    ⟨p10 x (hlt x p hx).1 hxb,by unfold m1; rw [if_neg hxb],by simp only [ν',own1]; rw [if_neg hxb]; exact hx⟩
   have hnotc : ∀ x i j,ν x = some (.gc i j) → x ≠ b' := fun x i j hx e => by
    subst e
    rcases hold with ⟨rfl,h1⟩ | h1
    ·obtain ⟨_,id,h2,_⟩ := hmb h1
     rw [h2] at hx; cases hx
    ·have := (hlt _ _ hx).1; omega
   have hge : Ge β (β ++ [⟨b',cur'.size,false⟩]) := Ge.append β _
   have hk : (β ++ [(⟨b',cur'.size,false⟩ : Blk)])[bs1.length]? = some ⟨b',cur'.size,false⟩ := by
    rw [hblen,← hbox.1]; exact List.getElem?_concat_length
   refine ⟨_,m1 m b' q,β ++ [⟨b',cur'.size,false⟩],ν',rfl,hge,hstep,⟨by simp [hblen,hbox.1],fun i cs k h1 h2 hne => ?_⟩,rfl,?_,trivial,fun x p hx => ?_⟩
   ·rw [List.getElem?_append] at h1
    split at h1
    ·rename_i hi
     rw [List.getElem?_append_left (by rw [hbox.1,← hblen]; exact hi)] at h2
     obtain ⟨g1,g2⟩ := hbs1 i cs h1 hne
     refine BoxK_keep hge hle (fun x hx => ?_) (fun j x hx => hkeep x _ hx (hnotc x _ _ hx)) (hbox.2 i cs k g1 h2 hne)
     have : x ≠ b' := fun e => by
      subst e
      rcases hold with ⟨h3,h4⟩ | h4
      ·obtain ⟨_,id,h5,h6⟩ := hmb h4
       rw [h3,h5] at hx
       injection hx with hx
       injection hx with hx
       subst hx
       rw [h6,List.getElem?_set_self (by
        rcases Nat.lt_or_ge id bs.length with h | h
        ·exact h
        ·rw [List.getElem?_eq_none h] at g1; cases g1)] at h1
       injection h1 with h1
       exact hne h1.symm
      ·have := (hlt _ _ hx).1; omega
     exact hkeep x _ hx this
    ·rename_i hi
     have hi2 : i = bs1.length := by
      rcases Nat.lt_or_ge i (bs1 ++ [fl]).length with h | h
      ·simp at h; omega
      ·exfalso
       rw [List.length_append,List.length_singleton] at h
       have : (bs1 ++ [fl])[i]? = some cs := by rw [List.getElem?_append,if_neg hi]; exact h1
       rw [List.getElem?_eq_none (by simpa using h)] at this
       cases this
     subst hi2
     simp only [Nat.sub_self,List.getElem?_cons_zero,Option.some.injEq] at h1
     subst h1
     rw [hk] at h2
     injection h2 with h2
     subst h2
     refine ⟨fun _ => ⟨cur',t,p3,⟨rfl,by rw [hfl,p4]; exact Nat.mul_le_mul_right _ p1⟩,by simp [m1,hq],by simp [ν',own1],fun j c hc => ?_⟩,fun q => by cases q⟩
     obtain ⟨u,r1,r2,r3⟩ := hcells j c hc
     refine ⟨u,r1,r2,RepV_mono hge (Le.refl _ _) c u r3,?_⟩
     rw [← hst c (List.mem_of_getElem? hc)]
     exact OwnV_strip _ _ _
   ·simp only [RepV]
    exact ⟨_,cap,rfl,p1,p2,.inr ⟨_,⟨hk,rfl⟩,rfl,by simp [p4],hsz⟩⟩
   ·simp only [ν',own1] at hx
    split at hx
    ·rename_i e
     injection hx with hx
     subst hx e
     refine ⟨hb',?_,.inl rfl⟩
     rcases hold with ⟨rfl,h1⟩ | h1
     ·obtain ⟨_,id,h2,_⟩ := hmb h1
      exact .inr ⟨_,h2⟩
     ·exact .inl h1
    ·have := hlt x p hx
     exact ⟨by omega,.inr ⟨p,hx⟩,.inl this.2.2⟩
 ·cases hr
theorem flat_strip_get {fl : List AV} (c : AV) (h : c ∈ fl.map AV.strip) : c.strip = c := by
 obtain ⟨d,_,rfl⟩ := List.mem_map.1 h
 exact strip_strip d
theorem vs_cells {vs : List (List AV)} {a : Option Addr} {sz : Nat} (hne : vs ≠ []) (hsz : 0 < sz) (h : vs = [] ∨ ∃ b o,a = some ⟨b,o,none⟩ ∧ RepE num β w m vs (hg w m b) o sz) :
  ∃ (vb voff : Nat) (vsv : List Value),a = some ⟨vb,voff,none⟩ ∧ vsv.length = vs.length * sz ∧ (∀ (j : Nat) (v : Value),vsv[j]? = some v → w.cell? ⟨vb,voff + j,none⟩ = some v) ∧ (∀ v ∈ vsv,v.oneCell' = true) ∧ 0 < m vb ∧
   ∀ (j : Nat) (c : AV),(vs.flatten.map AV.strip)[j]? = some c → ∃ u,vsv[j]? = some u ∧ u.oneCell' = true ∧ RepV num β w m c u := by
 rcases h with h | ⟨vb,voff,rfl,h⟩
 ·exact absurd h hne
 have hcells := RepE_cells h hsz
 have hget : ∀ j,j < vs.length * sz → ∃ u,hg w m vb (voff + j) = some u ∧ w.cell? ⟨vb,voff + j,none⟩ = some u ∧ u.oneCell' = true := fun j hj => by
  obtain ⟨u,g1,g2⟩ := hcells j hj
  exact ⟨u,g1,(hg_some g1).2.1,g2⟩
 let vsv : List Value := (List.range (vs.length * sz)).map fun j => (w.cell? ⟨vb,voff + j,none⟩).getD undef
 have hv : ∀ (j : Nat) (v : Value),vsv[j]? = some v → j < vs.length * sz ∧ w.cell? ⟨vb,voff + j,none⟩ = some v := fun j v hj => by
  have hlt : j < vs.length * sz := by
   rcases Nat.lt_or_ge j vsv.length with h | h
   ·simpa [vsv] using h
   ·rw [List.getElem?_eq_none h] at hj; cases hj
  obtain ⟨u,_,g2,_⟩ := hget j hlt
  refine ⟨hlt,?_⟩
  simp only [vsv,List.getElem?_map,List.getElem?_range hlt,Option.map_some,g2,Option.getD_some,Option.some.injEq] at hj
  rw [g2,hj]
 refine ⟨vb,voff,vsv,rfl,by simp [vsv],fun j v hj => (hv j v hj).2,fun v hvm => ?_,?_,fun j c hc => ?_⟩
 ·obtain ⟨j,hj⟩ := List.getElem?_of_mem hvm
  obtain ⟨h1,h2⟩ := hv j v hj
  obtain ⟨u,_,g2,g3⟩ := hget j h1
  rw [h2] at g2
  injection g2 with g2
  rw [g2]; exact g3
 ·obtain ⟨u,g1,_,_⟩ := hget 0 (Nat.mul_pos (List.length_pos_iff.2 hne) hsz)
  have := (hg_some g1).1
  omega
 ·obtain ⟨u,q1,q2,q3⟩ := RepE_flat h j c hc
  have hlt : j < vs.length * sz := by
   rw [← flat_length h]
   rcases Nat.lt_or_ge j (vs.flatten.map AV.strip).length with h | h
   ·exact h
   ·rw [List.getElem?_eq_none h] at hc; cases hc
  have g2 := (hg_some q1).2.1
  refine ⟨u,?_,q2,q3.1⟩
  simp only [vsv,List.getElem?_map,List.getElem?_range hlt,Option.map_some,g2,Option.getD_some]
theorem ins_orc [Dr] {Γ : Glob} (hD : ¬ Dr.d) {ρ : Ren} {F : Func} {k by' : Nat} {z : Value} {id : Nat} {g : Bool} (L : InsLay P ρ F k by' z) (hF : P.funcs[id]? = some F) : OrcOk P num Γ (insO g by' k) id := by
 intro args bs r bs' hc hokv w m β ν vals hG hGb hvs hrep hbox hlt
 unfold insO at hc
 split at hc
 ·rename_i bid o sz1 n i _ sz2 vs
  split at hc
  ·rename_i hcond
   obtain ⟨hz2,hk,hne,hi0,hi1,hbig,h63⟩ := hcond
   have hz2 := hz2.symm
   subst hz2
   obtain ⟨u0,e0,r0⟩ := hrep 0 _ rfl
   obtain ⟨u1,e1,r1⟩ := hrep 1 _ rfl
   obtain ⟨u2,e2,r2⟩ := hrep 2 _ rfl
   simp only [RepV] at r0 r1 r2
   obtain ⟨a0,c,rfl,q1,q2,q3⟩ := r0
   subst r1
   obtain ⟨a2,mm,vc,rfl,s1,s2,s3,s4⟩ := r2
   subst s1
   obtain ⟨vb,voff,vsv,rfl,t1,t2,t3,t4,t5⟩ := vs_cells hne hk s4
   have hmv : 0 < vs.length := List.length_pos_iff.2 hne
   obtain ⟨i,rfl⟩ : ∃ j : Nat,i = j := ⟨i.toNat,by omega⟩
   have hva : vals = #[.slice a0 n c,.int .i64 i,.slice (some ⟨vb,voff,none⟩) vs.length vc] := by
    apply Array.ext
    ·simpa using hvs
    ·intro j h1 h2
     simp at h2
     match j,h2 with
     | 0,_ => rw [Array.getElem?_eq_getElem h1] at e0; injection e0
     | 1,_ => rw [Array.getElem?_eq_getElem h1] at e1; injection e1
     | 2,_ => rw [Array.getElem?_eq_getElem h1] at e2; injection e2
   subst hva
   have hgrow : n = 0 → c = 0 → ∀ bs1,(bs1 = bs ∨ ∃ id,bs1 = bs.set id []) → insR g k vs.length (insC 0 k 0 [] vs) bs1 = some (r,bs') →
     Calls P id #[.slice a0 n c,.int .i64 i,.slice (some ⟨vb,voff,none⟩) vs.length vc] w (CallPost num β bs' r w m ν) := fun hn hc0 bs1 hb1 hr => by
    subst hn hc0
    obtain rfl : i = 0 := by omega
    have hfe : insC 0 k 0 [] vs = vs.flatten.map AV.strip := by simp [insC]
    refine (ins_end_grow L hF hk a0 0 0 vb voff vs.length vc [] vsv w hmv (Nat.le_refl _) (by omega) (by rw [Nat.zero_add] at hbig ⊢; exact hbig) (by omega) (by simp) t1 (fun _ => ⟨rfl,rfl⟩) (fun _ _ j v hj => by simp at hj) t2 t3).mono fun e w' ⟨he,hw⟩ => ?_
    subst hw
    rw [hfe] at hr
    have hflen : (vs.flatten.map AV.strip).length = vs.length * k := by
     rcases s4 with s4 | ⟨b,o,_,s4⟩
     ·exact absurd s4 hne
     ·exact flat_length s4
    refine ins_post hD (b := w.heap.size) (flv := vsv) hk hmv hr hflen t5 (fun c hc => flat_strip_get c hc) hbox hlt (fun h => by omega) hb1 ?_
    have hge := grownCap_ge w (0 + vs.length) 0 (ρ.t 9)
    refine ⟨w.heap.size,_,_,ρ.t 9,by rw [he,Nat.zero_add],by rw [Nat.zero_add] at hge; exact hge,grownCap_le_maxLen w _ _ _ (by unfold maxLen; omega),Array.getElem?_push_size,?_,fun j v hj => ?_,rfl,rfl,rfl,.inr ⟨rfl,Array.size_push _⟩,fun x hx _ => ?_⟩
    ·rw [Nat.zero_add] at hge ⊢
     rw [Array.size_append,zeroCells_size _ k _ L.zc,List.size_toArray,List.nil_append,t1,← Nat.add_mul]
     congr 1; omega
    ·have hl : j < vsv.length := by
      rcases Nat.lt_or_ge j vsv.length with h | h
      ·exact h
      ·rw [List.getElem?_eq_none h] at hj; cases hj
     rw [Array.getElem?_append_left (by simpa using hl)]
     simpa using hj
    ·show (w.heap.push _)[x]? = _
     rw [Array.getElem?_push_lt hx,Array.getElem?_eq_getElem hx]
   by_cases hz : sz1 = 0 ∧ n = 0
   ·rw [if_pos hz] at hc
    obtain ⟨rfl,rfl⟩ := hz
    have hc0 : c = 0 := by
     rcases q3 with q3 | ⟨_,_,_,_,h5⟩
     ·exact q3.2.1
     ·omega
    exact hgrow rfl hc0 bs (.inl rfl) hc
   ·rw [if_neg hz] at hc
    by_cases hz1 : sz1 = k ∧ o = 0
    ·rw [if_pos hz1] at hc
     obtain ⟨hz1,rfl⟩ := hz1
     subst hz1
     cases hbs : bs[bid]? with
     | none => rw [hbs] at hc; cases hc
     | some cs =>
      rw [hbs] at hc
      simp only [Option.bind_some] at hc
      by_cases hcs : cs ≠ [] ∧ n * sz1 ≤ cs.length
      ·rw [if_pos hcs] at hc
       obtain ⟨hcne,hcl⟩ := hcs
       rcases q3 with ⟨q3,q4,_⟩ | ⟨kb,q3,rfl,q4,_⟩
       ·subst q3 q4
        refine hgrow rfl rfl (bs.set bid []) (.inr ⟨bid,rfl⟩) ?_
        obtain rfl : i = 0 := by omega
        rw [Nat.zero_add] at hc
        simpa [insC] using hc
       ·obtain ⟨cur,e,p1,p2,p3,p4,p5⟩ := (hbox.2 bid cs kb hbs q3.1 hcne).1 q3.2
        rw [Nat.zero_add] at q4
        let csv : List Value := cur.toList.take (n * sz1)
        have hnc : n * sz1 ≤ cur.size := by omega
        have hcsl : csv.length = n * sz1 := by simp [csv]; omega
        have hcsg : ∀ (j : Nat) (v : Value),csv[j]? = some v → cur[j]? = some v := fun j v hj => by
         simp only [csv,List.getElem?_take] at hj
         split at hj
         ·simpa using hj
         ·cases hj
        have hlow : ∀ j,j < n * sz1 → ∃ c u,cs[j]? = some c ∧ csv[j]? = some u ∧ u.oneCell' = true ∧ RepV num β w m c u := fun j hj => by
         have hj2 : j < cs.length := by omega
         obtain ⟨u,g1,g2,g3,_⟩ := p5 j _ (List.getElem?_eq_getElem hj2)
         refine ⟨_,u,List.getElem?_eq_getElem hj2,?_,g2,g3⟩
         simp only [csv,List.getElem?_take,if_pos hj]
         simpa using g1
        have h1c : ∀ v ∈ csv,v.oneCell' = true := fun v hv => by
         obtain ⟨j,hj⟩ := List.getElem?_of_mem hv
         have hjl : j < n * sz1 := by
          rcases Nat.lt_or_ge j csv.length with h | h
          ·omega
          ·rw [List.getElem?_eq_none h] at hj; cases hj
         obtain ⟨_,u,_,g2,g3,_⟩ := hlow j hjl
         rw [hj] at g2
         injection g2 with g2
         rw [g2]; exact g3
        have hvb : vb ≠ kb.b := fun e => by rw [e] at t4; omega
        have hbl : kb.b < w.heap.size := (hlt _ _ p4).1
        have hik : i * sz1 ≤ n * sz1 := Nat.mul_le_mul_right _ (by omega)
        have hnm : (n + vs.length) * sz1 = n * sz1 + vs.length * sz1 := Nat.add_mul _ _ _
        have hflen : (vs.flatten.map AV.strip).length = vs.length * sz1 := by
         rcases s4 with s4 | ⟨b,o,_,s4⟩
         ·exact absurd s4 hne
         ·exact flat_length s4
        have hfe : insC i sz1 n cs vs = ((cs.take (n * sz1)).take (i * sz1)).map AV.strip ++ vs.flatten.map AV.strip ++ ((cs.take (n * sz1)).drop (i * sz1)).map AV.strip := by simp [insC]
        have hl1 : (((cs.take (n * sz1)).take (i * sz1)).map AV.strip).length = i * sz1 := by simp; omega
        have hl3 : (((cs.take (n * sz1)).drop (i * sz1)).map AV.strip).length = n * sz1 - i * sz1 := by simp; omega
        have hcv1 : (csv.take (i * sz1)).length = i * sz1 := by rw [List.length_take]; omega
        refine (ins_all L hF hk kb.b n c i vb voff vs.length vc cur e csv vsv w (by omega) hmv q1 q2 hvb hbig h63 p1 (by omega) hcsl t1 hcsg t2 h1c t3).mono fun e2 w' hp => ?_
        refine ins_post hD (b := kb.b) hk (by omega) hc ?_ ?_ (fun c hc => flat_strip_get c hc) hbox hlt (fun _ => ⟨p3,bid,p4,rfl⟩) (.inr ⟨bid,rfl⟩) hp
        ·simp only [Int.toNat_natCast,hfe,List.length_append,hl1,hflen,hl3]; omega
        ·intro j c hj
         simp only [Int.toNat_natCast,hfe] at hj
         unfold insV
         rw [List.append_assoc] at hj ⊢
         by_cases c1 : j < i * sz1
         ·rw [List.getElem?_append_left (by omega)] at hj
          rw [List.getElem?_append_left (by omega)]
          obtain ⟨d,hd,rfl⟩ := map_strip_get hj
          rw [List.getElem?_take_of_lt c1,List.getElem?_take_of_lt (by omega)] at hd
          obtain ⟨c',u,g1,g2,g3,g4⟩ := hlow j (by omega)
          rw [hd] at g1
          injection g1 with g1
          subst g1
          exact ⟨u,by rw [List.getElem?_take_of_lt c1]; exact g2,g3,by rw [RepV_strip]; exact g4⟩
         ·rw [List.getElem?_append_right (by omega),hl1] at hj
          rw [List.getElem?_append_right (by omega),hcv1]
          by_cases c2 : j - i * sz1 < vs.length * sz1
          ·rw [List.getElem?_append_left (by omega)] at hj
           rw [List.getElem?_append_left (by omega)]
           exact t5 _ c hj
          ·rw [List.getElem?_append_right (by omega),hflen] at hj
           rw [List.getElem?_append_right (by omega),t1]
           obtain ⟨d,hd,rfl⟩ := map_strip_get hj
           rw [List.getElem?_drop] at hd
           have hjl : i * sz1 + (j - i * sz1 - vs.length * sz1) < n * sz1 := by
            rcases Nat.lt_or_ge (i * sz1 + (j - i * sz1 - vs.length * sz1)) (n * sz1) with h | h
            ·exact h
            ·rw [List.getElem?_eq_none (by simp; omega)] at hd; cases hd
           rw [List.getElem?_take_of_lt hjl] at hd
           obtain ⟨c',u,g1,g2,g3,g4⟩ := hlow _ hjl
           rw [hd] at g1
           injection g1 with g1
           subst g1
           exact ⟨u,by rw [List.getElem?_drop]; exact g2,g3,by rw [RepV_strip]; exact g4⟩
      ·rw [if_neg hcs] at hc; cases hc
    ·rw [if_neg hz1] at hc; cases hc
  ·cases hc
 ·cases hc
end
end Go.Am
namespace Go.Am
set_option maxRecDepth 8000
inductive Tm where
 | mk (k : Int) (n : List UInt8) (s : Int) (kids : List Tm)
def Tm.kind : Tm → Int | .mk k _ _ _ => k
def Tm.name : Tm → List UInt8 | .mk _ n _ _ => n
def Tm.sort : Tm → Int | .mk _ _ s _ => s
def Tm.kids : Tm → List Tm | .mk _ _ _ ks => ks
theorem mk_kind (k : Int) (n : List UInt8) (s : Int) (ks : List Tm) : (Tm.mk k n s ks).kind = k := rfl
theorem mk_name (k : Int) (n : List UInt8) (s : Int) (ks : List Tm) : (Tm.mk k n s ks).name = n := rfl
theorem mk_sort (k : Int) (n : List UInt8) (s : Int) (ks : List Tm) : (Tm.mk k n s ks).sort = s := rfl
theorem mk_kids (k : Int) (n : List UInt8) (s : Int) (ks : List Tm) : (Tm.mk k n s ks).kids = ks := rfl
attribute [simp] mk_kind mk_name mk_sort mk_kids
theorem Tm.eta (t : Tm) : Tm.mk t.kind t.name t.sort t.kids = t := by cases t; rfl
theorem tm_ind {P : Tm → Prop} (h : ∀ k n s ks,(∀ x ∈ ks,P x) → P (.mk k n s ks)) : ∀ t,P t := by
 intro t
 refine Tm.rec (motive_1 := P) (motive_2 := fun ks => ∀ x ∈ ks,P x) ?_ ?_ ?_ t
 ·intro k n s ks ih; exact h k n s ks ih
 ·intro x hx; cases hx
 ·intro t ts h1 h2 x hx
  rcases List.mem_cons.1 hx with rfl | hx
  ·exact h1
  ·exact h2 x hx
mutual
def encT : Tm → List AV
 | .mk k n s ks => [.int .i64 k,.str n,.int .i64 s,.sl false 4 (encTs ks)]
def encTs : List Tm → List (List AV)
 | [] => []
 | t :: ts => encT t :: encTs ts
end
theorem encT_eq (t : Tm) : encT t = [.int .i64 t.kind,.str t.name,.int .i64 t.sort,.sl false 4 (encTs t.kids)] := by cases t; simp [encT]
theorem encTs_map (ts : List Tm) : encTs ts = ts.map encT := by
 induction ts with
 | nil => simp [encTs]
 | cons t ts ih => simp [encTs,ih]
theorem encTs_length (ts : List Tm) : (encTs ts).length = ts.length := by simp [encTs_map]
theorem encTs_get (ts : List Tm) (i : Nat) : (encTs ts)[i]? = (ts[i]?).map encT := by simp [encTs_map]
theorem encTs_append (a b : List Tm) : encTs a ++ encTs b = encTs (a ++ b) := by simp [encTs_map]
theorem encTs_take (a : List Tm) (n : Nat) : (encTs a).take n = encTs (a.take n) := by simp [encTs_map]
theorem encTs_drop (a : List Tm) (n : Nat) : (encTs a).drop n = encTs (a.drop n) := by simp [encTs_map]
theorem encTs_one (t : Tm) : [encT t] = encTs [t] := by simp [encTs]
theorem encT_length (t : Tm) : (encT t).length = 4 := by simp [encT_eq]
theorem encT_strip (t : Tm) : (encT t).map AV.strip = encT t := by simp [encT_eq,AV.strip]
theorem encT_take (t : Tm) : (encT t).take 4 = encT t := by simp [encT_eq]
theorem encT_drop (t : Tm) : (encT t).drop 4 = [] := by simp [encT_eq]
theorem encT_0 (t : Tm) : (encT t)[0]? = some (.int .i64 t.kind) := by simp [encT_eq]
theorem encT_1 (t : Tm) : (encT t)[1]? = some (.str t.name) := by simp [encT_eq]
theorem encT_2 (t : Tm) : (encT t)[2]? = some (.int .i64 t.sort) := by simp [encT_eq]
theorem encT_3 (t : Tm) : (encT t)[3]? = some (.sl false 4 (encTs t.kids)) := by simp [encT_eq]
theorem encT_g0 (t : Tm) (h : 0 < (encT t).length) : (encT t)[0] = .int .i64 t.kind := by simp [encT_eq]
theorem encT_g1 (t : Tm) (h : 1 < (encT t).length) : (encT t)[1] = .str t.name := by simp [encT_eq]
theorem encT_g2 (t : Tm) (h : 2 < (encT t).length) : (encT t)[2] = .int .i64 t.sort := by simp [encT_eq]
theorem encT_g3 (t : Tm) (h : 3 < (encT t).length) : (encT t)[3] = .sl false 4 (encTs t.kids) := by simp [encT_eq]
mutual
theorem encT_gp : ∀ t : Tm,gpfreeL (encT t) = true
 | .mk k n s ks => by simp [encT,gpfreeL,AV.gpfree,encTs_gp ks]
theorem encTs_gp : ∀ ts : List Tm,gpfreeE (encTs ts) = true
 | [] => by simp [encTs,gpfreeE]
 | t :: ts => by simp [encTs,gpfreeE,encT_gp t,encTs_gp ts]
end
theorem encT_fold (k : Int) (n : List UInt8) (s : Int) (ks : List Tm) : [AV.int .i64 k,.str n,.int .i64 s,.sl false 4 (encTs ks)] = encT (.mk k n s ks) := by simp [encT]
theorem encT_fold0 (k : Int) (n : List UInt8) (s : Int) : [AV.int .i64 k,.str n,.int .i64 s,.sl false 4 []] = encT (.mk k n s []) := by simp [encT,encTs]
attribute [simp] encTs_length encTs_get encT_length encT_strip encT_take encT_drop encT_0 encT_1 encT_2 encT_3 encT_g0 encT_g1 encT_g2 encT_g3 encT_gp encTs_gp
attribute [simp] Int.toNat_natCast
mutual
def Tm.nodes : Tm → Nat
 | .mk _ _ _ ks => 1 + nodesL ks
def nodesL : List Tm → Nat
 | [] => 0
 | t :: ts => t.nodes + nodesL ts
end
mutual
def Tm.mass : Tm → Nat
 | .mk _ n _ ks => 1 + n.length + ks.length + massL ks
def massL : List Tm → Nat
 | [] => 0
 | t :: ts => t.mass + massL ts
end
mutual
def Tm.depth : Tm → Nat
 | .mk _ _ _ ks => depthL ks + 1
def depthL : List Tm → Nat
 | [] => 0
 | t :: ts => max t.depth (depthL ts)
end
theorem mass_eq (t : Tm) : t.mass = 1 + t.name.length + t.kids.length + massL t.kids := by cases t; simp [Tm.mass]
theorem nodes_eq (t : Tm) : t.nodes = 1 + nodesL t.kids := by cases t; simp [Tm.nodes]
theorem depth_eq (t : Tm) : t.depth = depthL t.kids + 1 := by cases t; simp [Tm.depth]
theorem massL_mem {x : Tm} : ∀ {ks : List Tm},x ∈ ks → x.mass ≤ massL ks
 | [],h => by cases h
 | t :: ts,h => by
  simp only [massL]
  rcases List.mem_cons.1 h with rfl | h
  ·omega
  ·have := massL_mem h; omega
theorem depthL_mem {x : Tm} : ∀ {ks : List Tm},x ∈ ks → x.depth ≤ depthL ks
 | [],h => by cases h
 | t :: ts,h => by
  simp only [depthL]
  rcases List.mem_cons.1 h with rfl | h
  ·omega
  ·have := depthL_mem h; omega
theorem massL_append (a b : List Tm) : massL (a ++ b) = massL a + massL b := by
 induction a with
 | nil => simp [massL]
 | cons t ts ih => simp [massL,ih]; omega
theorem nodesL_append (a b : List Tm) : nodesL (a ++ b) = nodesL a + nodesL b := by
 induction a with
 | nil => simp [nodesL]
 | cons t ts ih => simp [nodesL,ih]; omega
mutual
theorem nodes_le_mass : ∀ t : Tm,t.nodes ≤ t.mass
 | .mk _ _ _ ks => by simp only [Tm.nodes,Tm.mass]; have := nodesL_le_mass ks; omega
theorem nodesL_le_mass : ∀ ts : List Tm,nodesL ts ≤ massL ts
 | [] => by simp [nodesL,massL]
 | t :: ts => by simp only [nodesL,massL]; have := nodes_le_mass t; have := nodesL_le_mass ts; omega
end
mutual
theorem depth_le_nodes : ∀ t : Tm,t.depth ≤ t.nodes
 | .mk _ _ _ ks => by simp only [Tm.nodes,Tm.depth]; have := depthL_le_nodes ks; omega
theorem depthL_le_nodes : ∀ ts : List Tm,depthL ts ≤ nodesL ts
 | [] => by simp [nodesL,depthL]
 | t :: ts => by simp only [nodesL,depthL]; have := depth_le_nodes t; have := depthL_le_nodes ts; omega
end
theorem int_beq (a b : Int) : (a == b) = decide (a = b) := by by_cases h : a = b <;> simp [h]
theorem int_bne (a b : Int) : (a != b) = !decide (a = b) := by by_cases h : a = b <;> simp [h]
attribute [local simp] int_beq int_bne
theorem get_pre {α : Type} {ks pre post : List α} {x : α} (h : ks = pre ++ x :: post) : ks[pre.length]? = some x := by subst h; simp
def big : Nat := 1099511627776
def sgn (a b : Int) : Int := if a < b then -1 else if a > b then 1 else 0
def cmpS (a b : List UInt8) : Int := if Op.bytesLess a b then -1 else if a == b then 0 else 1
def or0 (c d : Int) : Int := if c = 0 then d else c
theorem or0_0 (d : Int) : or0 0 d = d := rfl
theorem or0_r (c : Int) : or0 c 0 = c := by unfold or0; split <;> simp_all
theorem or0_ne {c : Int} (h : c ≠ 0) (d : Int) : or0 c d = c := by simp [or0,h]
theorem or0_eq0 {a b : Int} : or0 a b = 0 ↔ a = 0 ∧ b = 0 := by unfold or0; split <;> simp_all
def hdT (t u : Tm) : Int := or0 (sgn t.nodes u.nodes) (or0 (sgn t.kind u.kind) (or0 (cmpS t.name u.name) (or0 (sgn t.sort u.sort) (sgn t.kids.length u.kids.length))))
mutual
def cmpT : Tm → Tm → Int
 | .mk k n s ks,u => or0 (hdT (.mk k n s ks) u) (cmpL ks u.kids)
def cmpL : List Tm → List Tm → Int
 | [],_ => 0
 | _ :: _,[] => 0
 | t :: ts,u :: us => or0 (cmpT t u) (cmpL ts us)
end
theorem cmpT_eq (t u : Tm) : cmpT t u = or0 (hdT t u) (cmpL t.kids u.kids) := by cases t; simp [cmpT]
theorem sgn0 {a b : Int} : sgn a b = 0 ↔ a = b := by unfold sgn; split <;> (try split) <;> omega
mutual
def decV : AV → Option (List Tm)
 | .sl _ 4 xs => decE xs
 | _ => none
def decC : List AV → Option Tm
 | [.int .i64 k,.str n,.int .i64 s,x] => (decV x).map fun ks => .mk k n s ks
 | _ => none
def decE : List (List AV) → Option (List Tm)
 | [] => some []
 | x :: xs => match decC x,decE xs with
  | some t,some ts => some (t :: ts)
  | _,_ => none
end
mutual
theorem decC_enc : ∀ t : Tm,decC (encT t) = some t
 | .mk k n s ks => by simp only [encT,decC,decV,decE_enc ks,Option.map_some]
theorem decE_enc : ∀ ts : List Tm,decE (encTs ts) = some ts
 | [] => by simp only [encTs,decE]
 | t :: ts => by simp only [encTs,decE,decC_enc t,decE_enc ts]
end
def insT (t : Tm) : List Tm → List Tm
 | [] => [t]
 | x :: xs => if cmpT x t < 0 then x :: insT t xs else t :: x :: xs
def sortT : List Tm → List Tm
 | [] => []
 | t :: ts => insT t (sortT ts)
def sortO : List AV → List (List AV) → Option (AV × List (List AV))
 | [.gs id o sz n,.fn 30 []],bs => if n = 0 then some (.tup [],bs) else if sz = 4 ∧ n < 4611686018427387904 then (bs[id]?).bind fun cs =>
   if o + n * 4 ≤ cs.length then (decE (chunks cs o 4 n)).bind fun ts => if ts.all (fun t => decide (t.mass < big)) then some (.tup [],bs.set id (put cs o (encTs (sortT ts)).flatten)) else none else none
   else none
 | _,_ => none
end Go.Am
namespace Go.Am
def trimO : List AV → Option AV
 | [.str s,.str cs] => if (cs.all (· < 128) && decide (s.length < 4294967281) && decide (cs.length < 4294967281)) = true then some (.str (Lib.trimS s cs)) else none
 | _ => none
def growO (bytes sz : Nat) : List AV → List (List AV) → Option (AV × List (List AV))
 | [.gs _ _ 0 0,.int .i64 n],bs => if 0 ≤ n ∧ n.toNat * bytes ≤ 140737488355328 ∧ n ≤ 4611686018427387904 then some (.sl true sz [],bs) else none
 | _,_ => none
end Go.Am
