/-
  Rc21, Rc22, Rc23, Rc24, Rc25, Rc26.
-/
import Derived.Test.YteahheknpdcoeaaGreatDoorG20
set_option linter.unusedVariables false
set_option linter.unusedSimpArgs false
namespace Go.Am
set_option maxRecDepth 8000
@[simp] theorem encTs_g1 (x y : Tm) (a : List Tm) (h : 1 < (encTs (x :: y :: a)).length) : (encTs (x :: y :: a))[1] = encT y := by simp [encTs]
def PAIR : List UInt8 := [112,97,105,114]
def ENC : List UInt8 := [101,110,99]
def AENC : List UInt8 := [97,101,110,99]
def PK : List UInt8 := [112,107]
def SIGN : List UInt8 := [115,105,103,110]
def EXP : List UInt8 := [101,120,112]
def FST : List UInt8 := [102,115,116]
def SND : List UInt8 := [115,110,100]
def DEC : List UInt8 := [100,101,99]
def ADEC : List UInt8 := [97,100,101,99]
def OPEN : List UInt8 := [111,112,101,110]
def READ : List UInt8 := [114,101,97,100]
def arOk (n : List UInt8) (m : Nat) : Bool :=
 if n = PAIR ∨ n = ENC ∨ n = AENC ∨ n = SIGN ∨ n = EXP ∨ n = DEC ∨ n = ADEC ∨ n = OPEN then decide (m = 2)
 else if n = PK ∨ n = FST ∨ n = SND ∨ n = READ then decide (m = 1) else true
mutual
def goodT : Tm → Bool
 | .mk k n s ks => (!(k == 3) || ((s == 0) && arOk n ks.length)) && goodL ks
def goodL : List Tm → Bool
 | [] => true
 | t :: ts => goodT t && goodL ts
end
theorem goodT_eq (t : Tm) : goodT t = ((!(t.kind == 3) || ((t.sort == 0) && arOk t.name t.kids.length)) && goodL t.kids) := by cases t; simp [goodT]
theorem goodL_mem : ∀ {l : List Tm},goodL l = true ↔ ∀ x ∈ l,goodT x = true
 | [] => by simp [goodL]
 | t :: ts => by simp [goodL,goodL_mem (l := ts)]
theorem good_kids {t : Tm} (h : goodT t = true) : goodL t.kids = true := by rw [goodT_eq] at h; simp at h; exact h.2
theorem good_node {t : Tm} (h : goodT t = true) (hk : t.kind = 3) : t.sort = 0 ∧ arOk t.name t.kids.length = true := by
 rw [goodT_eq] at h; simp [hk] at h; exact h.1
theorem good_two {t : Tm} {n : List UInt8} (h : goodT t = true) (hb : isB t n = true) (hn : arOk n t.kids.length = decide (t.kids.length = 2)) : ∃ x y,t.kids = [x,y] := by
 obtain ⟨hk,rfl⟩ := isB_iff.1 hb
 have := (good_node h hk).2
 rw [hn] at this
 simp at this
 match hh : t.kids with
 | [x,y] => exact ⟨x,y,rfl⟩
 | [] => rw [hh] at this; simp at this
 | [_] => rw [hh] at this; simp at this
 | _ :: _ :: _ :: _ => rw [hh] at this; simp at this
def kid (t : Tm) (i : Nat) : Tm := t.kids.getD i zeroT
def pkT (t : Tm) : Tm := .mk 3 PK 0 [t]
theorem good_pk {u : Tm} (h : goodT u = true) (key : Tm) : decide (cmpT u (pkT key) = 0) = (isB u PK && decide (cmpT (kid u 0) key = 0)) := by
 cases hb : isB u PK
 ·have : ¬ cmpT u (pkT key) = 0 := by
   intro e
   have := cmpT_eq0 _ _ e
   subst this
   simp [isB,pkT] at hb
  simp [this]
 ·obtain ⟨hk,hn⟩ := isB_iff.1 hb
  obtain ⟨hs,ha⟩ := good_node h hk
  rw [hn] at ha
  have h1 : u.kids.length = 1 := by simpa [arOk,PK,PAIR,ENC,AENC,SIGN,EXP,DEC,ADEC,OPEN] using ha
  obtain ⟨x,hx⟩ := List.length_eq_one_iff.1 h1
  have hu : u = pkT x := by rw [← Tm.eta u,hk,hn,hs,hx]; rfl
  subst hu
  have : kid (pkT x) 0 = x := rfl
  rw [this]
  have e1 : cmpT (pkT x) (pkT key) = 0 ↔ cmpT x key = 0 := by
   constructor
   ·intro e
    have := cmpT_eq0 _ _ e
    injection this with _ _ _ h4
    injection h4 with h4
    subst h4; exact cmpT_refl _
   ·intro e
    have := cmpT_eq0 _ _ e
    subst this; exact cmpT_refl _
  simp [e1]
def destT (n : List UInt8) (us : List Tm) : Tm :=
 let a := us.getD 0 zeroT
 let key := us.getD 1 zeroT
 let out : Tm := .mk 3 n 0 us
 if n = FST then (if isB a PAIR then kid a 0 else out)
 else if n = SND then (if isB a PAIR then kid a 1 else out)
 else if n = DEC then (if isB a ENC && decide (cmpT (kid a 1) key = 0) then kid a 0 else out)
 else if n = ADEC then (if isB a AENC && decide (cmpT (kid a 1) (pkT key) = 0) then kid a 0 else out)
 else if n = OPEN then (if isB a SIGN && decide (cmpT key (pkT (kid a 1)) = 0) then kid a 0 else out)
 else if n = READ then (if isB a SIGN then kid a 0 else out)
 else out
theorem call177 (x y : Tm) (bs : List (List AV)) (hx : x.mass < big) (hy : y.mass < big) : call F.tb 177 [.agg (encT x),.agg (encT y)] bs = some (.bool (decide (cmpT x y = 0)),bs) := by
 have h := call_Compare x y bs hx hy
 rw [call_code F.tb_177 _ _ rfl]
 simp [F.f177B,F.f177C,F.f177R,F.f177K,h]
def destN (n : List UInt8) : Bool := n == FST || n == SND || n == DEC || n == ADEC || n == OPEN || n == READ
theorem dest_one (n : List UInt8) (a : Tm) (bs : List (List AV)) (hn : n = FST ∨ n = SND ∨ n = READ) (hg : goodT a = true) (hm : a.mass < big) :
  call F.tb 176 [.agg (encT (.mk 3 n 0 [a]))] bs = some (.agg (encT (destT n [a])),bs) := by
 have h1 := fun m => call_this a m bs
 rw [call_code F.tb_176 _ _ rfl]
 rcases hn with rfl | rfl | rfl
 ·cases hb : isB a PAIR
  ·have h2 := h1 PAIR; rw [hb] at h2; simp only [PAIR] at h2
   have e : destT FST [a] = .mk 3 FST 0 [a] := by simp [destT,hb]
   rw [e]
   simp only [FST]
   simp [F.f176B,F.f176C,F.f176R,F.f176K,h2]
  ·have h2 := h1 PAIR; rw [hb] at h2; simp only [PAIR] at h2
   obtain ⟨x,y,hk⟩ := good_two hg hb (by simp [arOk])
   have e : destT FST [a] = x := by simp [destT,hb,kid,hk]
   rw [e]
   simp only [FST]
   simp [F.f176B,F.f176C,F.f176R,F.f176K,h2,hk]
 ·cases hb : isB a PAIR
  ·have h2 := h1 PAIR; rw [hb] at h2; simp only [PAIR] at h2
   have e : destT SND [a] = .mk 3 SND 0 [a] := by simp [destT,hb,SND,FST]
   rw [e]
   simp only [SND]
   simp [F.f176B,F.f176C,F.f176R,F.f176K,h2]
  ·have h2 := h1 PAIR; rw [hb] at h2; simp only [PAIR] at h2
   obtain ⟨x,y,hk⟩ := good_two hg hb (by simp [arOk])
   have e : destT SND [a] = y := by simp [destT,hb,kid,hk,SND,FST]
   rw [e]
   simp only [SND]
   simp [F.f176B,F.f176C,F.f176R,F.f176K,h2,hk]
 ·cases hb : isB a SIGN
  ·have h2 := h1 SIGN; rw [hb] at h2; simp only [SIGN] at h2
   have e : destT READ [a] = .mk 3 READ 0 [a] := by simp [destT,hb,SND,FST,DEC,ADEC,OPEN,READ]
   rw [e]
   simp only [READ]
   simp [F.f176B,F.f176C,F.f176R,F.f176K,h2]
  ·have h2 := h1 SIGN; rw [hb] at h2; simp only [SIGN] at h2
   obtain ⟨x,y,hk⟩ := good_two hg hb (by simp [arOk])
   have e : destT READ [a] = x := by simp [destT,hb,kid,hk,SND,FST,DEC,ADEC,OPEN,READ]
   rw [e]
   simp only [READ]
   simp [F.f176B,F.f176C,F.f176R,F.f176K,h2,hk]
theorem dest_two (n : List UInt8) (a key : Tm) (bs : List (List AV)) (hn : n = DEC ∨ n = ADEC ∨ n = OPEN) (hg : goodT a = true) (hgk : goodT key = true) (hm : a.mass < big - 10) (hmk : key.mass < big - 10) :
  call F.tb 176 [.agg (encT (.mk 3 n 0 [a,key]))] bs = some (.agg (encT (destT n [a,key])),bs) := by
 have h1 := fun t m => call_this t m bs
 rw [call_code F.tb_176 _ _ rfl]
 rcases hn with rfl | rfl | rfl
 ·cases hb : isB a ENC
  ·have h2 := h1 a ENC; rw [hb] at h2; simp only [ENC] at h2
   have e : destT DEC [a,key] = .mk 3 DEC 0 [a,key] := by simp [destT,hb,SND,FST,DEC]
   rw [e]
   simp only [DEC]
   simp [F.f176B,F.f176C,F.f176R,F.f176K,h2]
  ·have h2 := h1 a ENC; rw [hb] at h2; simp only [ENC] at h2
   obtain ⟨x,y,hk⟩ := good_two hg hb (by simp [arOk])
   have hma := mass_eq a
   rw [hk] at hma
   simp only [massL] at hma
   have h3 := call177 y key bs (by omega) (by omega)
   by_cases hc : cmpT y key = 0
   ·have e : destT DEC [a,key] = x := by simp [destT,hb,kid,hk,hc,SND,FST,DEC]
    rw [e]
    simp only [DEC]
    simp [F.f176B,F.f176C,F.f176R,F.f176K,h2,h3,hc,hk]
   ·have e : destT DEC [a,key] = .mk 3 DEC 0 [a,key] := by simp [destT,hb,kid,hk,hc,SND,FST,DEC]
    rw [e]
    simp only [DEC]
    simp [F.f176B,F.f176C,F.f176R,F.f176K,h2,h3,hc,hk]
 ·cases hb : isB a AENC
  ·have h2 := h1 a AENC; rw [hb] at h2; simp only [AENC] at h2
   have e : destT ADEC [a,key] = .mk 3 ADEC 0 [a,key] := by simp [destT,hb,SND,FST,DEC,ADEC]
   rw [e]
   simp only [ADEC]
   simp [F.f176B,F.f176C,F.f176R,F.f176K,h2]
  ·have h2 := h1 a AENC; rw [hb] at h2; simp only [AENC] at h2
   obtain ⟨x,y,hk⟩ := good_two hg hb (by simp [arOk])
   have hma := mass_eq a
   have hgy : goodT y = true := by
    have := good_kids hg; rw [hk] at this; simp [goodL] at this; exact this.2
   rw [hk] at hma
   simp only [massL] at hma
   have hpk := good_pk hgy key
   have h4 := h1 y PK
   have e0 : destT ADEC [a,key] = if isB y PK && decide (cmpT (kid y 0) key = 0) then x else .mk 3 ADEC 0 [a,key] := by
    rw [← hpk]; simp [destT,hb,kid,hk,SND,FST,DEC,ADEC]
   rw [e0]
   cases hbp : isB y PK
   ·rw [hbp] at h4; simp only [PK] at h4
    simp only [ADEC]
    simp [F.f176B,F.f176C,F.f176R,F.f176K,h2,h4,hk]
   ·rw [hbp] at h4; simp only [PK] at h4
    obtain ⟨hyk,hyn⟩ := isB_iff.1 hbp
    have har := (good_node hgy hyk).2
    rw [hyn] at har
    have hl1 : y.kids.length = 1 := by simpa [arOk,PK,PAIR,ENC,AENC,SIGN,EXP,DEC,ADEC,OPEN] using har
    obtain ⟨z,hz⟩ := List.length_eq_one_iff.1 hl1
    have hmy := mass_eq y
    rw [hz] at hmy
    simp only [massL] at hmy
    have h3 := call177 z key bs (by omega) (by omega)
    have hk0 : kid y 0 = z := by simp [kid,hz]
    rw [hk0]
    by_cases hc : cmpT z key = 0
    ·simp only [ADEC]
     simp [F.f176B,F.f176C,F.f176R,F.f176K,h2,h3,h4,hc,hk,hz]
    ·simp only [ADEC]
     simp [F.f176B,F.f176C,F.f176R,F.f176K,h2,h3,h4,hc,hk,hz]
 ·cases hb : isB a SIGN
  ·have h2 := h1 a SIGN; rw [hb] at h2; simp only [SIGN] at h2
   have e : destT OPEN [a,key] = .mk 3 OPEN 0 [a,key] := by simp [destT,hb,SND,FST,DEC,ADEC,OPEN]
   rw [e]
   simp only [OPEN]
   simp [F.f176B,F.f176C,F.f176R,F.f176K,h2]
  ·have h2 := h1 a SIGN; rw [hb] at h2; simp only [SIGN] at h2
   obtain ⟨x,y,hk⟩ := good_two hg hb (by simp [arOk])
   have hma := mass_eq a
   rw [hk] at hma
   simp only [massL] at hma
   have hpk := good_pk hgk y
   have h4 := h1 key PK
   have e0 : destT OPEN [a,key] = if isB key PK && decide (cmpT (kid key 0) y = 0) then x else .mk 3 OPEN 0 [a,key] := by
    rw [← hpk]; simp [destT,hb,kid,hk,SND,FST,DEC,ADEC,OPEN]
   rw [e0]
   cases hbp : isB key PK
   ·rw [hbp] at h4; simp only [PK] at h4
    simp only [OPEN]
    simp [F.f176B,F.f176C,F.f176R,F.f176K,h2,h4,hk]
   ·rw [hbp] at h4; simp only [PK] at h4
    obtain ⟨hyk,hyn⟩ := isB_iff.1 hbp
    have har := (good_node hgk hyk).2
    rw [hyn] at har
    have hl1 : key.kids.length = 1 := by simpa [arOk,PK,PAIR,ENC,AENC,SIGN,EXP,DEC,ADEC,OPEN] using har
    obtain ⟨z,hz⟩ := List.length_eq_one_iff.1 hl1
    have hmy := mass_eq key
    rw [hz] at hmy
    simp only [massL] at hmy
    have h3 := call177 y z bs (by omega) (by omega)
    have hk0 : kid key 0 = z := by simp [kid,hz]
    have hsym : (cmpT z y = 0) = (cmpT y z = 0) := by
     have := cmpT_anti y z
     rw [eq_iff_iff]; omega
    rw [hk0]
    by_cases hc : cmpT y z = 0
    ·simp only [OPEN]
     simp [F.f176B,F.f176C,F.f176R,F.f176K,h2,h3,h4,hc,hk,hz,hsym]
    ·simp only [OPEN]
     simp [F.f176B,F.f176C,F.f176R,F.f176K,h2,h3,h4,hc,hk,hz,hsym]
end Go.Am
namespace Go.Am
set_option maxRecDepth 8000
theorem pkT_mass (t : Tm) : (pkT t).mass = t.mass + 4 := by simp only [pkT,Tm.mass,massL,PK,List.length_cons,List.length_nil]; omega
def DsOk (t : Tm) (bs : List (List AV)) (r : Out) : Prop := ∃ b,r = some (.tup [.agg (encT t),.bool b],bs)
theorem Rdest_one (n : List UInt8) (a : Tm) (bs : List (List AV)) (hn : n = FST ∨ n = SND ∨ n = READ) (hg : goodT a = true) (hm : a.mass < big) :
  DsOk (destT n [a]) bs (call F.tb 243 [.agg (encT (.mk 3 n 0 [a]))] bs) := by
 have h1 := fun m => call_RIs a m bs
 rw [call_code F.tb_243 _ _ rfl]
 rcases hn with rfl | rfl | rfl
 ·cases hb : isB a PAIR
  ·have h2 := h1 PAIR; rw [hb] at h2; simp only [PAIR] at h2
   have e : destT FST [a] = .mk 3 FST 0 [a] := by simp [destT,hb]
   rw [e]
   refine ⟨false,?_⟩
   simp only [FST]
   simp [F.f243B,F.f243C,F.f243R,F.f243K,h2]
  ·have h2 := h1 PAIR; rw [hb] at h2; simp only [PAIR] at h2
   obtain ⟨x,y,hk⟩ := good_two hg hb (by simp [arOk])
   have e : destT FST [a] = x := by simp [destT,hb,kid,hk]
   rw [e]
   refine ⟨true,?_⟩
   simp only [FST]
   simp [F.f243B,F.f243C,F.f243R,F.f243K,h2,hk]
 ·cases hb : isB a PAIR
  ·have h2 := h1 PAIR; rw [hb] at h2; simp only [PAIR] at h2
   have e : destT SND [a] = .mk 3 SND 0 [a] := by simp [destT,hb,SND,FST]
   rw [e]
   refine ⟨false,?_⟩
   simp only [SND]
   simp [F.f243B,F.f243C,F.f243R,F.f243K,h2]
  ·have h2 := h1 PAIR; rw [hb] at h2; simp only [PAIR] at h2
   obtain ⟨x,y,hk⟩ := good_two hg hb (by simp [arOk])
   have e : destT SND [a] = y := by simp [destT,hb,kid,hk,SND,FST]
   rw [e]
   refine ⟨true,?_⟩
   simp only [SND]
   simp [F.f243B,F.f243C,F.f243R,F.f243K,h2,hk]
 ·cases hb : isB a SIGN
  ·have h2 := h1 SIGN; rw [hb] at h2; simp only [SIGN] at h2
   have e : destT READ [a] = .mk 3 READ 0 [a] := by simp [destT,hb,SND,FST,DEC,ADEC,OPEN,READ]
   rw [e]
   refine ⟨false,?_⟩
   simp only [READ]
   simp [F.f243B,F.f243C,F.f243R,F.f243K,h2]
  ·have h2 := h1 SIGN; rw [hb] at h2; simp only [SIGN] at h2
   obtain ⟨x,y,hk⟩ := good_two hg hb (by simp [arOk])
   have e : destT READ [a] = x := by simp [destT,hb,kid,hk,SND,FST,DEC,ADEC,OPEN,READ]
   rw [e]
   refine ⟨true,?_⟩
   simp only [READ]
   simp [F.f243B,F.f243C,F.f243R,F.f243K,h2,hk]
theorem Rdest_two (n : List UInt8) (a key : Tm) (bs : List (List AV)) (hn : n = DEC ∨ n = ADEC ∨ n = OPEN) (hg : goodT a = true) (hm : a.mass < big - 10) (hmk : key.mass < big - 10) :
  DsOk (destT n [a,key]) bs (call F.tb 243 [.agg (encT (.mk 3 n 0 [a,key]))] bs) := by
 have h1 := fun t m => call_RIs t m bs
 rw [call_code F.tb_243 _ _ rfl]
 rcases hn with rfl | rfl | rfl
 ·cases hb : isB a ENC
  ·have h2 := h1 a ENC; rw [hb] at h2; simp only [ENC] at h2
   have e : destT DEC [a,key] = .mk 3 DEC 0 [a,key] := by simp [destT,hb,SND,FST,DEC]
   rw [e]
   refine ⟨false,?_⟩
   simp only [DEC]
   simp [F.f243B,F.f243C,F.f243R,F.f243K,h2]
  ·have h2 := h1 a ENC; rw [hb] at h2; simp only [ENC] at h2
   obtain ⟨x,y,hk⟩ := good_two hg hb (by simp [arOk])
   have hma := mass_eq a
   rw [hk] at hma
   simp only [massL] at hma
   have h3 := call_RSame y key bs (by omega) (by omega)
   by_cases hc : cmpT y key = 0
   ·have e : destT DEC [a,key] = x := by simp [destT,hb,kid,hk,hc,SND,FST,DEC]
    rw [e]
    refine ⟨true,?_⟩
    simp only [DEC]
    simp [F.f243B,F.f243C,F.f243R,F.f243K,h2,h3,hc,hk]
   ·have e : destT DEC [a,key] = .mk 3 DEC 0 [a,key] := by simp [destT,hb,kid,hk,hc,SND,FST,DEC]
    rw [e]
    refine ⟨false,?_⟩
    simp only [DEC]
    simp [F.f243B,F.f243C,F.f243R,F.f243K,h2,h3,hc,hk]
 ·cases hb : isB a AENC
  ·have h2 := h1 a AENC; rw [hb] at h2; simp only [AENC] at h2
   have e : destT ADEC [a,key] = .mk 3 ADEC 0 [a,key] := by simp [destT,hb,SND,FST,DEC,ADEC]
   rw [e]
   refine ⟨false,?_⟩
   simp only [ADEC]
   simp [F.f243B,F.f243C,F.f243R,F.f243K,h2]
  ·have h2 := h1 a AENC; rw [hb] at h2; simp only [AENC] at h2
   obtain ⟨x,y,hk⟩ := good_two hg hb (by simp [arOk])
   have hma := mass_eq a
   rw [hk] at hma
   simp only [massL] at hma
   have hpm : (pkT key).mass < big := by rw [pkT_mass]; unfold big at *; omega
   have h3 := call_RSame y (pkT key) bs (by omega) hpm
   have h4 := call120 PK [key] false bs (by simp)
   simp only [pkT,PK] at h3 h4
   by_cases hc : cmpT y (pkT key) = 0
   ·have e : destT ADEC [a,key] = x := by simp [destT,hb,kid,hk,hc,SND,FST,DEC,ADEC]
    rw [e]
    refine ⟨true,?_⟩
    simp only [pkT,PK] at hc
    simp only [ADEC]
    simp [F.f243B,F.f243C,F.f243R,F.f243K,h2,h3,h4,hc,hk,encTs_one]
   ·have e : destT ADEC [a,key] = .mk 3 ADEC 0 [a,key] := by simp [destT,hb,kid,hk,hc,SND,FST,DEC,ADEC]
    rw [e]
    refine ⟨false,?_⟩
    simp only [pkT,PK] at hc
    simp only [ADEC]
    simp [F.f243B,F.f243C,F.f243R,F.f243K,h2,h3,h4,hc,hk,encTs_one]
 ·cases hb : isB a SIGN
  ·have h2 := h1 a SIGN; rw [hb] at h2; simp only [SIGN] at h2
   have e : destT OPEN [a,key] = .mk 3 OPEN 0 [a,key] := by simp [destT,hb,SND,FST,DEC,ADEC,OPEN]
   rw [e]
   refine ⟨false,?_⟩
   simp only [OPEN]
   simp [F.f243B,F.f243C,F.f243R,F.f243K,h2]
  ·have h2 := h1 a SIGN; rw [hb] at h2; simp only [SIGN] at h2
   obtain ⟨x,y,hk⟩ := good_two hg hb (by simp [arOk])
   have hma := mass_eq a
   rw [hk] at hma
   simp only [massL] at hma
   have hpm : (pkT y).mass < big := by rw [pkT_mass]; unfold big at *; omega
   have h3 := call_RSame key (pkT y) bs (by omega) hpm
   have h4 := call120 PK [y] false bs (by simp)
   simp only [pkT,PK] at h3 h4
   by_cases hc : cmpT key (pkT y) = 0
   ·have e : destT OPEN [a,key] = x := by simp [destT,hb,kid,hk,hc,SND,FST,DEC,ADEC,OPEN]
    rw [e]
    refine ⟨true,?_⟩
    simp only [pkT,PK] at hc
    simp only [OPEN]
    simp [F.f243B,F.f243C,F.f243R,F.f243K,h2,h3,h4,hc,hk,encTs_one]
   ·have e : destT OPEN [a,key] = .mk 3 OPEN 0 [a,key] := by simp [destT,hb,kid,hk,hc,SND,FST,DEC,ADEC,OPEN]
    rw [e]
    refine ⟨false,?_⟩
    simp only [pkT,PK] at hc
    simp only [OPEN]
    simp [F.f243B,F.f243C,F.f243R,F.f243K,h2,h3,h4,hc,hk,encTs_one]
end Go.Am
namespace Go.Am
set_option maxRecDepth 8000
def KM (l : List Pw) (M : Nat) : Prop := ∀ q ∈ l,q.1.mass ≤ M
theorem km_addP {l : List Pw} {t : Tm} {m : Int} {M : Nat} (h : KM l M) (ht : t.mass ≤ M) : KM (addP l t m) M := by
 intro q hq
 rcases addP_mem hq with hq | rfl | ⟨_,_,rfl,_⟩
 ·exact h q hq
 ·exact ht
 ·exact ht
theorem km_colT : ∀ (t : Tm) (l : List Pw) (m : Int) (M : Nat),KM l M → t.mass ≤ M → KM (colT l t m) M := by
 refine tm_ind ?_
 intro k n s ks ih l m M h hm
 have hme := mass_eq (.mk k n s ks)
 simp only [mk_kids,mk_name] at hme
 have hL : ∀ (xs : List Tm) (l : List Pw) (m : Int),(∀ x ∈ xs,x ∈ ks) → KM l M → KM (colL l xs m) M := by
  intro xs
  induction xs with
  | nil => intro l m _ h; simpa [colL] using h
  | cons x xs IH =>
   intro l m hx h
   simp only [colL]
   exact IH _ m (fun y hy => hx y (by simp [hy])) (ih x (hx x (by simp)) l m M h (by have := massL_mem (hx x (by simp)); omega))
 rw [colT_eq]
 split
 ·exact hL ks l _ (fun x hx => hx) h
 ·exact km_addP h hm
theorem km_addAllP : ∀ (b a : List Pw) (M : Nat),KM a M → KM b M → KM (addAllP a b) M
 | [],a,M,h,_ => h
 | q :: b,a,M,h,hb => km_addAllP b _ M (km_addP h (hb q (by simp))) fun x hx => hb x (by simp [hx])
theorem km_ofP (t : Tm) (M : Nat) (h : t.mass ≤ M) : KM (ofP t) M := by
 unfold ofP
 split
 ·exact km_colT t [] 1 M (fun q hq => by simp at hq) h
 ·intro q hq; simp at hq
theorem ofP_len (t : Tm) : (ofP t).length ≤ 200 := by
 unfold ofP
 split
 ·rename_i h
  unfold ofE at h
  split at h
  ·rename_i h1; exact absurd h h1
  ·split at h
   ·split at h
    ·cases h
    ·omega
   ·cases h
 ·simp
theorem rangeP_len {l : List Pw} (h : rangeP l = 0) : l.length ≤ 200 := by
 unfold rangeP at h
 split at h
 ·cases h
 ·split at h
  ·cases h
  ·omega
theorem mulP_len (a b : List Pw) : (mulP a b).length ≤ 200 := by
 unfold mulP
 split
 ·rename_i h
  unfold mulE at h
  split at h
  ·rename_i h1; exact absurd h h1
  ·split at h
   ·rename_i h1; exact absurd h h1
   ·exact rangeP_len h
 ·simp
theorem km_mulP {a b : List Pw} {M : Nat} (ha : KM a M) (hb : KM b M) : KM (mulP a b) M := by
 unfold mulP
 split
 ·exact km_addAllP b a M ha hb
 ·intro q hq; simp at hq
theorem massL_rep (n : Nat) (t : Tm) : massL (List.replicate n t) = n * t.mass := by
 induction n with
 | zero => simp [massL]
 | succ n ih => rw [List.replicate_succ,massL,ih,Nat.succ_mul]; omega
theorem invT_mass (t : Tm) : (invT t).mass = t.mass + 5 := by simp only [invT,Tm.mass,massL,INV,List.length_cons,List.length_nil]; omega
theorem massL_posL : ∀ {l : List Pw} {M : Nat},KM l M → (∀ q ∈ l,q.2 ≤ 8) → massL (posL l) ≤ l.length * (8 * M)
 | [],M,_,_ => by simp [posL,massL]
 | p :: l,M,h,hb => by
  have h1 := massL_posL (l := l) (M := M) (fun q hq => h q (by simp [hq])) fun q hq => hb q (by simp [hq])
  have h2 := h p (by simp)
  have h3 := hb p (by simp)
  have h4 : p.2.toNat * p.1.mass ≤ 8 * M := Nat.mul_le_mul (by omega) h2
  have e : posL (p :: l) = List.replicate p.2.toNat p.1 ++ posL l := by simp [posL]
  rw [e,massL_append,massL_rep,List.length_cons,Nat.succ_mul]; omega
theorem massL_negL : ∀ {l : List Pw} {M : Nat},KM l M → (∀ q ∈ l,-8 ≤ q.2) → massL (negL l) ≤ l.length * (8 * (M + 5))
 | [],M,_,_ => by simp [negL,massL]
 | p :: l,M,h,hb => by
  have h1 := massL_negL (l := l) (M := M) (fun q hq => h q (by simp [hq])) fun q hq => hb q (by simp [hq])
  have h2 := h p (by simp)
  have h3 := hb p (by simp)
  have h4 : (-p.2).toNat * (invT p.1).mass ≤ 8 * (M + 5) := Nat.mul_le_mul (by omega) (by rw [invT_mass]; omega)
  have e : negL (p :: l) = List.replicate (-p.2).toNat (invT p.1) ++ negL l := by simp [negL]
  rw [e,massL_append,massL_rep,List.length_cons,Nat.succ_mul]; omega
theorem massL_opsP {l : List Pw} (h : KM l 25000000) (hl : l.length ≤ 200) (hb : ∀ q ∈ l,-8 ≤ q.2 ∧ q.2 ≤ 8) : massL (opsP l) < big - 100 := by
 have h1 := massL_posL h fun q hq => (hb q hq).2
 have h2 := massL_negL h fun q hq => (hb q hq).1
 have h3 : l.length * (8 * 25000000) ≤ 200 * (8 * 25000000) := Nat.mul_le_mul_right _ hl
 have h4 : l.length * (8 * (25000000 + 5)) ≤ 200 * (8 * (25000000 + 5)) := Nat.mul_le_mul_right _ hl
 unfold opsP
 rw [massL_append]
 unfold big
 omega
theorem call196' {l : List Pw} (o : Bool) (bs : List (List AV)) (h : KM l 25000000) (hl : l.length ≤ 200) : call F.tb 196 [.sl o 5 (encPs l)] bs = some (encR (termP l),bs) :=
 call196 l o bs (by omega) (fun q hq => by have := h q hq; unfold big; omega) (massL_opsP h hl)
theorem call258' {l : List Pw} (o : Bool) (bs : List (List AV)) (h : KM l 25000000) (hl : l.length ≤ 200) : call F.tb 258 [.sl o 5 (encPs l)] bs = some (encR (termP l),bs) :=
 call258 l o bs (by omega) (fun q hq => by have := h q hq; unfold big; omega) (massL_opsP h hl)
def finP (b : Tm) (p : List Pw) : Tm × Int := if p = [] then (b,0) else if (termP p).2 ≠ 0 then (zeroT,(termP p).2) else (.mk 3 EXP 0 [b,(termP p).1],0)
def powT (b e : Tm) : Tm × Int :=
 if ofE e ≠ 0 then (zeroT,ofE e)
 else if isB b EXP then
  if ofE (kid b 1) ≠ 0 then (zeroT,ofE (kid b 1)) else if mulE (ofP (kid b 1)) (ofP e) ≠ 0 then (zeroT,mulE (ofP (kid b 1)) (ofP e)) else finP (kid b 0) (mulP (ofP (kid b 1)) (ofP e))
 else finP b (ofP e)
def productT (t : Tm) : Tm × Int := if ofE t ≠ 0 then (zeroT,ofE t) else termP (ofP t)
theorem encR_mk (t : Tm) (e : Int) : encR (t,e) = .tup [.agg (encT t),.int .i64 e] := rfl
theorem call252 (t : Tm) (bs : List (List AV)) (hm : t.mass < 20000000) : call F.tb 252 [.agg (encT t)] bs = some (encR (productT t),bs) := by
 have h1 := call253 t bs (by omega)
 have h2 := call258' false bs (km_ofP t 25000000 (by omega)) (ofP_len t)
 rw [call_code F.tb_252 _ _ rfl]
 by_cases c : ofE t = 0
 ·have e : productT t = termP (ofP t) := by simp [productT,c]
  rw [e]
  simp only [encR] at h2 ⊢
  simp [F.f252B,F.f252C,F.f252R,F.f252K,h1,h2,c]
 ·have e : productT t = (zeroT,ofE t) := by simp [productT,c]
  rw [e]
  simp [F.f252B,F.f252C,F.f252R,F.f252K,h1,c,encR_mk,encT_zero]
end Go.Am
namespace Go.Am
set_option maxRecDepth 8000
theorem call199 (b e : Tm) (bs : List (List AV)) (hg : goodT b = true) (hb : b.mass < 20000000) (he : e.mass < 20000000) : call F.tb 199 [.agg (encT b),.agg (encT e)] bs = some (encR (powT b e),bs) := by
 have h1 := call186 e bs (by omega)
 have h2 := call_this b EXP bs
 have ke := km_ofP e 25000000 (by omega)
 have le := ofP_len e
 rw [call_code F.tb_199 _ _ rfl]
 by_cases c1 : ofE e = 0
 ·cases hx : isB b EXP
  ·rw [hx] at h2; simp only [EXP] at h2
   have h4 := call196' false bs ke le
   have e0 : powT b e = finP b (ofP e) := by simp [powT,c1,hx]
   rw [e0]
   generalize ofP e = p at *
   match p with
   | [] =>
    simp only [encPs_nil] at h1
    simp [F.f199B,F.f199C,F.f199R,F.f199K,h1,h2,c1,finP,encR_mk]
   | q :: r =>
    have n0 : ¬ (r.length : Int) + 1 = 0 := by omega
    by_cases c2 : (termP (q :: r)).2 = 0
    ·have h5 := call_app EXP [b,(termP (q :: r)).1] false bs
     simp only [encR,encTs] at h4 h5
     simp only [EXP] at h5
     simp [F.f199B,F.f199C,F.f199R,F.f199K,h1,h2,h4,h5,c1,c2,n0,finP,encR_mk,EXP]
    ·simp only [encR] at h4
     simp [F.f199B,F.f199C,F.f199R,F.f199K,h1,h2,h4,c1,c2,n0,finP,encR_mk,encT_zero]
  ·obtain ⟨x,y,hk⟩ := good_two hg hx (by simp [arOk])
   rw [hx] at h2; simp only [EXP] at h2
   have hmb := mass_eq b
   rw [hk] at hmb
   simp only [massL] at hmb
   have k0 : kid b 0 = x := by simp [kid,hk]
   have k1 : kid b 1 = y := by simp [kid,hk]
   have h3 := call186 y bs (by omega)
   have ky := km_ofP y 25000000 (by omega)
   have ly := ofP_len y
   by_cases c2 : ofE y = 0
   ·have h4 := call200 (ofP y) (ofP e) false false bs (by omega) (by omega) (fun q hq => by have := ky q hq; unfold big; omega) (fun q hq => by have := ke q hq; unfold big; omega)
    by_cases c3 : mulE (ofP y) (ofP e) = 0
    ·have h6 := call196' false bs (km_mulP ky ke) (mulP_len (ofP y) (ofP e))
     have e0 : powT b e = finP x (mulP (ofP y) (ofP e)) := by simp [powT,c1,hx,k0,k1,c2,c3]
     rw [e0]
     generalize mulP (ofP y) (ofP e) = p at *
     match p with
     | [] =>
      simp only [encPs_nil] at h4
      simp [F.f199B,F.f199C,F.f199R,F.f199K,h1,h2,h3,h4,hk,c1,c2,c3,finP,encR_mk]
     | q :: r =>
      have n0 : ¬ (r.length : Int) + 1 = 0 := by omega
      by_cases c4 : (termP (q :: r)).2 = 0
      ·have h5 := call_app EXP [x,(termP (q :: r)).1] false bs
       simp only [encR,encTs] at h6 h5
       simp only [EXP] at h5
       simp [F.f199B,F.f199C,F.f199R,F.f199K,h1,h2,h3,h4,h5,h6,hk,c1,c2,c3,c4,n0,finP,encR_mk,EXP]
      ·simp only [encR] at h6
       simp [F.f199B,F.f199C,F.f199R,F.f199K,h1,h2,h3,h4,h6,hk,c1,c2,c3,c4,n0,finP,encR_mk,encT_zero]
    ·have e0 : powT b e = (zeroT,mulE (ofP y) (ofP e)) := by simp [powT,c1,hx,k1,c2,c3]
     rw [e0]
     simp [F.f199B,F.f199C,F.f199R,F.f199K,h1,h2,h3,h4,hk,c1,c2,c3,encR_mk,encT_zero]
   ·have e0 : powT b e = (zeroT,ofE y) := by simp [powT,c1,hx,k1,c2]
    rw [e0]
    simp [F.f199B,F.f199C,F.f199R,F.f199K,h1,h2,h3,hk,c1,c2,encR_mk,encT_zero]
 ·have e0 : powT b e = (zeroT,ofE e) := by simp [powT,c1]
  rw [e0]
  simp [F.f199B,F.f199C,F.f199R,F.f199K,h1,c1,encR_mk,encT_zero]
theorem call261 (b e : Tm) (bs : List (List AV)) (hg : goodT b = true) (hb : b.mass < 20000000) (he : e.mass < 20000000) : call F.tb 261 [.agg (encT b),.agg (encT e)] bs = some (encR (powT b e),bs) := by
 have h1 := call253 e bs (by omega)
 have h2 := call_RIs b EXP bs
 have ke := km_ofP e 25000000 (by omega)
 have le := ofP_len e
 rw [call_code F.tb_261 _ _ rfl]
 by_cases c1 : ofE e = 0
 ·cases hx : isB b EXP
  ·rw [hx] at h2; simp only [EXP] at h2
   have h4 := call258' false bs ke le
   have e0 : powT b e = finP b (ofP e) := by simp [powT,c1,hx]
   rw [e0]
   generalize ofP e = p at *
   match p with
   | [] =>
    simp only [encPs_nil] at h1
    simp [F.f261B,F.f261C,F.f261R,F.f261K,h1,h2,c1,finP,encR_mk]
   | q :: r =>
    have n0 : ¬ (r.length : Int) + 1 = 0 := by omega
    by_cases c2 : (termP (q :: r)).2 = 0
    ·have h5 := call120 EXP [b,(termP (q :: r)).1] false bs (by simp)
     simp only [encR,encTs] at h4 h5
     simp only [EXP] at h5
     simp [F.f261B,F.f261C,F.f261R,F.f261K,h1,h2,h4,h5,c1,c2,n0,finP,encR_mk,EXP]
    ·simp only [encR] at h4
     simp [F.f261B,F.f261C,F.f261R,F.f261K,h1,h2,h4,c1,c2,n0,finP,encR_mk,encT_zero]
  ·obtain ⟨x,y,hk⟩ := good_two hg hx (by simp [arOk])
   rw [hx] at h2; simp only [EXP] at h2
   have hmb := mass_eq b
   rw [hk] at hmb
   simp only [massL] at hmb
   have k0 : kid b 0 = x := by simp [kid,hk]
   have k1 : kid b 1 = y := by simp [kid,hk]
   have h3 := call253 y bs (by omega)
   have ky := km_ofP y 25000000 (by omega)
   have ly := ofP_len y
   by_cases c2 : ofE y = 0
   ·have h4 := call262 (ofP y) (ofP e) false false bs (by omega) (by omega) (fun q hq => by have := ky q hq; unfold big; omega) (fun q hq => by have := ke q hq; unfold big; omega)
    by_cases c3 : mulE (ofP y) (ofP e) = 0
    ·have h6 := call258' false bs (km_mulP ky ke) (mulP_len (ofP y) (ofP e))
     have e0 : powT b e = finP x (mulP (ofP y) (ofP e)) := by simp [powT,c1,hx,k0,k1,c2,c3]
     rw [e0]
     generalize mulP (ofP y) (ofP e) = p at *
     match p with
     | [] =>
      simp only [encPs_nil] at h4
      simp [F.f261B,F.f261C,F.f261R,F.f261K,h1,h2,h3,h4,hk,c1,c2,c3,finP,encR_mk]
     | q :: r =>
      have n0 : ¬ (r.length : Int) + 1 = 0 := by omega
      by_cases c4 : (termP (q :: r)).2 = 0
      ·have h5 := call120 EXP [x,(termP (q :: r)).1] false bs (by simp)
       simp only [encR,encTs] at h6 h5
       simp only [EXP] at h5
       simp [F.f261B,F.f261C,F.f261R,F.f261K,h1,h2,h3,h4,h5,h6,hk,c1,c2,c3,c4,n0,finP,encR_mk,EXP]
      ·simp only [encR] at h6
       simp [F.f261B,F.f261C,F.f261R,F.f261K,h1,h2,h3,h4,h6,hk,c1,c2,c3,c4,n0,finP,encR_mk,encT_zero]
    ·have e0 : powT b e = (zeroT,mulE (ofP y) (ofP e)) := by simp [powT,c1,hx,k1,c2,c3]
     rw [e0]
     simp [F.f261B,F.f261C,F.f261R,F.f261K,h1,h2,h3,h4,hk,c1,c2,c3,encR_mk,encT_zero]
   ·have e0 : powT b e = (zeroT,ofE y) := by simp [powT,c1,hx,k1,c2]
    rw [e0]
    simp [F.f261B,F.f261C,F.f261R,F.f261K,h1,h2,h3,hk,c1,c2,encR_mk,encT_zero]
 ·have e0 : powT b e = (zeroT,ofE e) := by simp [powT,c1]
  rw [e0]
  simp [F.f261B,F.f261C,F.f261R,F.f261K,h1,c1,encR_mk,encT_zero]
end Go.Am
namespace Go.Am
set_option maxRecDepth 8000
theorem isNameB_len {n : List UInt8} (h : isNameB n = true) : n.length ≤ 24 := by
 cases n with
 | nil => simp
 | cons c r =>
  simp only [isNameB,Bool.and_eq_true,decide_eq_true_eq] at h
  simp only [List.length_cons]
  omega
theorem nodeE_ok {t : Tm} (h : nodeE t = 0) : t.name.length ≤ 24 ∧ t.kids.length ≤ 8 ∧ (t.kind = 3 → t.sort = 0) ∧ (t.kind ≠ 3 → t.kids = []) := by
 unfold nodeE at h
 split at h
 ·rename_i hk
  split at h
  ·cases h
  ·rename_i h1
   split at h
   ·cases h
   ·rename_i h2
    have h3 : t.kids.length = 0 := by omega
    exact ⟨isNameB_len (by simpa using h2),by omega,fun e => by omega,fun _ => List.eq_nil_of_length_eq_zero h3⟩
 ·split at h
  ·rename_i hk
   split at h
   ·cases h
   ·rename_i h1
    split at h
    ·cases h
    ·rename_i h2
     split at h
     ·cases h
     ·exact ⟨isNameB_len (by simpa using h2),by omega,fun _ => by simpa using h1,fun e => absurd hk e⟩
  ·cases h
mutual
theorem errT_mass : ∀ t : Tm,errT t = 0 → t.mass ≤ 33 * t.nodes
 | .mk k n s ks,h => by
  simp only [errT] at h
  split at h
  ·rename_i h1; exact absurd h h1
  ·rename_i h1
   obtain ⟨a,b,_⟩ := nodeE_ok (t := .mk k n s ks) (by simpa using h1)
   have := errL_mass ks h
   simp only [mk_name,mk_kids] at a b
   simp only [Tm.mass,Tm.nodes]; omega
theorem errL_mass : ∀ ts : List Tm,errL ts = 0 → massL ts ≤ 33 * nodesL ts
 | [],_ => by simp [massL,nodesL]
 | t :: ts,h => by
  simp only [errL] at h
  split at h
  ·rename_i h1; exact absurd h h1
  ·rename_i h1
   have a := errT_mass t (by simpa using h1)
   have b := errL_mass ts h
   simp only [massL,nodesL]; omega
end
theorem validT_inv {t : Tm} (h : validT t = 0) : errT t = 0 ∧ t.nodes ≤ 400 ∧ t.mass ≤ 13200 := by
 unfold validT at h
 split at h
 ·rename_i h1; exact absurd h h1
 ·rename_i h1
  split at h
  ·cases h
  ·have := errT_mass t (by simpa using h1)
   exact ⟨by simpa using h1,by omega,by omega⟩
theorem findSy_ar {n : List UInt8} {y : Sy} (h : findSy n symL = some y) (m : Nat) (h1 : ¬ ((m : Int) < y.l ∨ y.m < m)) : arOk n m = true := by
 unfold arOk
 split
 ·rename_i hn
  have : y.l = 2 ∧ y.m = 2 := by rcases hn with rfl | rfl | rfl | rfl | rfl | rfl | rfl | rfl <;> simp [PAIR,ENC,AENC,SIGN,EXP,DEC,ADEC,OPEN,findSy,symL] at h <;> subst h <;> simp
  simp; omega
 ·split
  ·rename_i hn
   have : y.l = 1 ∧ y.m = 1 := by rcases hn with rfl | rfl | rfl | rfl <;> simp [PK,FST,SND,READ,findSy,symL] at h <;> subst h <;> simp
   simp; omega
  ·rfl
mutual
theorem good_valid : ∀ t : Tm,errT t = 0 → chkT t = 0 → goodT t = true
 | .mk k n s ks,h,hc => by
  simp only [errT] at h
  split at h
  ·rename_i h1; exact absurd h h1
  ·rename_i h1
   obtain ⟨_,_,a,b⟩ := nodeE_ok (t := .mk k n s ks) (by simpa using h1)
   simp only [mk_kind,mk_sort,mk_kids] at a b
   simp only [chkT] at hc
   by_cases hk : k = 3
   ·subst hk
    rw [if_neg (by simp)] at hc
    cases hy : findSy n symL with
    | none => rw [hy] at hc; simp at hc
    | some y =>
     rw [hy] at hc
     simp only at hc
     split at hc
     ·cases hc
     ·rename_i h2
      have har := findSy_ar hy ks.length h2
      split at hc
      ·cases hc
      ·split at hc
       ·cases hc
       ·have := goodL_valid ks h hc
        simp [goodT,a rfl,har,this]
   ·have := b hk
    subst this
    simp [goodT,hk,goodL]
theorem goodL_valid : ∀ ts : List Tm,errL ts = 0 → chkL ts = 0 → goodL ts = true
 | [],_,_ => rfl
 | t :: ts,h,hc => by
  simp only [errL] at h
  simp only [chkL] at hc
  split at h
  ·rename_i h1; exact absurd h h1
  ·rename_i h1
   split at hc
   ·rename_i h2; exact absurd hc h2
   ·rename_i h2
    simp [goodL,good_valid t (by simpa using h1) (by simpa using h2),goodL_valid ts h hc]
end
mutual
theorem good_allT : ∀ (t y : Tm),goodT t = true → y ∈ allT t → goodT y = true
 | .mk k n s ks,y,h,hy => by
  simp only [allT,List.mem_cons] at hy
  rcases hy with rfl | hy
  ·exact h
  ·exact good_allL ks y (good_kids h) hy
theorem good_allL : ∀ (ts : List Tm) (y : Tm),goodL ts = true → y ∈ allL ts → goodT y = true
 | [],y,_,hy => by simp [allL] at hy
 | t :: ts,y,h,hy => by
  simp only [goodL,Bool.and_eq_true] at h
  simp only [allL,List.mem_append] at hy
  rcases hy with hy | hy
  ·exact good_allT t y h.1 hy
  ·exact good_allL ts y h.2 hy
end
theorem good_zero : goodT zeroT = true := by simp [zeroT,goodT,goodL]
theorem good_app {n : List UInt8} {us : List Tm} (ha : arOk n us.length = true) (h : goodL us = true) : goodT (.mk 3 n 0 us) = true := by simp [goodT,ha,h]
theorem good_kid {t : Tm} (h : goodT t = true) (i : Nat) : goodT (kid t i) = true := by
 unfold kid
 rw [List.getD_eq_getElem?_getD]
 cases hg : t.kids[i]? with
 | none => simpa using good_zero
 | some x => exact goodL_mem.1 (good_kids h) x (List.mem_of_getElem? hg)
theorem kid_mass (t : Tm) (i : Nat) : (kid t i).mass ≤ t.mass := by
 unfold kid
 rw [List.getD_eq_getElem?_getD]
 have := mass_eq t
 cases hg : t.kids[i]? with
 | none => simp [zeroT,Tm.mass,massL]; omega
 | some x => have := massL_mem (List.mem_of_getElem? hg); simp; omega
theorem good_sumX {us : List Tm} (h : goodL us = true) : goodT (sumX us).1 = true := by
 unfold sumX
 split
 ·exact good_zero
 ·split
  ·exact good_zero
  ·have hL : ∀ y ∈ sumL [] us,goodT y = true := fun y hy => by
    rcases sumL_mem us [] y hy with h1 | h1
    ·simp at h1
    ·exact good_allL us y h h1
   show goodT (tmX (sumL [] us)) = true
   match hh : sumL [] us with
   | [] => simp [tmX,goodT,goodL,arOk,ZERO,PAIR,ENC,AENC,SIGN,EXP,DEC,ADEC,OPEN,PK,FST,SND,READ]
   | [p] => simp only [tmX]; exact hL p (by rw [hh]; simp)
   | p :: q :: r =>
    simp only [tmX]
    refine good_app (by simp [arOk,XOR,PAIR,ENC,AENC,SIGN,EXP,DEC,ADEC,OPEN,PK,FST,SND,READ]) (goodL_mem.2 fun x hx => hL x (by rw [hh]; exact hx))
theorem mass_sumX (us : List Tm) : (sumX us).1.mass ≤ 13200 := by
 unfold sumX
 split
 ·simp [zeroT,Tm.mass,massL]
 ·split
  ·simp [zeroT,Tm.mass,massL]
  ·rename_i h; exact (validT_inv (by simpa using h)).2.2
theorem zero_mass : zeroT.mass = 1 := by simp [zeroT,Tm.mass,massL]
def KG (l : List Pw) : Prop := ∀ q ∈ l,goodT q.1 = true
theorem kg_addP {l : List Pw} {t : Tm} {m : Int} (h : KG l) (ht : goodT t = true) : KG (addP l t m) := by
 intro q hq
 rcases addP_mem hq with hq | rfl | ⟨_,_,rfl,_⟩
 ·exact h q hq
 ·exact ht
 ·exact ht
theorem kg_colT : ∀ (t : Tm) (l : List Pw) (m : Int),KG l → goodT t = true → KG (colT l t m) := by
 refine tm_ind ?_
 intro k n s ks ih l m h hm
 have hk := goodL_mem.1 (good_kids hm)
 have hL : ∀ (xs : List Tm) (l : List Pw) (m : Int),(∀ x ∈ xs,x ∈ ks) → KG l → KG (colL l xs m) := by
  intro xs
  induction xs with
  | nil => intro l m _ h; simpa [colL] using h
  | cons x xs IH =>
   intro l m hx h
   simp only [colL]
   exact IH _ m (fun y hy => hx y (by simp [hy])) (ih x (hx x (by simp)) l m h (hk x (hx x (by simp))))
 rw [colT_eq]
 split
 ·exact hL ks l _ (fun x hx => hx) h
 ·exact kg_addP h hm
theorem kg_addAllP : ∀ (b a : List Pw),KG a → KG b → KG (addAllP a b)
 | [],a,h,_ => h
 | q :: b,a,h,hb => kg_addAllP b _ (kg_addP h (hb q (by simp))) fun x hx => hb x (by simp [hx])
theorem kg_ofP {t : Tm} (h : goodT t = true) : KG (ofP t) := by
 unfold ofP
 split
 ·exact kg_colT t [] 1 (fun q hq => by simp at hq) h
 ·intro q hq; simp at hq
theorem kg_mulP {a b : List Pw} (ha : KG a) (hb : KG b) : KG (mulP a b) := by
 unfold mulP
 split
 ·exact kg_addAllP b a ha hb
 ·intro q hq; simp at hq
theorem good_opsP {l : List Pw} (h : KG l) : goodL (opsP l) = true := by
 refine goodL_mem.2 fun x hx => ?_
 simp only [opsP,posL,negL,List.mem_append,List.mem_flatten,List.mem_map] at hx
 rcases hx with ⟨_,⟨q,hq,rfl⟩,hx⟩ | ⟨_,⟨q,hq,rfl⟩,hx⟩
 ·rw [List.eq_of_mem_replicate hx]; exact h q hq
 ·rw [List.eq_of_mem_replicate hx]
  exact good_app (by simp [arOk,INV,PAIR,ENC,AENC,SIGN,EXP,DEC,ADEC,OPEN,PK,FST,SND,READ]) (by simp [goodL,h q hq])
theorem good_termP {l : List Pw} (h : KG l) : goodT (termP l).1 = true := by
 unfold termP
 split
 ·exact good_zero
 ·split
  ·exact good_zero
  ·split
   ·exact good_zero
   ·have hL := good_opsP h
    show goodT (prodT (opsP l)) = true
    match hh : opsP l with
    | [] => simp [prodT,goodT,goodL,arOk,ONE,PAIR,ENC,AENC,SIGN,EXP,DEC,ADEC,OPEN,PK,FST,SND,READ]
    | [p] => simp only [prodT]; rw [hh] at hL; simpa [goodL] using hL
    | p :: q :: r =>
     simp only [prodT]
     rw [hh] at hL
     exact good_app (by simp [arOk,MUL,PAIR,ENC,AENC,SIGN,EXP,DEC,ADEC,OPEN,PK,FST,SND,READ]) hL
theorem mass_termP (l : List Pw) : (termP l).1.mass ≤ 13200 := by
 unfold termP
 split
 ·simp [zeroT,Tm.mass,massL]
 ·split
  ·simp [zeroT,Tm.mass,massL]
  ·split
   ·simp [zeroT,Tm.mass,massL]
   ·rename_i h; exact (validT_inv (by simpa using h)).2.2
theorem good_productT {t : Tm} (h : goodT t = true) : goodT (productT t).1 = true := by
 unfold productT
 split
 ·exact good_zero
 ·exact good_termP (kg_ofP h)
theorem mass_productT (t : Tm) : (productT t).1.mass ≤ 13200 := by
 unfold productT
 split
 ·simp [zeroT,Tm.mass,massL]
 ·exact mass_termP _
theorem finP_ok {b : Tm} {p : List Pw} (hb : goodT b = true) (hp : KG p) : goodT (finP b p).1 = true ∧ (finP b p).1.mass ≤ 6 + b.mass + 13200 := by
 have h0 := mass_termP p
 unfold finP
 split
 ·exact ⟨hb,by simp; omega⟩
 ·split
  ·exact ⟨good_zero,by show zeroT.mass ≤ _; rw [zero_mass]; omega⟩
  ·exact ⟨good_app (by simp [arOk]) (by simp [goodL,hb,good_termP hp]),by simp only [Tm.mass,massL,EXP,List.length_cons,List.length_nil]; omega⟩
theorem powT_ok {b e : Tm} (hb : goodT b = true) (he : goodT e = true) : goodT (powT b e).1 = true ∧ (powT b e).1.mass ≤ 6 + b.mass + 13200 := by
 have hz : goodT zeroT = true ∧ zeroT.mass ≤ 6 + b.mass + 13200 := ⟨good_zero,by show zeroT.mass ≤ _; rw [zero_mass]; omega⟩
 have hk := kid_mass b 0
 unfold powT
 split
 ·exact hz
 ·split
  ·split
   ·exact hz
   ·split
    ·exact hz
    ·obtain ⟨h1,h2⟩ := finP_ok (good_kid hb 0) (kg_mulP (kg_ofP (good_kid hb 1)) (kg_ofP he))
     exact ⟨h1,by omega⟩
  ·exact finP_ok hb (kg_ofP he)
theorem destT_ok {n : List UInt8} {us : List Tm} (ha : arOk n us.length = true) (h : goodL us = true) : goodT (destT n us) = true ∧ (destT n us).mass ≤ 1 + n.length + us.length + massL us := by
 have hout : goodT (.mk 3 n 0 us) = true ∧ (Tm.mk 3 n 0 us).mass ≤ 1 + n.length + us.length + massL us := ⟨good_app ha h,by simp [Tm.mass]⟩
 have ha0 : goodT (us.getD 0 zeroT) = true ∧ (us.getD 0 zeroT).mass ≤ 1 + massL us := by
  cases us with
  | nil => exact ⟨good_zero,by simp [zeroT,Tm.mass,massL]⟩
  | cons x r => simp only [goodL,Bool.and_eq_true] at h; exact ⟨h.1,by simp [massL]; omega⟩
 have hkid : ∀ i,goodT (kid (us.getD 0 zeroT) i) = true ∧ (kid (us.getD 0 zeroT) i).mass ≤ 1 + n.length + us.length + massL us := fun i => ⟨good_kid ha0.1 i,by have := kid_mass (us.getD 0 zeroT) i; omega⟩
 simp only [destT]
 repeat' split
 all_goals first | exact hout | exact hkid _
def headN (n : List UInt8) (us : List Tm) : Tm × Int :=
 if destN n then (destT n us,0) else if n = XOR then sumX us else if n = MUL ∨ n = INV ∨ n = ONE then productT (.mk 3 n 0 us)
 else if n = EXP then powT (us.getD 0 zeroT) (us.getD 1 zeroT) else (.mk 3 n 0 us,0)
mutual
def normT : Tm → Tm × Int
 | .mk k n s ks => if k = 3 then (if (normL ks).2 = 0 then headN n (normL ks).1 else (zeroT,(normL ks).2)) else (.mk k n s ks,0)
def normL : List Tm → List Tm × Int
 | [] => ([],0)
 | t :: ts => if (normT t).2 = 0 then (if (normL ts).2 = 0 then ((normT t).1 :: (normL ts).1,0) else ([],(normL ts).2)) else ([],(normT t).2)
end
theorem headN_ok {n : List UInt8} {us : List Tm} (ha : arOk n us.length = true) (h : goodL us = true) : goodT (headN n us).1 = true ∧ (headN n us).1.mass ≤ 1 + n.length + us.length + massL us + 13200 := by
 unfold headN
 split
 ·obtain ⟨h1,h2⟩ := destT_ok ha h; exact ⟨h1,by simp; omega⟩
 ·split
  ·exact ⟨good_sumX h,by have := mass_sumX us; omega⟩
  ·split
   ·exact ⟨good_productT (good_app ha h),by have := mass_productT (.mk 3 n 0 us); omega⟩
   ·split
    ·rename_i hn
     subst hn
     have h2 : us.length = 2 := by simpa [arOk] using ha
     match us,h2,h with
     | [x,y],_,h =>
      simp only [goodL,Bool.and_eq_true] at h
      obtain ⟨h3,h4⟩ := powT_ok h.1 h.2.1
      exact ⟨h3,by simp only [massL,EXP,List.length_cons,List.length_nil] at *; simp at h4 ⊢; omega⟩
    ·exact ⟨good_app ha h,by simp [Tm.mass]⟩
mutual
theorem normT_ok : ∀ t : Tm,goodT t = true → goodT (normT t).1 = true ∧ (normT t).1.mass ≤ t.mass + 13200 * t.nodes
 | .mk k n s ks,h => by
  have hk := normL_ok ks (good_kids h)
  simp only [normT]
  split
  ·rename_i hk3
   subst hk3
   split
   ·rename_i h2
    obtain ⟨h3,h4,h5⟩ := hk
    have h5 := h5 h2
    have har := (good_node h rfl).2
    simp only [mk_name,mk_kids] at har
    obtain ⟨h6,h7⟩ := headN_ok (by rw [h5]; exact har) h3
    exact ⟨h6,by simp only [Tm.mass,Tm.nodes]; rw [h5] at h7; omega⟩
   ·exact ⟨good_zero,by show zeroT.mass ≤ _; rw [zero_mass]; simp only [Tm.mass]; omega⟩
  ·exact ⟨h,Nat.le_add_right _ _⟩
theorem normL_ok : ∀ ts : List Tm,goodL ts = true → goodL (normL ts).1 = true ∧ massL (normL ts).1 ≤ massL ts + 13200 * nodesL ts ∧ ((normL ts).2 = 0 → (normL ts).1.length = ts.length)
 | [],_ => by simp [normL,goodL,massL]
 | t :: ts,h => by
  simp only [goodL,Bool.and_eq_true] at h
  obtain ⟨a1,a2⟩ := normT_ok t h.1
  obtain ⟨b1,b2,b3⟩ := normL_ok ts h.2
  simp only [normL]
  split
  ·split
   ·rename_i h2
    refine ⟨by simp [goodL,a1,b1],by simp only [massL,nodesL]; omega,fun _ => by simp [b3 h2]⟩
   ·rename_i h2
    exact ⟨rfl,by simp [massL],fun e => absurd e h2⟩
  ·rename_i h2
   exact ⟨rfl,by simp [massL],fun e => absurd e h2⟩
end
end Go.Am
namespace Go.Am
set_option maxRecDepth 8000
theorem nodesL_mem {x : Tm} : ∀ {ks : List Tm},x ∈ ks → x.nodes ≤ nodesL ks
 | [],h => by cases h
 | t :: ts,h => by
  simp only [nodesL]
  rcases List.mem_cons.1 h with rfl | h
  ·omega
  ·have := nodesL_mem h; omega
theorem destN_inv {n : List UInt8} (h : destN n = true) : (n = FST ∨ n = SND ∨ n = READ) ∨ (n = DEC ∨ n = ADEC ∨ n = OPEN) := by
 simp only [destN,Bool.or_eq_true,beq_iff_eq] at h
 rcases h with ((((h | h) | h) | h) | h) | h <;> simp [h]
theorem call176 {n : List UInt8} {us : List Tm} (bs : List (List AV)) (hn : destN n = true) (ha : arOk n us.length = true) (hg : goodL us = true) (hm : massL us < 20000000) : call F.tb 176 [.agg (encT (.mk 3 n 0 us))] bs = some (.agg (encT (destT n us)),bs) := by
 rcases destN_inv hn with h | h
 ·have h1 : us.length = 1 := by rcases h with rfl | rfl | rfl <;> simpa [arOk,PK,PAIR,ENC,AENC,SIGN,EXP,DEC,ADEC,OPEN,FST,SND,READ] using ha
  obtain ⟨a,rfl⟩ := List.length_eq_one_iff.1 h1
  simp only [goodL,Bool.and_eq_true] at hg
  simp only [massL] at hm
  exact dest_one n a bs h hg.1 (by unfold big; omega)
 ·have h1 : us.length = 2 := by rcases h with rfl | rfl | rfl <;> simpa [arOk] using ha
  match us,h1,hg,hm with
  | [a,b],_,hg,hm =>
   simp only [goodL,Bool.and_eq_true] at hg
   simp only [massL] at hm
   exact dest_two n a b bs h hg.1 hg.2.1 (by unfold big; omega) (by unfold big; omega)
theorem call243 {n : List UInt8} {us : List Tm} (bs : List (List AV)) (hn : destN n = true) (ha : arOk n us.length = true) (hg : goodL us = true) (hm : massL us < 20000000) : DsOk (destT n us) bs (call F.tb 243 [.agg (encT (.mk 3 n 0 us))] bs) := by
 rcases destN_inv hn with h | h
 ·have h1 : us.length = 1 := by rcases h with rfl | rfl | rfl <;> simpa [arOk,PK,PAIR,ENC,AENC,SIGN,EXP,DEC,ADEC,OPEN,FST,SND,READ] using ha
  obtain ⟨a,rfl⟩ := List.length_eq_one_iff.1 h1
  simp only [goodL,Bool.and_eq_true] at hg
  simp only [massL] at hm
  exact Rdest_one n a bs h hg.1 (by unfold big; omega)
 ·have h1 : us.length = 2 := by rcases h with rfl | rfl | rfl <;> simpa [arOk] using ha
  match us,h1,hg,hm with
  | [a,b],_,hg,hm =>
   simp only [goodL,Bool.and_eq_true] at hg
   simp only [massL] at hm
   exact Rdest_two n a b bs h hg.1 (by unfold big; omega) (by unfold big; omega)
def MX (us : List Tm) (n : List UInt8) : Prop := massL us + n.length + us.length < 15000000
set_option maxHeartbeats 2000000 in
theorem norm_r0 (t : Tm) (us : List Tm) (bs : List (List AV)) (ha : arOk t.name us.length = true) (hg : goodL us = true) (hm : MX us t.name) (ρ : Nat → AV) (h1 : ρ 1 = .bx (encT t)) (h2 : ρ 2 = .bx [.int .i64 0,.str [],.int .i64 0,.sl true 4 []])
  (h4 : ρ 4 = .bx [.int .i64 3,.str t.name,.int .i64 0,.sl true 4 (encTs us)]) : R F.tb F.f175r0 ρ bs (finK F.f175 bs) = some (encR (headN t.name us),bs) := by
 unfold MX at hm
 have hf := encT_fold 3 t.name 0 us
 have hgp : gpfreeE (encTs us) = true := encTs_gp us
 obtain ⟨n,hn⟩ : ∃ n,t.name = n := ⟨_,rfl⟩
 rw [hn] at ha hm h4 hf ⊢
 cases hd : destN n
 ·have hd' := hd
  simp only [destN,Bool.or_eq_false_iff] at hd'
  obtain ⟨⟨⟨⟨⟨d1,d2⟩,d3⟩,d4⟩,d5⟩,d6⟩ := hd'
  simp only [FST,SND,DEC,ADEC,OPEN,READ] at d1 d2 d3 d4 d5 d6
  by_cases hx : n = XOR
  ·subst hx
   have e : headN XOR us = sumX us := by simp [headN,hd]
   have hc := call_Sum us false bs (by omega) (by omega)
   rw [e]
   simp only [encR] at hc ⊢
   simp only [XOR] at *
   simp [F.f175r0,h1,h2,h4,hn,hc,F.f175R,F.f175K]
  ·by_cases hp : n = MUL ∨ n = INV ∨ n = ONE
   ·have e : headN n us = productT (.mk 3 n 0 us) := by simp only [headN,hd,hx,hp,if_true,if_false]; simp
    have hmass : (Tm.mk 3 n 0 us).mass < 20000000 := by simp only [Tm.mass]; omega
    have hc := call186 (.mk 3 n 0 us) bs (by omega)
    have hc2 := call196' false bs (km_ofP (.mk 3 n 0 us) 25000000 (by omega)) (ofP_len _)
    rw [← hf] at hc
    rw [e]
    by_cases c : ofE (.mk 3 n 0 us) = 0
    ·have e2 : productT (.mk 3 n 0 us) = termP (ofP (.mk 3 n 0 us)) := by simp [productT,c]
     rw [e2]
     simp only [encR] at hc2 ⊢
     rw [c] at hc
     generalize ofP (.mk 3 n 0 us) = P at *
     rcases hp with rfl | rfl | rfl
     ·simp only [MUL] at *
      simp [F.f175r0,h1,h2,h4,hn,hc,hc2,F.f175R,F.f175K]
     ·simp only [INV] at *
      simp [F.f175r0,h1,h2,h4,hn,hc,hc2,F.f175R,F.f175K]
     ·simp only [ONE] at *
      simp [F.f175r0,h1,h2,h4,hn,hc,hc2,F.f175R,F.f175K]
    ·have e2 : productT (.mk 3 n 0 us) = (zeroT,ofE (.mk 3 n 0 us)) := by simp [productT,c]
     rw [e2]
     generalize ofE (.mk 3 n 0 us) = E at *
     generalize ofP (.mk 3 n 0 us) = P at *
     rcases hp with rfl | rfl | rfl
     ·simp only [MUL] at *
      simp [F.f175r0,h1,h2,h4,hn,hc,c,F.f175R,F.f175K,encR_mk,encT_zero]
     ·simp only [INV] at *
      simp [F.f175r0,h1,h2,h4,hn,hc,c,F.f175R,F.f175K,encR_mk,encT_zero]
     ·simp only [ONE] at *
      simp [F.f175r0,h1,h2,h4,hn,hc,c,F.f175R,F.f175K,encR_mk,encT_zero]
   ·by_cases he : n = EXP
    ·have e : headN n us = powT (us.getD 0 zeroT) (us.getD 1 zeroT) := by subst he; simp only [headN,hd,if_neg hx,if_neg hp]; simp
     subst he
     have hl : us.length = 2 := by simpa [arOk] using ha
     match us,hl,hg,hm,h4,e with
     | [x,y],_,hg,hm,h4,e =>
      simp only [goodL,Bool.and_eq_true] at hg
      simp only [massL] at hm
      have hc := call199 x y bs hg.1 (by omega) (by omega)
      rw [e]
      simp only [encR] at hc ⊢
      simp only [List.getD_cons_zero,List.getD_cons_succ] at *
      simp only [EXP] at *
      simp [F.f175r0,h1,h2,h4,hn,hc,F.f175R,F.f175K]
    ·have e : headN n us = (.mk 3 n 0 us,0) := by simp only [headN,hd,hx,hp,he,if_false]; simp
     rw [e]
     have b1 : (n == XOR) = false := by simpa using hx
     have b2 : (n == MUL) = false := by simp at hp ⊢; exact hp.1
     have b3 : (n == INV) = false := by simp at hp ⊢; exact hp.2.1
     have b4 : (n == ONE) = false := by simp at hp ⊢; exact hp.2.2
     have b5 : (n == EXP) = false := by simpa using he
     simp only [XOR,MUL,INV,ONE,EXP] at b1 b2 b3 b4 b5
     simp [F.f175r0,h1,h2,h4,hn,d1,d2,d3,d4,d5,d6,b1,b2,b3,b4,b5,F.f175R,F.f175K,encR_mk,encT_eq]
 ·have e : headN n us = (destT n us,0) := by simp [headN,hd]
  have hc := call176 bs hd ha hg (by omega)
  rw [← hf] at hc
  rw [e]
  generalize destT n us = D at *
  rcases destN_inv hd with (rfl | rfl | rfl) | (rfl | rfl | rfl)
  ·simp only [FST] at *
   simp [F.f175r0,h1,h2,h4,hn,hc,F.f175R,F.f175K,encR_mk]
  ·simp only [SND] at *
   simp [F.f175r0,h1,h2,h4,hn,hc,F.f175R,F.f175K,encR_mk]
  ·simp only [READ] at *
   simp [F.f175r0,h1,h2,h4,hn,hc,F.f175R,F.f175K,encR_mk]
  ·simp only [DEC] at *
   simp [F.f175r0,h1,h2,h4,hn,hc,F.f175R,F.f175K,encR_mk]
  ·simp only [ADEC] at *
   simp [F.f175r0,h1,h2,h4,hn,hc,F.f175R,F.f175K,encR_mk]
  ·simp only [OPEN] at *
   simp [F.f175r0,h1,h2,h4,hn,hc,F.f175R,F.f175K,encR_mk]
def outN2 (n : List UInt8) (us : List Tm) (r : List Tm × Int) : Tm × Int := if r.2 = 0 then headN n (us ++ r.1) else (zeroT,r.2)
theorem norm_loop (t : Tm) (bs : List (List AV)) (hg : goodT t = true) (hk3 : t.kind = 3) (hm : t.mass + 13200 * t.nodes < 15000000) (ih : ∀ x ∈ t.kids,∀ bs,call F.tb 175 [.agg (encT x)] bs = some (encR (normT x),bs)) :
  ∀ (post pre us : List Tm) (ρ : Nat → AV),t.kids = pre ++ post → us.length = pre.length → goodL us = true → massL us ≤ massL pre + 13200 * nodesL pre → ρ 1 = .bx (encT t) → ρ 2 = .bx [.int .i64 0,.str [],.int .i64 0,.sl true 4 []] →
   ρ 4 = .bx [.int .i64 3,.str t.name,.int .i64 0,.sl true 4 (encTs us)] → ρ 19 = .sl false 4 (encTs t.kids) → ρ 20 = .int .i64 t.kids.length → ρ 21 = .int .i64 pre.length →
  R F.tb (.loop F.f175l0) ρ bs (blockK 0 (seqK F.tb F.f175r0 (finK F.f175 bs))) = some (encR (outN2 t.name us (normL post)),bs) := by
 have hme := mass_eq t
 have hne := nodes_eq t
 intro post
 induction post with
 | nil =>
  intro pre us ρ hk hl hgu hmu h1 h2 h4 h19 h20 h21
  simp only [List.append_nil] at hk
  rw [← hk] at h21 hl hmu
  have har := (good_node hg hk3).2
  have hr := norm_r0 t us bs (by rw [hl]; exact har) hgu (by unfold MX; omega)
  have e : outN2 t.name us (normL []) = headN t.name us := by simp [outN2,normL]
  rw [R_loop' F.f175l0.eq_1,e]
  simp [h1,h2,h4,h19,h20,h21]
  apply hr <;> simp [h1,h2,h4]
 | cons x post IH =>
  intro pre us ρ hk hl hgu hmu h1 h2 h4 h19 h20 h21
  have hg2 := get_pre hk
  have hll : t.kids.length = pre.length + (post.length + 1) := by rw [hk]; simp
  have hw1 : IntKind.i64.wrap ((pre.length : Int) + 1) = (pre.length : Int) + 1 := wrap64 (by omega) (by omega)
  have hlt : (pre.length : Int) < (t.kids.length : Int) := by omega
  have hxk : x ∈ t.kids := by rw [hk]; simp
  have hc := ih x hxk bs
  obtain ⟨n1,n2⟩ := normT_ok x (goodL_mem.1 (good_kids hg) x hxk)
  simp only [encR] at hc
  rw [R_loop' F.f175l0.eq_1]
  by_cases c : (normT x).2 = 0
  ·have e : outN2 t.name us (normL (x :: post)) = outN2 t.name (us ++ [(normT x).1]) (normL post) := by
    simp only [outN2,normL,c,if_true]
    by_cases c2 : (normL post).2 = 0
    ·simp [c2]
    ·simp [c2]
   have hb : (us.length + 1) * 56 ≤ 140737488355328 := lim56 (by omega)
   have hi := fun ρ => IH (pre ++ [x]) (us ++ [(normT x).1]) ρ (by rw [hk]; simp) (by simp [hl]) (goodL_mem.2 fun y hy => by
    rcases List.mem_append.1 hy with hy | hy
    ·exact goodL_mem.1 hgu y hy
    ·simp at hy; subst hy; exact n1) (by rw [massL_append,massL_append,nodesL_append]; simp only [massL,nodesL]; omega)
   rw [e]
   simp [h1,h2,h4,h19,h20,h21,hg2,hlt,hw1,hc,c,hb,encTs_one,encTs_append]
   apply hi <;> simp [h1,h2,h19,h20]
  ·have e : outN2 t.name us (normL (x :: post)) = (zeroT,(normT x).2) := by simp [outN2,normL,c]
   rw [e]
   simp [h1,h2,h4,h19,h20,h21,hg2,hlt,hc,c,F.f175R,F.f175K,encR_mk,encT_zero]
theorem call175 : ∀ (t : Tm) (bs : List (List AV)),goodT t = true → t.mass + 13200 * t.nodes < 15000000 → call F.tb 175 [.agg (encT t)] bs = some (encR (normT t),bs) := by
 refine tm_ind ?_
 intro k n s ks ih bs hg hm
 have hme := mass_eq (.mk k n s ks)
 have hne := nodes_eq (.mk k n s ks)
 simp only [mk_kids,mk_name] at hme hne
 rw [call_code F.tb_175 _ _ rfl]
 by_cases hk : k = 3
 ·subst hk
  have hl := fun ρ => norm_loop (.mk 3 n s ks) bs hg rfl hm (fun x hx bs => ih x hx bs (goodL_mem.1 (good_kids hg) x hx) (by have h1 : x.mass ≤ massL ks := massL_mem hx; have h2 : x.nodes ≤ nodesL ks := nodesL_mem hx; omega)) ks [] [] ρ rfl rfl rfl (by simp [massL])
  have e : normT (.mk 3 n s ks) = outN2 n [] (normL ks) := by simp [normT,outN2]
  rw [e]
  simp only [mk_name,mk_kids] at hl
  simp [F.f175B,F.f175C]
  apply hl <;> simp [encTs]
 ·have e : normT (.mk k n s ks) = (.mk k n s ks,0) := by simp [normT,hk]
  rw [e]
  simp [F.f175B,F.f175C,hk,F.f175R,F.f175K,encR_mk]
end Go.Am
