/-
  Kn29, Kn30, Kn31, Kn32, Kn33, Kn34, Kn35, Kn50, Kn51, Pf1.
-/
import Derived.Test.YtmlbinmlblbfgaaGreatDoorG16
set_option linter.all false
open Go.Am.F
namespace Go.Am
def Gn (c:Nat): ∀(f:Nat) (rs:YJ) (us:Y3) (rs':YJ) (us':Y3) (p:Int),us.length=rs.length->coE c f rs us=some (rs',us',p)->
  rs'.length=rs.length/\us'.length=us.length/\(∀j,us.getD j true=true->rwE rs' j=rwE rs j/\us'.getD j true=true)/\(p= -1\/∃b:Nat,p=(b:Int)/\b < rs.length/\us'.getD b true=true/\ceE rs' b c≠0)
 | 0,_,_,_,_,_,_,h=>by simp[coE]at h
 | f+1,rs,us,rs',us',p,hul,h=>by
  have sc:=scI rs us c rs.length;cases hs: (scE rs us c rs.length).1 with
  | none=>
   have he:scE rs us c rs.length=(none,(scE rs us c rs.length).2):=by rw[<- hs]
   rw[coE,he]at h;simp only[Qs,QB]at h;obtain⟨rfl,rfl,rfl⟩:=h;exact⟨rfl,rfl,fun j hj=>⟨rfl,hj⟩,.inl rfl⟩
  | some b=>
   obtain⟨s1,s2,s3,s4⟩:=sc.sm b hs;have he:scE rs us c rs.length=(some b,(scE rs us c rs.length).2):=by rw[<- hs]
   rw[coE,he]at h;simp only at h;have hbn:ceE rs b c≠0:=by
    intro e;simp[acE,e]at s2
   by_cases hone: (scE rs us c rs.length).2=1
   ·rw[Qh hone]at h;simp only[Qs,QB]at h;obtain⟨rfl,rfl,rfl⟩:=h;refine⟨rfl,by simp,fun j hj=>⟨rfl,?_⟩,.inr ⟨b,rfl,s1,?_,hbn⟩⟩
    ·rw[Iq (by omega)];split
     ·rfl
     ·exact hj
    ·rw[Iq (by omega),Qh rfl]
   ·rw[Qe hone]at h;split at h
    ·obtain⟨i1,i2,i3,i4⟩:=Gn c f _ us rs' us' p (by rw[S5];exact hul) h;rw[S5]at i1 i4;refine⟨i1,i2,fun j hj=> ?_,i4⟩;obtain⟨k1,k2⟩:=i3 j hj;refine⟨?_,k2⟩;rw[k1];rw[GN _ _ _ _ _ (Za _)];have:acE rs us c j=false:=by simp only[acE,hj];rfl
     simp[this]
    ·cases h
def PvI (rs:YJ) (us:Y3) (pv:QH):Prop:=∀c,c < pv.length->pv.getD c (-1)= -1\/∃b:Nat,pv.getD c (-1)=(b:Int)/\b < rs.length/\us.getD b true=true/\ceE rs b c≠0
def Gq {rs:YJ}: ∀(c:Nat) (s:YJ×Y3×QH),elE rs c=some s->s.1.length=rs.length/\s.2.1.length=rs.length/\s.2.2.length=c/\PvI s.1 s.2.1 s.2.2
 | 0,s,h=>by
  simp only[elE,Qs]at h;subst h;exact⟨rfl,by simp,rfl,fun c hc=>by simp at hc⟩
 | c+1,s,h=>by
  simp only[elE]at h;cases hs:elE rs c with
  | none=>rw[hs]at h;simp at h
  | some s0=>
   rw[hs]at h;simp only[Qt]at h;obtain⟨h1,h2,h3,h4⟩:=Gq c s0 hs;cases hc:coE c (msE s0.1 s0.2.1 c s0.1.length+1) s0.1 s0.2.1 with
   | none=>rw[hc]at h;simp at h
   | some x=>
    rw[hc]at h;simp only[QA,Qs]at h;subst h;obtain⟨i1,i2,i3,i4⟩:=Gn c _ s0.1 s0.2.1 x.1 x.2.1 x.2.2 (by omega) hc;refine⟨by simp only;omega,by simp only;omega,by simp[h3],?_⟩;intro d hd;simp only[Zf,O5]at hd;simp only;by_cases hdc:d=c
    ·subst hdc;have e: (s0.2.2 ++ [x.2.2]).getD d (-1)=x.2.2:=by
      rw[WV,Yn (by omega),h3];simp
     rw[e];rcases i4 with i4 | ⟨b,b1,b2,b3,b4⟩
     ·exact .inl i4
     ·exact .inr ⟨b,b1,by omega,b3,b4⟩
    ·have e: (s0.2.2 ++ [x.2.2]).getD d (-1)=s0.2.2.getD d (-1):=by
      rw[WV,WV,ZO (by omega)]
     rw[e];rcases h4 d (by omega)with h4 | ⟨b,b1,b2,b3,b4⟩
     ·exact .inl h4
     ·obtain⟨k1,k2⟩:=i3 b b3;refine .inr ⟨b,b1,by omega,k2,?_⟩;unfold ceE at *;rw[k1];exact b4
set_option maxRecDepth 20000
def S8 (B:Qd) (x0 n:Nat) (cols:AV) (rs:YJ) (c:Nat):Prop:=match elE rs c with
 | some s=>ES B x0 n cols s.1 s.2.1 (s.2.2 ++ List.replicate (n - c) (-1)) false
 | none=>∃rs' us' pv',rs'.length=rs.length/\ES B x0 n cols rs' us' pv' true
def ES.app {B:Qd} {x0 n:Nat} {cols:AV} {rs:YJ} {us:Y3} {piv:QH} {lg:Bool} (h:ES B x0 n cols rs us piv lg) (M:Qd):ES (B ++ M) x0 n cols rs us piv lg:=
 ⟨YS h.x M,fun hz=>YS (h.rl hz) M,fun hz=>YS (h.pl hz) M,h.pn,fun i hi=>⟨YS (h.row i hi).1 M,YS (h.row i hi).2.1 M,YS (h.row i hi).2.2 M⟩,h.ul,h.wl,h.bd⟩
def ES.lt {B:Qd} {x0 n:Nat} {cols:AV} {rs:YJ} {us:Y3} {piv:QH} {lg:Bool} (h:ES B x0 n cols rs us piv lg):x0+4*rs.length+n < B.length:=by
 by_cases hn:n=0
 ·by_cases hm:rs.length=0
  ·have:=Uk h.x;omega
  ·have:=Uk (h.rl hm);omega
 ·have:=Uk (h.pl hn);omega
def S8.app {B:Qd} {x0 n:Nat} {cols:AV} {rs:YJ} {c:Nat} (h:S8 B x0 n cols rs c) (M:Qd):S8 (B ++ M) x0 n cols rs c:=by
 unfold S8 at *;cases he:elE rs c with
 | some s=>rw[he]at h;exact ES.app h M
 | none=>
  rw[he]at h;obtain⟨rs',us',pv',e1,e2⟩:=h;exact⟨rs',us',pv',e1,e2.app M⟩
def S8.lt {B:Qd} {x0 n:Nat} {cols:AV} {rs:YJ} {c:Nat} (h:S8 B x0 n cols rs c):x0+4*rs.length+n < B.length:=by
 unfold S8 at h;cases he:elE rs c with
 | some s=>
  rw[he]at h;have:=ES.lt h;rw[(Gq c s he).1]at this;exact this
 | none=>
  rw[he]at h;obtain⟨rs',us',pv',e1,e2⟩:=h;have:=e2.lt;rw[e1]at this;exact this
def IS (B0 B:Qd) (v:AV) (xs:QH):Prop:=W7 B0 B/\((xs=[]/\v= .gs 0 0 0 0)\/∃id,v= .gs id 0 1 xs.length/\xs≠[]/\B0.length<=id/\B[id]? =some (Wj xs))
def Rk (n:Int):QS->Int
 | []=>n
 | d:: l=>Rk (IntKind.i64.wrap (IntKind.i64.wrap (n+d.a.length)+d.c.length)) l
def OG (l:QS):Bool:=decide (Rk 0 l<=1000) && few (l.map Ded.t) 410 3000
def Qc0 (l:QS) (o:Bool) (bs:Qd) (hl:l.length<=1172812402961):
  ∀(post pre:QS) (n:Int) (ρ:Qq),l=pre ++ post->ρ 0= .sl o 8 (Zh l)->ρ 3= .int .i64 n->ρ 4= .sl true 4 (Qz (pre.map Ded.t))->ρ 5= .int .i64 pre.length->
  R tb (.loop f696l0) ρ bs (Q1 0 (ZE tb f696r0 (Zn f696 bs)))=some (.bool (decide (Rk n post<=1000) && few (l.map Ded.t) 410 3000),bs):=by
 intro post
 induction post with
 | nil=>
  intro pre n ρ hk h0 h3 h4 h5;simp only[Ya]at hk;subst hk;rw[Qo f696l0.eq_1];have hf:call tb 101 [.sl false 4 (Qz (l.map Ded.t)),.int .i64 410,.int .i64 3000] bs=some (.bool (few (l.map Ded.t) 410 3000),bs):=Au (l.map Ded.t) false 410 3000 bs (by omega) (by omega) (by omega);by_cases c:n<=1000
  ·simp[h0,h3,h4,h5,f696r0,Rk,c,hf]
  ·simp[h0,h3,h4,h5,f696r0,Rk,c,hf]
 | cons d post IH=>
  intro pre n ρ hk h0 h3 h4 h5;have hg: (Zh l)[pre.length]? =some (Zi d):=by rw[Rr,ZM hk];rfl
  have hll:=XA hk;have hw1:=wr1 pre.length (by omega);have hlt:=XX hk;have hcap: (pre.length+1)*56<=140737488355328:=by omega
  have hd:=Oh d;have hm:Qz (pre.map Ded.t)++ [Ql d.t]=Qz ((pre ++ [d]).map Ded.t):=by simp[VX]
  rw[Qo f696l0.eq_1];simp[h0,h3,h4,h5,hg,hw1,hlt,hcap];rw[IH (pre ++ [d])] <;> first | rfl | (simp[h0,hk,Rk,VX];done)
def Qcd (l:QS) (o:Bool) (bs:Qd) (hl:l.length<=1172812402961):call tb 696 [.sl o 8 (Zh l)] bs=some (.bool (OG l),bs):=by
 rw[zcc 696 rfl rfl];simp[f696C];rw[Qc0 l false bs hl l []] <;> first | rfl | (simp[OG,Qz];done)
def Qc1 {l:QS} (h:OG l=true):l.length<=410:=by
 simp only[OG,few,Qi,Qm]at h;have:=h.2.1;simpa using this
end Go.Am
