/-
  Kc4, Kc5, Kc6, Kc7, Kc8, Kn30, Kn31.
-/
import Derived.Test.YthlnfdbbneaelaaGreatDoorG21
set_option linter.all false
open Go.Am.F
namespace Go.Am
def DtI (rs0 rs:Zp):Prop:=rs0.length=4->∀b1 b2 b3 b4:Nat,b1 < 4->b2 < 4->b3 < 4->b4 < 4->b1≠b2->b1≠b3->b1≠b4->b2≠b3->b2≠b4->b3≠b4->∀i j k l,
 dt4 (rwF rs b1) (rwF rs b2) (rwF rs b3) (rwF rs b4) i j k l=dt4 (rwF rs0 b1) (rwF rs0 b2) (rwF rs0 b3) (rwF rs0 b4) i j k l
structure EI (rs0 rs:List (List Int)) (us:List Bool) (pv:List Int) (L c:Nat):Prop where
 len:rs.length=rs0.length
 ul:us.length=rs0.length
 pl:pv.length=c
 row: ∀i,i < rs.length->(rwE rs i).length=L
 e1: ∀y:Nat->Int,∃x,∀j,cmb y rs0 j=cmb x rs j
 e2: ∀x:Nat->Int,∃y,∀j,cmb x rs j=cmb y rs0 j
 un: ∀k,k < rs.length->(unE us k↔∀d,d < c->pv.getD d (-1)≠(k:Int))
 zr: ∀k d,k < rs.length->d < c->(∀d',d'<=d->pv.getD d' (-1)≠(k:Int))->ceE rs k d=0
 pp: ∀d,d < c->pv.getD d (-1)= -1\/∃b:Nat,pv.getD d (-1)=(b:Int)/\b < rs.length/\ceE rs b d≠0
 dj: ∀d d',d < c->d' < c->pv.getD d (-1)=pv.getD d' (-1)->pv.getD d (-1)≠ -1->d=d'
 dt:DtI rs0 rs
structure CoB (rs0 rs:List (List Int)) (us:List Bool) (c:Nat) (rs':List (List Int)):Prop where
 e1: ∀y:Nat->Int,∃x,∀j,cmb y rs0 j=cmb x rs' j
 e2: ∀x:Nat->Int,∃y,∀j,cmb x rs' j=cmb y rs0 j
 ud: ∀k,us.getD k true=true->rwE rs' k=rwE rs k
 zr: ∀k d,k < rs'.length->unE us k->d < c->ceE rs' k d=0
 dt:DtI rs0 rs'
def Cd (us:Z6) (k:Nat):us.getD k true=true\/unE us k:=by
 unfold unE;cases us.getD k true <;> simp
def Qig {rs0 rs rs':Zp} {us:Z6} {c b L:Nat} (h0:rs'.length=rs0.length) (hL: ∀i,i < rs'.length->(rwE rs' i).length=L) (h:CoB rs0 rs us c rs') (hs: (scE rs' us c rs'.length).1=some b):CoB rs0 rs us c (rnE rs' us c b rs'.length):=by
 obtain⟨s1,s2,s3,s4⟩:=(scI rs' us c rs'.length).sm b hs;obtain⟨ub,ab⟩:=YB.1 s2;refine⟨fun y=> ?_,fun x=> ?_,fun k hk=> ?_,fun k d hk hu hd=> ?_,fun h4 b1 b2 b3 b4 q1 q2 q3 q4 d12 d13 d14 d23 d24 d34 i j k l=> ?_⟩
 ·obtain⟨x,hx⟩:=h.e1 y;obtain⟨x',hx'⟩:=Qie (us:=us) (c:=c) hL s1 x;exact⟨x',fun j=>by rw[hx,hx']⟩
 ·obtain⟨x',hx'⟩:=Qld (us:=us) (c:=c) hL s1 x;obtain⟨y,hy⟩:=h.e2 x';exact⟨y,fun j=>by rw[hx',hy]⟩
 ·rw[<- h.ud k hk,VJ _ _ _ _ _ (QX _)];have:acE rs' us c k=false:=by simp only[acE,hk];rfl
  simp[this]
 ·rw[Y7]at hk;rw[Iq hL s1 hk d,h.zr k d hk hu hd,h.zr b d s1 ub hd];simp
 ·rw[Qij (by omega) hL (by omega) q1 q2 q3 q4 d12 d13 d14 d23 d24 d34];exact h.dt h4 b1 b2 b3 b4 q1 q2 q3 q4 d12 d13 d14 d23 d24 d34 i j k l
def Hz {pv:Q4} {p:Int} {c:Nat} (hp:pv.length=c) (d:Nat) (hd:d < c+1): (pv ++ [p]).getD d (-1)=if d=c then p else pv.getD d (-1):=by
 rw[Zh,Zh];by_cases e:d=c
 ·subst e;rw[Qe rfl,Yq (by omega),hp];simp
 ·rw[Qb e,Y3 (by omega)]
def NL {rs0 rs:Zp} {us:Z6} {pv:Q4} {L c:Nat} (h:EI rs0 rs us pv L c) (hc:c < L) (J:Zp->Prop) (hj:J rs)
  (hJ: ∀rs' b,rs'.length=rs0.length->(∀i,i < rs'.length->(rwE rs' i).length=L)->CoB rs0 rs us c rs'->J rs'->(scE rs' us c rs'.length).1=some b->2<=(scE rs' us c rs'.length).2->
   (∀i,i < rs'.length->unE us i->aE (rnE rs' us c b rs'.length) c i+xE (rnE rs' us c b rs'.length) c i<=1099511627776)/\J (rnE rs' us c b rs'.length)):
  ∃rs' us' p,coE c (msE rs us c rs.length+1) rs us=some (rs',us',p)/\EI rs0 rs' us' (pv ++ [p]) L (c+1)/\J rs'/\(∀k,us.getD k true=true->rwE rs' k=rwE rs k)/\
   ((p= -1/\rs'=rs/\us'=us)\/∃b:Nat,p=(b:Int)/\b < rs0.length/\unE us b/\us'=us.set b true/\∀k,k < rs'.length->unE us k->k≠b->ceE rs' k c=0):=by
 have hL0: ∀i,i < rs.length->(rwE rs i).length=(rwE rs 0).length:=fun i hi=>by rw[h.row i hi,h.row 0 (by omega)]
 have hB0:CoB rs0 rs us c rs:=⟨h.e1,h.e2,fun k _=>rfl,fun k d hk hu hd=>h.zr k d hk hd fun d' hd'=>(h.un k hk).1 hu d' (by omega),h.dt⟩;obtain⟨rs',us',p,i1,⟨i2,iB⟩,i3,i4,i5,i6⟩:=Qlg (d:=us) (c:=c) (L:=L) (M:=rs0.length) (fun r=>J r/\CoB rs0 rs us c r) hc
  (fun r b k1 k2 k3 k4 k5=>⟨(hJ r b k1 k2 k3.2 k3.1 k4 k5).1,(hJ r b k1 k2 k3.2 k3.1 k4 k5).2,Qig k1 k2 k3.2 k4⟩)
  (msE rs us c rs.length+1) rs h.len h.row ⟨hj,hB0⟩ (by omega)
 have hinv:=(F9 c _ rs us rs' us' p (by rw[h.ul,h.len]) i1).2.2.2;have hlen:rs'.length=rs.length:=by rw[i3,h.len]
 have hz: (p= -1/\rs'=rs/\us'=us/\∀k,k < rs'.length->unE us k->ceE rs' k c=0)\/∃b:Nat,p=(b:Int)/\b < rs0.length/\unE us b/\us'=us.set b true/\ceE rs' b c≠0/\∀k,k < rs'.length->unE us k->k≠b->ceE rs' k c=0:=by
  have sc:=scI rs' us c rs'.length;rcases i5 with⟨e1,e2⟩ | ⟨b,e1,e2,e3,e4⟩
  ·subst e1;obtain⟨k1,k2,k3⟩:=Hr c _ rs us rs' us' hL0 i1;refine .inl ⟨rfl,k1,e2,fun k hk hu=> ?_⟩;subst k1;have h1:=(sc.nn k3).2 k hk;by_cases hz:ceE rs' k c=0
   ·exact hz
   ·have:acE rs' us c k=true:=YB.2 ⟨hu,by unfold aE;omega⟩;rw[h1]at this;cases this
  ·refine .inr ⟨b,e1,e2,e3,e4,?_,fun k hk hu hkb=> ?_⟩
   ·rcases hinv with q | ⟨b',q1,q2,q3,q4⟩
    ·omega
    ·have:b'=b:=by omega
     subst this;exact q4
   ·have hbne:ceE rs' b c≠0:=by
     rcases hinv with q | ⟨b',q1,q2,q3,q4⟩
     ·omega
     ·have:b'=b:=by omega
      subst this;exact q4
    have hab:acE rs' us c b=true:=YB.2 ⟨e3,by unfold aE;omega⟩;cases hs: (scE rs' us c rs'.length).1 with
    | none=>
     have:=(sc.nn hs).2 b (by omega);rw[hab]at this;cases this
    | some b0=>
     have hone:=sc.on b0 hs (by have:=(sc.sm b0 hs).2.2.1;omega);have hb0:=hone b (by omega) hab;by_cases hz:ceE rs' k c=0
     ·exact hz
     ·have:=hone k hk (YB.2 ⟨hu,by unfold aE;omega⟩);omega
 refine⟨rs',us',p,i1,?_,i2,iB.ud,?_⟩
 ·have hpv:=fun d hd=>Hz (p:=p) h.pl d hd;have hnew: ∀k,k < rs.length->(unE us' k↔unE us k/\p≠(k:Int)):=by
   intro k hk;rcases hz with⟨e1,_,e2,_⟩ | ⟨b,e1,e2,e3,e4,_⟩
   ·rw[e2,e1];exact⟨fun hu=>⟨hu,by omega⟩,fun hu=>hu.1⟩
   ·rw[e4,e1];unfold unE;rw[Og (by rw[h.ul];exact e2)];by_cases hkb:k=b
    ·subst hkb;simp
    ·rw[Qb hkb];exact⟨fun hu=>⟨hu,by omega⟩,fun hu=>hu.1⟩
  have hun: ∀k,k < rs'.length->(unE us' k↔∀d,d < c+1->(pv ++ [p]).getD d (-1)≠(k:Int)):=by
   intro k hk;rw[hnew k (by omega),h.un k (by omega)];constructor
   ·rintro⟨q1,q2⟩ d hd
    rw[hpv d hd];by_cases e:d=c
    ·rw[Qe e];exact q2
    ·rw[Qb e];exact q1 d (by omega)
   ·intro q;refine⟨fun d hd=> ?_,?_⟩
    ·have:=q d (by omega);rwa[hpv d (by omega),Qb (by omega)]at this
    ·have:=q c (by omega);rwa[hpv c (by omega),Qe rfl]at this
  refine⟨i3,?_,by simp[h.pl],i4,iB.e1,iB.e2,hun,?_,?_,?_,iB.dt⟩
  ·rcases hz with⟨_,_,e2,_⟩ | ⟨b,_,_,_,e4,_⟩
   ·rw[e2];exact h.ul
   ·rw[e4,WJ];exact h.ul
  ·intro k d hk hd hq;by_cases e:d=c
   ·subst e;have hu':=(hun k hk).2 fun d' hd'=>hq d' (by omega);obtain⟨u1,u2⟩:=(hnew k (by omega)).1 hu';rcases hz with⟨e1,_,_,e2⟩ | ⟨b,e1,_,_,_,_,e5⟩
    ·exact e2 k hk u1
    ·exact e5 k hk u1 (by omega)
   ·rcases Cd us k with hu | hu
    ·have hr:=iB.ud k hu;have:ceE rs' k d=ceE rs k d:=by unfold ceE;rw[hr]
     rw[this];refine h.zr k d (by omega) (by omega) fun d' hd'=> ?_;have:=hq d' hd';rwa[hpv d' (by omega),Qb (by omega)]at this
    ·exact iB.zr k d hk hu (by omega)
  ·intro d hd;rw[hpv d hd];by_cases e:d=c
   ·rw[Qe e,e];rcases hz with⟨e1,_⟩ | ⟨b,e1,e2,_,_,e5,_⟩
    ·exact .inl e1
    ·exact .inr ⟨b,e1,by omega,e5⟩
   ·rw[Qb e];rcases h.pp d (by omega)with q | ⟨b,q1,q2,q3⟩
    ·exact .inl q
    ·refine .inr ⟨b,q1,by omega,?_⟩;have hub:us.getD b true=true:=by
      rcases Cd us b with hu | hu
      ·exact hu
      ·exact absurd q1 ((h.un b q2).1 hu d (by omega))
     have hr:=iB.ud b hub;unfold ceE at *;rw[hr];exact q3
  ·intro d d' hd hd' he hne;rw[hpv d hd,hpv d' hd']at he;rw[hpv d hd]at hne;by_cases e:d=c
   ·by_cases e':d'=c
    ·omega
    ·rw[Qe e]at he hne;rw[Qb e']at he;rcases hz with⟨e1,_⟩ | ⟨b,e1,e2,e3,_⟩
     ·exact absurd e1 hne
     ·exact absurd (by rw[<- he,e1]) ((h.un b (by rw[h.len];exact e2)).1 e3 d' (by omega))
   ·by_cases e':d'=c
    ·rw[Qb e]at he hne;rw[Qe e']at he;rcases hz with⟨e1,_⟩ | ⟨b,e1,e2,e3,_⟩
     ·rw[he]at hne;exact absurd e1 hne
     ·exact absurd (by rw[he,e1]) ((h.un b (by rw[h.len];exact e2)).1 e3 d (by omega))
    ·rw[Qb e]at he hne;rw[Qb e']at he;exact h.dj d d' (by omega) (by omega) he hne
 ·rcases hz with⟨e1,e2,e3,_⟩ | ⟨b,e1,e2,e3,e4,_,e5⟩
  ·exact .inl ⟨e1,e2,e3⟩
  ·exact .inr ⟨b,e1,e2,e3,e4,e5⟩
def EB (rs:Zp) (i K:Nat):Prop:=∀j,(ceE rs i j).natAbs<=K
def U8 {rs:Zp} {i K K':Nat} (h:EB rs i K) (hK:K<=K'):EB rs i K':=fun j=>Y8 (h j) hK
def Qi6: ∀(a:Q4) (j:Nat),(a.getD j 0).natAbs<=nrE a:=by
 intro a j;rcases Zt j a.length with h | h
 ·rw[Mw h];omega
 ·rw[Zh,ZF h];simp
def Kf {rs:Zp} {i K:Nat} (h:nrE (rwE rs i)<=K):EB rs i K:=fun j=>Y8 (Qi6 _ j) h
def Qny {K:Nat}: ∀a:Q4,(∀j,(a.getD j 0).natAbs<=K)->nrE a<=a.length*K
 | [],_=>by simp[nrE]
 | x:: a,h=>by
  have h0:=h 0;have ih:=Qny a fun j=>h (j+1);simp only[Bv]at h0;simp only[nrE,ZI,UF,ZH,Yk,O6]at ih ⊢;omega
def QuP {a:Q4} {c j:Nat} (h:j≠c): (a.getD j 0).natAbs<=rtE a c:=by
 have h1:=Qi6 (a.set c 0) j;rw[Zh,Un (fun e=>h e.symm),<- Zh]at h1;exact h1
def QvP {rs:Zp} {c i A X:Nat} (ha:aE rs c i<=A) (hx:xE rs c i<=X) (hAX:A<=X):EB rs i X:=fun j=>by
 by_cases e:j=c
 ·subst e;have:aE rs j i=(ceE rs i j).natAbs:=rfl;omega
 ·exact Y8 (QuP e) hx
def Qdh {rs rs':Zp} {i K:Nat} (h:EB rs i K) (e:rwE rs' i=rwE rs i):EB rs' i K:=fun j=>by
 have:=h j;unfold ceE at *;rw[e];exact this
structure PLs (rs:List (List Int)) (pv:List Int) (c:Nat) (pl:List (Nat×Nat)):Prop where
 inc: ∀(i j:Nat) (p q:Nat×Nat),i < j->pl[i]? =some p->pl[j]? =some q->p.2 < q.2
 mem: ∀p∈pl,p.2 < c/\pv.getD p.2 (-1)=(p.1:Int)
 all: ∀d,d < c->pv.getD d (-1)= -1\/∃p∈pl,p.2=d
 bd: ∀(k:Nat) (p:Nat×Nat),pl[k]? =some p->(k=0->EB rs p.1 81)/\(k<=2->EB rs p.1 7000)
def Sm {rs:Zp} {pv:Q4} {c:Nat} {pl:Me} (hp:pv.length=c) (h:PLs rs pv c pl):PLs rs (pv ++ [-1]) (c+1) pl:=by
 have hpv:=fun d hd=>Hz (p:= -1) hp d hd;refine⟨h.inc,fun p hp'=> ?_,fun d hd=> ?_,h.bd⟩
 ·obtain⟨q1,q2⟩:=h.mem p hp';refine⟨by omega,?_⟩;rw[hpv _ (by omega),Qb (by omega)];exact q2
 ·rw[hpv d hd];by_cases e:d=c
  ·rw[Qe e];exact .inl rfl
  ·rw[Qb e];exact h.all d (by omega)
def Rt {rs rs':Zp} {pv:Q4} {c b:Nat} {pl:Me} (hp:pv.length=c) (h:PLs rs pv c pl) (hr: ∀p∈pl,rwE rs' p.1=rwE rs p.1) (h0:pl.length=0->EB rs' b 81) (h2:pl.length<=2->EB rs' b 7000):PLs rs' (pv ++ [(b:Int)]) (c+1) (pl ++ [(b,c)]):=by
 have hpv:=fun d hd=>Hz (p:=(b:Int)) hp d hd;have hg: ∀(k:Nat) (p:Nat×Nat),(pl ++ [(b,c)])[k]? =some p->(k < pl.length/\pl[k]? =some p)\/(k=pl.length/\p=(b,c)):=by
  intro k p hk;rcases Zt k pl.length with h1 | h1
  ·rw[Y3 h1]at hk;exact .inl ⟨h1,hk⟩
  ·rw[Yq h1]at hk;rcases Zt (k - pl.length) 1 with h3 | h3
   ·have:k - pl.length=0:=by omega
    rw[this]at hk;simp at hk;exact .inr ⟨by omega,hk.symm⟩
   ·rw[ZF (by simpa using h3)]at hk;cases hk
 refine⟨fun i j p q hij hi hj=> ?_,fun p hp'=> ?_,fun d hd=> ?_,fun k p hk=> ?_⟩
 ·rcases hg i p hi with⟨a1,a2⟩ | ⟨a1,a2⟩
  ·rcases hg j q hj with⟨b1,b2⟩ | ⟨b1,b2⟩
   ·exact h.inc i j p q hij a2 b2
   ·rw[b2];exact(h.mem p (X9 a2)).1
  ·rcases hg j q hj with⟨b1,b2⟩ | ⟨b1,b2⟩ <;> omega
 ·rcases Ze.1 hp' with hm | hm
  ·obtain⟨q1,q2⟩:=h.mem p hm;refine⟨by omega,?_⟩;rw[hpv _ (by omega),Qb (by omega)];exact q2
  ·simp only[XH]at hm;subst hm;exact⟨by simp,by rw[hpv _ (by simp),Qe rfl]⟩
 ·rw[hpv d hd];by_cases e:d=c
  ·exact .inr ⟨(b,c),by simp,e.symm⟩
  ·rw[Qb e];rcases h.all d (by omega)with q | ⟨p,q1,q2⟩
   ·exact .inl q
   ·exact .inr ⟨p,by simp[q1],q2⟩
 ·rcases hg k p hk with⟨a1,a2⟩ | ⟨a1,a2⟩
  ·obtain⟨b1,b2⟩:=h.bd k p a2;have e:=hr p (X9 a2);exact⟨fun q=>Qdh (b1 q) e,fun q=>Qdh (b2 q) e⟩
  ·subst a1 a2;exact⟨h0,h2⟩
def Qki {a b r s:Int} {K:Nat} (hb:b≠0) (hD: (b*r - a*s).natAbs<=K) (hs:s.natAbs<=K): (r - a.tdiv b*s).natAbs<=K:=by
 have e1:b* (r - a.tdiv b*s)=(b*r - a*s)+a.tmod b*s:=by
  rw[Int.tmod_def];grind
 have e2: (a.tmod b).natAbs+1<=b.natAbs:=by
  rw[BK];exact WU _ (by omega)
 have e3:b.natAbs* (r - a.tdiv b*s).natAbs<=K+ (a.tmod b).natAbs*K:=by
  rw[<- UE,e1];refine Y8 (Int.natAbs_add_le _ _) ?_;have:=TP (a.tmod b) hs;omega
 have e4:K+ (a.tmod b).natAbs*K<=b.natAbs*K:=by
  have:=Yy K e2;rw[Yk,O6]at this;omega
 exact Nat.le_of_mul_le_mul_left (Y8 e3 e4) (by omega)
def Qmf {rs0 rs r:Zp} {us:Z6} {pv:Q4} {L c b1 d1 b2 d2 i1 i2:Nat} (h:EI rs0 rs us pv L c) (h4:rs0.length=4) (hn: ∀i,i < 4->nrE (rwE rs0 i)<=9) (hB:CoB rs0 rs us c r) (hr:r.length=4)
  (hd12:d1 < d2) (hd2:d2 < c) (p1:pv.getD d1 (-1)=(b1:Int)) (p2:pv.getD d2 (-1)=(b2:Int)) (hi1:i1 < 4) (hi2:i2 < 4) (hi:i1≠i2) (u1:unE us i1) (u2:unE us i2) (j:Nat):
  (ceE r i1 c*ceE r i2 j - ceE r i1 j*ceE r i2 c).natAbs<=6561:=by
 have hlen:=h.len;obtain⟨k1,k2⟩:b1 < 4/\ceE rs b1 d1≠0:=by
  rcases h.pp d1 (by omega)with q | ⟨b,q1,q2,q3⟩
  ·omega
  ·have:b=b1:=by omega
   subst this;exact⟨by omega,q3⟩
 obtain⟨k3,k4⟩:b2 < 4/\ceE rs b2 d2≠0:=by
  rcases h.pp d2 (by omega)with q | ⟨b,q1,q2,q3⟩
  ·omega
  ·have:b=b2:=by omega
   subst this;exact⟨by omega,q3⟩
 have hb12:b1≠b2:=by
  intro e;subst e;have:=h.dj d1 d2 (by omega) (by omega) (by omega) (by omega);omega
 have used: ∀b d:Nat,b < 4->d < c->pv.getD d (-1)=(b:Int)->us.getD b true=true:=by
  intro b d hb hd hq;rcases Cd us b with hu | hu
  ·exact hu
  ·exact absurd hq ((h.un b (by omega)).1 hu d hd)
 have ub1:=used b1 d1 k1 (by omega) p1;have ub2:=used b2 d2 k3 (by omega) p2;have nu: ∀i b:Nat,unE us i->us.getD b true=true->b≠i:=by
  intro i b hu hb e;subst e;unfold unE at hu;rw[hu]at hb;cases hb
 have z12:ceE rs b2 d1=0:=h.zr b2 d1 (by omega) (by omega) fun d' hd' e=>by
  have:=h.dj d' d2 (by omega) (by omega) (by rw[e,p2]) (by rw[e];omega);omega
 have e1: ∀j,ceE r b1 j=ceE rs b1 j:=fun j=>by unfold ceE;rw[hB.ud b1 ub1]
 have e2: ∀j,ceE r b2 j=ceE rs b2 j:=fun j=>by unfold ceE;rw[hB.ud b2 ub2]
 have zu: ∀i d:Nat,i < 4->unE us i->d < c->ceE r i d=0:=fun i d hi' hu hd=>hB.zr i d (by omega) hu hd;by_cases hjd:j=d1\/j=d2\/j=c
 ·rcases hjd with rfl | rfl | rfl
  ·rw[zu i1 j hi1 u1 (by omega),zu i2 j hi2 u2 (by omega)];simp
  ·rw[zu i1 j hi1 u1 (by omega),zu i2 j hi2 u2 (by omega)];simp
  ·rw[Int.sub_self];simp
 ·have ht:=Qpq (rwF r b1) (rwF r b2) (rwF r i1) (rwF r i2) d1 d2 c j (by show ceE r b2 d1=0;rw[e2,z12]) (zu i1 d1 hi1 u1 (by omega)) (zu i2 d1 hi2 u2 (by omega)) (zu i1 d2 hi1 u1 (by omega)) (zu i2 d2 hi2 u2 (by omega));have hdt:=hB.dt h4 b1 b2 i1 i2 k1 k3 hi1 hi2 hb12 (nu i1 b1 u1 ub1) (nu i2 b1 u2 ub1) (nu i1 b2 u1 ub2) (nu i2 b2 u2 ub2) hi d1 d2 c j;have hR:=fun i hi'=>QdY (i:=d1) (j:=d2) (k:=c) (l:=j) (by omega) (by omega) (by omega) (by omega) (by omega) (by omega) (hn i hi');have hle:=Qii (hR b1 k1) (hR b2 k3) (hR i1 hi1) (hR i2 hi2);have hle2: (dt4 (rwF rs0 b1) (rwF rs0 b2) (rwF rs0 i1) (rwF rs0 i2) d1 d2 c j).natAbs<=6561:=hle;rw[<- hdt,ht]at hle2;have f1:rwF r b1 d1=ceE rs b1 d1:=e1 d1;have f2:rwF r b2 d2=ceE rs b2 d2:=e2 d2;rw[f1,f2,UE,UE]at hle2;have g1:1<=(ceE rs b1 d1).natAbs* (ceE rs b2 d2).natAbs:=TK (by omega) (by omega);have g2:=Yy (ceE r i1 c*ceE r i2 j - ceE r i1 j*ceE r i2 c).natAbs g1;rw[O6]at g2;exact Y8 g2 hle2
def SG (M:Nat) (rs:Zp) (us:Z6) (pv:Q4) (c:Nat):Prop:=∃pl,PLs rs pv c pl/\
 ((M=4/\pl.length=0/\(∀i,i < M->unE us i)/\∀i,i < M->nrE (rwE rs i)<=9)\/
  (∃i1 i2 i3,(i1≠i2/\i1≠i3/\i2≠i3)/\(i1 < M/\i2 < M/\i3 < M)/\(∀k,k < M->(unE us k↔k=i1\/k=i2\/k=i3))/\
   ((M=4/\pl.length=1/\∀n,n=i1\/n=i2\/n=i3->nrE (rwE rs n)<=72)\/(M=3/\pl.length=0/\∀n,n=i1\/n=i2\/n=i3->nrE (rwE rs n)<=9)))\/
  (∃i1 i2,i1≠i2/\(i1 < M/\i2 < M)/\(∀k,k < M->(unE us k↔k=i1\/k=i2))/\
   ((M=4/\pl.length=2/\EB rs i1 7000/\EB rs i2 7000)\/(M=3/\pl.length=1/\∀n,n=i1\/n=i2->nrE (rwE rs n)<=80)\/(M=2/\pl.length=0/\∀n,n=i1\/n=i2->nrE (rwE rs n)<=9)))\/
  (∃i1,i1 < M/\(∀k,k < M->(unE us k↔k=i1))/\pl.length+1=M/\(pl.length=0->EB rs i1 81)/\(pl.length<=2->EB rs i1 7000))\/
  ((∀k,k < M->¬unE us k)/\pl.length=M))
def NH {us:Z6} {b k:Nat} (hb:b < us.length):unE (us.set b true) k↔k≠b/\unE us k:=by
 unfold unE;rw[Og hb];by_cases h:k=b
 ·simp[h]
 ·simp[h]
def Qmh {rs0 rs:Zp} {us:Z6} {pv:Q4} {L c:Nat} {pl:Me} (h:EI rs0 rs us pv L c) (hp:PLs rs pv c pl): ∀p∈pl,us.getD p.1 true=true:=by
 intro p hm;obtain⟨q1,q2⟩:=hp.mem p hm;rcases Cd us p.1 with hu | hu
 ·exact hu
 ·rcases h.pp p.2 q1 with q | ⟨b,b1,b2,b3⟩
  ·omega
  ·have:b=p.1:=by omega
   subst this;exact absurd q2 ((h.un p.1 b2).1 hu p.2 q1)
def Qi3 {rs:Zp} {us:Z6} {c b:Nat} {P:Nat->Prop} (hu: ∀k,k < rs.length->unE us k->P k) (h1: ∀k k',P k->P k'->k=k') (hs: (scE rs us c rs.length).1=some b) (hn:2<=(scE rs us c rs.length).2):False:=by
 obtain⟨s1,s2,s3,s4⟩:=(scI rs us c rs.length).sm b hs;obtain⟨j,j1,j2,j3⟩:=(scI rs us c rs.length).tw b hs hn;exact j2 (h1 j b (hu j j1 (YB.1 j3).1) (hu b s1 (YB.1 s2).1))
def Qq3 {rs0 rs:Zp} {us:Z6} {pv:Q4} {L c:Nat} (h:EI rs0 rs us pv L c) (hM:rs0.length<=4) (hc:c < L) (hL:L<=1000) (hn0: ∀i,i < rs0.length->nrE (rwE rs0 i)<=9) (hS:SG rs0.length rs us pv c):
  ∃rs' us' p,coE c (msE rs us c rs.length+1) rs us=some (rs',us',p)/\EI rs0 rs' us' (pv ++ [p]) L (c+1)/\SG rs0.length rs' us' (pv ++ [p]) (c+1):=by
 have hlen:=h.len;have hul:=h.ul;obtain⟨pl,hP,hC⟩:=hS;have hus:=Qmh h hP;have hax: ∀(r:Zp) (i:Nat),(∀i,i < r.length->(rwE r i).length=L)->i < r.length->nrE (rwE r i)=aE r c i+xE r c i:=fun r i hl hi=>Qnx (hl i hi) hc;rcases hC with⟨hM4,hpl,hu,hn⟩ | ⟨i1,i2,i3,hd,hi,hu,hcase⟩ | ⟨i1,i2,hd,hi,hu,hcase⟩ | ⟨i1,hi,hu,hpl,hb0,hb2⟩ | ⟨hu,hpl⟩
 ·-- four rows
  obtain⟨rs',us',p,k1,k2,k3,k4,k5⟩:=NL h hc (J4 c) (QdI fun i hi=>by rw[<- hax rs i h.row (by omega)];exact hn i (by omega)) (fun r b q1 q2 q3 q4 q5 q6=>by
   have hj:=QdJ (us:=us) (by omega) (fun i hi=>hu i (by omega)) q2 q4 q5 q6;exact⟨fun i hi _=>by have:=Fp hj i (by omega);omega,hj⟩)
  refine⟨rs',us',p,k1,k2,?_⟩;rcases k5 with⟨e1,e2,e3⟩ | ⟨b,e1,e2,e3,e4,e5⟩
  ·subst e1 e2 e3;exact⟨pl,Sm h.pl hP,.inl ⟨hM4,hpl,hu,hn⟩⟩
  ·subst e1;have hnr: ∀n,n < 4->nrE (rwE rs' n)<=72:=fun n hn'=>by
    rw[hax rs' n k2.row (by have:=k2.len;omega)];exact Fp k3 n hn'
   refine⟨pl ++ [(b,c)],Rt h.pl hP (fun q hq=>k4 q.1 (hus q hq)) (fun _=>U8 (Kf (hnr b (by omega))) (by decide)) (fun _=>U8 (Kf (hnr b (by omega))) (by decide)),.inr (.inl ?_)⟩;obtain⟨i1,i2,i3,hd,hi,hall⟩: ∃i1 i2 i3,(i1≠i2/\i1≠i3/\i2≠i3)/\(i1 < 4/\i2 < 4/\i3 < 4)/\∀k,k < 4->(k≠b↔k=i1\/k=i2\/k=i3):=by
    have hb4:b < 4:=by omega
    match b,hb4 with
    | 0,_=>exact⟨1,2,3,by omega,by omega,fun k hk=>by omega⟩
    | 1,_=>exact⟨0,2,3,by omega,by omega,fun k hk=>by omega⟩
    | 2,_=>exact⟨0,1,3,by omega,by omega,fun k hk=>by omega⟩
    | 3,_=>exact⟨0,1,2,by omega,by omega,fun k hk=>by omega⟩
   refine⟨i1,i2,i3,hd,by omega,fun k hk=> ?_,.inl ⟨hM4,by simp[hpl],fun n hn'=>hnr n (by omega)⟩⟩;rw[e4,NH (by omega),<- hall k (by omega)];exact⟨fun q=>q.1,fun q=>⟨q,hu k hk⟩⟩
 ·-- three rows
  have core: ∀(G Z:Nat),Aq G Z=true->Z<=G->G<=7000->(∀n,n=i1\/n=i2\/n=i3->nrE (rwE rs n)<=Z)->
    ∃rs' us' p,coE c (msE rs us c rs.length+1) rs us=some (rs',us',p)/\EI rs0 rs' us' (pv ++ [p]) L (c+1)/\(∀n,n=i1\/n=i2\/n=i3->aE rs' c n<=Z/\xE rs' c n<=G)/\(∀k,us.getD k true=true->rwE rs' k=rwE rs k)/\
     ((p= -1/\rs'=rs/\us'=us)\/∃b:Nat,p=(b:Int)/\b < rs0.length/\unE us b/\us'=us.set b true/\∀k,k < rs'.length->unE us k->k≠b->ceE rs' k c=0):=by
   intro G Z hck hZG hG hn;have hmem: ∀n,n=i1\/n=i2\/n=i3->n < rs.length:=fun n hn'=>by omega
   obtain⟨rs',us',p,k1,k2,k3,k4,k5⟩:=NL h hc (J3s c G Z i1 i2 i3) ⟨fun n hn'=>by have:=hn n hn';rw[hax rs n h.row (hmem n hn')]at this;omega,.inl fun n hn'=>by have:=hn n hn';rwa[hax rs n h.row (hmem n hn')]at this⟩ (fun r b q1 q2 q3 q4 q5 q6=>by
    have hj:=Ql0 (us:=us) hck q2 hd (by omega) (fun k hk=>hu k (by omega)) q4 q5 q6;refine⟨fun i hi' hui=> ?_,hj⟩;have:=QdH hd hZG hj ((hu i (by omega)).1 hui);omega)
   exact⟨rs',us',p,k1,k2,fun n hn'=>QdH hd hZG k3 hn',k4,k5⟩
  have fin: ∀(G Z:Nat) (rs':Zp) (b:Nat),rs'.length=rs0.length->(∀i,i < rs'.length->(rwE rs' i).length=L)->Z<=G->(∀n,n=i1\/n=i2\/n=i3->aE rs' c n<=Z/\xE rs' c n<=G)->b < rs0.length->unE us b->(∀k,k < rs'.length->unE us k->k≠b->ceE rs' k c=0)->
    EB rs' b G/\∃j1 j2,j1≠j2/\(j1 < rs0.length/\j2 < rs0.length)/\(∀k,k < rs0.length->(unE (us.set b true) k↔k=j1\/k=j2))/\∀n,n=j1\/n=j2->nrE (rwE rs' n)<=G:=by
   intro G Z rs' b hl hrow hZG hb hbl hub hz;have hbm:=(hu b hbl).1 hub;refine⟨QvP (hb b hbm).1 (hb b hbm).2 hZG,?_⟩;have hset: ∀k,k < rs0.length->(unE (us.set b true) k↔k≠b/\(k=i1\/k=i2\/k=i3)):=fun k hk=>by rw[NH (by omega),hu k hk]
   have hnr: ∀n,n=i1\/n=i2\/n=i3->n≠b->nrE (rwE rs' n)<=G:=fun n hn' hnb=>by
    have h1:=hz n (by omega) ((hu n (by omega)).2 hn') hnb;rw[hax rs' n hrow (by omega)];have h2:aE rs' c n=0:=by unfold aE;rw[h1];rfl
    have:=(hb n hn').2;omega
   rcases hbm with e | e | e
   ·exact⟨i2,i3,hd.2.2,by omega,fun k hk=>by rw[hset k hk];omega,fun n hn'=>hnr n (by omega) (by omega)⟩
   ·exact⟨i1,i3,hd.2.1,by omega,fun k hk=>by rw[hset k hk];omega,fun n hn'=>hnr n (by omega) (by omega)⟩
   ·exact⟨i1,i2,hd.1,by omega,fun k hk=>by rw[hset k hk];omega,fun n hn'=>hnr n (by omega) (by omega)⟩
  rcases hcase with⟨hM4,hpl,hn⟩ | ⟨hM3,hpl,hn⟩
  ·obtain⟨rs',us',p,k1,k2,k3,k4,k5⟩:=core 7000 72 Qrh (by decide) (by decide) hn;refine⟨rs',us',p,k1,k2,?_⟩;rcases k5 with⟨e1,e2,e3⟩ | ⟨b,e1,e2,e3,e4,e5⟩
   ·subst e1 e2 e3;exact⟨pl,Sm h.pl hP,.inr (.inl ⟨i1,i2,i3,hd,hi,hu,.inl ⟨hM4,hpl,hn⟩⟩)⟩
   ·subst e1;obtain⟨f1,j1,j2,f2,f3,f4,f5⟩:=fin 7000 72 rs' b k2.len k2.row (by decide) k3 e2 e3 e5;refine⟨pl ++ [(b,c)],Rt h.pl hP (fun q hq=>k4 q.1 (hus q hq)) (fun e=>by omega) (fun _=>f1),.inr (.inr (.inl ⟨j1,j2,f2,f3,by rw[e4];exact f4,.inl ⟨hM4,by simp[hpl],Kf (f5 j1 (.inl rfl)),Kf (f5 j2 (.inr rfl))⟩⟩))⟩
  ·obtain⟨rs',us',p,k1,k2,k3,k4,k5⟩:=core 80 9 Qu5 (by decide) (by decide) hn;refine⟨rs',us',p,k1,k2,?_⟩;rcases k5 with⟨e1,e2,e3⟩ | ⟨b,e1,e2,e3,e4,e5⟩
   ·subst e1 e2 e3;exact⟨pl,Sm h.pl hP,.inr (.inl ⟨i1,i2,i3,hd,hi,hu,.inr ⟨hM3,hpl,hn⟩⟩)⟩
   ·subst e1;obtain⟨f1,j1,j2,f2,f3,f4,f5⟩:=fin 80 9 rs' b k2.len k2.row (by decide) k3 e2 e3 e5;refine⟨pl ++ [(b,c)],Rt h.pl hP (fun q hq=>k4 q.1 (hus q hq)) (fun _=>U8 f1 (by decide)) (fun _=>U8 f1 (by decide)),.inr (.inr (.inl ⟨j1,j2,f2,f3,by rw[e4];exact f4,.inr (.inl ⟨hM3,by simp[hpl],f5⟩)⟩))⟩
 ·-- two rows
  have hrest: ∀b,b < rs0.length->unE us b->∃j1,j1 < rs0.length/\(j1=i1\/j1=i2)/\∀k,k < rs0.length->(unE (us.set b true) k↔k=j1):=by
   intro b hb hub;have hbm:=(hu b hb).1 hub;have hset: ∀k,k < rs0.length->(unE (us.set b true) k↔k≠b/\(k=i1\/k=i2)):=fun k hk=>by rw[NH (by omega),hu k hk]
   rcases hbm with e | e
   ·exact⟨i2,hi.2,.inr rfl,fun k hk=>by rw[hset k hk];omega⟩
   ·exact⟨i1,hi.1,.inl rfl,fun k hk=>by rw[hset k hk];omega⟩
  have small: ∀(Z:Nat),1<=Z->Z*Z<=7000->(∀n,n=i1\/n=i2->nrE (rwE rs n)<=Z)->
    ∃rs' us' p,coE c (msE rs us c rs.length+1) rs us=some (rs',us',p)/\EI rs0 rs' us' (pv ++ [p]) L (c+1)/\(∀n,n=i1\/n=i2->EB rs' n (Z*Z))/\(∀k,us.getD k true=true->rwE rs' k=rwE rs k)/\
     ((p= -1/\rs'=rs/\us'=us)\/∃b:Nat,p=(b:Int)/\b < rs0.length/\unE us b/\us'=us.set b true):=by
   intro Z h1 h2 hn;obtain⟨rs',us',p,k1,k2,k3,k4,k5⟩:=NL h hc (J2 us c Z) (QdF h1 fun i hi' hui=>by
    have:=hn i ((hu i (by omega)).1 hui);rwa[hax rs i h.row hi']at this) (fun r b q1 q2 q3 q4 q5 q6=>by
    have hj:=QdG q2 ⟨i1,i2,fun k hk huk=>(hu k (by omega)).1 huk⟩ q4 q5;refine⟨fun i hi' hui=> ?_,hj⟩;have:=(hj.1 i (by rw[Y7];exact hi') hui).2;omega)
   refine⟨rs',us',p,k1,k2,fun n hn'=> ?_,k4,?_⟩
   ·have hl:=k2.len;have:=(k3.1 n (by omega) ((hu n (by omega)).2 hn')).2;rw[<- hax rs' n k2.row (by omega)]at this;exact Kf this
   ·rcases k5 with q | ⟨b,e1,e2,e3,e4,e5⟩
    ·exact .inl q
    ·exact .inr ⟨b,e1,e2,e3,e4⟩
  rcases hcase with⟨hM4,hpl,hE1,hE2⟩ | ⟨hM3,hpl,hn⟩ | ⟨hM2,hpl,hn⟩
  ·-- of four
   obtain⟨p1,p2,hpl2⟩: ∃p1 p2,pl=[p1,p2]:=by
    match pl,hpl with
    | [p1,p2],_=>exact⟨p1,p2,rfl⟩
   obtain⟨a1,a2⟩:=hP.mem p1 (by rw[hpl2];simp);obtain⟨a3,a4⟩:=hP.mem p2 (by rw[hpl2];simp);have a5:=hP.inc 0 1 p1 p2 (by decide) (by rw[hpl2];rfl) (by rw[hpl2];rfl);obtain⟨rs',us',p,k1,k2,⟨k3,k3'⟩,k4,k5⟩:=NL h hc (fun r=>EB r i1 7000/\EB r i2 7000) ⟨hE1,hE2⟩ (fun r b q1 q2 q3 q4 q5 q6=>by
    obtain⟨s1,s2,s3,s4⟩:=(scI r us c r.length).sm b q5;obtain⟨ub,ab⟩:=YB.1 s2;have hbm:=(hu b (by omega)).1 ub;have hbne:ceE r b c≠0:=by unfold aE at ab;omega
    have hEb:EB r b 7000:=by rcases hbm with e | e <;> rw[e];exact q4.1;exact q4.2
    have hrow: ∀i,i=i1\/i=i2->EB r i 7000->EB (rnE r us c b r.length) i 7000:=by
     intro i him hE j;rw[Iq q2 s1 (by omega) j];unfold qE;by_cases hq:i≠b/\acE r us c i=true
     ·rw[Qe hq];have hD:=Qmf h hM4 (fun i hi'=>hn0 i (by omega)) q3 (by omega) a5 a3 a2 a4 (i1:=b) (i2:=i) (by omega) (by omega) (fun e=>hq.1 e.symm) ub ((hu i (by omega)).2 him) j;refine Qki hbne (K:=7000) ?_ (hEb j);have:ceE r b c*ceE r i j - ceE r i c*ceE r b j=ceE r b c*ceE r i j - ceE r b j*ceE r i c:=by grind
      rw[this];omega
     ·rw[Qb hq];have:=hE j;omega
    have hE1':=hrow i1 (.inl rfl) q4.1;have hE2':=hrow i2 (.inr rfl) q4.2;refine⟨fun i hi' hui=> ?_,hE1',hE2'⟩;have hlr:=Qa7 (us:=us) (c:=c) q2 s1;rw[<- hax _ i (by rw[Y7];exact hlr) (by rw[Y7];exact hi')];have him:=(hu i (by omega)).1 hui;have hEi:EB (rnE r us c b r.length) i 7000:=by rcases him with e | e <;> rw[e];exact hE1';exact hE2'
    have:=Qny (rwE (rnE r us c b r.length) i) hEi;rw[hlr i hi']at this;have:=Yy 7000 hL;omega)
   refine⟨rs',us',p,k1,k2,?_⟩;rcases k5 with⟨e1,e2,e3⟩ | ⟨b,e1,e2,e3,e4,e5⟩
   ·subst e1 e2 e3;exact⟨pl,Sm h.pl hP,.inr (.inr (.inl ⟨i1,i2,hd,hi,hu,.inl ⟨hM4,hpl,k3,k3'⟩⟩))⟩
   ·subst e1;obtain⟨j1,f1,f2,f3⟩:=hrest b e2 e3;have hbE:EB rs' b 7000:=by rcases(hu b e2).1 e3 with e | e <;> rw[e];exact k3;exact k3'
    refine⟨pl ++ [(b,c)],Rt h.pl hP (fun q hq=>k4 q.1 (hus q hq)) (fun e=>by omega) (fun _=>hbE),.inr (.inr (.inr (.inl ⟨j1,f1,by rw[e4];exact f3,by simp[hpl,hM4],fun e=>by simp[hpl]at e,fun e=>by simp[hpl]at e⟩)))⟩
  ·obtain⟨rs',us',p,k1,k2,k3,k4,k5⟩:=small 80 (by decide) (by decide) hn;refine⟨rs',us',p,k1,k2,?_⟩;rcases k5 with⟨e1,e2,e3⟩ | ⟨b,e1,e2,e3,e4⟩
   ·subst e1 e2 e3;exact⟨pl,Sm h.pl hP,.inr (.inr (.inl ⟨i1,i2,hd,hi,hu,.inr (.inl ⟨hM3,hpl,hn⟩)⟩))⟩
   ·subst e1;obtain⟨j1,f1,f2,f3⟩:=hrest b e2 e3;refine⟨pl ++ [(b,c)],Rt h.pl hP (fun q hq=>k4 q.1 (hus q hq)) (fun e=>by omega) (fun _=>U8 (k3 b ((hu b e2).1 e3)) (by decide)),.inr (.inr (.inr (.inl ⟨j1,f1,by rw[e4];exact f3,by simp[hpl,hM3],fun e=>by simp[hpl]at e,fun _=>U8 (k3 j1 f2) (by decide)⟩)))⟩
  ·obtain⟨rs',us',p,k1,k2,k3,k4,k5⟩:=small 9 (by decide) (by decide) hn;refine⟨rs',us',p,k1,k2,?_⟩;rcases k5 with⟨e1,e2,e3⟩ | ⟨b,e1,e2,e3,e4⟩
   ·subst e1 e2 e3;exact⟨pl,Sm h.pl hP,.inr (.inr (.inl ⟨i1,i2,hd,hi,hu,.inr (.inr ⟨hM2,hpl,hn⟩)⟩))⟩
   ·subst e1;obtain⟨j1,f1,f2,f3⟩:=hrest b e2 e3;refine⟨pl ++ [(b,c)],Rt h.pl hP (fun q hq=>k4 q.1 (hus q hq)) (fun _=>U8 (k3 b ((hu b e2).1 e3)) (by decide)) (fun _=>U8 (k3 b ((hu b e2).1 e3)) (by decide)),.inr (.inr (.inr (.inl ⟨j1,f1,by rw[e4];exact f3,by simp[hpl,hM2],fun e=>by simp[hpl]at e,fun _=>U8 (k3 j1 f2) (by decide)⟩)))⟩
 ·-- one row
  obtain⟨rs',us',p,k1,k2,⟨k3,k3'⟩,k4,k5⟩:=NL h hc (fun r=>(pl.length=0->EB r i1 81)/\(pl.length<=2->EB r i1 7000)) ⟨hb0,hb2⟩ (fun r b q1 q2 q3 q4 q5 q6=>
   (Qi3 (P:=fun k=>k=i1) (fun k hk huk=>(hu k (by omega)).1 huk) (fun k k' e e'=>by omega) q5 q6).elim)
  refine⟨rs',us',p,k1,k2,?_⟩;rcases k5 with⟨e1,e2,e3⟩ | ⟨b,e1,e2,e3,e4,e5⟩
  ·subst e1 e2 e3;exact⟨pl,Sm h.pl hP,.inr (.inr (.inr (.inl ⟨i1,hi,hu,hpl,hb0,hb2⟩)))⟩
  ·subst e1;have hbi:b=i1:=(hu b e2).1 e3;subst hbi;refine⟨pl ++ [(b,c)],Rt h.pl hP (fun q hq=>k4 q.1 (hus q hq)) k3 k3',.inr (.inr (.inr (.inr ⟨fun k hk huk=> ?_,by simp;omega⟩)))⟩;rw[e4,NH (by omega),hu k hk]at huk;exact huk.1 huk.2
 ·-- none
  obtain⟨rs',us',p,k1,k2,k3,k4,k5⟩:=NL h hc (fun _=>True) trivial (fun r b q1 q2 q3 q4 q5 q6=>
   (Qi3 (P:=fun k=>False) (fun k hk huk=>hu k (by omega) huk) (fun k k' e e'=>e.elim) q5 q6).elim)
  refine⟨rs',us',p,k1,k2,?_⟩;rcases k5 with⟨e1,e2,e3⟩ | ⟨b,e1,e2,e3,e4,e5⟩
  ·subst e1 e2 e3;exact⟨pl,Sm h.pl hP,.inr (.inr (.inr (.inr ⟨hu,hpl⟩)))⟩
  ·exact absurd e3 (hu b e2)
def AJ {rs0:Zp} {L:Nat} (hM:rs0.length<=4) (hL: ∀i,i < rs0.length->(rwE rs0 i).length=L) (hn: ∀i,i < rs0.length->nrE (rwE rs0 i)<=9) (hLb:L<=1000):
  ∀c,c<=L->∃s,elE rs0 c=some s/\EI rs0 s.1 s.2.1 s.2.2 L c/\SG rs0.length s.1 s.2.1 s.2.2 c
 | 0,_=>by
  have hun: ∀k,k < rs0.length->unE (List.replicate rs0.length false) k:=fun k hk=>Qkj hk;refine⟨_,rfl,⟨rfl,by simp,rfl,hL,fun y=>⟨y,fun j=>rfl⟩,fun y=>⟨y,fun j=>rfl⟩,fun k hk=>⟨fun _ d hd=>by omega,fun _=>hun k hk⟩,fun k d _ hd=>by omega,fun d hd=>by omega,fun d d' hd=>by omega,fun _ b1 b2 b3 b4 _ _ _ _ _ _ _ _ _ _ i j k l=>rfl⟩,[],⟨fun i j p q _ hi=>by simp at hi,fun p hp=>by simp at hp,fun d hd=>by omega,fun k p hk=>by simp at hk⟩,?_⟩;have hc:rs0.length=4\/rs0.length=3\/rs0.length=2\/rs0.length=1\/rs0.length=0:=by omega
  rcases hc with e | e | e | e | e
  ·exact .inl ⟨e,rfl,hun,hn⟩
  ·exact .inr (.inl ⟨0,1,2,by omega,by omega,fun k hk=>⟨fun _=>by omega,fun _=>hun k hk⟩,.inr ⟨e,rfl,fun n hn'=>hn n (by omega)⟩⟩)
  ·exact .inr (.inr (.inl ⟨0,1,by omega,by omega,fun k hk=>⟨fun _=>by omega,fun _=>hun k hk⟩,.inr (.inr ⟨e,rfl,fun n hn'=>hn n (by omega)⟩)⟩))
  ·exact .inr (.inr (.inr (.inl ⟨0,by omega,fun k hk=>⟨fun _=>by omega,fun _=>hun k hk⟩,by simp[e],fun _=>U8 (Kf (hn 0 (by omega))) (by decide),fun _=>U8 (Kf (hn 0 (by omega))) (by decide)⟩)))
  ·exact .inr (.inr (.inr (.inr ⟨fun k hk=>by omega,by simp[e]⟩)))
 | c+1,hc=>by
  obtain⟨s,h1,h2,h3⟩:=AJ hM hL hn hLb c (by omega);obtain⟨rs',us',p,k1,k2,k3⟩:=Qq3 h2 hM (by omega) hLb hn h3;exact⟨(rs',us',s.2.2 ++ [p]),by simp[elE,h1,k1],k2,k3⟩
def stT (rs:Zp) (pv:Q4) (x:Nat->Int) (c j:Nat):Int:=if pv.getD c (-1)= -1 then 0 else x (pv.getD c (-1)).toNat* ceE rs (pv.getD c (-1)).toNat j
def TT (t0:Nat->Int) (rs:Zp) (pv:Q4) (x:Nat->Int):Nat->Nat->Int
 | 0,j=>t0 j
 | c+1,j=>TT t0 rs pv x c j - stT rs pv x c j
def pbE (pv:Q4):Nat->Nat->Bool
 | 0,_=>false
 | c+1,i=>pbE pv c i || decide (pv.getD c (-1)=(i:Int))
def QaM (pv:Q4): ∀c i,pbE pv c i=true↔∃d,d < c/\pv.getD d (-1)=(i:Int)
 | 0,i=>by simp[pbE]
 | c+1,i=>by
  simp only[pbE,WI,QM,QaM pv c i];constructor
  ·rintro(⟨d,h1,h2⟩ | h)
   ·exact⟨d,by omega,h2⟩
   ·exact⟨c,by omega,h⟩
  ·rintro⟨d,h1,h2⟩
   by_cases e:d=c
   ·subst e;exact .inr h2
   ·exact .inl ⟨d,by omega,h2⟩
def Qkh {rs0 rs:Zp} {us:Z6} {pv:Q4} {L n:Nat} (h:EI rs0 rs us pv L n) {t0:Nat->Int} {x:Nat->Int} {j:Nat} (hj:t0 j=cmb x rs j): ∀c,c<=n->TT t0 rs pv x c j=YN (fun i=>if pbE pv c i then 0 else x i*ceE rs i j) rs.length
 | 0,_=>by
  rw[TT,hj];exact V1 _ fun i _=>by simp[pbE]
 | c+1,hc=>by
  rw[TT,Qkh h hj c (by omega)];unfold stT;rcases h.pp c (by omega)with q | ⟨b,q1,q2,q3⟩
  ·rw[Qe q,Int.sub_zero];refine V1 _ fun i _=> ?_;have:pbE pv (c+1) i=pbE pv c i:=by
    simp only[pbE,q];have: ¬(-1:Int)=(i:Int):=by omega
    simp[this]
   rw[this]
  ·rw[Qb (by omega),q1,T8];have hb:pbE pv c b=false:=by
    cases hp:pbE pv c b
    ·rfl
    ·obtain⟨d,d1,d2⟩:=(QaM pv c b).1 hp;have:=h.dj d c (by omega) (by omega) (by rw[d2,q1]) (by rw[d2];omega);omega
   have h1:YN (fun i=>if pbE pv c i then 0 else x i*ceE rs i j) rs.length=YN (fun i=>(if pbE pv (c+1) i then 0 else x i*ceE rs i j)+ (if i=b then x b*ceE rs b j else 0)) rs.length:=by
    refine V1 _ fun i _=> ?_;by_cases e:i=b
    ·subst e;have e1:pbE pv (c+1) i=true:=by simp only[pbE,q1,decide_true,GM]
     rw[e1];simp[hb]
    ·have:pbE pv (c+1) i=pbE pv c i:=by
      simp only[pbE,q1];have: ¬(b:Int)=(i:Int):=by omega
      simp[this]
     rw[this,Qb e];omega
   rw[h1,KU,ME (f:=fun i=>if i=b then x b*ceE rs b j else 0) (b:=b) rs.length q2 (fun i _ hib=>Qb hib),Qe rfl];omega
def LX {rs0 rs:Zp} {us:Z6} {pv:Q4} {L n:Nat} (h:EI rs0 rs us pv L n) {t0:Nat->Int} {x:Nat->Int} {j c:Nat} (hj:t0 j=cmb x rs j) (hc:c<=n) (hjc:j < c):TT t0 rs pv x c j=0:=by
 rw[Qkh h hj c hc];refine Ni _ fun i hi=> ?_;cases hp:pbE pv c i
 ·have:ceE rs i j=0:=h.zr i j hi (by omega) fun d' hd' e=>by
   have:=(QaM pv c i).2 ⟨d',by omega,e⟩;rw[hp]at this;cases this
  simp[this]
 ·rfl
def Qeq {rs0 rs:Zp} {us:Z6} {pv:Q4} {L n:Nat} (h:EI rs0 rs us pv L n) {t0:Nat->Int} {x:Nat->Int} {c:Nat} (hj:t0 c=cmb x rs c) (hc:c < n):TT t0 rs pv x c c=stT rs pv x c c:=by
 have h1:=LX h hj (c:=c+1) (by omega) (by omega);rw[TT]at h1;omega
def Qwc {a:Q4} (h: ∀j,(a.getD j 0).natAbs<=1099511627776):okE a=true:=by
 unfold okE;rw[X0];intro x hx;obtain⟨i,hi⟩:=SA hx;have:=h i;rw[Zh,hi]at this;simpa using this
def IU {rs0 rs:Zp} {us:Z6} {pv:Q4} {L n:Nat} (h:EI rs0 rs us pv L n) {t0:Nat->Int} {x:Nat->Int} (ht0: ∀j,j < n->t0 j=cmb x rs j) (hT: ∀d,d<=n->∀j,(TT t0 rs pv x d j).natAbs<=1099511627776):
  ∀(k c:Nat) (t:Q4),c+k=n->t.length=L->(∀j,t.getD j 0=TT t0 rs pv x c j)->rdE rs pv k c t=0
 | 0,_,_,_,_,_=>rfl
 | k+1,c,t,hk,hl,ht=>by
  have hn:=Qeq h (ht0 c (by omega)) (by omega);rw[<- ht c]at hn;rw[rdE];rcases h.pp c (by omega)with q | ⟨b,q1,q2,q3⟩
  ·have hs: ∀j,stT rs pv x c j=0:=fun j=>by unfold stT;rw[Qe q]
   rw[hs]at hn;rw[Qe hn];exact IU h ht0 hT k (c+1) t (by omega) hl fun j=>by rw[ht j,TT,hs];omega
  ·have hs: ∀j,stT rs pv x c j=x b*ceE rs b j:=fun j=>by unfold stT;rw[Qb (by omega),q1,T8]
   rw[hs]at hn;by_cases hz:t.getD c 0=0
   ·have hx:x b=0:=by
     rw[hz]at hn;rcases Int.mul_eq_zero.1 hn.symm with e | e
     ·exact e
     ·exact absurd e q3
    rw[Qe hz];exact IU h ht0 hT k (c+1) t (by omega) hl fun j=>by rw[ht j,TT,hs,hx];omega
   ·rw[Qb hz,Qb (by rw[q1];omega),q1,T8];have hq: (t.getD c 0).tdiv (ceE rs b c)=x b:=by rw[hn];exact Int.mul_tdiv_cancel _ q3
    have hm: (t.getD c 0).tmod (ceE rs b c)=0:=by rw[hn];exact Int.mul_tmod_left _ _
    have hlb:=h.row b q2;have hg: ∀j,(Zc t (rwE rs b) (x b)).getD j 0=TT t0 rs pv x (c+1) j:=fun j=>by
     rw[Sq (by rw[hl,hlb]),ht j,TT,hs];rfl
    rw[Qb (by rw[hm];simp),hq,Qe (Qwc fun j=>by rw[hg];exact hT (c+1) (by omega) j)];exact IU h ht0 hT k (c+1) _ (by omega) (by rw[Xx _ (by rw[hl,hlb]),hl]) hg
def EA {rs0 rs:Zp} {us:Z6} {pv:Q4} {L n:Nat} (h:EI rs0 rs us pv L n):
  ∀(k c:Nat) (t:Q4),c+k=n->t.length=L->(∀j,j < c->t.getD j 0=0)->rdE rs pv k c t=0->∃x:Nat->Int,∀j,j < n->t.getD j 0=cmb x rs j
 | 0,c,t,hk,hl,hz,_=>⟨fun _=>0,fun j hj=>by rw[hz j (by omega)];exact(Ni _ fun i _=>by simp).symm⟩
 | k+1,c,t,hk,hl,hz,hr=>by
  rw[rdE]at hr;by_cases h0:t.getD c 0=0
  ·rw[Qe h0]at hr;exact EA h k (c+1) t (by omega) hl (fun j hj=>by
    by_cases e:j=c
    ·rw[e];exact h0
    ·exact hz j (by omega)) hr
  ·rw[Qb h0]at hr;rcases h.pp c (by omega)with q | ⟨b,q1,q2,q3⟩
   ·rw[Qe (by omega)]at hr;omega
   ·rw[Qb (by rw[q1];omega),q1,T8]at hr;by_cases hm: (t.getD c 0).tmod (ceE rs b c)=0
    ·rw[Qb (by simpa using hm)]at hr;generalize hq: (t.getD c 0).tdiv (ceE rs b c)=Q at hr;split at hr
     ·have hlb:=h.row b q2;have hg: ∀j,(Zc t (rwE rs b) Q).getD j 0=t.getD j 0 - Q*ceE rs b j:=fun j=>by rw[Sq (by rw[hl,hlb])];rfl
      have hex:t.getD c 0=Q*ceE rs b c:=by
       have:=Int.tmod_add_mul_tdiv (t.getD c 0) (ceE rs b c);rw[hm,hq,JH]at this;omega
      obtain⟨x,hx⟩:=EA h k (c+1) (Zc t (rwE rs b) Q) (by omega) (by rw[Xx _ (by rw[hl,hlb]),hl]) (fun j hj=>by
       rw[hg];by_cases e:j=c
       ·rw[e];omega
       ·rw[hz j (by omega),h.zr b j q2 (by omega) fun d' hd' e'=>by
         have:=h.dj d' c (by omega) (by omega) (by rw[e',q1]) (by rw[e'];omega);omega]
        simp) hr
      refine⟨fun i=>x i+ (if i=b then Q else 0),fun j hj=> ?_⟩;have h1:=hx j hj;rw[hg]at h1;unfold cmb at h1 ⊢;have h2:YN (fun i=>(x i+ (if i=b then Q else 0))*ceE rs i j) rs.length=YN (fun i=>x i*ceE rs i j+ (if i=b then Q*ceE rs b j else 0)) rs.length:=by
       refine V1 _ fun i _=> ?_;by_cases e:i=b
       ·subst e;simp only[QT];grind
       ·simp only[Qb e];grind
      rw[h2,KU,ME (f:=fun i=>if i=b then Q*ceE rs b j else 0) (b:=b) rs.length q2 (fun i _ hib=>Qb hib),Qe rfl,<- h1];omega
     ·omega
    ·rw[Qe hm]at hr;omega
def lsm (x:Nat->Int) (rs:Zp) (j:Nat):Me->Int
 | []=>0
 | p:: l=>x p.1*ceE rs p.1 j+lsm x rs j l
def Qap (x:Nat->Int) (rs:Zp) (j:Nat) (p:Nat×Nat): ∀l,lsm x rs j (l ++ [p])=lsm x rs j l+x p.1*ceE rs p.1 j
 | []=>by simp[lsm]
 | q:: l=>by rw[XQ,lsm,lsm,Qap x rs j p l];omega
def tbE:Xs
 | 0=>16
 | 1=>1312
 | 2=>9185312
 | _=>64306369312
def btE:Xs
 | 0=>81
 | _=>7000
def Qrc: ∀k,k<=2->tbE k+tbE k*btE k<=tbE (k+1)
 | 0,_=>by decide
 | 1,_=>by decide
 | 2,_=>by decide
def Qu4: ∀k,k<=3->tbE k<=1099511627776
 | 0,_=>by decide
 | 1,_=>by decide
 | 2,_=>by decide
 | 3,_=>by decide
def Qwp {M:Nat} {rs:Zp} {us:Z6} {pv:Q4} {c:Nat} (h:SG M rs us pv c): ∃pl,PLs rs pv c pl/\pl.length<=M:=by
 obtain⟨pl,hP,hC⟩:=h;refine⟨pl,hP,?_⟩;rcases hC with⟨_,h1,_⟩ | ⟨_,_,_,_,_,_,h1⟩ | ⟨_,_,_,_,_,h1⟩ | ⟨_,_,_,h1,_⟩ | ⟨_,h1⟩
 ·omega
 ·rcases h1 with⟨h2,h3,_⟩ | ⟨h2,h3,_⟩ <;> omega
 ·rcases h1 with⟨h2,h3,_⟩ | ⟨h2,h3,_⟩ | ⟨h2,h3,_⟩ <;> omega
 ·omega
 ·omega
structure ChN (t0:Nat->Int) (rs:List (List Int)) (pv:List Int) (x:Nat->Int) (pl:List (Nat×Nat)) (d k:Nat):Prop where
 le:k<=pl.length
 iff: ∀(i:Nat) (p:Nat×Nat),pl[i]? =some p->(i < k↔p.2 < d)
 eq: ∀j,TT t0 rs pv x d j=t0 j - lsm x rs j (pl.take k)
 bd:k<=3->∀j,(TT t0 rs pv x d j).natAbs<=tbE k
def Jo:=@List.take_add_one
def Qib {rs0 rs:Zp} {us:Z6} {pv:Q4} {L n:Nat} (h:EI rs0 rs us pv L n) {pl:Me} (hP:PLs rs pv n pl) {t0:Nat->Int} {x:Nat->Int} (ht0: ∀j,j < n->t0 j=cmb x rs j) (h16: ∀j,(t0 j).natAbs<=16):
  ∀d,d<=n->∃k,ChN t0 rs pv x pl d k
 | 0,_=>⟨0,by omega,fun i p _=>by omega,fun j=>by simp[TT,lsm],fun _ j=>h16 j⟩
 | d+1,hd=>by
  obtain⟨k,hk⟩:=Qib h hP ht0 h16 d (by omega);have hn:=Qeq h (ht0 d (by omega)) (c:=d) (by omega);rcases h.pp d (by omega)with q | ⟨b,q1,q2,q3⟩
  ·have hs: ∀j,stT rs pv x d j=0:=fun j=>by unfold stT;rw[Qe q]
   refine⟨k,hk.le,fun i p hp=> ?_,fun j=>by rw[TT,hs,hk.eq j];omega,fun h3 j=>by rw[TT,hs];have:=hk.bd h3 j;omega⟩;have h1:=hk.iff i p hp;have h2:p.2≠d:=fun e=>by
    have:=(hP.mem p (X9 hp)).2;rw[e,q]at this;omega
   rw[h1];omega
  ·have hs: ∀j,stT rs pv x d j=x b*ceE rs b j:=fun j=>by unfold stT;rw[Qb (by omega),q1,T8]
   obtain⟨p,hpm,hpd⟩: ∃p∈pl,p.2=d:=by
    rcases hP.all d (by omega)with e | e
    ·omega
    ·exact e
   have hpb:p.1=b:=by
    have:=(hP.mem p hpm).2;rw[hpd,q1]at this;omega
   obtain⟨i0,hi0⟩:=SA hpm;have hil:i0 < pl.length:=by
    rcases Zt i0 pl.length with e | e
    ·exact e
    ·rw[ZF e]at hi0;cases hi0
   have hik:i0=k:=by
    have h1:=hk.iff i0 p hi0;rcases Zt k i0 with e | e
    ·obtain⟨q,hq⟩: ∃q,pl[k]? =some q:=⟨_,Q0 (by omega)⟩;have h2:=hP.inc k i0 q p e hq hi0;have h3:=(hk.iff k q hq).2 (by omega);omega
    ·omega
   subst hik;refine⟨i0+1,by omega,fun i q hq=> ?_,fun j=> ?_,fun h3 j=> ?_⟩
   ·have h1:=hk.iff i q hq;rcases LA i i0 with e | e | e
    ·exact⟨fun _=>by have:=h1.1 e;omega,fun _=>by omega⟩
    ·subst e;rw[hi0]at hq;injection hq with hq
     subst hq;omega
    ·have:=hP.inc i0 i p q e hi0 hq;omega
   ·rw[TT,hs,hk.eq j,Jo,hi0];simp only[Option.toList];rw[Qap,hpb];omega
   ·have hb:=hk.bd (by omega) j;have hbd:=hk.bd (by omega) d;have hx: (x b).natAbs<=tbE i0:=by
     rw[hn,hs,UE]at hbd;have: (x b).natAbs*1<=(x b).natAbs* (ceE rs b d).natAbs:=XG _ (by omega);omega
    have hce: (ceE rs b j).natAbs<=btE i0:=by
     obtain⟨e0,e2⟩:=hP.bd i0 p hi0;rw[hpb]at e0 e2
     match i0,h3 with
     | 0,_=>exact e0 rfl j
     | 1,_=>exact e2 (by omega) j
     | 2,_=>exact e2 (by omega) j
    rw[TT,hs];have h5:=Mf hx hce;have h6:=Qrc i0 (by omega);refine Y8 (ab2 _ _) ?_;generalize (x b*ceE rs b j).natAbs=P at *;generalize (TT t0 rs pv x d j).natAbs=Q at *;omega
def GG:=@Int.natAbs_pos
def Qrl {rs0 rs:Zp} {us:Z6} {pv:Q4} {L n d:Nat} (h:EI rs0 rs us pv L n) (h4:rs0.length=4) (hn0: ∀i,i < 4->nrE (rwE rs0 i)<=9) {pl:Me} (hP:PLs rs pv n pl) {t0:Nat->Int} {x:Nat->Int} (ht0: ∀j,j < n->t0 j=cmb x rs j) (h16: ∀j,(t0 j).natAbs<=16)
  (hd:d<=n) (hk:ChN t0 rs pv x pl d 4) (j:Nat): (TT t0 rs pv x d j).natAbs<=524880:=by
 have hlen:=h.len;have hle:=hk.le;obtain⟨p1,h1⟩: ∃p,pl[0]? =some p:=⟨_,Q0 (by omega)⟩;obtain⟨p2,h2⟩: ∃p,pl[1]? =some p:=⟨_,Q0 (by omega)⟩;obtain⟨p3,h3⟩: ∃p,pl[2]? =some p:=⟨_,Q0 (by omega)⟩;obtain⟨p4,h4'⟩: ∃p,pl[3]? =some p:=⟨_,Q0 (by omega)⟩;have i12:=hP.inc 0 1 p1 p2 (by omega) h1 h2;have i23:=hP.inc 1 2 p2 p3 (by omega) h2 h3;have i34:=hP.inc 2 3 p3 p4 (by omega) h3 h4';have i4d:=(hk.iff 3 p4 h4').1 (by omega);have htk:pl.take 4=[p1,p2,p3,p4]:=by
  rw[Jo,Jo,Jo,Jo,h1,h2,h3,h4'];rfl
 have heq:=hk.eq;rw[htk]at heq;obtain⟨b1,d1⟩:=p1;obtain⟨b2,d2⟩:=p2;obtain⟨b3,d3⟩:=p3;obtain⟨b4,d4⟩:=p4;simp only[lsm,Int.add_zero]at heq i12 i23 i34 i4d;have pm: ∀b e:Nat,(b,e)∈pl->e < n/\pv.getD e (-1)=(b:Int)/\b < 4/\ceE rs b e≠0:=fun b e hm=>by
  obtain⟨q1,q2⟩:=hP.mem (b,e) hm;simp only at q1 q2;rcases h.pp e q1 with q | ⟨b',k1,k2,k3⟩
  ·omega
  ·have:b'=b:=by omega
   subst this;exact⟨q1,q2,by omega,k3⟩
 obtain⟨n1,v1,l1,g1⟩:=pm b1 d1 (X9 h1);obtain⟨n2,v2,l2,g2⟩:=pm b2 d2 (X9 h2);obtain⟨n3,v3,l3,g3⟩:=pm b3 d3 (X9 h3);obtain⟨n4,v4,l4,g4⟩:=pm b4 d4 (X9 h4');have nb: ∀b b' e e':Nat,e < n->e' < n->e≠e'->pv.getD e (-1)=(b:Int)->pv.getD e' (-1)=(b':Int)->b≠b':=fun b b' e e' k1 k2 k3 k4 k5 k6=>by
  subst k6;exact k3 (h.dj e e' k1 k2 (by rw[k4,k5]) (by rw[k4];omega))
 have d12:=nb b1 b2 d1 d2 n1 n2 (by omega) v1 v2;have d13:=nb b1 b3 d1 d3 n1 n3 (by omega) v1 v3;have d14:=nb b1 b4 d1 d4 n1 n4 (by omega) v1 v4;have d23:=nb b2 b3 d2 d3 n2 n3 (by omega) v2 v3;have d24:=nb b2 b4 d2 d4 n2 n4 (by omega) v2 v4;have d34:=nb b3 b4 d3 d4 n3 n4 (by omega) v3 v4;have zz: ∀b e e':Nat,b < 4->e < e'->e' < n->pv.getD e' (-1)=(b:Int)->ceE rs b e=0:=fun b e e' k1 k2 k3 k4=>h.zr b e (by omega) (by omega) fun d' hd' k5=>by
  have:=h.dj d' e' (by omega) k3 (by rw[k5,k4]) (by rw[k5];omega);omega
 have z21:=zz b2 d1 d2 l2 i12 n2 v2;have z31:=zz b3 d1 d3 l3 (by omega) n3 v3;have z41:=zz b4 d1 d4 l4 (by omega) n4 v4;have z32:=zz b3 d2 d3 l3 i23 n3 v3;have z42:=zz b4 d2 d4 l4 (by omega) n4 v4;have z43:=zz b4 d3 d4 l4 i34 n4 v4;have t1:=LX h (ht0 d1 n1) hd (show d1 < d by omega);have t2:=LX h (ht0 d2 n2) hd (show d2 < d by omega);have t3:=LX h (ht0 d3 n3) hd (show d3 < d by omega);have t4:=LX h (ht0 d4 n4) hd i4d;by_cases hj:j=d1\/j=d2\/j=d3\/j=d4
 ·have:TT t0 rs pv x d j=0:=by rcases hj with e | e | e | e <;> rw[e] <;> assumption
  rw[this];decide
 ·have e1:=heq d1;have e2:=heq d2;have e3:=heq d3;have e4:=heq d4;have ej:=heq j;rw[t1,z21,z31,z41]at e1;rw[t2,z32,z42]at e2;rw[t3,z43]at e3;rw[t4]at e4;have ht:=Qpr (rwF rs b1) (rwF rs b2) (rwF rs b3) (rwF rs b4) t0 (TT t0 rs pv x d j) (x b1) (x b2) (x b3) (x b4) d1 d2 d3 d4 j z21 z31 z41 z32 z42 z43
   (by show t0 d1=x b1*ceE rs b1 d1;omega) (by show t0 d2=x b1*ceE rs b1 d2+x b2*ceE rs b2 d2;omega) (by show t0 d3=x b1*ceE rs b1 d3+x b2*ceE rs b2 d3+x b3*ceE rs b3 d3;omega)
   (by show t0 d4=x b1*ceE rs b1 d4+x b2*ceE rs b2 d4+x b3*ceE rs b3 d4+x b4*ceE rs b4 d4;omega) (by show t0 j=TT t0 rs pv x d j+x b1*ceE rs b1 j+x b2*ceE rs b2 j+x b3*ceE rs b3 j+x b4*ceE rs b4 j;omega)
  have D4: ∀i j k l:Nat,i≠j->i≠k->i≠l->j≠k->j≠l->k≠l->(dt4 (rwF rs b1) (rwF rs b2) (rwF rs b3) (rwF rs b4) i j k l).natAbs<=6561:=fun i j k l a1 a2 a3 a4 a5 a6=>by
   rw[h.dt h4 b1 b2 b3 b4 l1 l2 l3 l4 d12 d13 d14 d23 d24 d34];have hR:=fun i' hi'=>QdY a1 a2 a3 a4 a5 a6 (hn0 i' hi');exact Qii (hR b1 l1) (hR b2 l2) (hR b3 l3) (hR b4 l4)
  have hle5:=QtL (a:=rwF rs b1) (b:=rwF rs b2) (c:=rwF rs b3) (d:=rwF rs b4) (t:=t0) (i:=d1) (j:=d2) (k:=d3) (l:=d4) (m:=j) h16 (D4 _ _ _ _ (by omega) (by omega) (by omega) (by omega) (by omega) (by omega)) (D4 _ _ _ _ (by omega) (by omega) (by omega) (by omega) (by omega) (by omega))
   (D4 _ _ _ _ (by omega) (by omega) (by omega) (by omega) (by omega) (by omega)) (D4 _ _ _ _ (by omega) (by omega) (by omega) (by omega) (by omega) (by omega)) (D4 _ _ _ _ (by omega) (by omega) (by omega) (by omega) (by omega) (by omega))
  rw[ht,UE]at hle5;have hg:1<=(rwF rs b1 d1*rwF rs b2 d2*rwF rs b3 d3*rwF rs b4 d4).natAbs:=by
   rw[UE,UE,UE];exact TK (TK (TK (GG.2 g1) (GG.2 g2)) (GG.2 g3)) (GG.2 g4)
  have:=Yy (TT t0 rs pv x d j).natAbs hg;rw[O6]at this;exact Y8 this hle5
def Qwh {rs0:Zp} {L n:Nat} (hM:rs0.length<=4) (hL: ∀i,i < rs0.length->(rwE rs0 i).length=L) (hn: ∀i,i < rs0.length->nrE (rwE rs0 i)<=9) (hLb:L<=1000) (hnL:n<=L) {s:Zp×Z6×Q4} (he:elE rs0 n=some s)
  {t:Q4} (htl:t.length=L) (h16: ∀j,(t.getD j 0).natAbs<=16):rdE s.1 s.2.2 n 0 t=0↔∃y:Nat->Int,∀j,j < n->t.getD j 0=cmb y rs0 j:=by
 obtain⟨s',e1,hE,hS⟩:=AJ hM hL hn hLb n hnL;have:s'=s:=by rw[he]at e1;exact(Option.some.inj e1).symm
 subst this;obtain⟨pl,hP,hpl⟩:=Qwp hS;constructor
 ·intro hr;obtain⟨x,hx⟩:=EA hE n 0 t (by omega) htl (fun j hj=>by omega) hr;obtain⟨y,hy⟩:=hE.e2 x;exact⟨y,fun j hj=>by rw[hx j hj,hy]⟩
 ·rintro⟨y,hy⟩
  obtain⟨x,hx⟩:=hE.e1 y;have ht0: ∀j,j < n->(fun j=>t.getD j 0) j=cmb x s'.1 j:=fun j hj=>by
   show t.getD j 0=_;rw[hy j hj,hx]
  refine IU hE (t0:=fun j=>t.getD j 0) ht0 (fun d hd j=> ?_) n 0 t (by omega) htl fun j=>rfl;obtain⟨k,hk⟩:=Qib hE hP ht0 h16 d hd;have hk4:=hk.le;by_cases h3:k<=3
  ·exact Y8 (hk.bd h3 j) (Qu4 k h3)
  ·have e4:k=4:=by omega
   subst e4;exact Y8 (Qrl hE (by omega) (fun i hi=>hn i (by omega)) hP ht0 h16 hd hk j) (by decide)
set_option maxRecDepth 20000
def Hg (x) (a:x.strip=x) (o B):appM 8 1 (.gs 0 0 0 0) (.sl o 1 [[x]]) B=some (.gs B.length 0 1 1,B ++ [[x]]):=by
 simp[appM,XR,a]
def JK (x) (g:x.strip=x) (o) {B c a} (f:B[c]? =some a) (b:a≠[]) (h:a.map AV.strip=a) (j:a.length < 1000000):
  appM 8 1 (.gs c 0 1 a.length) (.sl o 1 [[x]]) B=some (.gs B.length 0 1 (a.length+1),B.set c []++ [a ++ [x]]):=by
 have i: ¬a.length=0:=fun e=>b (Yu e);have d:XR 1 (.sl o 1 [[x]]) B=some (1,[x]):=by simp[XR,g]
 simp only[appM,d,QO];rw[Qe ⟨by omega,by omega⟩,Qb (by omega),Qb (by omega),Qe ⟨trivial,trivial⟩,f];simp only[QO];rw[Qe ⟨b,by omega⟩,Qb (by omega),GP,Z7 (QX _),h]
def gpL (x0 i:Nat):Qx:=(List.range i).map fun i=>AV.gp (x0+4*i+3) 0
def Ee (a i): (gpL a i).length=i:=by simp[gpL]
def QiP (a i): (gpL a i).map AV.strip=gpL a i:=by simp[gpL,AV.strip]
def QlJ (a i):gpL a i ++ [.gp (a+4*i+3) 0]=gpL a (i+1):=by simp[gpL,List.range_succ]
structure SB (B:List (List AV)) (x0 n:Nat) (cols:AV) (rs:List (List Int)) (m i j:Nat):Prop where
 x:B[x0]? =some [cols,.gs (if i=0 then 0 else x0+4*i) 0 (if i=0 then 0 else 1) i,.gs (if j=0 then 0 else x0+4*i+j) 0 (if j=0 then 0 else 1) j,.bool false]
 rl:i≠0->B[x0+4*i]? =some (gpL x0 i)
 pl:j≠0->B[x0+4*i+j]? =some (Qq (List.replicate j (-1)))
 row: ∀k,k < i->B[x0+4*k+3]? =some [.gs (x0+4*k+1) 0 1 n,.gs (x0+4*k+2) 0 1 m,.bool false]/\B[x0+4*k+1]? =some (Qq ((rwE rs k).take n))/\B[x0+4*k+2]? =some (Qq ((rwE rs k).drop n))
 len:B.length=x0+1+4*i+j
def QuU {B a n d g m i} (h:SB B a n d g m i 0) (I: (rwE g i).length=n+m) (p)
  (b:p=((if i=0 then B ++ [Qq ((rwE g i).take n),Qq ((rwE g i).drop n),[.gs (a+4*i+1) 0 1 n,.gs (a+4*i+2) 0 1 m,.bool false]]else(B ++ [Qq ((rwE g i).take n),Qq ((rwE g i).drop n),[.gs (a+4*i+1) 0 1 n,.gs (a+4*i+2) 0 1 m,.bool false]]).set (a+4*i) [])++ [gpL a (i+1)]).set a [d,.gs (a+4* (i+1)) 0 1 (i+1),.gs 0 0 0 0,.bool false]):
  SB p a n d g m (i+1) 0:=by
 have f:=h.len;obtain⟨C,l⟩: ∃C,C=B ++ [Qq ((rwE g i).take n),Qq ((rwE g i).drop n),[.gs (a+4*i+1) 0 1 n,.gs (a+4*i+2) 0 1 m,.bool false]]:=⟨_,rfl⟩;rw[<- l]at b;obtain⟨D,o⟩: ∃D,D=(if i=0 then C else C.set (a+4*i) []):=⟨_,rfl⟩;rw[<- o]at b;have r:C.length=a+4*i+4:=by rw[l];simp;omega
 have v:D.length=a+4*i+4:=by rw[o];split <;> simp[r]
 have z:C[a+4*i+1]? =some (Qq ((rwE g i).take n)):=by rw[l,Yq (by omega)];simp[f];rw[show a+4*i+1 - (a+1+4*i)=0 by omega];rfl
 have s:C[a+4*i+2]? =some (Qq ((rwE g i).drop n)):=by rw[l,Yq (by omega)];simp[f];rw[show a+4*i+2 - (a+1+4*i)=1 by omega];rfl
 have y:C[a+4*i+3]? =some [.gs (a+4*i+1) 0 1 n,.gs (a+4*i+2) 0 1 m,.bool false]:=by rw[l,Yq (by omega)];simp[f];rw[show a+4*i+3 - (a+1+4*i)=2 by omega];rfl
 have c: ∀j,j≠a->j≠a+4*i->∀x:Qx,C[j]? =some x->p[j]? =some x:=by intro j u H x E;rw[b,Qy,Qb (fun e=>u e.symm)];refine Za ?_ _;rw[o];split;exact E;rwa[Qy,Qb (fun e=>H e.symm)]
 refine⟨?_,?_,fun G=>absurd rfl G,?_,?_⟩;rw[b,Qy,Qe rfl,Qe (by simp;omega)];simp;intro _;rw[b,Qy,Qb (by omega)];have:a+4* (i+1)=D.length:=by omega
 rw[this,Yv];intro k J;by_cases q:k=i;subst q;exact⟨c _ (by omega) (by omega) _ y,c _ (by omega) (by omega) _ z,c _ (by omega) (by omega) _ s⟩;obtain⟨t,w,A⟩:=h.row k (by omega);refine⟨c _ (by omega) (by omega) _ ?_,c _ (by omega) (by omega) _ ?_,c _ (by omega) (by omega) _ ?_⟩;rw[l];exact Za t _;rw[l];exact Za w _;rw[l];exact Za A _;rw[b];simp;omega
def QuT {B b n a i m j} (h:SB B b n a i m m j) (f)
  (c:f=((if j=0 then B else B.set (b+4*m+j) [])++ [Qq (List.replicate (j+1) (-1))]).set b [a,.gs (if m=0 then 0 else b+4*m) 0 (if m=0 then 0 else 1) m,.gs (b+4*m+ (j+1)) 0 1 (j+1),.bool false]):
  SB f b n a i m m (j+1):=by
 obtain⟨D,g⟩: ∃D,D=(if j=0 then B else B.set (b+4*m+j) []):=⟨_,rfl⟩;rw[<- g]at c;have q:D.length=b+1+4*m+j:=by rw[g];split <;> simp[(h.len)]
 have d: ∀k,k≠b->(j≠0->k≠b+4*m+j)->∀x:Qx,B[k]? =some x->f[k]? =some x:=by intro k s v x r;rw[c,Qy,Qb (fun e=>s e.symm)];refine Za ?_ _;rw[g];split;exact r;rename_i u;rwa[Qy,Qb (fun e=>v u e.symm)]
 refine⟨?_,?_,?_,?_,?_⟩;rw[c,Qy,Qe rfl,Qe (by simp;omega)];simp;intro t;exact d _ (by omega) (by omega) _ (h.rl t);intro _;rw[c,Qy,Qb (by omega)];have:b+4*m+ (j+1)=D.length:=by omega
 rw[this,Yv];intro k p;obtain⟨o,w,l⟩:=h.row k p;exact⟨d _ (by omega) (by omega) _ o,d _ (by omega) (by omega) _ w,d _ (by omega) (by omega) _ l⟩;rw[c];simp;omega
def Qwo {B d n b a} (h:SB B d n b a a.length a.length n) (f: ∀i,i < a.length->(rwE a i).length=n+a.length) (l: ∀i,i < a.length->okE (rwE a i)=true):
  ES B d n b a (List.replicate a.length false) (List.replicate n (-1)) false:=by
 refine⟨h.x,fun c=>h.rl c,fun c=>h.pl c,by simp,fun i e=> ?_,by simp,f,fun _=>l⟩;obtain⟨g,k,j⟩:=h.row i e;refine⟨?_,k,j⟩;rw[g];simp[Zh,e]
structure GH (l:List (List Pw)) (m:List Pw) (cols:List Tm):Prop where
 len:l.length<=12
 cl:cols.length<=12
 cm: ∀t∈cols,t.mass < 1000000
 ca:Asc cols
 ok: ∀g∈l,okG g
 okm:okG m
 keys: ∀g∈l,Asc (QW g)/\∀q∈g,q.1∈cols
 keym:Asc (QW m)/\∀q∈m,q.1∈cols
def Ot (a m i g): (VQ a m i g).length=a.length+m:=by simp[VQ]
def Qjx (a m i g): (VQ a m i g).take a.length=a.map (pwT g):=by
 rw[VQ,Pq (by simp),Z7 (by simp)]
def Bm:=@List.drop_append_of_le_length
def Qjw (a m i g): (VQ a m i g).drop a.length=(List.replicate m (0:Int)).set i 1:=by
 rw[VQ,Bm (by simp),Pr (by simp)];rfl
def W9 (cols l): (Yf cols l).length=l.length:=by simp[Yf]
def V9 {cols l i} (h:i < l.length):rwE (Yf cols l) i=VQ cols l.length i (l.getD i []):=by
 simp[rwE,Yf,Zh,h]
def KO (m): (List.replicate m [AV.int .i64 0]).flatten=Qq (List.replicate m 0):=by
 rw[Dd];simp[Qq]
def FL (l): (Qq l).all AV.noOwn=true:=by
 simp[Qq,AV.noOwn]
def Qwt {l mp b} (H:GH l mp b) {B0 x0} (hx0:B0.length<=x0) (w K) (Q:Out->Prop) (v1)
  (hq: ∀(r:Yd) (o:Bool) (B':Qp),ZK B0 B'->SB B' x0 b.length (.sl w 4 (Qa b)) (Yf b l) l.length l.length 0->r 0= .sl o 1 (ZS l)->r 1=v1->r 11= .gp x0 0->Q (R tb f562r2 r B' K)):
  ∀h a o J B k,l=a ++ h->ZK B0 B->SB B x0 b.length (.sl w 4 (Qa b)) (Yf b l) l.length a.length 0->k 0= .sl o 1 (ZS l)->k 1=v1->k 11= .gp x0 0->k 50= .sl J 1 (ZS l)->k 51= .int .i64 l.length->k 52= .int .i64 a.length->
  Q (R tb (.loop f562l1) k B (Qi 2 (Qu tb f562r2 K))):=by
 have hl12:=H.len;intro h;induction h with | nil=>intro a o J B k v hP z Y h1 p s q C;simp only[QH]at v;subst v;rw[Qc f562l1.eq_1];simp[s,q,C];apply hq _ o B hP z <;> simp[Y,h1,p] | cons g h IH=>intro a o J B k v hP z Y h1 p s q C;have hg:=QB v;have hll:=QJ v;(have t:a.length < l.length:=by omega);(have j:g∈l:=by rw[v];simp);(have Z:l.getD a.length []=g:=by rw[Zh,hg];rfl);have A:=V9 (cols:=b) t;rw[Z]at A;have c563:=F6 b g false false B (by have:=H.cl;omega) H.cm H.ca (H.ok g j).2 (H.keys g j).1 (H.keys g j).2;have E:=fun o1 o3=>F6 b g o1 o3 B (by have:=H.cl;omega) H.cm H.ca (H.ok g j).2 (H.keys g j).1 (H.keys g j).2;have y:=z.x;simp only[QT]at y;have hlx:=QF y;have hlen:=z.len;have hx2: (B ++ [Qq (b.map (pwT g))])[x0]? =some [.sl w 4 (Qa b),.gs (if a.length=0 then 0 else x0+4*a.length) 0 (if a.length=0 then 0 else 1) a.length,.gs 0 0 0 0,.bool false]:=Za y _;(have q1:l.length*8<=140737488355328:=by omega);(have q2: (l.length:Int)<=4611686018427387904:=by omega);(have O: (B ++ [Qq (b.map (pwT g))]).length=x0+4*a.length+2:=by simp;omega);(have hB2:B ++ [Qq (b.map (pwT g))]++ [Qq (List.replicate l.length 0)]=B ++ [Qq (b.map (pwT g)),Qq (List.replicate l.length 0)]:=by simp);(have M: (B ++ [Qq (b.map (pwT g)),Qq (List.replicate l.length 0)]).length=x0+4*a.length+3:=by simp;omega);(have hBl:B.length=x0+4*a.length+1:=by omega);(have hB3:B ++ [Qq (b.map (pwT g)),Qq (List.replicate l.length 0)]++ [[.gs (x0+4*a.length+1) 0 1 b.length,.gs (x0+4*a.length+2) 0 1 l.length,.bool false]]=B ++ [Qq (b.map (pwT g)),Qq (List.replicate l.length 0),[.gs (x0+4*a.length+1) 0 1 b.length,.gs (x0+4*a.length+2) 0 1 l.length,.bool false]]:=by simp);obtain⟨L,f⟩: ∃L,L=B ++ [Qq (b.map (pwT g)),Qq (List.replicate l.length 0),[.gs (x0+4*a.length+1) 0 1 b.length,.gs (x0+4*a.length+2) 0 1 l.length,.bool false]]:=⟨_,rfl⟩;(have g3:L[x0+4*a.length+3]? =some [.gs (x0+4*a.length+1) 0 1 b.length,.gs (x0+4*a.length+2) 0 1 l.length,.bool false]:=by rw[f,Yq (by omega),show x0+4*a.length+3 - B.length=2 by omega];rfl);(have g2:L[x0+4*a.length+2]? =some (Qq (List.replicate l.length 0)):=by rw[f,Yq (by omega),show x0+4*a.length+2 - B.length=1 by omega];rfl);have g3l:=QF g3;obtain⟨i,N⟩: ∃i,L.set (x0+4*a.length+2) (Qq ((List.replicate l.length (0:Int)).set a.length 1))=i:=⟨_,rfl⟩;(have d:i=B ++ [Qq (b.map (pwT g)),Qq ((List.replicate l.length (0:Int)).set a.length 1),[.gs (x0+4*a.length+1) 0 1 b.length,.gs (x0+4*a.length+2) 0 1 l.length,.bool false]]:=by rw[<- N,f,T3 _ _ (by omega),show x0+4*a.length+2 - B.length=1 by omega];rfl);(have x4:i[x0]? =some [.sl w 4 (Qa b),.gs (if a.length=0 then 0 else x0+4*a.length) 0 (if a.length=0 then 0 else 1) a.length,.gs 0 0 0 0,.bool false]:=by rw[d];exact Za y _);have S:=U0 (List.replicate l.length (0:Int)) 1 (n:=a.length) (by simp;omega);(have D: (Qq (List.replicate l.length (0:Int))).length=l.length:=by simp);have P:a.length+1<=l.length:=t;(have u:i.length=x0+4*a.length+4:=by rw[d];simp;omega);have hno:=FL (List.replicate l.length 0);have hrf:=KO l.length;(obtain⟨V,X,m⟩: ∃V,appM 8 1 (.gs (if a.length=0 then 0 else x0+4*a.length) 0 (if a.length=0 then 0 else 1) a.length) (.sl false 1 [[.gp (x0+4*a.length+3) 0]]) i=some (.gs (x0+4* (a.length+1)) 0 1 (a.length+1),V)/\V=(if a.length=0 then i else i.set (x0+4*a.length) [])++ [gpL x0 (a.length+1)]:=by by_cases c:a.length=0;refine⟨_,?_,rfl⟩;have:=Hg (.gp (x0+4*a.length+3) 0) rfl false i;rw[Qe c,Qe c,Qe c,c];rw[c]at this;rw[this,u,c];simp[gpL,List.range_succ];refine⟨_,?_,rfl⟩;rw[Qb c,Qb c,Qb c];(have W:i[x0+4*a.length]? =some (gpL x0 a.length):=by rw[d];exact Za (z.rl c) _);(have hne:gpL x0 a.length≠[]:=fun e=>by have:=Ee x0 a.length;rw[e]at this;exact c this.symm);have:=JK (.gp (x0+4*a.length+3) 0) rfl false W hne (QiP _ _) (by rw[Ee];omega);rw[Ee,QlJ]at this;rw[this,u,show x0+4*a.length+4=x0+4* (a.length+1) by omega]);obtain⟨I,G⟩: ∃I,V.set x0 [.sl w 4 (Qa b),.gs (x0+4* (a.length+1)) 0 1 (a.length+1),.gs 0 0 0 0,.bool false]=I:=⟨_,rfl⟩;(have x5:V[x0]? =some [.sl w 4 (Qa b),.gs (if a.length=0 then 0 else x0+4*a.length) 0 (if a.length=0 then 0 else 1) a.length,.gs 0 0 0 0,.bool false]:=by(have hD: ∀x:Qx,i[x0]? =some x->(if a.length=0 then i else i.set (x0+4*a.length) [])[x0]? =some x:=by intro x y;split;exact y;rwa[Qy,Qb (by omega)]);rw[m];exact Za (hD _ x4) _);(have U:SB I x0 b.length (.sl w 4 (Qa b)) (Yf b l) l.length (a.length+1) 0:=by refine QuU z (by rw[A,(Ot b l.length a.length g)]) I ?_;rw[A,Qjx,Qjw,<- d,<- m,G]);(have hP2:ZK B0 I:=by rw[<- G];refine ZK.set ?_ hx0 _;rw[m];refine ZK.app ?_ _;(have T:ZK B0 i:=by rw[d];exact hP.app _);split;exact T;exact T.set (by omega) _);have ih:=fun o J k=>IH (a ++ [g]) o J I k (by rw[v];simp) hP2 (by simpa using U);rw[<- f]at hB3;rw[Qc f562l1.eq_1];clear U m z;generalize Qq (List.map (pwT g) b)=RW at *;generalize Qq (List.replicate l.length 0)=RZ at *;generalize Qq ((List.replicate l.length (0:Int)).set a.length 1)=RZ1 at *;generalize (if a.length=0 then 0 else x0+4*a.length)=i1 at *;generalize (if a.length=0 then 0 else 1)=i2 at *;have x5l:=QF x5;(have n3:x0+4*a.length+2 < L.length:=by omega);simp[-getElem?_pos,Qo,Zd,Y,p,s,q,C,hg,(QN v),(wr1 a.length (by omega)),y,E,q1,q2,hrf,hno,D,O,hB2,M,hBl,(f.symm),g3,g2,P,S,N,x4,X,x5,G];refine ih o J _ ?_ ?_ ?_ ?_ ?_ ?_ <;> simp[Y,h1,p,s,q]
end Go.Am
