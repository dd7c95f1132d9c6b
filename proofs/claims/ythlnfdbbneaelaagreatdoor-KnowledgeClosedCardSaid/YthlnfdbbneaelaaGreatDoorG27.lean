/-
  Kc15, Kc13, Kn88, Kc16, AmMemo, KnND.
-/
import Derived.Test.YthlnfdbbneaelaaGreatDoorG26
import Derived.Test.YthlnfdbbneaelaaGreatDoorG15
import Derived.Test.YthlnfdbbneaelaaGreatDoorG11
import Derived.KernelRfl
set_option linter.all false
open Go.Am.F
namespace Go.Am
def NFn (t:Tm):Prop:=ZJ t=(t,0)/\(isB t EXP=true->isB (kid t 0) EXP=false)
def NF (t:Tm):Prop:=∀x∈Zu t,NFn x
def QaB {t x:Tm} (h:NF t) (hx:x∈Zu t):NF x:=fun y hy=>h y (SE t x y hx hy)
def QdT {t:Tm} (h:NF t):ZJ t=(t,0):=(h t (X3 t)).1
def Quw {t:Tm} (h:NF t) (he:isB t EXP=true):isB (kid t 0) EXP=false:=(h t (X3 t)).2 he
def QdR {t:Tm} (h:NF t): ∀x∈t.kids,NF x:=fun x hx=>QaB h (SN hx)
def Qnw {n:Zq} {s:Int} {us:Qj} {k:Int} (h:NFn (.mk k n s us)) (hu: ∀x∈us,NF x):NF (.mk k n s us):=fun y hy=>by
 simp only[Zu,Zf]at hy;rcases hy with rfl | hy
 ·exact h
 ·obtain⟨t,ht,hy⟩:=UV.1 hy;exact hu t ht y hy
def QdS {k:Int} {n:Zq} {s:Int} (h:k≠3):NF (.mk k n s []):=Qnw ⟨by simp only[ZJ];rw[Qb h],fun he=>by simp[isB,h]at he⟩ fun x hx=>by cases hx
def Tc:NF QU:=QdS (by decide)
def Qay {t:Tm} (h:NF t) (i:Nat):NF (kid t i):=by
 unfold kid;rw[Zh];cases hg:t.kids[i]? with
 | none=>exact Tc
 | some x=>exact QdR h x (X9 hg)
def QfS {us:Qj} (h: ∀x∈us,NF x) (i:Nat):NF (us.getD i QU):=by
 rw[Zh];cases hg:us[i]? with
 | none=>exact Tc
 | some x=>exact h x (X9 hg)
def Qaz: ∀{us:Qj},(∀x∈us,NF x)->YE us=(us,0)
 | [],_=>rfl
 | x:: us,h=>by
  have h1:=QdT (h x (by simp));have h2:=Qaz fun y hy=>h y (Tl x hy);simp[YE,h1,h2]
def RX {n:Zq} {us:Qj} (hu: ∀x∈us,NF x) (h:Yo n us=(.mk 3 n 0 us,0)) (he:n=EXP->isB (us.getD 0 QU) EXP=false):NF (.mk 3 n 0 us):=by
 refine Qnw ⟨?_,fun hb=> ?_⟩ hu
 ·simp only[ZJ];rw[Qaz hu];simp[h]
 ·have hn:n=EXP:=by simpa[isB]using hb
  exact he hn
def Qaa (us:Qj):Yo XOR us=W5 us:=by
 unfold Yo;rw[Qb (by decide),Qe rfl]
def AN: ∀{l:Qj},(∀x∈l,QR x=0)->Wa l=0
 | [],_=>rfl
 | x:: l,h=>by
  simp only[Wa];rw[Qb (by simpa using h x (by simp))];exact AN fun y hy=>h y (by simp[hy])
def Qqp {us:Qj} (h: ∀x∈us,NF x):NF (W5 us).1:=by
 unfold W5;split
 ·exact Tc
 ·split
  ·exact Tc
  ·rename_i hv;have hv:QR (tmX (Z0 [] us))=0:=by simpa using hv
   have hL: ∀y∈Z0 [] us,NF y/\QD y=[y]:=fun y hy=>by
    constructor
    ·rcases Ox us [] y hy with h1 | h1
     ·cases h1
     ·obtain⟨t,ht,h1⟩:=UV.1 h1;exact QaB (h t ht) h1
    ·rcases OQ us [] y hy with h1 | h1
     ·cases h1
     ·exact h1
   have hA:=Mk us [] Asc.nil
   show NF (tmX (Z0 [] us))
   match hh:Z0 [] us with
   | []=>
    refine RX (n:=Ys) (us:=[]) (fun x hx=>by cases hx) ?_ (fun e=>absurd e (by decide));unfold Yo;rw[Qb (by decide),Qb (by decide),Qb (by decide),Qb (by decide)]
   | [p]=>simp only[tmX];exact(hL p (by rw[hh];simp)).1
   | p:: q:: r=>
    simp only[tmX];rw[hh]at hL hA hv;simp only[tmX]at hv;have hfix:=QmT hA fun y hy=>(hL y hy).2;have hk: (p:: q:: r).length<=8:=by
     have:=Om (t:= .mk 3 XOR 0 (p:: q:: r)) (by
      have h1:=(Xm hv).1;exact(Qiv h1).1)
     exact this.2.1
    refine RX (fun x hx=>(hL x hx).1) ?_ (fun e=>absurd e (by decide));rw[Qaa];unfold W5;have hre:VU (p:: q:: r)=0:=by
     unfold VU;rw[Qb (by omega)];exact AN fun x hx=>PT hv (SN (t:= .mk 3 XOR 0 (p:: q:: r)) hx)
    have hv2:QR (tmX (p:: q:: r))=0:=hv;rw[hfix,Qb (by simpa using hre),Qb (by simpa using hv2)];rfl
def Kq {n:Zq} (hn:n=MUL\/n=INV\/n=ONE) (us:Qj):Yo n us=YV (.mk 3 n 0 us):=by
 have h1:Uq n=false:=by rcases hn with rfl | rfl | rfl <;> decide
 have h2:n≠XOR:=by rcases hn with rfl | rfl | rfl <;> decide
 unfold Yo;rw[Qb (by simp[h1]),Qb h2,Qe hn]
def HM {l:Qw} (hv:Q5 l=0) (h8: (Zo l).length<=8) (hr:QR (Zv (Zo l))=0):ofE (Zv (Zo l))=0/\ofP (Zv (Zo l))=l/\YV (Zv (Zo l))=(Zv (Zo l),0):=by
 have hv2:vPL none l=0:=by
  unfold Q5 at hv;split at hv
  ·cases hv
  ·exact hv
 obtain⟨h1,h2,_⟩:=MH l none hv2;obtain⟨e1,e2⟩:=QqB (fun q hq=>(h1 q hq).2.1) ⟨h2,fun q hq=>(h1 q hq).2.2.1⟩ h8 hr;refine⟨e1,e2,?_⟩;unfold YV;rw[Qb (by simpa using e1),e2];unfold Z2;rw[Qb (by simpa using hv),Qb (by omega),Qb (by simpa using hr)]
def Qux {y:Tm} (hy:NF y) (hs:Yx y=false) (hv:QR (Wp y)=0):NF (Wp y):=by
 have hvy:QR y=0:=PT hv (SN (t:=Wp y) (by simp[Wp]));have hvp:Q5 [(y,-1)]=0:=by
  unfold Q5;rw[Qb (by simp)];refine FV _ none (fun q hq=> ?_) (Iy _) (fun a e=>by cases e);rw[XH.1 hq];exact⟨hvy,hs,by simp,by simp,by simp⟩
 have ho:Zo [(y,-1)]=[Wp y]:=by simp[Zo,XJ,XX]
 obtain⟨_,_,h3⟩:=HM hvp (by rw[ho];simp) (by rw[ho];exact hv);rw[ho]at h3;refine RX (fun x hx=>by rw[XH.1 hx];exact hy) ?_ (fun e=>absurd e (by decide));rw[Kq (.inr (.inl rfl))];exact h3
def NP (l:Qw):Prop:=∀q∈l,NF q.1
def QdU {l:Qw} {t:Tm} {m:Int} (h:NP l) (ht:NF t):NP (YX l t m):=by
 intro q hq;rcases VL hq with hq | rfl | ⟨_,_,rfl,_⟩
 ·exact h q hq
 ·exact ht
 ·exact ht
def QdV: ∀(t:Tm) (l:Qw) (m:Int),NP l->NF t->NP (X6 l t m):=by
 refine YC ?_;intro k n s ks ih l m h hm;have hk:=QdR hm;have hL: ∀(xs:Qj) (l:Qw) (m:Int),(∀x∈xs,x∈ks)->NP l->NP (ZZ l xs m):=by
  intro xs
  induction xs with
  | nil=>intro l m _ h;simpa[ZZ]using h
  | cons x xs IH=>
   intro l m hx h;simp only[ZZ];exact IH _ m (fun y hy=>hx y (by simp[hy])) (ih x (hx x (by simp)) l m h (hk x (hx x (by simp))))
 rw[XT];split
 ·exact hL ks l _ (fun x hx=>hx) h
 ·exact QdU h hm
def FG: ∀(b a:Qw),NP a->NP b->NP (Xo a b)
 | [],a,h,_=>h
 | q:: b,a,h,hb=>FG b _ (QdU h (hb q (by simp))) fun x hx=>hb x (by simp[hx])
def QaF {t:Tm} (h:NF t):NP (ofP t):=by
 unfold ofP;split
 ·exact QdV t [] 1 (fun q hq=>by cases hq) h
 ·intro q hq;cases hq
def Qqr {a b:Qw} (ha:NP a) (hb:NP b):NP (X2 a b):=by
 unfold X2;split
 ·exact FG b a ha hb
 ·intro q hq;cases hq
def DE {l:Qw} (h: (Z2 l).2=0):Q5 l=0/\(Zo l).length<=8/\QR (Zv (Zo l))=0/\(Z2 l).1=Zv (Zo l):=by
 unfold Z2 at h ⊢;by_cases c1:Q5 l=0
 ·rw[Qb (by simpa using c1)]at h ⊢;by_cases c2:8 < (Zo l).length
  ·rw[Qe c2]at h;cases h
  ·rw[Qb c2]at h ⊢;by_cases c3:QR (Zv (Zo l))=0
   ·rw[Qb (by simpa using c3)];exact⟨c1,by omega,c3,rfl⟩
   ·rw[Qe (by simpa using c3)]at h;exact absurd h c3
 ·rw[Qe (by simpa using c1)]at h;exact absurd h c1
def Qqo {l:Qw} (hn:NP l) (hv:Q5 l=0) (h8: (Zo l).length<=8) (hr:QR (Zv (Zo l))=0):NF (Zv (Zo l)):=by
 have hv2:vPL none l=0:=by
  unfold Q5 at hv;split at hv
  ·cases hv
  ·exact hv
 obtain⟨k1,_,_⟩:=MH l none hv2;obtain⟨_,_,h3⟩:=HM hv h8 hr;have hop: ∀x∈Zo l,QR x=0->NF x:=fun x hx hvx=>by
  simp only[Zo,XJ,XX,Ze,Sa,Yg]at hx;rcases hx with⟨_,⟨q,hq,rfl⟩,hx⟩ | ⟨_,⟨q,hq,rfl⟩,hx⟩
  ·rw[Re hx];exact hn q hq
  ·rw[Re hx]at hvx ⊢;exact Qux (hn q hq) (k1 q hq).2.1 hvx
 match hh:Zo l with
 | []=>
  rw[hh]at h3;simp only[Zv]at h3 ⊢;exact RX (fun x hx=>by cases hx) ((Kq (.inr (.inr rfl)) _).trans h3) (fun e=>absurd e (by decide))
 | [p]=>
  rw[hh]at hr hop;simp only[Zv]at hr ⊢;exact hop p (by simp) hr
 | p:: q:: r=>
  rw[hh]at hr hop h3;simp only[Zv]at hr h3 ⊢;exact RX (fun x hx=>hop x hx (PT hr (SN (t:= .mk 3 MUL 0 (p:: q:: r)) hx))) ((Kq (.inl rfl) _).trans h3) (fun e=>absurd e (by decide))
def QaC {l:Qw} (hn:NP l):NF (Z2 l).1:=by
 by_cases h: (Z2 l).2=0
 ·obtain⟨h1,h2,h3,h4⟩:=DE h;rw[h4];exact Qqo hn h1 h2 h3
 ·have: (Z2 l).1=QU:=by
   unfold Z2 at h ⊢;split
   ·rfl
   ·split
    ·rfl
    ·split
     ·rfl
     ·rename_i c1 c2 c3;rw[Qb c1,Qb c2,Qb c3]at h;exact absurd rfl h
  rw[this];exact Tc
def Quy {n:Zq} {us:Qj} (hn:n=MUL\/n=INV\/n=ONE) (h: ∀x∈us,NF x):NP (ofP (.mk 3 n 0 us)):=by
 have hs:Yx (.mk 3 n 0 us)=true:=by rcases hn with rfl | rfl | rfl <;> simp[Yx]
 have hL: ∀(xs:Qj) (l:Qw) (m:Int),(∀x∈xs,NF x)->NP l->NP (ZZ l xs m):=by
  intro xs
  induction xs with
  | nil=>intro l m _ h;simpa[ZZ]using h
  | cons x xs IH=>
   intro l m hx h;simp only[ZZ];exact IH _ m (fun y hy=>hx y (by simp[hy])) (QdV x l m h (hx x (by simp)))
 unfold ofP;split
 ·rw[XT,hs];exact hL us [] _ h (fun q hq=>by cases hq)
 ·intro q hq;cases hq
def Qqm {n:Zq} {us:Qj} (hn:n=MUL\/n=INV\/n=ONE) (h: ∀x∈us,NF x):NF (YV (.mk 3 n 0 us)).1:=by
 unfold YV;split
 ·exact Tc
 ·exact QaC (Quy hn h)
def QdQ {b:Tm} {p:Qw} (hb:NF b) (he:isB b EXP=false) (hp:NP p):NF (Vb b p).1:=by
 unfold Vb;split
 ·exact hb
 ·rename_i hp0;split
  ·exact Tc
  ·rename_i ht;have ht: (Z2 p).2=0:=by simpa using ht
   obtain⟨h1,h2,h3,h4⟩:=DE ht;obtain⟨e1,e2,_⟩:=HM h1 h2 h3;refine RX (fun x hx=> ?_) ?_ (fun _=>he)
   ·simp only[Zf,LB,S8]at hx;rcases hx with rfl | rfl
    ·exact hb
    ·exact QaC hp
   ·unfold Yo;rw[Qb (by decide),Qb (by decide),Qb (by decide),Qe rfl]
    show XY b (Z2 p).1=_;unfold XY;rw[h4,Qb (by simpa using e1),Qb (by simp[he]),e2];unfold Vb;rw[Qb hp0,Qb (by simpa using ht),h4]
def Qqn {b e:Tm} (hb:NF b) (he:NF e):NF (XY b e).1:=by
 unfold XY;split
 ·exact Tc
 ·split
  ·rename_i hx;split
   ·exact Tc
   ·split
    ·exact Tc
    ·exact QdQ (Qay hb 0) (Quw hb hx) (Qqr (QaF (Qay hb 1)) (QaF he))
  ·rename_i hx;exact QdQ hb (by simpa using hx) (QaF he)
def Qpl (n:Zq) (us:Qj):Q8 n us= .mk 3 n 0 us\/∃i,Q8 n us=kid (us.getD 0 QU) i:=by
 simp only[Q8]
 repeat' split
 all_goals first | exact .inl rfl | exact .inr ⟨_,rfl⟩
def Ql4 {n:Zq} {us:Qj} (h: ∀x∈us,NF x):NF (Yo n us).1:=by
 by_cases c1:Uq n=true
 ·have e:Yo n us=(Q8 n us,0):=by unfold Yo;rw[Qe c1]
  rw[e];rcases Qpl n us with e2 | ⟨i,e2⟩
  ·show NF (Q8 n us);rw[e2]at e ⊢;exact RX h e (fun hn=>by rw[hn]at c1;exact absurd c1 (by decide))
  ·show NF (Q8 n us);rw[e2];exact Qay (QfS h 0) i
 ·by_cases c2:n=XOR
  ·rw[c2,Qaa];exact Qqp h
  ·by_cases c3:n=MUL\/n=INV\/n=ONE
   ·rw[Kq c3];exact Qqm c3 h
   ·by_cases c4:n=EXP
    ·have e:Yo n us=XY (us.getD 0 QU) (us.getD 1 QU):=by
      unfold Yo;rw[Qb c1,Qb c2,Qb c3,Qe c4]
     rw[e];exact Qqn (QfS h 0) (QfS h 1)
    ·have e:Yo n us=(.mk 3 n 0 us,0):=by
      unfold Yo;rw[Qb c1,Qb c2,Qb c3,Qb c4]
     rw[e];exact RX h e (fun hn=>absurd hn c4)
mutual
theorem QaA: ∀t:Tm,XO t=0->NF (ZJ t).1
 | .mk k n s ks,h=>by
  simp only[XO]at h;split at h
  ·rename_i h1;exact absurd h h1
  ·rename_i h1;obtain⟨_,_,_,hb⟩:=Om (t:= .mk k n s ks) (by simpa using h1);simp only[Ux,ZP]at hb;simp only[ZJ];split
   ·split
    ·exact Ql4 (Do ks h)
    ·exact Tc
   ·rename_i hk;have:=hb hk;subst this;exact QdS hk
theorem Do: ∀ts:List Tm,Vo ts=0->∀x∈(YE ts).1,NF x
 | [],_,x,hx=>by simp[YE]at hx
 | t:: ts,h,x,hx=>by
  simp only[Vo]at h;split at h
  ·rename_i h1;exact absurd h h1
  ·rename_i h1;simp only[YE]at hx;split at hx
   ·split at hx
    ·simp at hx;rcases hx with rfl | hx
     ·exact QaA t (by simpa using h1)
     ·exact Do ts h x hx
    ·simp at hx
   ·simp at hx
end
mutual
theorem Qc7: ∀(t x:Tm),XO t=0->X5 t=0->x∈Zu t->X5 x=0
 | .mk k n s ks,x,he,h,hx=>by
  simp only[Zu,Zf]at hx;rcases hx with rfl | hx
  ·exact h
  ·simp only[XO]at he;split at he
   ·rename_i h1;exact absurd he h1
   ·rename_i h1;obtain⟨_,_,_,hb⟩:=Om (t:= .mk k n s ks) (by simpa using h1);simp only[Ux,ZP]at hb;by_cases hk:k=3
    ·refine Av ks x he ?_ hx;simp only[X5]at h;rw[Qb (by simpa using hk)]at h;split at h
     ·cases h
     ·split at h
      ·cases h
      ·split at h
       ·cases h
       ·split at h
        ·cases h
        ·exact h
    ·rw[hb hk]at hx;cases hx
theorem Av: ∀(ts:List Tm) (x:Tm),Vo ts=0->SU ts=0->x∈Zk ts->X5 x=0
 | [],x,_,_,hx=>by simp[Zk]at hx
 | t:: ts,x,he,h,hx=>by
  simp only[Vo]at he;split at he
  ·rename_i h1;exact absurd he h1
  ·rename_i h1;simp only[SU]at h;split at h
   ·rename_i h2;exact absurd h h2
   ·rename_i h2;simp only[Zk,Ze]at hx;rcases hx with hx | hx
    ·exact Qc7 t x (by simpa using h1) (by simpa using h2) hx
    ·exact Av ts x he h hx
end
def Qju {t x:Tm} (h:Xp t=0) (hx:x∈Zu t):Xp x=0:=by
 have hr:=IX (IY h) hx;unfold Xp at h;by_cases c:thV t=0
 ·rw[Qb (by simpa using c)]at h;by_cases c2:U3 t=[]
  ·rw[Qb (by simpa using c2)]at h;have c3:Vi t=true:=by
    by_cases c3:Vi t=true
    ·exact c3
    ·rw[Qb c3]at h;cases h
   obtain⟨h1,h2,h3,h4,h5⟩:=LW c;have he:=(Xm h1).1;simp only[Vi,Qr,QM]at c3;have e0:=Z4 _ _ c3.1.2;have e1: (ZJ t).1=t:=by
    have c4:=c3.1.1;unfold Yw at c4 e0;rw[Qb (by simpa using c)]at c4 e0;by_cases d1: (ZJ t).2=0
    ·rw[Qb (by simpa using d1)]at c4 e0;by_cases d2:QR (ZJ t).1=0
     ·rw[Qb (by simpa using d2)]at e0;exact e0
     ·rw[Qe (by simpa using d2)]at c4;exact absurd c4 d2
    ·rw[Qe (by simpa using d1)]at c4;exact absurd c4 d1
   have hnf:NF t:=by have:=QaA t he;rwa[e1]at this
   have hn:=QdT (QaB hnf hx);have hvx:=hr.v;have hth:thV x=0:=by
    unfold thV;rw[Qb (by simpa using hvx)];exact Qc7 t x he h2 hx
   have hev:evT x=true:=by
    have h6:=c3.2;rw[Eb,X0]at h6 ⊢;exact fun y hy=>h6 y (SE t x y hx hy)
   have hnv:Yw x=(x,0):=by
    unfold Yw;rw[Qb (by simpa using hth),hn,Qb (by simp),Qb (by simpa using hvx)]
   unfold Xp;rw[Qb (by simpa using hth),Qb (by simp[QdA (fun y hy=>hr.gr y hy)]),Qe ?_];simp[Vi,hnv,Xc,hev]
  ·rw[Qe (by simpa using c2)]at h;cases h
 ·rw[Qe (by simpa using c)]at h;exact absurd h c
set_option maxRecDepth 20000
def QiT {n:Zq} {x y:Tm} (hx:gvT x) (hy:gvT y):gvT (.mk 3 n 0 [x,y]):=TN fun z hz=>by
 simp only[Zf,LB,S8]at hz;rcases hz with rfl | rfl
 ·exact hx
 ·exact hy
def He (bs:Qp) (at_ K M:Nat) (r:Out):Prop:=∃(t:Tm) (m:Nat),r=some (.tup [.agg (Qd t),.int .i64 m],bs)/\at_<=m/\m<=at_+K/\t.mass<=M/\gvT t
def Gd:=@Int.tmod_eq_emod_of_nonneg
def NA (b:XZ) (at_ c d:Nat) (o:Bool) (bs:Qp) (j:Nat) (hat:at_ < 1000) (hd:d < 100) (hb: (at_ < b.length/\b[at_]? =some c)\/(b.length<=at_/\c=0)) (hc:c < 256) (h3:4<=d\/c % 3=0):
  He bs at_ (nK j) (nM j) (call tb 283 [.sl o 1 (Vy b),.int .i64 at_,.int .i64 d,.bool false] bs):=by
 have h1:=F3 bs;have hw:IntKind.i64.wrap (c:Int)=c:=QC (by omega) (by omega);have hw1:IntKind.i64.wrap ((at_:Int)+1)=(at_:Int)+1:=QC (by omega) (by omega);obtain⟨q,hq,hq2⟩: ∃q:Nat,IntKind.i64.wrap ((c:Int) / 3)=(q:Int)/\q=c / 3:=⟨c / 3,by rw[QC (by omega) (by omega)];omega,rfl⟩;obtain⟨k,hk,hk2⟩: ∃k:Nat,((q:Int)).tmod 10=(k:Int)/\k < 10:=⟨q % 10,by rw[Gd (by omega)];omega,by omega⟩;have hll:Vh.length=10:=rfl;obtain⟨t,ht⟩: ∃t,Vh[k]? =some t:=⟨Vh[k]'(by omega),Q0 _⟩;obtain⟨m1,m2⟩:=Qqg ht;have hmem:t∈Vh:=X9 ht;have hne: ¬Vh=[]:=by simp[Vh]
 have hkl:k < Vh.length:=by omega
 refine⟨t,at_+1,?_,by omega,by have:=Qat j;omega,by have:=Qi1 j;omega,Qp2 hmem⟩;rw[zcc 283 rfl rfl];have e3: ((c:Int).tmod 3=0)=(c % 3=0):=by rw[Gd (by omega)];exact propext (by omega)
 have e4: (4<=(d:Int))=(4<=d):=propext (by omega);have hgk:Vh[k]'hkl=t:=(Wj.1 ht).2;have hgi: (Qa Vh)[k]'(by rw[Wn];exact hkl)=Qd t:=by
  have h3: (Qa Vh)[k]? =some (Qd t):=by simp[ht]
  exact(Wj.1 h3).2
 rcases hb with⟨hl,hb⟩ | ⟨hl,rfl⟩
 ·have hg:=AK hb;have hlt: (at_:Int) < (b.length:Int):=by omega
  by_cases h4:4<=d
  ·simp[f283C,hg,hlt,Wy,hw,hw1,e4,h4,h1,hq,hk,hll,hne,hkl,hgi,hk2]
  ·have h5:c % 3=0:=by omega
   simp[f283C,hg,hlt,Wy,hw,hw1,e3,e4,h4,h5,h1,hq,hk,hll,hne,hkl,hgi,hk2]
 ·have hlt: ¬(at_:Int) < (b.length:Int):=by omega
  have hq0:q=0:=by omega
  subst hq0;simp only[Int.natCast_zero]at hk;have hk0:k=0:=by have: (0:Int).tmod 10=0:=rfl;omega
  subst hk0;have hw0:IntKind.i64.wrap 0=0:=rfl;have ht0:t= .mk 2 [110,97] 2 []:=by simp[Vh]at ht;exact ht.symm
  by_cases h4:4<=d
  ·simp[f283C,hlt,Wy,hw1,e4,h4,h1,Vh,Qa,ht0,hw0]
  ·simp[f283C,hlt,Wy,hw1,e4,h4,h1,Vh,Qa,ht0,hw0]
set_option maxHeartbeats 20000000 in
def Qi4 (b:XZ) (at_ c d:Nat) (o:Bool) (bs:Qp) (j:Nat) (hat:at_+nK (j+1)<=1000) (hd:d < 4) (hb:b[at_]? =some c) (hc:c < 256) (h3:c % 3≠0)
  (ih: ∀(a:Nat),a+nK j<=1000->He bs a (nK j) (nM j) (call tb 283 [.sl false 1 (Vy b),.int .i64 a,.int .i64 ((d:Int)+1),.bool false] bs)):
  He bs at_ (nK (j+1)) (nM (j+1)) (call tb 283 [.sl o 1 (Vy b),.int .i64 at_,.int .i64 d,.bool false] bs):=by
 have h1:=F3 bs;have hl:=(Wj.1 hb).1;have hg:=AK hb;have hlt: (at_:Int) < (b.length:Int):=by omega
 have e3: ((c:Int).tmod 3=0)=(c % 3=0):=by rw[Gd (by omega)];exact propext (by omega)
 have e4: (4<=(d:Int))=(4<=d):=propext (by omega);have h4: ¬4<=d:=by omega
 have hw:IntKind.i64.wrap (c:Int)=c:=QC (by omega) (by omega);have hw1:IntKind.i64.wrap ((at_:Int)+1)=(at_:Int)+1:=QC (by omega) (by omega);have hw2:IntKind.i64.wrap ((d:Int)+1)=(d:Int)+1:=QC (by omega) (by omega);obtain⟨q,hq,hq2⟩: ∃q:Nat,IntKind.i64.wrap ((c:Int) / 3)=(q:Int)/\q=c / 3:=⟨c / 3,by rw[QC (by omega) (by omega)];omega,rfl⟩;have hr: ((q:Int)).tmod 11=((q % 11:Nat):Int):=by rw[Gd (by omega)];omega
 have hrl:q % 11 < 11:=by omega
 generalize q % 11=r at *;simp only[nK]at hat;obtain⟨x,m1,a1,a2,a3,a4,a5⟩:=ih (at_+1) (by omega);obtain⟨y,m2,b1,b2,b3,b4,b5⟩:=ih m1 (by omega);simp only[GB,BL]at a1;have hA1: ∀n z o,call tb 120 [.str n,.sl o 4 [Qd z]] bs=some (.agg (Qd (.mk 3 n 0 [z])),bs):=fun n z o=>RF n [z] o bs (by simp);have hA2: ∀n z w o,call tb 120 [.str n,.sl o 4 [Qd z,Qd w]] bs=some (.agg (Qd (.mk 3 n 0 [z,w])),bs):=fun n z w o=>RF n [z,w] o bs (by simp);have hone: ∀n:Zq,n.length<=10->(∀X,X=some (.tup [.agg (Qd (.mk 3 n 0 [x])),.int .i64 m1],bs)->He bs at_ (nK (j+1)) (nM (j+1)) X):=fun n hn X hX=>
  ⟨_,_,hX,by omega,by simp only[nK];omega,by simp only[nM,Tm.mass,Qv,ZH,Xy];omega,TN fun z hz=>by rw[XH.1 hz];exact a5⟩
 have htwo: ∀n:Zq,n.length<=10->(∀X,X=some (.tup [.agg (Qd (.mk 3 n 0 [x,y])),.int .i64 m2],bs)->He bs at_ (nK (j+1)) (nM (j+1)) X):=fun n hn X hX=>
  ⟨_,_,hX,by omega,by simp only[nK];omega,by simp only[nM,Tm.mass,Qv,ZH,Xy];omega,QiT a5 b5⟩
 have hpk: ∀X,X=some (.tup [.agg (Qd (.mk 3 Zz 0 [x,.mk 3 PK 0 [y]])),.int .i64 m2],bs)->He bs at_ (nK (j+1)) (nM (j+1)) X:=fun X hX=>
  ⟨_,_,hX,by omega,by simp only[nK];omega,by simp only[nM,Tm.mass,Qv,ZH,Xy,Zz,PK];omega,QiT a5 (TN fun z hz=>by rw[XH.1 hz];exact b5)⟩
 rw[zcc 283 rfl rfl];have hr11:r=0\/r=1\/r=2\/r=3\/r=4\/r=5\/r=6\/r=7\/r=8\/r=9\/r=10:=by omega
 clear hq2 hrl;rcases hr11 with rfl | rfl | rfl | rfl | rfl | rfl | rfl | rfl | rfl | rfl | rfl
 ·refine hone [104,97,115,104] (by simp) _ ?_;simp[f283C,hg,hlt,Wy,hw,hw1,hw2,e3,h3,e4,h4,h1,hq,hr,a1,b1,hA1,hA2,Zz,PK]
 ·refine hone [112,107] (by simp) _ ?_;simp[f283C,hg,hlt,Wy,hw,hw1,hw2,e3,h3,e4,h4,h1,hq,hr,a1,b1,hA1,hA2,Zz,PK]
 ·refine hone [105,110,118] (by simp) _ ?_;simp[f283C,hg,hlt,Wy,hw,hw1,hw2,e3,h3,e4,h4,h1,hq,hr,a1,b1,hA1,hA2,Zz,PK]
 ·refine htwo [101,110,99] (by simp) _ ?_;simp[f283C,hg,hlt,Wy,hw,hw1,hw2,e3,h3,e4,h4,h1,hq,hr,a1,b1,hA1,hA2,Zz,PK]
 ·refine htwo [101,110,99] (by simp) _ ?_;simp[f283C,hg,hlt,Wy,hw,hw1,hw2,e3,h3,e4,h4,h1,hq,hr,a1,b1,hA1,hA2,Zz,PK]
 ·refine hpk _ ?_;simp[f283C,hg,hlt,Wy,hw,hw1,hw2,e3,h3,e4,h4,h1,hq,hr,a1,b1,hA1,hA2,Zz,PK]
 ·refine htwo [115,105,103,110] (by simp) _ ?_;simp[f283C,hg,hlt,Wy,hw,hw1,hw2,e3,h3,e4,h4,h1,hq,hr,a1,b1,hA1,hA2,Zz,PK]
 ·refine htwo [120,111,114] (by simp) _ ?_;simp[f283C,hg,hlt,Wy,hw,hw1,hw2,e3,h3,e4,h4,h1,hq,hr,a1,b1,hA1,hA2,Zz,PK]
 ·refine htwo [101,120,112] (by simp) _ ?_;simp[f283C,hg,hlt,Wy,hw,hw1,hw2,e3,h3,e4,h4,h1,hq,hr,a1,b1,hA1,hA2,Zz,PK]
 ·refine htwo [109,117,108] (by simp) _ ?_;simp[f283C,hg,hlt,Wy,hw,hw1,hw2,e3,h3,e4,h4,h1,hq,hr,a1,b1,hA1,hA2,Zz,PK]
 ·refine htwo [112,97,105,114] (by simp) _ ?_;simp[f283C,hg,hlt,Wy,hw,hw1,hw2,e3,h3,e4,h4,h1,hq,hr,a1,b1,hA1,hA2,Zz,PK]
def Qk1 (b:XZ) (hb: ∀n∈b,n < 256) (bs:Qp): ∀(j at_ d:Nat) (o:Bool),d+j=4->at_+nK j<=1000->
  He bs at_ (nK j) (nM j) (call tb 283 [.sl o 1 (Vy b),.int .i64 at_,.int .i64 d,.bool false] bs):=by
 intro j
 induction j with
 | zero=>
  intro at_ d o hd hat;have:=Qat 0;rcases Zt at_ b.length with hl | hl
  ·exact NA b at_ b[at_] d o bs 0 (by omega) (by omega) (.inl ⟨hl,Q0 hl⟩) (hb _ (VH hl)) (.inl (by omega))
  ·exact NA b at_ 0 d o bs 0 (by omega) (by omega) (.inr ⟨hl,rfl⟩) (by omega) (.inl (by omega))
 | succ j ih=>
  intro at_ d o hd hat;have:=Qat (j+1);rcases Zt at_ b.length with hl | hl
  ·have h1:b[at_]? =some b[at_]:=Q0 hl;have h2:=hb _ (VH hl);by_cases h3:b[at_] % 3=0
   ·exact NA b at_ b[at_] d o bs (j+1) (by omega) (by omega) (.inl ⟨hl,h1⟩) h2 (.inr h3)
   ·exact Qi4 b at_ b[at_] d o bs j hat (by omega) h1 h2 h3 fun a ha=>by
     have:=ih a (d+1) false (by omega) ha;simpa using this
  ·exact NA b at_ 0 d o bs (j+1) (by omega) (by omega) (.inr ⟨hl,rfl⟩) (by omega) (.inr rfl)
def DV (t:Tm):Prop:=t.mass<=13200/\Xp t=0
def GrV (bs:Qp) (r:Out):Prop:=∃t:Tm,r=some (.agg (Qd t),bs)/\DV t
def B9 (b:XZ) (hb: ∀n∈b,n < 256) (o:Bool) (bs:Qp):GrV bs (call tb 282 [.sl o 1 (Vy b),.bool false] bs):=by
 obtain⟨t,m,h1,h2,h3,h4,h5⟩:=Qk1 b hb bs 3 0 1 false rfl (by decide);have h1':call tb 283 [.sl false 1 (Vy b),.int .i64 0,.int .i64 1,.bool false] bs=some (.tup [.agg (Qd t),.int .i64 m],bs):=h1;have h4':t.mass<=460:=h4;have h6:=QcF t bs (by unfold big;omega);have hv:=Kz t;have h7:=Qof (Yw t).1 bs (by omega);have h8:=F3 bs;simp only[ZD]at h6;rw[zcc 282 rfl rfl];have hleaf:DV (.mk 2 [110,97] 2 []):=⟨by decide,by rfl⟩;by_cases c1: (Yw t).2=0
 ·cases c2:Vi (Yw t).1
  ·refine⟨_,?_,hleaf⟩;simp[f282C,h1',h6,h7,h8,c1,c2,Vh,Qa]
  ·refine⟨(Yw t).1,?_,hv,QlO (QlN h5) c2⟩;simp[f282C,h1',h6,h7,h8,c1,c2]
 ·refine⟨_,?_,hleaf⟩;simp[f282C,h1',h6,h8,c1,Vh,Qa]
def LsV (bs:Qp) (n:Nat) (r:Out):Prop:=∃l:Qj,r=some (.sl false 4 (Qa l),bs)/\l.length<=n/\∀t∈l,DV t
def QeR (l:List XZ) (hl: ∀b∈l,∀n∈b,n < 256) (bs:Qp) (hln:l.length < 1000000):
  ∀(post pre:List XZ) (us:Qj) (o:Bool) (ρ:Yd),l=pre ++ post->us.length=pre.length->pre.length<=8->(∀t∈us,DV t)->ρ 0= .sl o 1 (WK l)->ρ 1= .bool false->ρ 5= .sl true 4 (Qa us)->ρ 6= .int .i64 pre.length->
  LsV bs (min l.length 8) (R tb (.loop f281l0) ρ bs (Qi 0 (Qu tb f281r0 (Qz f281 bs)))):=by
 intro post
 induction post with
 | nil=>
  intro pre us o ρ hk hu h8 hd h0 h1 h5 h6;simp only[QH]at hk;subst hk;rw[Qc f281l0.eq_1];refine⟨us,?_,by omega,hd⟩;simp[h0,h1,h5,h6,J0,f281r0]
 | cons x post IH=>
  intro pre us o ρ hk hu h8 hd h0 h1 h5 h6;have hg:=Qik (QB hk);have hll:=QJ hk;have hw1:=wr1 pre.length (by omega);have hlt:=QN hk;rw[Qc f281l0.eq_1];by_cases h8':pre.length=8
  ·refine⟨us,?_,by omega,hd⟩;have e: (pre.length:Int)=8:=by omega
   rw[e]at h6 hlt;simp[h0,h1,h5,h6,hlt,J0,f281r0]
  ·have hlt8: (pre.length:Int) < 8:=by omega
   obtain⟨t,ht,hdt⟩:=B9 x (hl x (by rw[hk];simp)) false bs;have hb: (us.length+1)*56<=140737488355328:=Wb (by omega);have hi:=fun ρ=>IH (pre ++ [x]) (us ++ [t]) o ρ (by rw[hk];simp) (by simp[hu]) (by simp;omega) (fun y hy=>by
    rcases Ze.1 hy with hy | hy
    ·exact hd y hy
    ·simp at hy;subst hy;exact hdt)
   simp[h0,h1,h5,h6,hg,hlt,hlt8,hw1,ht,hb,J0,ZN,Q7];apply hi <;> simp[h0,h1]
def Qk0 (l:List XZ) (hl: ∀b∈l,∀n∈b,n < 256) (bs:Qp) (hln:l.length < 1000000) (o:Bool):LsV bs (min l.length 8) (call tb 281 [.sl o 1 (WK l),.bool false] bs):=by
 have h:=fun ρ=>QeR l hl bs hln l [] [] false ρ rfl rfl (by simp) (by simp);rw[zcc 281 rfl rfl];simp[f281C];apply h <;> simp[Qa]
def Qgq (l:List XZ):Bool:=l.all (fun b=>decide (b.length<=12)) && decide (l.length<=5)
def QuX (l) (x:l.length < 4611686018427387904) (B):
  ∀a d o h f,l=d ++ a->f 0= .sl o 1 (WK l)->f 5= .sl h 1 (WK l)->f 6= .int .i64 l.length->f 7= .int .i64 d.length->
  R tb (.loop f620l0) f B (Qi 0 (Qu tb f620r0 (Qz f620 B)))=some (.bool (a.all (fun b=>decide (b.length<=12)) && decide (l.length<=5)),B):=by
 have r: (WK l).length=l.length:=by simp[WK]
 intro a;induction a with | nil=>intro d o h f g s i n j;simp only[QH]at g;rw[<- g]at j;(have v: (l.length<=5)↔(l.length:Int)<=5:=by omega);generalize WK l=E at *;rw[Qc f620l0.eq_1];simp[s,i,n,j,r,v,f620r0] | cons b a u=>intro d o h f g s i n j;have w:=QJ g;have p:=wr1 d.length (by omega);have m:=QN g;(have k: (WK l)[d.length]? =some [.sl false 1 (Vy b)]:=by simp[WK,(QB g)]);(have q: (Vy b).length=b.length:=by simp[Vy]);generalize WK l=E at *;generalize Vy b=y at *;rw[Qc f620l0.eq_1];by_cases c:b.length<=12;(have t: ¬(12:Int) < (b.length:Int):=by omega);(have e: ((b:: a).all (fun b=>decide (b.length<=12)))=a.all (fun b=>decide (b.length<=12)):=by simp[c]);rw[e];simp[-getElem?_pos,Qo,i,n,j,m,p,k,q,t];rw[(fun o h f=>u (d ++ [b]) o h f (by rw[g];simp)) o h] <;> simp[s,i,n];(have t: (12:Int) < (b.length:Int):=by omega);(have e: ((b:: a).all (fun b=>decide (b.length<=12)))=false:=by simp[c]);rw[e];simp[-getElem?_pos,Qo,i,n,j,m,p,k,q,t]
def Qpb (l) (c:l.length < 4611686018427387904) (o B):call tb 620 [.sl o 1 (WK l)] B=some (.bool (Qgq l),B):=by
 have a: (WK l).length=l.length:=by simp[WK]
 unfold Qgq;rw[zcc 620 rfl rfl];simp[f620C];have b:=(fun d=>QuX l c B l [] false false d rfl);simp only[Xy]at b;rw[b] <;> simp[a]
structure KC (k j:List Tm) (t:Tm):Prop where
 e:knE j (ZR (k ++ [t]))=0
 c:knT j (ZR (k ++ [t]))=kcl (ZR (k ++ [t])) (QL j)
 ps:PsI (ZR (k ++ [t])) (QL j)
 kn:KN j (ZR (k ++ [t]))
def Qrm {k m:Qj} (h:Np k m=0):k.length<=60/\VF (k ++ m)=0/\szT (ZR (k ++ m))=0:=by
 unfold Np at h;split at h
 ·cases h
 ·split at h
  ·rename_i h2;exact absurd h h2
  ·rename_i h1 h2;exact⟨by omega,by simpa using h2,h⟩
def Qnu {k j:Qj} {t:Tm} (hK:KI (k ++ [t])) (he:Np k [t]=0) (hj: ∀x∈j,x∈k ++ [t]) (hl:j.length<=k.length):KC k j t:=by
 have hU:=Qby hK he;obtain⟨h1,h2,h3⟩:=Qrm he;have hmem:=Ry h2;have hset:=Qco hU.asc;have hul:=hU.uc.len;have hps:PsI (ZR (k ++ [t])) (QL j):=IQ hj;have htr:VF (j ++ ZR (k ++ [t]))=0:=HW fun x hx=>by
  rcases Ze.1 hx with hx | hx
  ·exact hmem x (hj x hx)
  ·obtain⟨y,hy,hx⟩:=UZ.1 hx;exact Qju (hmem y hy) hx
 have hmis:HI j (ZR (k ++ [t]))=false:=by
  unfold HI;rw[BE];intro x hx;have hx:=ZO.1 hx;obtain⟨y,hy,hx⟩:=UV.1 hx;have:x∈ZR (k ++ [t]):=by
   rcases Ze.1 hy with hy | hy
   ·exact UZ.2 ⟨y,hj y hy,hx⟩
   ·obtain⟨z,hz,hy⟩:=UZ.1 hy;exact UZ.2 ⟨z,hz,SE z y x hy hx⟩
  have:QA (QL (ZR (k ++ [t]))) x=true:=Yj.2 (ZO.2 this);simp[this]
 have hE:knE j (ZR (k ++ [t]))=0:=by
  unfold knE;rw[Qb (by omega),Qb (by simpa using htr),Qb (by simp[hmis]),hset];exact h3
 refine⟨hE,?_,hps,⟨by omega,by omega,fun x hx=> ?_⟩⟩
 ·unfold knT;rw[Qe hE,hset]
 ·rcases Ze.1 hx with hx | hx
  ·exact hK.ms x (hj x hx)
  ·exact hU.uk.ms x hx
def Qfi {k j:Qj} {t:Tm} (hK:KI (k ++ [t])) (he:Np k [t]=0) (hj: ∀x∈j,x∈k) (hl:j.length<=k.length):
  (∀x∈ZR (k ++ [t]),XS (kcl (ZR (k ++ [t])) (QL k)) x=QA (kcl (ZR (k ++ [t])) (QL k)) x)/\
  (∀x,QA (kcl (ZR (k ++ [t])) (QL j)) x=true->QA (kcl (ZR (k ++ [t])) (QL k)) x=true)/\
  (∀x∈k,QA (kcl (ZR (k ++ [t])) (QL k)) x=true):=by
 have hU:=Qby hK he;have hI:=Em hU.ps;have hsh:=Qlb hU.asc hU.ps;have hge:=Qid XS (u:=ZR (k ++ [t])) ((ZR (k ++ [t])).length+1) (QL k);refine⟨fun x hx=> ?_,fun x hx=> ?_,fun x hx=> ?_⟩
 ·rcases hsh x hx with h1 | h1
  ·have h2:XS (kcl (ZR (k ++ [t])) (QL k)) x=true:=by
    have h1':QA (kcl (ZR (k ++ [t])) (QL k)) x=true:=h1;unfold XS;simp[h1']
   rw[h2];exact h1.symm
  ·have h2:QA (kcl (ZR (k ++ [t])) (QL k)) x=false:=by
    cases h3:QA (kcl (ZR (k ++ [t])) (QL k)) x
    ·rfl
    ·have h4:XS (kcl (ZR (k ++ [t])) (QL k)) x=true:=by unfold XS;simp[h3]
     exact absurd (h4.symm.trans h1) (by decide)
   rw[h2];exact h1
 ·have hjp:PsI (ZR (k ++ [t])) (QL j):=IQ fun y hy=>Ze.2 (.inl (hj y hy));exact Yj.2 (EX hU.uc hU.asc hI hsh _ (QL j) hjp (fun y hy=>hge y (ZO.2 (hj y (ZO.1 hy)))) x (Yj.1 hx))
 ·exact Yj.2 (hge x (ZO.2 hx))
def Qv9 {k C:Qj} (hh: ∀x∈k,QA C x=true) (c250: ∀(o:Bool) (x:Tm),x∈k->call tb 250 [.sl o 4 (Qa C),.agg (Qd x)] []=some (.bool (QA C x),[])) (hl:k.length < 100000):
  ∀(post pre:Qj) (o11 o95:Bool) (ρ:Yd),k=pre ++ post->ρ 11= .sl o11 4 (Qa C)->ρ 95= .sl o95 4 (Qa k)->ρ 96= .int .i64 k.length->ρ 97= .int .i64 pre.length->
  R tb (.loop f733l1) ρ [] (Qi 2 (Qu tb f733r0 (Qz f733 [])))=some (.bool true,[]):=by
 intro post
 induction post with
 | nil=>
  intro pre o11 o95 ρ hp h11 h95 h96 h97;simp only[QH]at hp;rw[<- hp]at h97;rw[Qc f733l1.eq_1];simp[h11,h95,h96,h97,f733r0]
 | cons x post IH=>
  intro pre o11 o95 ρ hp h11 h95 h96 h97;have hgt:=QB hp;have hll:k.length=pre.length+ (post.length+1):=by rw[hp];simp
  have hw1:=wr1 pre.length (by omega);have hlt: (pre.length:Int) < (k.length:Int):=by omega
  have hxk:x∈k:=by rw[hp];simp
  have c:=c250 false x hxk;rw[hh x hxk]at c;have ih:=fun o11 o95 ρ=>IH (pre ++ [x]) o11 o95 ρ (by rw[hp];simp);rw[Qc f733l1.eq_1];simp[h11,h95,h96,h97,hgt,hlt,hw1,c,Qf];apply ih o11 o95 <;> simp[h11,h95,h96]
def Qv8 {u k C D:Qj} (hst: ∀x∈u,XS C x=QA C x) (hdc: ∀x,QA D x=true->QA C x=true) (hh: ∀x∈k,QA C x=true)
  (c308: ∀(o:Bool) (x:Tm),x∈u->call tb 308 [.sl o 4 (Qa C),.agg (Qd x)] []=some (.bool (XS C x),[]))
  (c250: ∀(o:Bool) (x:Tm),x∈u\/x∈k->call tb 250 [.sl o 4 (Qa C),.agg (Qd x)] []=some (.bool (QA C x),[]))
  (c250d: ∀(o:Bool) (x:Tm),x∈u->call tb 250 [.sl o 4 (Qa D),.agg (Qd x)] []=some (.bool (QA D x),[])) (hul:u.length < 100000) (hl:k.length < 100000):
  ∀(post pre:Qj) (o7 o11 o13 o70:Bool) (ρ:Yd),u=pre ++ post->ρ 7= .sl o7 4 (Qa k)->ρ 11= .sl o11 4 (Qa C)->ρ 13= .sl o13 4 (Qa D)->ρ 70= .sl o70 4 (Qa u)->ρ 71= .int .i64 u.length->ρ 72= .int .i64 pre.length->
  R tb (.loop f733l0) ρ [] (Qi 0 (Qu tb f733r1 (Qz f733 [])))=some (.bool true,[]):=by
 intro post
 induction post with
 | nil=>
  intro pre o7 o11 o13 o70 ρ hp h7 h11 h13 h70 h71 h72;simp only[QH]at hp;rw[<- hp]at h72;have hel: (Qa k).length=k.length:=Wn k;have h1:=fun o11 o95 ρ=>Qv9 hh (fun o x hx=>c250 o x (.inr hx)) hl k [] o11 o95 ρ rfl;rw[Qc f733l0.eq_1];simp[h7,h11,h13,h70,h71,h72,f733r1,hel];apply h1 o11 false <;> simp[h11,h7]
 | cons x post IH=>
  intro pre o7 o11 o13 o70 ρ hp h7 h11 h13 h70 h71 h72;have hgt:=QB hp;have hll:u.length=pre.length+ (post.length+1):=by rw[hp];simp
  have hw1:=wr1 pre.length (by omega);have hlt: (pre.length:Int) < (u.length:Int):=by omega
  have hxu:x∈u:=by rw[hp];simp
  have c1:=c308 false x hxu;have c2:=c250 false x (.inl hxu);have c3:=c250d false x hxu;rw[hst x hxu]at c1;have hd:=hdc x;have ih:=fun o7 o11 o13 o70 ρ=>IH (pre ++ [x]) o7 o11 o13 o70 ρ (by rw[hp];simp);rw[Qc f733l0.eq_1];cases d:QA D x
  ·rw[d]at c3;simp[h7,h11,h13,h70,h71,h72,hgt,hlt,hw1,c1,c2,c3,Qf];apply ih o7 o11 o13 o70 <;> simp[h7,h11,h13,h70,h71]
  ·rw[hd d]at c1 c2;rw[d]at c3;simp[h7,h11,h13,h70,h71,h72,hgt,hlt,hw1,c1,c2,c3,Qf];apply ih o7 o11 o13 o70 <;> simp[h7,h11,h13,h70,h71]
def Ja (l:List XZ) (b:XZ) (n:Nat) (h0:call tb 602 [] []=some (.bool true,[])) (hll:l.length < 4611686018427387904) (hl: ∀x∈l,∀n∈x,n < 256) (hb: ∀n∈b,n < 256) (hn:n < 256):
  call tb 733 [.sl false 1 (WK l),.sl false 1 (Vy b),.int .u8 n] []=some (.bool true,[]):=by
 have c620:=fun o=>Qpb l hll o [];have hbl: (Vy b).length=b.length:=by simp[Vy]
 rw[zcc 733 rfl rfl];cases hs:Qgq l
 ·rw[hs]at c620;generalize WK l=EL at *;generalize Vy b=EB at *;simp[f733C,h0,c620]
 ·rw[hs]at c620;by_cases c:b.length<=12
  ·have c2: ¬(12:Int) < (b.length:Int):=by omega
   simp only[Qgq,Qr,QM]at hs;obtain⟨k,c281,hk1,hk2⟩:=Qk0 l hl [] (by omega) false;obtain⟨t,c282,ht⟩:=B9 b hb false [];have hm:min l.length 8<=5:=by omega
   have hkm:=Qaq (l:=k) (M:=13200) fun x hx=>(hk2 x hx).1;have hkm2:k.length*13200<=5*13200:=Yy _ (by omega);have htm:=ht.1;have hK:KI (k ++ [t]):=by
    refine⟨by simp;omega,.inr (by simp;omega),?_,fun x hx=> ?_⟩
    ·rw[VC];simp only[Qv];omega
    ·rcases Ze.1 hx with hx | hx
     ·have:=(hk2 x hx).1;omega
     ·rw[XH.1 hx];omega
   obtain⟨o1,c608⟩:=Qo7 k t hK false [];have htr:VF (k ++ [t])=0:=HW fun x hx=>by
    rcases Ze.1 hx with hx | hx
    ·exact(hk2 x hx).2
    ·rw[XH.1 hx];exact ht.2
   by_cases he:Np k [t]=0
   ·have hU:=Qby hK he;have hjm: ∀x∈k.take n,x∈k:=fun x hx=>List.mem_of_mem_take hx;have hjl: (k.take n).length<=k.length:=by rw[Ye];omega
    have kc1:=Qnu hK he (j:=k) (fun x hx=>Ze.2 (.inl hx)) (QX _);have kc2:=Qnu hK he (j:=k.take n) (fun x hx=>Ze.2 (.inl (hjm x hx))) hjl;obtain⟨o2,c609a⟩:=Qc5 k (ZR (k ++ [t])) kc1.kn false false [];obtain⟨o3,c609b⟩:=Qc5 (k.take n) (ZR (k ++ [t])) kc2.kn false false [];rw[kc1.e,kc1.c]at c609a;rw[kc2.e,kc2.c]at c609b;rw[he,Qe rfl]at c608;obtain⟨g1,g2,g3⟩:=Qfi hK he hjm hjl;have hI:=Em hU.ps;have hJ:=Em kc2.ps;have hul:=hU.uc.len;have hmu: ∀x∈ZR (k ++ [t]),x.mass < big:=LH hU.uk.ms;have c308:=fun(o:Bool) (x:Tm) (hx:x∈ZR (k ++ [t]))=>Qoq (kcl (ZR (k ++ [t])) (QL k)) x o [] (Qka hU.uc hU.asc hI.asc hI.sub hx);have c250:=fun(o:Bool) (x:Tm) (hx:x∈ZR (k ++ [t])\/x∈k)=>P8 (kcl (ZR (k ++ [t])) (QL k)) x o [] (by have:=Qd2 hU.uc hU.asc hI;omega) (LH (QaT hU.uk hI)) (by
     rcases hx with hx | hx
     ·exact hmu x hx
     ·have:=(hk2 x hx).1;unfold big;omega)
    have c250d:=fun(o:Bool) (x:Tm) (hx:x∈ZR (k ++ [t]))=>P8 (kcl (ZR (k ++ [t])) (QL (k.take n))) x o [] (by have:=Qd2 hU.uc hU.asc hJ;omega) (LH (QaT hU.uk hJ)) (hmu x hx);have hloop:=fun o7 o11 o13 o70 ρ=>Qv8 g1 g2 g3 c308 c250 c250d (by omega) (by omega) (ZR (k ++ [t])) [] o7 o11 o13 o70 ρ rfl;have hel: (Qa k).length=k.length:=Wn k;have heu: (Qa (ZR (k ++ [t]))).length=(ZR (k ++ [t])).length:=Wn _;have hw:IntKind.i64.wrap (n:Int)=(n:Int):=QC (by omega) (by omega);rcases Zt n k.length with hlt | hge
    ·have hle:n<=k.length:=by omega
     have htk: (Qa k).take n=Qa (k.take n):=Px k n;generalize kcl (ZR (k ++ [t])) (QL (k.take n))=D at *;generalize kcl (ZR (k ++ [t])) (QL k)=C at *;generalize ZR (k ++ [t])=u at *;generalize WK l=EL at *;generalize Vy b=EB at *;simp[f733C,h0,c620,hbl,c2,c281,c282,Qf,c608,c609a,c609b,hel,heu,htk,hlt,hle,hw];apply hloop false false false false <;> simp
    ·have hnl: ¬n < k.length:=by omega
     have htk: (Qa k).take k.length=Qa k:=by rw[Px,Jz]
     rw[Z7 hge]at c609b hloop;generalize kcl (ZR (k ++ [t])) (QL k)=C at *;generalize ZR (k ++ [t])=u at *;generalize WK l=EL at *;generalize Vy b=EB at *;simp[f733C,h0,c620,hbl,c2,c281,c282,Qf,c608,c609a,c609b,hel,heu,htk,hnl,hw];apply hloop false false false false <;> simp
   ·have he3:Np k [t]=3:=by
     unfold Np at he ⊢;rw[Qb (by omega),Qb (by simpa using htr)]at he ⊢;unfold szT at he ⊢;split
     ·rfl
     ·rename_i hc;rw[Qb hc]at he;exact absurd rfl he
    rw[he3,Qb (by decide)]at c608;generalize Qa k=EK at *;generalize WK l=EL at *;generalize Vy b=EB at *;simp[f733C,h0,c620,hbl,c2,c281,c282,Qf,c608]
  ·have c2: (12:Int) < (b.length:Int):=by omega
   generalize WK l=EL at *;generalize Vy b=EB at *;simp[f733C,h0,c620,hbl,c2]
def Qbc {T K} (h:KLe K (call T)) {n}: ∀{c g x},Z5 K n c g=some x->run T c g=some x:=by
 intro c;induction c with | bad=>intro g x f;simp[Z5]at f | skip=>intro g x f;rwa[Qbh] | ret=>intro g x f;rwa[Qea] | exit v=>intro g x f;rwa[Qbe] | reg d q=>intro g x f;rw[Qd9];simp only[Z5]at f;rcases o:YP K q g with _ | s;rw[o]at f;cases f;rw[Rb h o];rwa[o]at f | seq a b k j=>intro g x f;rw[Qeb];simp only[Z5]at f;rcases i:Z5 K n a g with _ | p;rw[i]at f;cases f;obtain⟨e,s⟩:=p;rw[i]at f;rw[k i];cases e;exact j f;exact f;exact f | cond c a b k j=>intro g x f;rw[Qbd];simp only[Z5]at f;split at f;rename_i l;rw[l];exact k f;rename_i l;rw[l];exact j f;cases f | block v c r=>intro g x f;rw[Dw];simp only[Z5]at f;rcases i:Z5 K n c g with _ | p;rw[i]at f;cases f;rw[i]at f;rwa[r i] | loop c r=>intro g x f;simp only[Z5]at f;(have t: ∀(m:Nat) (g:St) (x:Ex×St),SZ (Z5 K n c) m g=some x->run T (.loop c) g=some x:=by intro m;induction m with | zero=>intro g x f;simp[SZ]at f | succ m u=>intro g x f;rw[Qbg];simp only[SZ]at f;rcases i:Z5 K n c g with _ | p;rw[i]at f;cases f;obtain⟨e,s⟩:=p;rw[i]at f;rw[r i];cases e;exact u _ _ f;exact f;exact f);exact t n g x f
abbrev Yb:=Nat×List AV×List (List AV)×AV×List (List AV)
abbrev Zx:=List Yb
def Fw:Zx->Nat->Qx->Qp->Option (AV×Qp)
 | [],_,_,_=>none
 | (g,ar,b,v,b2):: fs,f,args,bs=>if(g == f && Mq b bs && Si ar args)=true then some (v,b2)else Fw fs f args bs
def ID (T:Sc) (fs:Zx):Nat->Vd
 | 0,_,_,_=>none
 | n+1,f,args,bs=>match Fw fs f args bs with
  | some r=>some r
  | none=>match T f with
   | none=>none
   | some (.orc g)=>g args bs
   | some (.code fn)=>
    if args.length=fn.nparams then
     match Z5 (ID T fs n) n fn.body {env:=Wm args,bs}with
     | some (.normal,σ)=>We fn bs σ
     | some (.ret,σ)=>We fn bs σ
     | _=>none
    else none
def NN (T:Sc):Zx->Prop
 | []=>True
 | (g,ar,b,v,b2):: fs=>call T g ar b=some (v,b2)/\NN T fs
def Qao {T}: ∀{i},NN T i->∀{f a d r},Fw i f a d=some r->call T f a d=some r
 | [],_,_,_,_,_,h=>by simp[Fw]at h
 | (g,m,b,v,l):: i,k,f,a,d,r,h=>by
  simp only[Fw]at h;split at h;rename_i c;simp only[Qr,UG]at c;obtain⟨⟨rfl,j⟩,e⟩:=c;have e:=Ta _ _ e;have j:=LO _ _ j;subst e;subst j;cases h;exact k.1;exact Qao k.2 h
def Ho {T} {d} (j:NN T d): ∀n,KLe (ID T d n) (call T)
 | 0,_,_,_,_,h=>by simp[ID]at h
 | n+1,f,e,l,r,h=>by
  simp only[ID]at h;split at h;rename_i m a;cases h;exact Qao j a;rw[F7];have i:=Ho j n;split at h;cases h;rename_i g c;rwa[c];rename_i o c;rw[c];simp only;split at h;rename_i a;rw[Qe a];split at h;rename_i k b;rwa[Qbc i b];rename_i k b;rwa[Qbc i b];cases h;cases h
def Yi (T:Sc) (L:Zx) (x:Yb):Option (AV×Qp):=ID T L 400 x.1 x.2.1 x.2.2.1
def Ym {T:Sc} {L:Zx} {x:Yb} (o:NN T L) (c:Yi T L x=some x.2.2.2):NN T (x:: L):=⟨Ho o _ _ _ _ _ c,o⟩
def QeF:Zq:=[101,110,99]
def Ve:Qx:=[.int .i64 2,.str [109],.int .i64 0,.sl false 4 []]
def T0:Qx:=[.int .i64 2,.str [107],.int .i64 3,.sl false 4 []]
def Sw:Qx:=[.int .i64 3,.str QeF,.int .i64 0,.sl false 4 [Ve,T0]]
def L1:Qx:=[.int .i64 2,.str [110],.int .i64 2,.sl false 4 []]
def L2:Qx:=[.int .i64 3,.str [112,97,105,114],.int .i64 0,.sl false 4 [L1,T0]]
def L3:Qp:=[Sw,L2]
def Iw:Qp:=[T0,Ve,L1,Sw,L2]
def Qnm:Qp:=[T0,Sw,L2]
def QeG:Qp:=[[.str [101,110,99,40,109,58,97,110,121,44,32,107,58,107,101,121,41]],[.str [112,97,105,114,40,110,58,110,111,110,99,101,44,32,107,58,107,101,121,41]]]
def H1:Qx:=[.int .i64 3,.str [112,97,105,114],.int .i64 0,.sl false 4 [Ve,L1]]
def Cg:Qx:=[.int .i64 3,.str [104,97,115,104],.int .i64 0,.sl false 4 [H1]]
def Ci:Qp:=[T0,Ve,L1,Sw,H1,L2,Cg]
def VR:Qx:=[.int .i64 2,.str [108],.int .i64 3,.sl false 4 []]
def Qhy:Qp:=[T0,VR,Ve,L1,Sw,L2]
def N3:Qx:=[.int .i64 2,.str [103],.int .i64 4,.sl false 4 []]
def S0:Qx:=[.int .i64 2,.str [120],.int .i64 2,.sl false 4 []]
def N4:Qx:=[.int .i64 3,.str [101,120,112],.int .i64 0,.sl false 4 [N3,S0]]
def TF:Qx:=[.int .i64 2,.str [121],.int .i64 2,.sl false 4 []]
def OR:Qx:=[.int .i64 3,.str [109,117,108],.int .i64 0,.sl false 4 [S0,TF]]
def H2:Qx:=[.int .i64 3,.str [101,120,112],.int .i64 0,.sl false 4 [N3,OR]]
def Qhz:Qp:=[N3,S0,TF,N4,OR,H2]
def Cj:Qp:=[TF,N4]
def H3:Qp:=[N3,TF,N4]
def Ck:Qp:=[N3,TF,N4,H2]
def QhA:Qx:=[.str [121,58,110,111,110,99,101]]
def QhB:Qp:=[[.str [101,120,112,40,103,58,100,97,116,97,44,32,120,58,110,111,110,99,101,41]],QhA]
def QhC:Qp:=[N3,S0,TF,N4]
def QhD:Zq:=[120,58,110,111,110,99,101]
def Jc:Qx:=[.int .i64 3,.str QeF,.int .i64 0,.sl false 4 [Sw,VR]]
def OT:Qp:=[Jc]
def H4:Qp:=[T0,VR,Ve,Sw,Jc]
def Jd:Qp:=[T0,Jc]
def H5:Qp:=[VR,Jc]
def Cl:Qp:=[VR,Sw,Jc]
def H6:Qx:=[.int .i64 3,.str QeF,.int .i64 0,.sl false 4 [Ve,VR]]
def Lr:Qp:=[H6]
def H7:Qp:=[VR,Ve,H6]
def Cm:Qp:=[S0,TF,OR]
def H8:Qx:=[.int .i64 2,.str [97],.int .i64 0,.sl false 4 []]
def Je:Qx:=[.int .i64 2,.str [98],.int .i64 0,.sl false 4 []]
def H9:Qx:=[.int .i64 3,.str [120,111,114],.int .i64 0,.sl false 4 [H8,Je]]
def Cn:Qp:=[H8,Je,H9]
def QeE:Zx:=[]
def QeH:Yb:=(518,[.sl false 4 L3,.sl false 4 [Ve]],[],.tup [.sl false 4 Iw,.int .i64 0],[])
def Qnd:Zx:=QeH:: QeE
def QeI:Yb:=(531,[.sl false 4 L3,.agg T0],[],.bool true,[])
def Qne:Zx:=QeI:: Qnd
def QeJ:Yb:=(531,[.sl false 4 Qnm,.agg Ve],[],.bool true,[])
def Qnf:Zx:=QeJ:: Qne
def QeK:Yb:=(531,[.sl false 4 [T0,Ve,Sw,L2],.agg L1],[],.bool true,[])
def Qng:Zx:=QeK:: Qnf
def QeL:Yb:=(529,[.sl false 4 L3,.sl false 4 Iw],[],.sl false 4 Iw,[])
def Qnh:Zx:=QeL:: Qng
def QeM:Yb:=(603,[.str [109,58,97,110,121],.sl false 1 QeG],[],.bool true,[])
def Qni:Zx:=QeM:: Qnh
def QeN:Yb:=(518,[.sl false 4 L3,.sl false 4 [Cg]],[],.tup [.sl false 4 Ci,.int .i64 0],[])
def Qnj:Zx:=QeN:: Qni
def QeO:Yb:=(531,[.sl false 4 Iw,.agg H1],[],.bool true,[])
def Qnk:Zx:=QeO:: Qnj
def QeP:Yb:=(531,[.sl false 4 [T0,Ve,L1,Sw,H1,L2],.agg Cg],[],.bool true,[])
def Qnl:Zx:=QeP:: Qnk
def QeQ:Yb:=(529,[.sl false 4 L3,.sl false 4 Ci],[],.sl false 4 Ci,[])
def QgK:Zx:=QeQ:: Qnl
def Co:Yb:=(603,[.str [104,97,115,104,40,112,97,105,114,40,109,58,97,110,121,44,32,110,58,110,111,110,99,101,41,41],.sl false 1 QeG],[],.bool true,[])
def QgL:Zx:=Co:: QgK
def Cp:Yb:=(518,[.sl false 4 L3,.sl false 4 [VR]],[],.tup [.sl false 4 Qhy,.int .i64 0],[])
def QgM:Zx:=Cp:: QgL
def Cq:Yb:=(531,[.sl false 4 Qnm,.agg VR],[],.bool false,[])
def QgN:Zx:=Cq:: QgM
def Cr:Yb:=(531,[.sl false 4 Iw,.agg VR],[],.bool false,[])
def QgO:Zx:=Cr:: QgN
def Cs:Yb:=(529,[.sl false 4 L3,.sl false 4 Qhy],[],.sl false 4 Iw,[])
def QgP:Zx:=Cs:: QgO
def Ct:Yb:=(603,[.str [108,58,107,101,121],.sl false 1 QeG],[],.bool false,[])
def QgQ:Zx:=Ct:: QgP
def Cu:Yb:=(518,[.sl false 4 [N4,TF],.sl false 4 [H2]],[],.tup [.sl false 4 Qhz,.int .i64 0],[])
def QgR:Zx:=Cu:: QgQ
def Cv:Yb:=(531,[.sl false 4 Cj,.agg N3],[],.bool true,[])
def QgS:Zx:=Cv:: QgR
def Cw:Yb:=(531,[.sl false 4 H3,.agg S0],[],.bool false,[])
def QgT:Zx:=Cw:: QgS
def Cx:Yb:=(531,[.sl false 4 H3,.agg OR],[],.bool false,[])
def QgU:Zx:=Cx:: QgT
def Cy:Yb:=(531,[.sl false 4 H3,.agg H2],[],.bool true,[])
def QgV:Zx:=Cy:: QgU
def Cz:Yb:=(531,[.sl false 4 Ck,.agg S0],[],.bool false,[])
def QgW:Zx:=Cz:: QgV
def CA:Yb:=(531,[.sl false 4 Ck,.agg OR],[],.bool false,[])
def QgX:Zx:=CA:: QgW
def CB:Yb:=(529,[.sl false 4 Cj,.sl false 4 Qhz],[],.sl false 4 Ck,[])
def QgY:Zx:=CB:: QgX
def CD:Yb:=(603,[.str [101,120,112,40,103,58,100,97,116,97,44,32,109,117,108,40,120,58,110,111,110,99,101,44,32,121,58,110,111,110,99,101,41,41],.sl false 1 QhB],[],.bool true,[])
def QgZ:Zx:=CD:: QgY
def CE:Yb:=(518,[.sl false 4 [N4,TF],.sl false 4 [S0]],[],.tup [.sl false 4 QhC,.int .i64 0],[])
def Qg0:Zx:=CE:: QgZ
def CF:Yb:=(529,[.sl false 4 Cj,.sl false 4 QhC],[],.sl false 4 H3,[])
def Qg1:Zx:=CF:: Qg0
def CG:Yb:=(603,[.str QhD,.sl false 1 QhB],[],.bool false,[])
def Qg2:Zx:=CG:: Qg1
def CH:Yb:=(518,[.sl false 4 OT,.sl false 4 [Ve]],[],.tup [.sl false 4 H4,.int .i64 0],[])
def Qg3:Zx:=CH:: Qg2
def CI:Yb:=(531,[.sl false 4 OT,.agg T0],[],.bool false,[])
def Qg4:Zx:=CI:: Qg3
def CJ:Yb:=(531,[.sl false 4 OT,.agg VR],[],.bool false,[])
def Qg5:Zx:=CJ:: Qg4
def CK:Yb:=(531,[.sl false 4 OT,.agg Ve],[],.bool false,[])
def Qg6:Zx:=CK:: Qg5
def CL:Yb:=(531,[.sl false 4 OT,.agg Sw],[],.bool false,[])
def Qg7:Zx:=CL:: Qg6
def CM:Yb:=(529,[.sl false 4 OT,.sl false 4 H4],[],.sl false 4 OT,[])
def Qg8:Zx:=CM:: Qg7
def CN:Yb:=(531,[.sl false 4 Jd,.agg VR],[],.bool false,[])
def Qg9:Zx:=CN:: Qg8
def CP:Yb:=(531,[.sl false 4 Jd,.agg Ve],[],.bool false,[])
def Qha:Zx:=CP:: Qg9
def CQ:Yb:=(531,[.sl false 4 Jd,.agg Sw],[],.bool false,[])
def Qhb:Zx:=CQ:: Qha
def CR:Yb:=(529,[.sl false 4 Jd,.sl false 4 H4],[],.sl false 4 Jd,[])
def Qhc:Zx:=CR:: Qhb
def CS:Yb:=(531,[.sl false 4 H5,.agg T0],[],.bool false,[])
def Qhd:Zx:=CS:: Qhc
def CT:Yb:=(531,[.sl false 4 H5,.agg Ve],[],.bool false,[])
def Qhe:Zx:=CT:: Qhd
def CU:Yb:=(531,[.sl false 4 H5,.agg Sw],[],.bool true,[])
def Qhf:Zx:=CU:: Qhe
def CV:Yb:=(531,[.sl false 4 Cl,.agg T0],[],.bool false,[])
def Qhg:Zx:=CV:: Qhf
def CW:Yb:=(531,[.sl false 4 Cl,.agg Ve],[],.bool false,[])
def Qhh:Zx:=CW:: Qhg
def CX:Yb:=(529,[.sl false 4 H5,.sl false 4 H4],[],.sl false 4 Cl,[])
def Qhi:Zx:=CX:: Qhh
def CY:Yb:=(605,[.sl false 4 OT,.agg Ve],[],.tup [.sl false 4 [],.int .i64 0],[])
def Qhj:Zx:=CY:: Qhi
def CZ:Yb:=(518,[.sl false 4 Lr,.sl false 4 [Ve]],[],.tup [.sl false 4 H7,.int .i64 0],[])
def Qhk:Zx:=CZ:: Qhj
def C0:Yb:=(531,[.sl false 4 Lr,.agg VR],[],.bool false,[])
def Qhl:Zx:=C0:: Qhk
def C1:Yb:=(531,[.sl false 4 Lr,.agg Ve],[],.bool false,[])
def Qhm:Zx:=C1:: Qhl
def C2:Yb:=(529,[.sl false 4 Lr,.sl false 4 H7],[],.sl false 4 Lr,[])
def Qhn:Zx:=C2:: Qhm
def C3:Yb:=(531,[.sl false 4 [VR,H6],.agg Ve],[],.bool true,[])
def Qho:Zx:=C3:: Qhn
def C4:Yb:=(529,[.sl false 4 [VR,H6],.sl false 4 H7],[],.sl false 4 H7,[])
def Qhp:Zx:=C4:: Qho
def C5:Yb:=(605,[.sl false 4 Lr,.agg Ve],[],.tup [.sl false 4 [VR],.int .i64 0],[])
def Qhq:Zx:=C5:: Qhp
def C6:Yb:=(518,[.sl false 4 [OR,TF],.sl false 4 [S0]],[],.tup [.sl false 4 Cm,.int .i64 0],[])
def Qhr:Zx:=C6:: Qhq
def C7:Yb:=(531,[.sl false 4 [TF,OR],.agg S0],[],.bool true,[])
def Qhs:Zx:=C7:: Qhr
def C8:Yb:=(529,[.sl false 4 [TF,OR],.sl false 4 Cm],[],.sl false 4 Cm,[])
def Qht:Zx:=C8:: Qhs
def C9:Yb:=(603,[.str QhD,.sl false 1 [[.str [109,117,108,40,120,58,110,111,110,99,101,44,32,121,58,110,111,110,99,101,41]],QhA]],[],.bool true,[])
def Qhu:Zx:=C9:: Qht
def Ba:Yb:=(518,[.sl false 4 [H9,Je],.sl false 4 [H8]],[],.tup [.sl false 4 Cn,.int .i64 0],[])
def Qhv:Zx:=Ba:: Qhu
def Bc:Yb:=(531,[.sl false 4 [Je,H9],.agg H8],[],.bool true,[])
def Qhw:Zx:=Bc:: Qhv
def Bd:Yb:=(529,[.sl false 4 [Je,H9],.sl false 4 Cn],[],.sl false 4 Cn,[])
def Qhx:Zx:=Bd:: Qhw
def Be:Yb:=(603,[.str [97,58,97,110,121],.sl false 1 [[.str [120,111,114,40,97,58,97,110,121,44,32,98,58,97,110,121,41]],[.str [98,58,97,110,121]]]],[],.bool true,[])
def Qsn:Zx:=Be:: Qhx
end Go.Am
