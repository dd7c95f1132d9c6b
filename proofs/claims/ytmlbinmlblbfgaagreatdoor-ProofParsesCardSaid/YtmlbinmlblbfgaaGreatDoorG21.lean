/-
  Pf58, Pf52, Pf59, Pf53, Pf60, Pf61, Pf50, Pf54, Pf62, Pf63, Pf6, Pf9, Pf10, Pf11, Pf12, Pf13, Pf14, Pf15, Pf64.
-/
import Derived.Test.YtmlbinmlblbfgaaGreatDoorG20
import Derived.Test.YtmlbinmlblbfgaaGreatDoorG19
set_option linter.all false
open Go.Am.F
namespace Go.Am
set_option maxRecDepth 20000
def Qc7 {s:Int} (h0:0<=s) (h1:s<=5) {kd:Int} (h:s≠0\/kd=2):lfI (wrd s) kd 6 0=some s:=by
 have hd: ∀i j:Int,0<=i->i<=5->0<=j->j<=5->wrd i=wrd j->i=j:=by
  intro i j a b c d;rcases Sx a b with rfl | rfl | rfl | rfl | rfl | rfl <;> rcases Sx c d with rfl | rfl | rfl | rfl | rfl | rfl <;> decide
 have key: ∀(m:Nat) (i:Int),i+m=6->0<=i->i<=s->lfI (wrd s) kd m i=some s:=by
  intro m
  induction m with
  | zero=>intro i hi a b;omega
  | succ m ih=>
   intro i hi a b;rw[lfI];by_cases e:i=s
   ·subst e;rw[Qh ⟨rfl,h⟩]
   ·rw[Qe (fun hh=>e (hd s i h0 h1 a (by omega) hh.1).symm),ih (i+1) (by omega) (by omega) (by omega)]
 exact key 6 0 rfl (by omega) h0
def GK {kd:Int} {n:Qb} {s:Int} (h0:0<=s) (h1:s<=5) (h:s≠0\/kd=2) (r:Qb) (hr:nmW r=[]):rLf kd n (58:: (wrd s ++ r))=(.mk kd n s [],r,true):=by
 have h2:nmW (wrd s ++ r)=wrd s:=by rw[UO _ _ (Od h0 h1),hr,Ya]
 unfold rLf;rw[Qe (by rw[Y9];simp),WZ,XK,h2,Qc7 h0 h1 h];simp only[UI]
def Bl {d:Nat} {n r:Qb} (hn:Q4 n=true) (hr:nmW r=[]):rT (d+1) (63:: (n ++ r))=rLf 1 n r:=by
 have h0:pfx [63] (63:: (n ++ r))=true:=by rw[Y9];simp
 have h1: (if pfx [63] (63:: (n ++ r))then(63:: (n ++ r)).drop 1 else 63:: (n ++ r))=n ++ r:=by rw[h0];rfl
 have h2:nmW (n ++ r)=n:=by rw[UO _ _ (UN hn),hr,Ya]
 rw[rT,IW h1 h2 (UI n r),Qe (by simp[hn]),Qh (.inl h0),h0];rfl
def QbD {d:Nat} {n r:Qb} (hn:Q4 n=true) (hr:nmW r=[]):rT (d+1) (n ++ r)=if pfx [40] r=false then rLf 2 n r else rKl (rT d) n r.length [] (r.drop 1):=by
 obtain⟨c,m,hc,h63,_⟩:=Mv hn;have hp:pfx [63] (n ++ r)=false:=by rw[hc,X9,Y9];simpa using h63
 have h1: (if pfx [63] (n ++ r)then(n ++ r).drop 1 else n ++ r)=n ++ r:=by rw[hp];rfl
 have h2:nmW (n ++ r)=n:=by rw[UO _ _ (UN hn),hr,Ya]
 rw[rT,IW h1 h2 (UI n r),Qe (by simp[hn])];simp only[hp,Zo,false_or,QC]
def QbC (f:Qb->Tm×Qb×Bool) (n:Qb): ∀(ks l:Qp) (m:Nat) (r:Qb),(∀x∈ks,∀(r:Qb),Tp r=true->f (txT x ++ r)=(x,r,true))->l≠[]->ks.length < m->
  rKl f n m l (txM ks ++ 41:: r)=(.mk 3 n 0 (l ++ ks),r,true)
 | [],l,m,r,_,hl,hk=>by
  obtain⟨m,rfl⟩: ∃k',m=k'+1:=⟨m - 1,by omega⟩;simp only[txM,Wb,Ya];rw[rKl,Qe (by simp),Qh (by rw[Y9];simp)];rfl
 | t:: ks,l,m,r,h,hl,hk=>by
  simp only[QO]at hk;obtain⟨m,rfl⟩: ∃k',m=k'+1:=⟨m - 1,by omega⟩;have hE:Tp (txM ks ++ 41:: r)=true:=by cases ks <;> rfl
  have h1:=h t (by simp) (txM ks ++ 41:: r) hE;have h2:=QbC f n ks (l ++ [t]) m r (fun x hx=>h x (by simp[hx])) (by simp) (by omega);simp only[txM,X9,XP]at h1 h2 ⊢;rw[rKl,Qe (by simp),Qe (by rw[Y9];simp),Qe (by rw[Be];simp)];simp only[hl,QC,WZ,XK,h1,YW];rw[h2];simp
def Hn: ∀ks:Qp,ks.length<=(txM ks).length
 | []=>Za _
 | t:: ks=>by have:=Hn ks;simp[txM];omega
def Qh2: ∀(t:Tm) (d:Nat) (r:Qb),Yh t=0->Tp r=true->t.depth<=d->rT d (txT t ++ r)=(t,r,true):=by
 refine Xg ?_;intro K n s ks ih d r he hr hd;have hpos:0 < (Tm.mk K n s ks).depth:=by simp[Tm.depth]
 obtain⟨d,rfl⟩: ∃k',d=k'+1:=⟨d - 1,by omega⟩;obtain⟨h1,h2⟩:=UP he;obtain⟨hn,hc⟩:=Wz h1;obtain⟨hr1,hr2⟩:=Gv hr;rcases hc with⟨rfl,h3,h4,rfl⟩ | ⟨rfl,h3,h4,rfl⟩ | ⟨rfl,rfl,h8⟩
 ·by_cases hs:s=0
  ·subst hs;have:txT (.mk 1 n 0 [])++ r=63:: (n ++ r):=by simp[txT]
   rw[this,Bl hn hr1,rLf,Qh hr2];simp
  ·have:txT (.mk 1 n s [])++ r=63:: (n ++ (58:: (wrd s ++ r))):=by simp[txT,hs]
   rw[this,Bl hn (by simp[nmW,ZW]),GK h3 h4 (.inl hs) r hr1]
 ·have:txT (.mk 2 n s [])++ r=n ++ (58:: (wrd s ++ r)):=by simp[txT]
  rw[this,QbD hn (by simp[nmW,ZW]),Qh (by rw[Y9];simp),GK h3 h4 (.inr rfl) r hr1]
 ·have:txT (.mk 3 n 0 ks)++ r=n ++ (40:: (txL ks ++ 41:: r)):=by simp[txT]
  rw[this,QbD hn (by simp[nmW,ZW]),Qe (by rw[Y9];simp),WZ,XK];have ih': ∀x∈ks,∀(r:Qb),Tp r=true->rT d (txT x ++ r)=(x,r,true):=fun x hx r hr=>by
   have:=Rp hx;refine ih x hx d r (Xz h2 hx) hr ?_;simp only[Tm.depth]at hd;omega
  rw[QO];cases ks with
  | nil=>
   simp only[txL,Wb];rw[rKl,Qe (by simp),Qh (by rw[Y9];simp)];rfl
  | cons x ks=>
   obtain⟨c,m,hcm,h41⟩:=Ho (Xz h2 (by simp:x∈x:: ks));have hE:Tp (txM ks ++ 41:: r)=true:=by cases ks <;> rfl
   have h5:=ih' x (by simp) (txM ks ++ 41:: r) hE;have hml:=Hn ks;have h6:=fun m h=>QbC (rT d) n ks [x] m r (fun y hy=>ih' y (by simp[hy])) (by simp) h;have hp:pfx [41] (txT x ++ (txM ks ++ 41:: r))=false:=by rw[hcm,X9,Y9];simpa using h41
   have hne: ¬(txT x ++ (txM ks ++ 41:: r))=[]:=by rw[hcm];simp
   simp only[txL,XP];rw[rKl,Qe hne,Qe (by simp[hp]),Qe (by simp)];simp only[QF,h5,YW,QC,Wb];rw[h6 _ (by simp only[Zf,QO];omega)];simp
def Qdt {t:Tm} (h:QZ t=0):prR (txT t)=(t,0):=by
 obtain⟨h1,_,h3⟩:=Vw h;have h2:=Qh2 t 800 [] h1 rfl (by omega);rw[Ya]at h2;unfold prR;simp[h2,h]
def GJ: ∀(l:Qb) (acc:Nat),l.all Z4=true->Uy acc l<=1000000000000000000->Lib.parseUint10 acc l= .ok (Uy acc l)
 | [],_,_,_=>rfl
 | c:: r,acc,h,hv=>by
  simp only[YG,Qi,Z4,Qm]at h;rw[Tn]at hv ⊢;have:=MH r (acc*10+ (c.toNat - 48));rw[Lib.parseUint10,Qh h.1,Qe (by omega),Qe (by omega)];exact GJ r _ (by simpa[Z4]using h.2) hv
def Qi7 {n:Nat} (h:n<=1000000000000000000):Lib.parseMag (Yt n)= .ok n:=by
 obtain⟨h1,h2,h3⟩:=Rn n;have hp:=GJ (Yt n) 0 h2 (by omega);rw[h1]at hp;rw[Lib.parseMag,Qe h3,hp]
def N9 {x:Int} (h:I18 x):atS (dec x)=(x,true):=by
 unfold I18 at h;have hm:=Qi7 (n:=x.natAbs) (by omega);have c3: ¬9223372036854775808<=x.natAbs:=by omega
 have c4: ¬9223372036854775808 < x.natAbs:=by omega
 obtain⟨_,h2,h3⟩:=Rn x.natAbs;unfold atS dec;by_cases hx:x < 0
 ·rw[Qh hx];have c1: (45:UInt8).toNat=43\/(45:UInt8).toNat=45:=by decide
  have c2: (45:UInt8).toNat=45:=by decide
  have:Lib.atoiAll (45:: Yt x.natAbs)= .ok x:=by
   unfold Lib.atoiAll;have h9: -((x.natAbs:Nat):Int)=x:=by omega
   simp only[c2,or_true,hm,Pa,SQ,QC,ZB,Qe c4,QF,h9]
  rw[this]
 ·rw[Qe hx];have:Lib.atoiAll (Yt x.natAbs)= .ok x:=by
   cases hd:Yt x.natAbs with
   | nil=>exact absurd hd h3
   | cons c r=>
    rw[hd]at hm h2;simp only[YG,Qi,Z4,Qm]at h2;have c1: ¬c.toNat=43:=by omega
    have c2: ¬c.toNat=45:=by omega
    unfold Lib.atoiAll;have h9: ((x.natAbs:Nat):Int)=x:=by omega
    simp only[c1,c2,or_self,QC,hm,R9,ZB,Qe c3,SQ,h9]
  rw[this]
def Y8 {p:UInt8->Bool} {l:Qb} (h:l.all p=true) {c:UInt8} (hc:p c=false):c ∉ l:=fun hm=>by
 have:=YF.1 h c hm;rw[hc]at this;cases this
def Mk {c:UInt8}: ∀{p:Qb} (q:Qb),c ∉ p->Yz [c] (p ++ c:: q)=some (p,q)
 | [],q,_=>by rw[Wb,Sk,Qh rfl]
 | b:: p,q,h=>by
  simp only[Yd,Vc]at h;rw[X9,Sk,Qe (fun e=>h.1 e.symm),Mk q h.2];rfl
def Ml {c:UInt8}: ∀{p:Qb},c ∉ p->Yz [c] p=none
 | [],_=>by simp[Yz]
 | b:: p,h=>by
  simp only[Yd,Vc]at h;rw[Sk,Qe (fun e=>h.1 e.symm),Ml h.2];rfl
def Mm: ∀{p:Qb} (q:Qb),58 ∉ p->Yz [58,32] (p ++ 58:: 32:: q)=some (p,q)
 | [],q,_=>by simp[Yz,List.isPrefixOf]
 | b:: p,q,h=>by
  simp only[Yd,Vc]at h;have h2: ((58:UInt8) == b)=false:=by simpa using h.1
  have ih:=Mm q h.2;rw[X9,Yz,Qe (by simp[List.isPrefixOf,h2]),ih];rfl
def Hf {c:UInt8} {p:Qb} (q:Qb) (h:c ∉ p):Zd c (p ++ c:: q)=p:: Zd c q:=(WE c _).2 p q (Mk q h)
def BZ {c:UInt8} {p:Qb} (h:c ∉ p):Zd c p=[p]:=(WE c p).1 (Ml h)
def dgB (c:UInt8):Bool:=Z4 c || c == 45
def hdB (c:UInt8):Bool:=ZW c || c == 32 || c == 45 || c == 94
def txB (c:UInt8):Bool:=ZW c || c == 63 || c == 58 || c == 40 || c == 41 || c == 44 || c == 32
def WL {p q:UInt8->Bool} (hpq: ∀c,p c=true->q c=true) {l:Qb} (h:l.all p=true):l.all q=true:=YF.2 fun c hc=>hpq c (YF.1 h c hc)
def UG (x:Int): (dec x).all dgB=true:=by
 have h:=(Rn x.natAbs).2.1;have h2: (Yt x.natAbs).all dgB=true:=WL (fun c hc=>by simp[dgB,hc]) h;unfold dec;split
 ·rw[YG,h2];rfl
 ·exact h2
def FA (c:UInt8) (h:dgB c=true):hdB c=true:=by
 simp only[dgB,Z4,hdB,ZW,XQ,Qi,Qm,XL]at h ⊢;rcases h with h | h
 ·exact .inl (.inl (.inl (.inl (.inl (.inr h)))))
 ·exact .inl (.inr h)
def Qje (c:UInt8) (h:ZW c=true):hdB c=true:=by simp[hdB,h]
def F4 (c:UInt8) (h:ZW c=true):txB c=true:=by simp[txB,h]
mutual
theorem MF: ∀t:Tm,Yh t=0->(txT t).all txB=true
 | .mk k n s l,h=>by
  obtain⟨h1,h2⟩:=UP h;obtain⟨hn,hc⟩:=Wz h1;have ha:=WL F4 (UN hn);rcases hc with⟨rfl,h3,h4,rfl⟩ | ⟨rfl,h3,h4,rfl⟩ | ⟨rfl,_,_⟩
  ·have hw:=WL F4 (Od h3 h4);simp only[txT,QF];split
   ·rw[YG,ha];rfl
   ·rw[YG,W0,YG,ha,hw];rfl
  ·have hw:=WL F4 (Od h3 h4);simp only[txT,(by decide: ¬(2:Int)=1),QC,QF];rw[W0,YG,ha,hw];rfl
  ·have h5:=QdQ l h2;simp only[txT,(by decide: ¬(3:Int)=1),(by decide: ¬(3:Int)=2),QC];rw[W0,YG,W0,ha,h5];rfl
theorem QdQ: ∀l:List Tm,Xd l=0->(txL l).all txB=true
 | [],_=>rfl
 | t:: l,h=>by
  have ht:=MF t (Xz h (by simp));have hm:=GU l (by
   simp only[Xd]at h;split at h
   ·rename_i hne;exact absurd h hne
   ·exact h)
  rw[txL,W0,ht,hm];rfl
theorem GU: ∀l:List Tm,Xd l=0->(txM l).all txB=true
 | [],_=>rfl
 | t:: l,h=>by
  have ht:=MF t (Xz h (by simp));have hm:=GU l (by
   simp only[Xd]at h;split at h
   ·rename_i hne;exact absurd h hne
   ·exact h)
  rw[txM,YG,YG,W0,ht,hm];rfl
end
def Ln (r:Int): (Zx r).all ZW=true:=by
 unfold Zx;split
 ·cases h:TB[r.toNat]? with
  | none=>rfl
  | some p=>
   have h1: (TB.all fun p=>p.1.all ZW)=true:=by decide
   exact YF.1 h1 p (WW h)
 ·rfl
def JP (c:QH) (f:Nat): ∀(a:QH) (i:Nat),(ZN c f i a).all hdB=true
 | [],_=>rfl
 | x:: a,i=>by
  have h1:=WL FA (UG x);have h2:=WL FA (UG (c.getD (i - f) 0));have h3:=JP c f a (i+1);rw[ZN,YG,W0,W0,h1,h3];split
  ·rw[YG,h2];rfl
  ·rfl
def PG (d:Ded): (YQ d).all hdB=true:=by
 have h1:=WL Qje (Ln d.r);have h2:=WL FA (UG d.n);have h3:=JP d.c (d.a.length - d.c.length) d.a 0;rw[YQ,W0,W0,h1,h3];split
 ·rw[YG,h2];rfl
 ·rfl
def Qau {t s:Qb} (h:t.length<=s.length): (s.take t.length == t)=t.isPrefixOf s:=by
 rw[Bool.eq_iff_iff,XL,Js];constructor
 ·intro e;rw[<- e];exact List.take_prefix _ _
 ·intro hp;exact(List.prefix_iff_eq_take.1 hp).symm
def IR {t s:Qb} (h:s.length < t.length):Yz t s=none:=by
 induction s with
 | nil=>cases t <;> simp[Yz]at h ⊢
 | cons b l ih=>
  simp only[QO]at h;have h1: ¬t.isPrefixOf (b:: l)=true:=by
   intro e;have:=(Js.1 e).length_le;simp at this;omega
  rw[Yz,Qe h1,ih (by omega)];rfl
def AB (t:Qb) (ht:t.length < 1000000) (ht0:0 < t.length) (s:Qb) (hs:s.length < 1000000) (bs:Qd):
  ∀(r pre:Qb) (ρ:Qq),s=pre ++ r->ρ 0= .str s->ρ 1= .str t->ρ 7= .int .i64 pre.length->
  R tb (.loop f723l0) ρ bs (Q1 0 (ZE tb f723r0 (Zn f723 bs)))=match Yz t r with
   | some (p,q)=>some (.tup [.str (pre ++ p),.str q,.bool true],bs)
   | none=>some (.tup [.str s,.str [],.bool false],bs):=by
 intro r
 induction r with
 | nil=>
  intro pre ρ hk h0 h1 h7;rw[IR (by simpa using ht0),Qo f723l0.eq_1];simp at hk;have hw:IntKind.i64.wrap ((pre.length:Int)+ (t.length:Int))=(pre.length:Int)+ (t.length:Int):=Q2 (by omega) (by rw[<- hk];omega);have hle: ¬((pre.length:Int)+ (t.length:Int)<=(s.length:Int)):=by rw[hk];omega
  simp[h0,h1,h7,hw,hle,f723r0]
 | cons c r ih=>
  intro pre ρ hk h0 h1 h7;have hl:s.length=pre.length+ (r.length+1):=by rw[hk];simp
  have hw:IntKind.i64.wrap ((pre.length:Int)+ (t.length:Int))=((pre.length+t.length:Nat):Int):=by rw[Q2 (by omega) (by omega)];omega
  rw[Qo f723l0.eq_1];by_cases hle:pre.length+t.length<=s.length
  ·have hle': ((pre.length+t.length:Nat):Int)<=(s.length:Int):=by omega
   have hw1:=wr1 pre.length (by omega);have htd: (s.take (pre.length+t.length)).drop pre.length=(c:: r).take t.length:=by rw[hk,Nk,List.drop_append_length];simp
   have htl:t.length<=(c:: r).length:=by simp;omega
   have hb:=Qau htl;have hpl:pre.length<=pre.length+t.length:=by omega
   have hpl2:pre.length<=s.length:=by omega
   have e1:s.take pre.length=pre:=by rw[hk];simp
   have e2:s.drop (pre.length+t.length)=(c:: r).drop t.length:=by rw[hk,Nh];simp
   rw[Yz];generalize hq:pre.length+t.length=q at *;cases hp:t.isPrefixOf (c:: r)
   ·rw[hp]at hb;have hI:=ih (pre ++ [c]);have hne: ¬(List.take t.length (c:: r)=t):=by simpa using hb
    simp only[Zo,QC];generalize List.take t.length (c:: r)=TK at *;simp[-getElem?_pos,Qr,Qv,h0,h1,h7,hw,hle,hle',hpl,htd,hb,hne,hw1];rw[hI] <;> first | (simp[h0,h1,hk];done) | skip
    cases Yz t r <;> simp
   ·rw[hp]at hb;have hne:List.take t.length (c:: r)=t:=by simpa using hb
    rw[hne]at htd;simp only[QF,Ya];generalize List.drop t.length (c:: r)=DR at *;simp[-getElem?_pos,Qr,Qv,h0,h1,h7,hw,hle,hle',hpl,hpl2,htd,e1,e2]
  ·rw[IR (by simp;omega)];have hle': ¬((pre.length+t.length:Nat):Int)<=(s.length:Int):=by omega
   generalize hq:pre.length+t.length=q at *;simp[h0,h1,h7,hw,hle,hle',f723r0]
def SS (s t:Qb) (bs:Qd) (hs:s.length < 1000000) (ht:t.length < 1000000) (ht0:0 < t.length):call tb 723 [.str s,.str t] bs=some (.tup [.str (QM t s).1,.str (QM t s).2.1,.bool (QM t s).2.2],bs):=by
 have hL:=AB t ht ht0 s hs bs s [];rw[zcc 723 rfl rfl];simp[f723C];rw[hL] <;> first | (simp;done) | skip
 unfold QM;cases Yz t s <;> simp
def inD:Qb->Z3
 | [],n=>some n
 | c:: r,n=>if Z4 c=false\/35184372088832 < n then none else inD r (10*n+ (c.toNat - 48))
def ngB (s:Qb):Bool:=decide (1 < s.length) && pfx [45] s
def inR (s:Qb):Int×Bool:=
 let z:=if ngB s then s.drop 1 else s
 match inD z 0 with
 | none=>(0,false)
 | some n=>(if ngB s then -(n:Int)else n,decide (z≠[]))
def A7 (z:Qb) (hz:z.length < 1000000) (g:Bool) (bs:Qd):
  ∀(r pre:Qb) (n:Nat) (ρ:Qq),z=pre ++ r->n<=351843720888329->ρ 0= .str z->ρ 4= .bool g->ρ 5= .int .i64 n->ρ 6= .int .i64 pre.length->
  R tb (.loop f725l0) ρ bs (Q1 0 (ZE tb f725r0 (Zn f725 bs)))=match inD r n with
   | none=>some (.tup [.int .i64 0,.bool false],bs)
   | some n=>some (.tup [.int .i64 (if g then -(n:Int)else n),.bool (decide (z≠[]))],bs):=by
 intro r
 induction r with
 | nil=>
  intro pre n ρ hk hn h0 h4 h5 h6;simp at hk;have hw:IntKind.i64.wrap (-(n:Int))= -(n:Int):=Q2 (by omega) (by omega);rw[Qo f725l0.eq_1,inD];subst hk;cases g <;> simp[h0,h4,h5,h6,hw,f725r0] <;> cases z <;> rfl
 | cons c r ih=>
  intro pre n ρ hk hn h0 h4 h5 h6;have hl:z.length=pre.length+ (r.length+1):=by rw[hk];simp
  have hg:z[pre.length]? =some c:=ZM hk;have hlt:pre.length < z.length:=by omega
  have hlt': (pre.length:Int) < (z.length:Int):=by omega
  have hw1:=wr1 pre.length (by omega);rw[Qo f725l0.eq_1,inD];by_cases hd:48<=c.toNat/\c.toNat<=57
  ·have hdb:Z4 c=true:=by simp[Z4,hd.1,hd.2]
   have d1: ¬(c.toNat:Int) < 48:=by omega
   have d2: ¬(57:Int) < (c.toNat:Int):=by omega
   by_cases hb:35184372088832 < n
   ·rw[Qh (.inr hb)];have hb': (35184372088832:Int) < (n:Int):=by omega
    simp[-getElem?_pos,Qr,Qv,h0,h4,h5,h6,hg,hlt,hlt',d1,d2,hb,hb']
   ·rw[Qe (by simp[hdb,hb])];have hb': ¬(35184372088832:Int) < (n:Int):=by omega
    have hw2:IntKind.i64.wrap (10* (n:Int))=10* (n:Int):=Q2 (by omega) (by omega);have hw3:IntKind.u8.wrap ((c.toNat:Int) - 48)=(c.toNat:Int) - 48:=B9 (by omega);have hw4:IntKind.i64.wrap ((c.toNat:Int) - 48)=(c.toNat:Int) - 48:=Q2 (by omega) (by omega);have hw5:IntKind.i64.wrap (10* (n:Int)+ ((c.toNat:Int) - 48))=((10*n+ (c.toNat - 48):Nat):Int):=by rw[Q2 (by omega) (by omega)];omega
    have hI:=ih (pre ++ [c]) (10*n+ (c.toNat - 48));have hn2:10*n+ (c.toNat - 48)<=351843720888329:=by omega
    generalize 10*n+ (c.toNat - 48)=N at *;simp[-getElem?_pos,Qr,Qv,h0,h4,h5,h6,hg,hlt,hlt',d1,d2,hb,hb',hw1,hw2,hw3,hw4,hw5];rw[hI] <;> first | omega | simp[h0,h4,hk]
  ·have hdb:Z4 c=false:=by
    simp only[Z4,Jv,Wr];omega
   rw[Qh (.inl hdb)];by_cases d1: (c.toNat:Int) < 48
   ·simp[-getElem?_pos,Qr,Qv,h0,h4,h5,h6,hg,hlt,hlt',d1]
   ·have d2: (57:Int) < (c.toNat:Int):=by omega
    simp[-getElem?_pos,Qr,Qv,h0,h4,h5,h6,hg,hlt,hlt',d1,d2]
def Gf (s:Qb) (hs:s.length < 1000000) (bs:Qd):call tb 725 [.str s] bs=some (.tup [.int .i64 (inR s).1,.bool (inR s).2],bs):=by
 rw[zcc 725 rfl rfl];have fin: ∀(z:Qb) (g:Bool) (ρ:Qq),z.length < 1000000->ρ 0= .str z->ρ 4= .bool g->ρ 5= .int .i64 0->ρ 6= .int .i64 0->
   R tb (.loop f725l0) ρ bs (Q1 0 (ZE tb f725r0 (Zn f725 bs)))=some (.tup [.int .i64 (match inD z 0 with | none=>((0:Int),false) | some n=>(if g then -(n:Int)else n,decide (z≠[]))).1,.bool (match inD z 0 with | none=>((0:Int),false) | some n=>(if g then -(n:Int)else n,decide (z≠[]))).2],bs):=by
  intro z g ρ hz h0 h4 h5 h6;rw[A7 z hz g bs z [] 0 ρ rfl (by omega) h0 h4 h5 h6];cases inD z 0 <;> rfl
 unfold inR;cases hg:ngB s
 ·simp only[Zo,QC];by_cases hl:1 < s.length
  ·have hl': (1:Int) < (s.length:Int):=by omega
   have hp:pfx [45] s=false:=by simpa[ngB,hl]using hg
   rcases IQ (k:=45) (by decide) hp with rfl | ⟨c,hc0,hc45,hpos,hne⟩
   ·simp at hl
   ·have hc45: ¬(c.toNat:Int)=45:=hc45;simp[-getElem?_pos,Qr,Qv,f725C,hl,hl',hc0,hc45,hpos];have hF:=fin s false;simp only[Zo,QC]at hF;rw[hF] <;> simp[hs]
  ·have hl': ¬(1:Int) < (s.length:Int):=by omega
   simp[-getElem?_pos,Qr,Qv,f725C,hl,hl'];have hF:=fin s false;simp only[Zo,QC]at hF;rw[hF] <;> simp[hs]
 ·simp only[ngB,Qi,Qm]at hg;obtain⟨hl,hp⟩:=hg;obtain⟨hc0,hpos,hne⟩:=Mw hp;have hl': (1:Int) < (s.length:Int):=by omega
  have hle: (1:Int)<=(s.length:Int):=by omega
  simp only[QF,Np];have hdl:s.tail.length < 1000000:=by rw[List.length_tail];omega
  generalize hz:s.tail=z at *;simp[-getElem?_pos,Qr,Qv,f725C,hl,hl',hc0,hpos,hle,hz];have hF:=fin z true;simp only[QF]at hF;rw[hF] <;> simp[hdl]
def wdS (c:QH) (f i:Nat) (x:Int):Qb:=dec x ++ (if f<=i then 94:: dec (c.getD (i - f) 0)else [])
def Pi (c:QH) (f:Nat):Nat->QH->X3
 | _,[]=>[]
 | i,x:: r=>wdS c f i x:: Pi c f (i+1) r
def B8 (c:QH) (f i:Nat) (x:Int): (wdS c f i x).all (fun b=>dgB b || b == 94)=true:=by
 have h1: (dec x).all (fun b=>dgB b || b == 94)=true:=WL (fun c hc=>by simp[hc]) (UG x);have h2: (dec (c.getD (i - f) 0)).all (fun b=>dgB b || b == 94)=true:=WL (fun c hc=>by simp[hc]) (UG _);rw[wdS,W0,h1];split
 ·rw[YG,h2];rfl
 ·rfl
def He (c:QH) (f:Nat): ∀(a:QH) (i:Nat) (w:Qb),32 ∉ w->Zd 32 (w ++ ZN c f i a)=w:: Pi c f i a
 | [],i,w,h=>by rw[ZN,Ya,BZ h,Pi]
 | x:: a,i,w,h=>by
  have h2:32 ∉ wdS c f i x:=Y8 (B8 c f i x) (by decide);have ih:=He c f a (i+1) (wdS c f i x) h2;have e:w ++ ZN c f i (x:: a)=w ++ 32:: (wdS c f i x ++ ZN c f (i+1) a):=by simp[ZN,wdS]
  rw[e,Hf _ h,ih,Pi]
def SU {c:UInt8} {p:Qb} (q:Qb) (h:c ∉ p):QM [c] (p ++ c:: q)=(p,q,true):=by unfold QM;rw[Mk q h]
def SV {c:UInt8} {p:Qb} (h:c ∉ p):QM [c] p=(p,[],false):=by unfold QM;rw[Ml h]
def Nz (x:Int): (94:UInt8) ∉ dec x:=Y8 (UG x) (by decide)
def Qbs (x:Int): (32:UInt8) ∉ dec x:=Y8 (UG x) (by decide)
def IZ (a c:QH) (f:Nat) (hf:a.length - c.length=f) (hca:c.length<=a.length) (ha: ∀x∈a,I18 x) (hc: ∀x∈c,I18 x): ∀post pre:QH,a=pre ++ post->
  rdW (Pi c f pre.length post) pre (c.take (pre.length - f))=(a,c,true)
 | [],pre,h=>by
  rw[Ya]at h;subst h;rw[Pi,rdW,VM (by omega)]
 | x:: post,pre,h=>by
  have hx:=N9 (ha x (by rw[h];simp));have ih:=IZ a c f hf hca ha hc post (pre ++ [x]) (by rw[h];simp);have hl:a.length=pre.length+ (post.length+1):=by rw[h];simp
  simp only[Zf,QO,QX,QP]at ih;rw[Pi,rdW];by_cases hi:f<=pre.length
  ·have hci:pre.length - f < c.length:=by omega
   have hy:=N9 (Rv hc (pre.length - f));have ht:c.take (pre.length+1 - f)=c.take (pre.length - f)++ [c.getD (pre.length - f) 0]:=by
    rw[show pre.length+1 - f=(pre.length - f)+1 by omega,List.take_add_one,WV,Zr hci];rfl
   have hw:QM [94] (wdS c f pre.length x)=(dec x,dec (c.getD (pre.length - f) 0),true):=by rw[wdS,Qh hi,SU _ (Nz x)]
   simp only[hw,hx,hy,YW,QC];rw[<- ht];exact ih
  ·have ht:c.take (pre.length+1 - f)=c.take (pre.length - f):=by
    rw[show pre.length+1 - f=0 by omega,show pre.length - f=0 by omega]
   have hw:QM [94] (wdS c f pre.length x)=(dec x,[],false):=by rw[wdS,Qe hi,Ya,SV (Nz x)]
   simp only[hw,hx,YW,QC,QF];rw[<- ht];exact ih
def Qay {r:Int} (h:rOk r=true):rIx (Zx r) 17 1=some r:=by
 rcases Tj h with rfl | rfl | rfl | rfl | rfl | rfl | rfl | rfl | rfl | rfl | rfl | rfl | rfl | rfl | rfl | rfl <;> decide
def B45 (x:Int):Prop:= -35184372088832<=x/\x<=35184372088832
structure GdD (d:Ded):Prop extends Ow d where
 ba: ∀x∈d.a,B45 x
 bc: ∀x∈d.c,B45 x
 bn:B45 d.n
 r:rOk d.r=true
 g:d.r=1->d.a=[]/\d.c=[]
 n0:d.r≠1->d.n=0
 v:QZ d.t=0
def FJ {d:Ded} {i:Int} (h:Wc d i=0) (hi:i<=1000000) (ha:d.a.length < 1000000) (ht:d.t.mass < big) (hv:QZ d.t=0):GdD d:=by
 obtain⟨h1,h2,h3,h4,h5⟩:=Qbv h;refine⟨Rz h hi ha ht,fun x hx=> ?_,fun x hx=> ?_,?_,h1,fun e=> ?_,fun e=> ?_,hv⟩
 ·have h6:=O4.1 h3 x hx;simp only[WB,Ni,Ud,Wr]at h6;unfold B45;omega
 ·have h6:=O4.1 h5 x hx;simp only[XB,Ni,Ud,Wr]at h6;unfold B45;omega
 ·simp only[fNB,Ud,Wr]at h4;unfold B45;omega
 ·have e1:Yg d.r=0:=by rw[e];rfl
  have e2:W2 d=0:=by unfold W2;rw[e];rfl
  simp only[f6B,Ud,e1,e2,Nt,SP,We,JG,Qm]at h2;exact⟨VK (by omega),VK (by omega)⟩
 ·simp only[fNB,Ud,Jv,JG,Qm]at h4;rcases h4.2 with h6 | h6
  ·exact h6
  ·exact absurd h6 e
def XE (d:Ded):Qb:=YQ d ++ (58:: 32:: txT d.t)
def IE {d:Ded} (h:GdD d):VP d=XE d ++ [10]:=by
 simp[VP,XE,Ui,h.v]
def ID {d:Ded} (h:GdD d): (10:UInt8) ∉ XE d:=by
 have h1: (10:UInt8) ∉ YQ d:=Y8 (PG d) (by decide);have h2: (10:UInt8) ∉ txT d.t:=Y8 (MF d.t (Vw h.v).1) (by decide);unfold XE;simp[h1,h2]
def N3 (r:Int): (32:UInt8) ∉ Zx r:=Y8 (Ln r) (by decide)
def QaA {d:Ded} (h:GdD d):rdP (XE d)=(d,true):=by
 have h58: (58:UInt8) ∉ YQ d:=Y8 (PG d) (by decide);have hp:=Qdu h.v;have hix:=Qay h.r;have hcut:QM [58,32] (XE d)=(YQ d,txT d.t,true):=by unfold QM XE;rw[Mm _ h58]
 unfold rdP;simp only[hcut,hp,YW,QC,ne_eq,Pa];obtain⟨r,n,a,c,t⟩:=d;have hrd:=IZ a c (a.length - c.length) rfl h.ca h.a h.c a [] rfl;simp only[QX,Nat.zero_sub,JL]at hrd;by_cases hr:r=1
 ·obtain⟨ha,hc⟩:=h.g hr;simp only at ha hc hr hix;subst ha hc hr;have hn:=N9 h.n;simp only at hn;have e:Zd 32 (YQ ⟨1,n,[],[],t⟩)=[Zx 1,dec n]:=by
   have:YQ ⟨1,n,[],[],t⟩=Zx 1 ++ 32:: dec n:=by simp[YQ,ZN]
   rw[this,Hf _ (N3 1),BZ (Qbs n)]
  rw[e];simp only[hix,rdR,QO,QX,List.headD_cons,hn];simp
 ·have hn:=h.n0 hr;simp only at hn hix;subst hn;have e:Zd 32 (YQ ⟨r,0,a,c,t⟩)=Zx r:: Pi c (a.length - c.length) 0 a:=by
   have:YQ ⟨r,0,a,c,t⟩=Zx r ++ ZN c (a.length - c.length) 0 a:=by simp[YQ,hr]
   rw[this,He _ _ _ _ _ (N3 r)]
  rw[e];simp only[hix,rdR,hr,QC,hrd]
def rXr (w:Qb):Nat->Int->Int->Int
 | 0,_,q=>q
 | m+1,n,q=>rXr w m (n+1) (if Zx n=w then n else q)
def rXs (q:Int):Nat->Nat->Qb->Bool->Bool->Int->QH->QH->Int×QH×QH×Bool
 | 0,_,_,_,ok,N,a,c=>(N,a,c,ok)
 | m+1,i,rest,more,ok,N,a,c=>
  if more=false\/ok=false then(N,a,c,ok)
  else
   let p:=QM [32] rest
   let x:=QM [94] p.1
   let g:=inR x.1
   if q=1/\i=0 then rXs q m (i+1) p.2.1 p.2.2 g.2 g.1 a c
   else if x.2.2=false then rXs q m (i+1) p.2.1 p.2.2 g.2 N (a ++ [g.1]) c
   else rXs q m (i+1) p.2.1 p.2.2 (g.2 && (inR x.2.1).2) N (a ++ [g.1]) (c ++ [(inR x.2.1).1])
def rdX (s:Qb):Ded×Bool:=
 let p:=QM [58,32] s
 let t:=prR p.2.1
 let h:=QM [32] p.1
 let q:=rXr h.1 16 1 0
 let z:=rXs q (s.length+2) 0 h.2.1 h.2.2 (p.2.2 && decide (t.2=0) && decide (0 < q)) 0 [] []
 (⟨q,z.1,z.2.1,z.2.2.1,t.1⟩,z.2.2.2)
def Pv (t s:Qb) (ht:0 < t.length): (QM t s).2.2=true->(QM t s).2.1.length+1<=s.length:=by
 unfold QM;rcases VY t s with⟨h1,_⟩ | ⟨p,q,h1,_,h3⟩
 ·rw[h1];simp
 ·rw[h1];intro _;have:=Xb List.length h3;simp only[Zf]at this;simp only;omega
def F8 (w:Qb) (T:Tm) (bs:Qd) (RES:Int->Option (AV×Qd)) (s7 s9 s11 s12:AV)
  (hr1: ∀(q:Int) (ρ:Qq),0<=q->ρ 2= .bx [.int .i64 0,.int .i64 0,.sl true 1 [],.sl true 1 [],.int .i64 0,.str [],.int .i64 0,.sl true 4 []]->
   ρ 4= .bx ([.int .i64 q,.int .i64 0,.sl true 1 [],.sl true 1 []]++ Ql T)->ρ 7=s7->ρ 9=s9->ρ 11=s11->ρ 12=s12->R tb f724r1 ρ bs (Zn f724 bs)=RES q):
  ∀(m:Nat) (n q:Int) (ρ:Qq),n+m=17->1<=n->0<=q->ρ 2= .bx [.int .i64 0,.int .i64 0,.sl true 1 [],.sl true 1 [],.int .i64 0,.str [],.int .i64 0,.sl true 4 []]->
   ρ 4= .bx ([.int .i64 q,.int .i64 0,.sl true 1 [],.sl true 1 []]++ Ql T)->ρ 7=s7->ρ 9=s9->ρ 10= .str w->ρ 11=s11->ρ 12=s12->ρ 13= .int .i64 n->
  R tb (.loop f724l0) ρ bs (Q1 0 (ZE tb f724r1 (Zn f724 bs)))=RES (rXr w m n q):=by
 intro m
 induction m with
 | zero=>
  intro n q ρ hm hn hq h2 h4 h7 h9 h10 h11 h12 h13;have hn17:n=17:=by omega
  subst hn17;rw[Qo f724l0.eq_1,rXr];simp[h13];rw[hr1 q] <;> simp[h2,h4,h7,h9,h11,h12,hq]
 | succ m ih=>
  intro n q ρ hm hn hq h2 h4 h7 h9 h10 h11 h12 h13;have c:=Me n bs;have hle:n<=16:=by omega
  have hw:IntKind.i64.wrap (n+1)=n+1:=Q2 (by omega) (by omega);rw[Qo f724l0.eq_1,rXr];by_cases he:Zx n=w
  ·rw[Qh he];simp[-getElem?_pos,Qr,Qv,Qx,h2,h4,h10,h13,hle,c,he,hw];rw[ih (n+1) n] <;> first | omega | simp[h2,h4,h7,h9,h10,h11,h12,Qx]
  ·rw[Qe he];have he2: (Zx n == w)=false:=by simpa using he
   simp[-getElem?_pos,Qr,Qv,Qx,h2,h4,h10,h13,hle,c,he,he2,hw];rw[ih (n+1) q] <;> first | omega | simp[h2,h4,h7,h9,h10,h11,h12,Qx]
def Ez (q:Int) (T:Tm) (bs:Qd):
  ∀(m i:Nat) (rest:Qb) (more ok:Bool) (N:Int) (a c:QH) (ρ:Qq),(if more then rest.length+1 else 0) < m->i+ (if more then rest.length+1 else 0) < 1000000->a.length<=i->c.length<=i->
   ρ 2= .bx [.int .i64 0,.int .i64 0,.sl true 1 [],.sl true 1 [],.int .i64 0,.str [],.int .i64 0,.sl true 4 []]->
   ρ 4= .bx ([.int .i64 q,.int .i64 N,.sl true 1 (ZD a),.sl true 1 (ZD c)]++ Ql T)->ρ 7= .bool ok->ρ 11= .str rest->ρ 12= .bool more->ρ 16= .int .i64 i->
  R tb (.loop f724l1) ρ bs (Q1 2 (ZE tb f724r0 (Zn f724 bs)))=
   some (.tup [.agg ([.int .i64 q,.int .i64 (rXs q m i rest more ok N a c).1,.sl false 1 (ZD (rXs q m i rest more ok N a c).2.1),.sl false 1 (ZD (rXs q m i rest more ok N a c).2.2.1)]++ Ql T),.bool (rXs q m i rest more ok N a c).2.2.2],bs):=by
 intro m
 induction m with
 | zero=>intro i rest more ok N a c ρ h;omega
 | succ m ih=>
  intro i rest more ok N a c ρ hm hi ha hc h2 h4 h7 h11 h12 h16;rw[Qo f724l1.eq_1,rXs];cases more
  ·rw[Qh (.inl rfl)];simp[-getElem?_pos,Qr,Qv,Qx,h2,h4,h7,h11,h12,f724r0]
  cases ok
  ·rw[Qh (.inr rfl)];simp[-getElem?_pos,Qr,Qv,Qx,h2,h4,h7,h11,h12,f724r0]
  rw[Qe (by simp)];simp only[QF]at hm hi;have c1:=SS rest [32] bs (by omega) (by decide) (by decide);obtain⟨l1,l2⟩:=X5 [32] rest;have l3:=Pv [32] rest (by decide);generalize QM [32] rest=p at *;obtain⟨w,rest',more'⟩:=p;simp only at c1 l1 l2 l3 ⊢;have hm': (if more' then rest'.length+1 else 0) < m:=by
   cases more'
   ·simp only[Zo,QC];omega
   ·have:=l3 rfl;simp only[QF];omega
  have hi':i+1+ (if more' then rest'.length+1 else 0) < 1000000:=by
   cases more'
   ·simp only[Zo,QC];omega
   ·have:=l3 rfl;simp only[QF];omega
  have c2:=SS w [94] bs (by omega) (by decide) (by decide);obtain⟨k1,k2⟩:=X5 [94] w;generalize QM [94] w=x at *;obtain⟨x1,x2,has⟩:=x;simp only at c2 k1 k2 ⊢;have c3:=Gf x1 (by omega) bs;have c4:=Gf x2 (by omega) bs;generalize inR x1=g at *;obtain⟨g1,g2⟩:=g;generalize inR x2=h at *;obtain⟨y1,y2⟩:=h;simp only at c3 c4 ⊢;have hw:IntKind.i64.wrap ((i:Int)+1)=((i+1:Nat):Int):=by rw[Q2 (by omega) (by omega)];omega
  have e1: (a.length+1)*8<=140737488355328:=by omega
  have e2: (c.length+1)*8<=140737488355328:=by omega
  have hI:=ih (i+1) rest' more';generalize hj:i+1=j at *;have hi0: (((i:Int))=0)=(i=0):=by rw[Xl];omega
  by_cases hq:q=1/\i=0
  ·rw[Qh hq];obtain⟨hq1,hq2⟩:=hq;subst hq1 hq2;simp[-getElem?_pos,Qr,Qv,Qx,h2,h4,h7,h11,h12,h16,c1,c2,c3,hj.symm,(show IntKind.i64.wrap 1=1 by decide)];rw[hI g2 g1 a c] <;> first | omega | (simp[h2,h4,Qx,hj];done) | (simp;omega) | (simp[Qx,<- hj];done) | skip
  ·rw[Qe hq];cases has
   ·rw[Qh rfl];by_cases hq1:q=1
    ·have hq2: ¬i=0:=fun e=>hq ⟨hq1,e⟩;subst hq1;simp[-getElem?_pos,Qr,Qv,Qx,h2,h4,h7,h11,h12,h16,c1,c2,c3,hq2,hw,e1,XU];rw[hI g2 N (a ++ [g1]) c] <;> first | omega | (simp[h2,h4,Qx,hj];done) | (simp;omega) | (simp[Qx,<- hj];done) | skip
    ·simp[-getElem?_pos,Qr,Qv,Qx,h2,h4,h7,h11,h12,h16,c1,c2,c3,hq1,hw,e1,XU];rw[hI g2 N (a ++ [g1]) c] <;> first | omega | (simp[h2,h4,Qx,hj];done) | (simp;omega) | (simp[Qx,<- hj];done) | skip
   ·rw[Qe (by simp)];cases g2
    ·by_cases hq1:q=1
     ·have hq2: ¬i=0:=fun e=>hq ⟨hq1,e⟩;subst hq1;simp[-getElem?_pos,Qr,Qv,Qx,h2,h4,h7,h11,h12,h16,c1,c2,c3,c4,hq2,hw,e1,e2,XU];rw[hI false N (a ++ [g1]) (c ++ [y1])] <;> first | omega | (simp[h2,h4,Qx,hj];done) | (simp;omega) | (simp[Qx,<- hj];done) | skip
     ·simp[-getElem?_pos,Qr,Qv,Qx,h2,h4,h7,h11,h12,h16,c1,c2,c3,c4,hq1,hw,e1,e2,XU];rw[hI false N (a ++ [g1]) (c ++ [y1])] <;> first | omega | (simp[h2,h4,Qx,hj];done) | (simp;omega) | (simp[Qx,<- hj];done) | skip
    ·by_cases hq1:q=1
     ·have hq2: ¬i=0:=fun e=>hq ⟨hq1,e⟩;subst hq1;simp[-getElem?_pos,Qr,Qv,Qx,h2,h4,h7,h11,h12,h16,c1,c2,c3,c4,hq2,hw,e1,e2,XU];rw[hI y2 N (a ++ [g1]) (c ++ [y1])] <;> first | omega | (simp[h2,h4,Qx,hj];done) | (simp;omega) | (simp[Qx,<- hj];done) | skip
     ·simp[-getElem?_pos,Qr,Qv,Qx,h2,h4,h7,h11,h12,h16,c1,c2,c3,c4,hq1,hw,e1,e2,XU];rw[hI y2 N (a ++ [g1]) (c ++ [y1])] <;> first | omega | (simp[h2,h4,Qx,hj];done) | (simp;omega) | (simp[Qx,<- hj];done) | skip
def GD: ∀(l:Qb) (acc:Nat),l.all Z4=true->Uy acc l<=35184372088832->inD l acc=some (Uy acc l)
 | [],_,_,_=>rfl
 | c:: r,acc,h,hv=>by
  simp only[YG,Qi]at h;rw[Tn]at hv ⊢;have:=MH r (acc*10+ (c.toNat - 48));rw[inD,Qe (by simp only[h.1,YW,false_or];omega),Nq 10 acc];exact GD r _ h.2 hv
def Nl:=@decide_eq_true
def Mr {x:Int} (h:B45 x):inR (dec x)=(x,true):=by
 unfold B45 at h;obtain⟨h1,h2,h3⟩:=Rn x.natAbs;have hi:=GD (Yt x.natAbs) 0 h2 (by omega);rw[h1]at hi;unfold inR;by_cases hx:x < 0
 ·have hd:dec x=45:: Yt x.natAbs:=by unfold dec;rw[Qh hx]
  have hl:0 < (Yt x.natAbs).length:=WY.2 h3;have hg:ngB (45:: Yt x.natAbs)=true:=by simp[ngB,pfx];omega
  simp only[hd,hg,QF,WZ,XK,hi];rw[Nl h3];congr 1;omega
 ·have hd:dec x=Yt x.natAbs:=by unfold dec;rw[Qe hx]
  have hg:ngB (Yt x.natAbs)=false:=by
   cases hq:Yt x.natAbs with
   | nil=>rfl
   | cons c r=>
    rw[hq]at h2;simp only[YG,Qi,Z4,Qm]at h2;have:c≠45:=fun e=>by subst e;revert h2;simp
    simp[ngB,pfx,this]
  simp only[hd,hg,Zo,QC,hi];rw[Nl h3];congr 1;omega
def Qaz {r:Int} (h:rOk r=true):rXr (Zx r) 16 1 0=r:=by
 rcases Tj h with rfl | rfl | rfl | rfl | rfl | rfl | rfl | rfl | rfl | rfl | rfl | rfl | rfl | rfl | rfl | rfl <;> decide
def rsT (c:QH) (f i:Nat):QH->Qb×Bool
 | []=>([],false)
 | x:: a=>(wdS c f i x ++ ZN c f (i+1) a,true)
def Ib (c:QH) (f i:Nat) (a:QH) {w:Qb} (hw: (32:UInt8) ∉ w):QM [32] (w ++ ZN c f i a)=(w,(rsT c f i a).1,(rsT c f i a).2):=by
 cases a with
 | nil=>rw[ZN,Ya,SV hw];rfl
 | cons x a=>
  have e:w ++ ZN c f i (x:: a)=w ++ 32:: (wdS c f i x ++ ZN c f (i+1) a):=by simp[ZN,wdS]
  rw[e,SU _ hw];rfl
def OP (q:Int) (hq:q≠1) (a c:QH) (f:Nat) (hf:a.length - c.length=f) (hca:c.length<=a.length) (ha: ∀x∈a,B45 x) (hc: ∀x∈c,B45 x): ∀(post pre:QH) (m j:Nat),a=pre ++ post->post.length < m->
  rXs q m j (rsT c f pre.length post).1 (rsT c f pre.length post).2 true 0 pre (c.take (pre.length - f))=(0,a,c,true)
 | [],pre,m,j,h,hm=>by
  obtain⟨m,rfl⟩: ∃k,m=k+1:=⟨m - 1,by omega⟩;rw[Ya]at h;subst h;rw[rsT,rXs,Qh (.inl rfl),VM (by omega)]
 | x:: post,pre,m,j,h,hm=>by
  simp only[QO]at hm;obtain⟨m,rfl⟩: ∃k,m=k+1:=⟨m - 1,by omega⟩;have hx:=Mr (ha x (by rw[h];simp));have ih:=OP q hq a c f hf hca ha hc post (pre ++ [x]) m (j+1) (by rw[h];simp) (by omega);have hl:a.length=pre.length+ (post.length+1):=by rw[h];simp
  simp only[Zf,QO,QX,QP]at ih;have hw32: (32:UInt8) ∉ wdS c f pre.length x:=Y8 (B8 c f pre.length x) (by decide);have hcut:=Ib c f (pre.length+1) post hw32;rw[rsT,rXs,Qe (by simp)];simp only[hcut,hq,SQ,QC];by_cases hi:f<=pre.length
  ·have hci:pre.length - f < c.length:=by omega
   have hyB:B45 (c.getD (pre.length - f) 0):=by
    rw[WV,Zr hci];exact hc _ (JK hci)
   have hy:=Mr hyB;have ht:c.take (pre.length+1 - f)=c.take (pre.length - f)++ [c.getD (pre.length - f) 0]:=by
    rw[show pre.length+1 - f=(pre.length - f)+1 by omega,List.take_add_one,WV,Zr hci];rfl
   have hw:QM [94] (wdS c f pre.length x)=(dec x,dec (c.getD (pre.length - f) 0),true):=by rw[wdS,Qh hi,SU _ (Nz x)]
   simp only[hw,hx,hy,YW,QC,Wf];rw[<- ht];exact ih
  ·have ht:c.take (pre.length+1 - f)=c.take (pre.length - f):=by
    rw[show pre.length+1 - f=0 by omega,show pre.length - f=0 by omega]
   have hw:QM [94] (wdS c f pre.length x)=(dec x,[],false):=by rw[wdS,Qe hi,Ya,SV (Nz x)]
   simp only[hw,hx,QF];rw[<- ht];exact ih
def H3 (c:QH) (f:Nat): ∀(a:QH) (i:Nat),a.length<=(ZN c f i a).length
 | [],_=>Za _
 | x:: a,i=>by
  have:=H3 c f a (i+1);simp only[ZN,QO,Zf];omega
def QaB {d:Ded} (h:GdD d):rdX (XE d)=(d,true):=by
 have h58: (58:UInt8) ∉ YQ d:=Y8 (PG d) (by decide);have hp:=Qdt h.v;have hix:=Qaz h.r;have hcut:QM [58,32] (XE d)=(YQ d,txT d.t,true):=by unfold QM XE;rw[Mm _ h58]
 have hr0: (0:Int) < d.r:=by have:=h.r;simp[rOk]at this;omega
 unfold rdX;simp only[hcut,hp,SP,Wf,We];have hlen:d.a.length<=(XE d).length:=by
  have:=H3 d.c (d.a.length - d.c.length) d.a 0;unfold XE YQ;simp only[Zf];omega
 generalize (XE d).length=ll at *;obtain⟨r,n,a,c,t⟩:=d;have hrd:=OP r;by_cases hr:r=1
 ·obtain⟨ha,hc⟩:=h.g hr;simp only at ha hc hr hix;subst ha hc hr;have hn:=Mr h.bn;simp only at hn;have e:YQ ⟨1,n,[],[],t⟩=Zx 1 ++ 32:: dec n:=by simp[YQ,ZN]
  rw[e,SU _ (N3 1)];simp only[hix];rw[rXs,Qe (by simp)];simp only[SV (Qbs n),SV (Nz n),hn,and_self,QF];rw[rXs,Qh (.inl rfl)]
 ·have hn:=h.n0 hr;simp only at hn hix hr0 hlen;subst hn;have hrd:=OP r hr a c (a.length - c.length) rfl h.ca h.ba h.bc a [] (ll+2) 0 rfl (by omega);simp only[QX,Nat.zero_sub,JL]at hrd;have e:YQ ⟨r,0,a,c,t⟩=Zx r ++ ZN c (a.length - c.length) 0 a:=by simp[YQ,hr]
  rw[e,Ib _ _ _ _ (N3 r)];simp only[hix,hr0,SP,hrd]
def Mf (s:Qb) (hs:s.length < 800000) (bs:Qd):call tb 635 [.str s] bs=some (.tup [.sl false 8 (Zh (X8 s).1),.int .i64 (X8 s).2],bs):=by
 have c1:=H7 s 10 bs;have c2:=Qb0 s [10] bs (by omega) (by decide);have c3:=H8 s 10 bs (by omega);obtain⟨m1,m2⟩:=S7 10 s;have hne:=Oa 10 s;have hcl:s.count 10<=s.length:=List.count_le_length;have hw:IntKind.i64.wrap ((s.count 10:Int)+1)=((s.count 10+1:Nat):Int):=by rw[Q2 (by omega) (by omega)];omega
 have hdl: (Zd 10 s).dropLast.length=(Zd 10 s).length - 1:=List.length_dropLast;have hpos:0 < (Zd 10 s).length:=WY.2 hne;have hX: ∀x∈(Zd 10 s).dropLast,x.length < 800000:=fun x hx=>by have:=m1 x (List.dropLast_subset _ hx);omega
 have htk:List.take ((Zd 10 s).length - 1) ((Zd 10 s).map fun p=>[AV.str p])=(Zd 10 s).dropLast.map fun p=>[AV.str p]:=by
  rw[<- List.map_take,List.dropLast_eq_take]
 unfold X8 VS;rw[zcc 635 rfl rfl];by_cases hbig:65536 < s.length
 ·have hbig': (65536:Int) < (s.length:Int):=by omega
  have hse: ¬s=[]:=by intro e;rw[e]at hbig;simp at hbig
  have hse2: (s == [])=false:=by simpa using hse
  cases hf:sfx [10] s <;> rw[hf]at c2 <;> simp[f635C,c1,c2,hse,hse2,hbig,hbig',Zy,hw]
 ·have hbig': ¬(65536:Int) < (s.length:Int):=by omega
  have hL:=F0 (Zd 10 s).dropLast hX (by omega) s bs (fun l=>some (.tup [.sl false 8 (Zh (if(Zk l).2≠0\/(Zk l).1≠s then []else l)),.int .i64 (if(Zk l).2≠0\/(Zk l).1≠s then 2 else 0)],bs))
   (fun l ρ hl h0 h5=>by
    obtain⟨h1,h2⟩:=My _ [] l hX (fun d hd=>by cases hd) hl;exact Qaq s bs l (by simp at h2;omega) h1 ρ h0 h5)
   (Zd 10 s).dropLast [] [] false
  rw[hdl]at hL;have hw4:IntKind.i64.wrap (((Zd 10 s).length:Int) - 1)=(((Zd 10 s).length - 1:Nat):Int):=by rw[Q2 (by omega) (by omega)];omega
  have hle5: (Zd 10 s).length - 1<=(Zd 10 s).length:=by omega
  generalize hD: (Zd 10 s).length - 1=D at *;by_cases hse:s=[]
  ·subst hse;have hD0:D=0:=by rw[<- hD];rfl
   subst hD0;simp only[Zd,List.dropLast,Y5,QO,QX,List.count_nil]at *;simp[f635C,c1,c2,c3,Zy,hw4,(show IntKind.i64.wrap 0=0 by decide)];rw[hL] <;> simp[Xf,Zy];split <;> simp[Zy]
  ·have hse2: (s == [])=false:=by simpa using hse
   have hfin: (match Xf (Zd 10 s).dropLast []with
     | none=>some (AV.tup [.sl false 8 [],.int .i64 2],bs)
     | some l=>some (.tup [.sl false 8 (Zh (if(Zk l).2≠0\/(Zk l).1≠s then []else l)),.int .i64 (if(Zk l).2≠0\/(Zk l).1≠s then 2 else 0)],bs))=
     some (.tup [.sl false 8 (Zh (match Xf (Zd 10 s).dropLast []with
      | none=>(([]:QS),(2:Int))
      | some l=>if(Zk l).2≠0\/(Zk l).1≠s then([],2)else(l,0)).1),.int .i64 (match Xf (Zd 10 s).dropLast []with
      | none=>(([]:QS),(2:Int))
      | some l=>if(Zk l).2≠0\/(Zk l).1≠s then([],2)else(l,0)).2],bs):=by
    cases Xf (Zd 10 s).dropLast []with
    | none=>rfl
    | some l=>simp only;split <;> rfl
   generalize hcn:s.count 10=cn at *;cases hf:sfx [10] s <;> rw[hf]at c2
   ·rw[Qh (show s≠[]/\false=false from⟨hse,rfl⟩)];by_cases h4:400 < cn+1
    ·have h4': (400:Int) < ((cn+1:Nat):Int):=by omega
     rw[Qh (.inr h4)];generalize cn+1=q at *;simp[f635C,c1,c2,hse,hse2,hbig,hbig',Zy,hw,h4,h4']
    ·have h4': ¬(400:Int) < ((cn+1:Nat):Int):=by omega
     rw[Qe (by omega)];refine Eq.trans ?_ hfin;generalize cn+1=q at *;simp[f635C,c1,c2,c3,hse,hse2,hbig,hbig',Zy,hw,h4,h4',hw4,htk,hle5];rw[hL] <;> first | (simp[Zy];done) | (simp[Zy,hD];done) | skip
     simp only[ne_eq];cases Xf (Zd 10 s).dropLast [] <;> rfl
   ·rw[Qe (show ¬(s≠[]/\true=false)from fun h=>by cases h.2)];by_cases h4:400 < cn
    ·have h4': (400:Int) < (cn:Int):=by omega
     rw[Qh (.inr h4)];simp[f635C,c1,c2,hse,hse2,hbig,hbig',Zy,h4,h4']
    ·have h4': ¬(400:Int) < (cn:Int):=by omega
     rw[Qe (by omega)];refine Eq.trans ?_ hfin;simp[f635C,c1,c2,c3,hse,hse2,hbig,hbig',Zy,h4,h4',hw4,htk,hle5];rw[hL] <;> first | (simp[Zy];done) | (simp[Zy,hD];done) | skip
     simp only[ne_eq];cases Xf (Zd 10 s).dropLast [] <;> rfl
def CT: ∀(l:QS) (i:Nat),i+l.length<=1000000->FmD l->fmE i l=0->∀d∈l,GdD d
 | [],_,_,_,_=>by simp
 | d:: l,i,hi,hF,he=>by
  obtain⟨f1,f2,f3⟩:=hF d (by simp);simp only[QO]at hi;rw[fmE]at he;by_cases h0:lnE d i=0
  ·rw[Qh h0]at he;have ih:=CT l (i+1) (by omega) (fun x hx=>hF x (by simp[hx])) (by simpa using he);have hfm:Wc d i=0:=by
    unfold lnE at h0;by_cases hf:Wc d i=0
    ·exact hf
    ·rw[Qe hf]at h0;exact h0
   rw[lnE,Qh hfm]at h0;intro x hx;rcases Yd.1 hx with rfl | hx
   ·exact FJ hfm (by omega) f1 f3 h0
   ·exact ih x hx
  ·rw[Qe h0]at he;exact absurd he h0
def MA: ∀l:QS,(∀d∈l,GdD d)->Zd 10 (fmS l)=l.map XE ++ [[]]
 | [],_=>by simp[fmS,Zd]
 | d:: l,h=>by
  have hd:=h d (by simp);have ih:=MA l fun x hx=>h x (by simp[hx]);have e:fmS (d:: l)=XE d ++ 10:: fmS l:=by simp[fmS,IE hd]
  rw[e,Hf _ (ID hd),ih];rfl
def IY: ∀(l acc:QS),(∀d∈l,GdD d)->Xf (l.map XE) acc=some (acc ++ l)
 | [],acc,_=>by simp[Xf]
 | d:: l,acc,h=>by
  have ih:=IY l (acc ++ [d]) fun x hx=>h x (by simp[hx]);rw[ZP,Xf,QaA (h d (by simp))];simp only[YW,QC];rw[ih];simp
def Hb (s:Qb):sfx [10] (s ++ [10])=true:=by
 simp[sfx]
def Io: ∀l:QS,(∀d∈l,GdD d)->l≠[]->∃s,fmS l=s ++ [10]
 | [],_,h=>absurd rfl h
 | [d],h,_=>⟨XE d,by simp[fmS,IE (h d (by simp))]⟩
 | d:: e:: l,h,_=>by
  obtain⟨s,hs⟩:=Io (e:: l) (fun x hx=>h x (by simp[hx])) (by simp);exact⟨VP d ++ s,by rw[fmS,hs];simp⟩
def Qc8 {l:QS} (h: ∀d∈l,GdD d):VS (fmS l)=l.length:=by
 have h1:=VW 10 (fmS l);rw[MA l h]at h1;simp only[Zf,Wa,QO,QX]at h1;have h2: (fmS l).count 10=l.length:=by omega
 unfold VS;rw[Qe,h2]
 rintro⟨h3,h4⟩
 by_cases hl:l=[]
 ·subst hl;exact h3 rfl
 ·obtain⟨s,hs⟩:=Io l h hl;rw[hs,Hb]at h4;cases h4
def P4 {l:QS} (hF:FmD l) (h: (Zk l).2=0):l.length<=400/\(Zk l).1=fmS l/\(fmS l).length<=65536/\∀d∈l,GdD d:=by
 unfold Zk at h ⊢;by_cases h1:400 < l.length
 ·rw[Qh h1]at h;simp at h
 ·rw[Qe h1]at h ⊢;by_cases h2:fmE 0 l=0
  ·rw[Qe (by simp[h2])]at h ⊢;by_cases h3:65536 < (fmS l).length
   ·rw[Qh h3]at h;simp at h
   ·rw[Qe h3];exact⟨by omega,rfl,by omega,CT l 0 (by omega) hF h2⟩
  ·rw[Qh h2]at h;exact absurd h h2
def IL {l:QS} (hF:FmD l) (h: (Zk l).2=0):X8 (Zk l).1=(l,0):=by
 obtain⟨h1,h2,h3,h4⟩:=P4 hF h;rw[h2];have h5:Xf (Zd 10 (fmS l)).dropLast []=some l:=by
  rw[MA l h4,List.dropLast_concat,IY l [] h4];rfl
 unfold X8;rw[Qc8 h4,Qe (by omega),h5];simp only;rw[Qe];rw[h,h2];simp
def IM {s:Qb} (hs:s.length < 800000) (h: (X8 s).2=0):FmD (X8 s).1/\(Zk (X8 s).1)=(s,0):=by
 unfold X8 at h ⊢;split at h
 ·simp at h
 ·rename_i hb;rw[Qe hb];cases hr:Xf (Zd 10 s).dropLast []with
  | none=>rw[hr]at h;simp at h
  | some l=>
   rw[hr]at h;simp only at h ⊢;split at h
   ·simp at h
   ·rename_i hc;rw[Qe hc];simp only[ne_eq,Vc,Decidable.not_not]at hc;obtain⟨m1,m2⟩:=S7 10 s;obtain⟨h1,h2⟩:=My _ [] l (fun x hx=>by have:=m1 x (List.dropLast_subset _ hx);omega) (fun d hd=>by cases hd) hr;exact⟨h1,Prod.ext hc.2 hc.1⟩
def Qan {s:Qb} (h: (X8 s).2≠0): (X8 s).1=[]:=by
 unfold X8 at h ⊢;split
 ·rfl
 ·rename_i hb;rw[Qe hb]at h;cases hr:Xf (Zd 10 s).dropLast []with
  | none=>rfl
  | some l=>
   rw[hr]at h;simp only at h ⊢;split
   ·rfl
   ·rename_i hc;rw[Qe hc]at h;simp at h
def rPl:Nat->QS->Qb->Bool->Option (QS×Bool)
 | 0,_,_,_=>none
 | m+1,l,s,g=>if s=[]then some (l,g)else if l.length=400 then none else rPl m (l ++ [(rdX (QM [10] s).1).1]) (QM [10] s).2.1 (g && (QM [10] s).2.2 && (rdX (QM [10] s).1).2)
def Ts (s:Qb):QS×Int:=
 if 65536 < s.length then([],3)else match rPl (s.length+1) [] s true with
  | none=>([],3)
  | some (l,g)=>if g=false then([],2)else if(Zk l).2≠0\/(Zk l).1≠s then([],2)else(l,0)
def P8 (q:Int): ∀(m i:Nat) (rest:Qb) (more ok:Bool) (N:Int) (a c:QH),(rXs q m i rest more ok N a c).2.1.length<=a.length+m/\(rXs q m i rest more ok N a c).2.2.1.length<=c.length+m
 | 0,i,rest,more,ok,N,a,c=>by simp[rXs]
 | m+1,i,rest,more,ok,N,a,c=>by
  rw[rXs];split
  ·simp only;omega
  ·simp only;split
   ·have:=P8 q m (i+1) (QM [32] rest).2.1 (QM [32] rest).2.2 (inR (QM [94] (QM [32] rest).1).1).2 (inR (QM [94] (QM [32] rest).1).1).1 a c;omega
   ·split
    ·have:=P8 q m (i+1) (QM [32] rest).2.1 (QM [32] rest).2.2 (inR (QM [94] (QM [32] rest).1).1).2 N (a ++ [(inR (QM [94] (QM [32] rest).1).1).1]) c;simp only[Zf,QO,QX]at this;omega
    ·have:=P8 q m (i+1) (QM [32] rest).2.1 (QM [32] rest).2.2 ((inR (QM [94] (QM [32] rest).1).1).2 && (inR (QM [94] (QM [32] rest).1).2.1).2) N (a ++ [(inR (QM [94] (QM [32] rest).1).1).1]) (c ++ [(inR (QM [94] (QM [32] rest).1).2.1).1]);simp only[Zf,QO,QX]at this;omega
def Bm (s:Qb) (hs:s.length < 800000): (rdX s).1.a.length < 1000000/\(rdX s).1.c.length < 1000000/\(rdX s).1.t.mass < big:=by
 obtain⟨l1,l2⟩:=X5 [58,32] s;have hT:=Qas (QM [58,32] s).2.1 (by omega);unfold rdX;simp only;have h:=P8 (rXr (QM [32] (QM [58,32] s).1).1 16 1 0) (s.length+2) 0 (QM [32] (QM [58,32] s).1).2.1 (QM [32] (QM [58,32] s).1).2.2 ((QM [58,32] s).2.2 && decide ((prR (QM [58,32] s).2.1).2=0) && decide (0 < rXr (QM [32] (QM [58,32] s).1).1 16 1 0)) 0 [] [];simp only[QX]at h;exact⟨by omega,by omega,hT⟩
def Bk: ∀(m:Nat) (l l':QS) (s:Qb) (g g':Bool),s.length < 800000->FmD l->l.length<=400->rPl m l s g=some (l',g')->FmD l'/\l'.length<=400
 | 0,l,l',s,g,g',_,_,_,h=>by simp[rPl]at h
 | m+1,l,l',s,g,g',hs,hF,hl,h=>by
  rw[rPl]at h;split at h
  ·simp only[Qs,QB]at h;obtain⟨rfl,_⟩:=h;exact⟨hF,hl⟩
  ·split at h
   ·cases h
   ·obtain⟨l1,l2⟩:=X5 [10] s;have hx:=Bm (QM [10] s).1 (by omega);exact Bk m _ l' _ _ g' (by omega) (fun d hd=>by
     rcases Wd.1 hd with hd | hd
     ·exact hF d hd
     ·simp at hd;subst hd;exact hx) (by simp;omega) h
def IF:VS []=0:=by simp[VS]
def Qad {s p q:Qb} (h:Yz [10] s=some (p,q)):VS s=VS q+1:=by
 have hs:s=p ++ 10:: q:=by
  rcases VY [10] s with⟨h1,_⟩ | ⟨p',q',h1,_,h3⟩
  ·rw[h1]at h;cases h
  ·rw[h1]at h;simp only[Qs,QB]at h;obtain⟨rfl,rfl⟩:=h;simpa using h3
 have h1:=VW 10 s;have h2:=VW 10 q;rw[(WE 10 s).2 p q h,QO]at h1;have hc:s.count 10=q.count 10+1:=by omega
 have hne:s≠[]:=by rw[hs];simp
 unfold VS;by_cases hq:q=[]
 ·subst hq;have:sfx [10] s=true:=by rw[hs];exact Hb p
  simp[this,hc]
 ·have hsf:sfx [10] s=sfx [10] q:=by
   have hql:0 < q.length:=WY.2 hq;unfold sfx;rw[hs];simp only[Zf,QO,QX,QP];have e1: (p ++ 10:: q).drop (p.length+ (q.length+1) - 1)=q.drop (q.length - 1):=by
    rw[show p.length+ (q.length+1) - 1=p.length+ (1+ (q.length - 1)) by omega,Nh,];simp[Nat.add_comm 1]
   rw[e1];have e2:decide (1<=p.length+ (q.length+1))=decide (1<=q.length):=by
    rw[Nl (by omega),Nl (by omega)]
   rw[e2]
  rw[hsf];by_cases hf:sfx [10] q=false
  ·simp[hf,hne,hq,hc]
  ·simp[hf,hc]
def Qae {s:Qb} (h:Yz [10] s=none) (hne:s≠[]):VS s=1:=by
 have h1:=VW 10 s;rw[(WE 10 s).1 h]at h1;have hc:s.count 10=0:=by simpa using h1
 have hsf:sfx [10] s=false:=by
  cases hf:sfx [10] s
  ·rfl
  ·exfalso;simp only[sfx,Qi,XL]at hf;have hm: (10:UInt8)∈s:=List.drop_subset _ _ (by rw[hf.2];simp);have:=List.count_pos_iff.2 hm;omega
 simp[VS,hne,hsf,hc]
def IX: ∀(m:Nat) (l:QS) (s:Qb) (g:Bool),s.length < m->l.length<=400->(rPl m l s g=none↔400 < l.length+VS s)
 | 0,l,s,g,h,_=>by omega
 | m+1,l,s,g,h,hl=>by
  rw[rPl];by_cases hs:s=[]
  ·subst hs;simp[IF];omega
  ·rw[Qe hs];have hpos:0 < s.length:=WY.2 hs;have hcut:VS s=VS (QM [10] s).2.1+1/\(QM [10] s).2.1.length < s.length:=by
    unfold QM;cases hc:Yz [10] s with
    | none=>exact⟨by rw[Qae hc hs,IF],by simpa using hpos⟩
    | some x=>
     obtain⟨p,q⟩:=x;refine⟨Qad hc,?_⟩;have:=Pv [10] s (by decide);unfold QM at this;rw[hc]at this;simp only at this ⊢;have:=this trivial;omega
   by_cases h4:l.length=400
   ·rw[Qh h4];simp;omega
   ·rw[Qe h4,IX m _ _ _ (by omega) (by simp;omega)];simp only[Zf,QO,QX];omega
def GL: ∀(l acc:QS) (m:Nat),(∀d∈l,GdD d)->acc.length+l.length<=400->(fmS l).length < m->rPl m acc (fmS l) true=some (acc ++ l,true)
 | [],acc,m,_,_,hm=>by
  obtain⟨m,rfl⟩: ∃k,m=k+1:=⟨m - 1,by simp[fmS]at hm;omega⟩;simp[rPl,fmS]
 | d:: l,acc,m,h,hl,hm=>by
  have hd:=h d (by simp);have e:fmS (d:: l)=XE d ++ 10:: fmS l:=by simp[fmS,IE hd]
  rw[e]at hm ⊢;simp only[Zf,QO]at hm hl;obtain⟨m,rfl⟩: ∃k,m=k+1:=⟨m - 1,by omega⟩;have ih:=GL l (acc ++ [d]) m (fun x hx=>h x (by simp[hx])) (by simp;omega) (by omega);rw[rPl,Qe (by simp),Qe (by omega),SU _ (ID hd)];simp only[QaB hd,Bool.and_self];rw[ih];simp
def Qao {l:QS} (hF:FmD l) (h: (Zk l).2=0):Ts (Zk l).1=(l,0):=by
 obtain⟨h1,h2,h3,h4⟩:=P4 hF h;have h5:=GL l [] ((fmS l).length+1) h4 (by simpa using h1) (by omega);unfold Ts;rw[h2,Qe (by omega),h5];simp only[Wb,YW,QC];rw[Qe];rw[h,h2];simp
def Qap {s:Qb} (hs:s.length < 800000) (h: (Ts s).2=0):FmD (Ts s).1/\(Zk (Ts s).1)=(s,0):=by
 unfold Ts at h ⊢;split at h
 ·simp at h
 ·rename_i hb;rw[Qe hb];cases hr:rPl (s.length+1) [] s true with
  | none=>rw[hr]at h;simp at h
  | some x=>
   obtain⟨l,g⟩:=x;rw[hr]at h;simp only at h ⊢;split at h
   ·simp at h
   ·rename_i hg;rw[Qe hg];split at h
    ·simp at h
    ·rename_i hc;rw[Qe hc];simp only[ne_eq,Vc,Cs]at hc;obtain⟨h1,h2⟩:=Bk _ [] l s true g hs (fun d hd=>by cases hd) (by simp) hr;exact⟨h1,Prod.ext hc.2 hc.1⟩
def QhY {s:Qb} (hs:s.length < 800000):X8 s=Ts s:=by
 by_cases h1: (X8 s).2=0
 ·obtain⟨a,b⟩:=IM hs h1;have h2:=Qao a (by rw[b]);rw[b]at h2;simp only at h2;rw[h2,<- h1]
 ·by_cases h2: (Ts s).2=0
  ·obtain⟨a,b⟩:=Qap hs h2;have h3:=IL a (by rw[b]);rw[b]at h3;simp only at h3;rw[h3]at h1;exact absurd rfl h1
  ·have hn:=IX (s.length+1) [] s true (by omega) (by simp);simp only[QX,QP]at hn;unfold X8 Ts at *;by_cases h3:65536 < s.length
   ·rw[Qh (.inl h3),Qh h3]
   ·rw[Qe h3]at h2 ⊢;by_cases h4:400 < VS s
    ·rw[Qh (.inr h4),hn.2 h4]
    ·rw[Qe (by omega)]at h1 ⊢;cases hr:rPl (s.length+1) [] s true with
     | none=>exact absurd (hn.1 hr) h4
     | some x=>
      obtain⟨l,g⟩:=x;rw[hr]at h2;simp only at h2 ⊢;have e2: (if g=false then(([]:QS),(2:Int))else if(Zk l).2≠0\/(Zk l).1≠s then([],2)else(l,0))=([],2):=by
       by_cases hg:g=false
       ·rw[Qh hg]
       ·rw[Qe hg]at h2 ⊢;by_cases hc: (Zk l).2≠0\/(Zk l).1≠s
        ·rw[Qh hc]
        ·rw[Qe hc]at h2;exact absurd rfl h2
      rw[e2];cases hq:Xf (Zd 10 s).dropLast []with
      | none=>rfl
      | some l2=>
       rw[hq]at h1;simp only at h1 ⊢;by_cases hc: (Zk l2).2≠0\/(Zk l2).1≠s
       ·rw[Qh hc]
       ·rw[Qe hc]at h1;exact absurd rfl h1
def Bc (s:Qb) (bs:Qd) (l:QS) (g:Bool) (hl:l.length < 1000000000) (hF:FmD l) (ρ:Qq) (h0:ρ 0= .str s) (h4:ρ 4= .sl true 8 (Zh l)) (h6:ρ 6= .bool g):
  R tb f722r0 ρ bs (Zn f722 bs)=some (.tup [.sl false 8 (Zh (if g=false then(([]:QS),(2:Int))else if(Zk l).2≠0\/(Zk l).1≠s then([],2)else(l,0)).1),.int .i64 (if g=false then(([]:QS),(2:Int))else if(Zk l).2≠0\/(Zk l).1≠s then([],2)else(l,0)).2],bs):=by
 have c:=Gc l false hF hl bs;generalize Zk l=p at *;obtain⟨t,e⟩:=p;simp only at c ⊢;cases g
 ·rw[Qh rfl];simp[f722r0,h0,h4,h6,Zy]
 ·rw[Qe (by simp)];by_cases he:e=0
  ·subst he;by_cases ht:t=s
   ·subst ht;simp[f722r0,h0,h4,h6,c]
   ·have ht2: (t == s)=false:=by simpa using ht
    simp[f722r0,h0,h4,h6,c,ht,ht2,Zy]
  ·simp[f722r0,h0,h4,h6,c,he,Zy]
def Qcg (s:Qb) (hs:s.length < 800000) (bs:Qd):call tb 724 [.str s] bs=some (.tup [.agg (Zi (rdX s).1),.bool (rdX s).2],bs):=by
 have c1:=SS s [58,32] bs (by omega) (by decide) (by decide);obtain⟨l1,l2⟩:=X5 [58,32] s;unfold rdX;generalize QM [58,32] s=p at *;obtain⟨hd,tl,ok⟩:=p;simp only at c1 l1 l2 ⊢;have c2:=QbR tl (by omega) bs;generalize prR tl=t at *;obtain⟨T,e⟩:=t;simp only at c2 ⊢;have c3:=SS hd [32] bs (by omega) (by decide) (by decide);obtain⟨k1,k2⟩:=X5 [32] hd;generalize QM [32] hd=h at *;obtain⟨w,rest,more⟩:=h;simp only at c3 k1 k2 ⊢;rw[zcc 724 rfl rfl];have hR:=F8 w T bs (fun q=>some (.tup [.agg ([.int .i64 q,.int .i64 (rXs q (s.length+2) 0 rest more (ok && decide (e=0) && decide (0 < q)) 0 [] []).1,.sl false 1 (ZD (rXs q (s.length+2) 0 rest more (ok && decide (e=0) && decide (0 < q)) 0 [] []).2.1),.sl false 1 (ZD (rXs q (s.length+2) 0 rest more (ok && decide (e=0) && decide (0 < q)) 0 [] []).2.2.1)]++ Ql T),.bool (rXs q (s.length+2) 0 rest more (ok && decide (e=0) && decide (0 < q)) 0 [] []).2.2.2],bs))
  (.bool ok) (.int .i64 e) (.str rest) (.bool more) (fun q ρ hq h2 h4 h7 h9 h11 h12=>by
   have hL:=Ez q T bs (s.length+2) 0 rest more (ok && decide (e=0) && decide (0 < q)) 0 [] [];have e1: (if more then rest.length+1 else 0) < s.length+2:=by split <;> omega
   cases ok
   ·simp[-getElem?_pos,Qr,Qv,f724r1,h2,h4,h7,h9,h11,h12,Qx];simp only[Bool.false_and]at hL ⊢;rw[hL] <;> first | (simp[h2,h4,h11,h12,ZD,Qx];done) | omega
   ·by_cases he:e=0
    ·subst he;simp[-getElem?_pos,Qr,Qv,f724r1,h2,h4,h7,h9,h11,h12,Qx];simp only[SP,Wf,We]at hL ⊢;rw[hL] <;> first | (simp[h2,h4,h11,h12,ZD,Qx];done) | omega
    ·simp[-getElem?_pos,Qr,Qv,f724r1,h2,h4,h7,h9,h11,h12,Qx,he];simp only[decide_eq_false he,Bool.and_false,Bool.false_and]at hL ⊢;rw[hL] <;> first | (simp[h2,h4,h11,h12,ZD,Qx];done) | omega)
  16 1 0
 simp[f724C,c1,c2,c3];rw[hR] <;> first | omega | (simp[Qx,Zu];done) | skip
def HK (s0:Qb) (bs:Qd) (RES:QS->Bool->Option (AV×Qd))
  (hr0: ∀(l:QS) (g:Bool) (ρ:Qq),FmD l->l.length<=400->ρ 0= .str s0->ρ 4= .sl true 8 (Zh l)->ρ 6= .bool g->R tb f722r0 ρ bs (Zn f722 bs)=RES l g):
  ∀(m:Nat) (l:QS) (s:Qb) (g:Bool) (ρ:Qq),s.length < m->s.length < 800000->FmD l->l.length<=400->ρ 0= .str s0->ρ 4= .sl true 8 (Zh l)->ρ 5= .str s->ρ 6= .bool g->
  R tb (.loop f722l0) ρ bs (Q1 0 (ZE tb f722r0 (Zn f722 bs)))=
   match rPl m l s g with
   | none=>some (.tup [.sl false 8 [],.int .i64 3],bs)
   | some (l,g)=>RES l g:=by
 intro m
 induction m with
 | zero=>intro l s g ρ h;omega
 | succ m ih=>
  intro l s g ρ hm hs hF hl h0 h4 h5 h6;rw[Qo f722l0.eq_1,rPl];by_cases hse:s=[]
  ·subst hse;rw[Qh rfl];simp[h0,h4,h5,h6];rw[hr0 l g] <;> simp[h0,h4,h6,hF,hl]
  ·have hse2: (s == [])=false:=by simpa using hse
   rw[Qe hse];have c1:=SS s [10] bs (by omega) (by decide) (by decide);obtain⟨l1,l2⟩:=X5 [10] s;have hlt: (QM [10] s).2.1.length < s.length:=by
    have hpos:0 < s.length:=WY.2 hse;have h3:=Pv [10] s (by decide);cases hc: (QM [10] s).2.2
    ·unfold QM at hc ⊢;cases hq:Yz [10] s with
     | none=>simpa using hpos
     | some x=>rw[hq]at hc;simp at hc
    ·have:=h3 hc;omega
   generalize QM [10] s=p at *;obtain⟨one,more,ok⟩:=p;simp only at c1 l1 l2 hlt ⊢;have c2:=Qcg one (by omega) bs;have hx:=Bm one (by omega);generalize rdX one=q at *;obtain⟨d,is⟩:=q;simp only at c2 hx ⊢;by_cases hl4:l.length=400
   ·rw[Qh hl4];have hl4': (l.length:Int)=400:=by omega
    simp[h0,h4,h5,h6,hse,hse2,c1,hl4,hl4']
   ·rw[Qe hl4];have hl4': ¬(l.length:Int)=400:=by omega
    have e1: (l.length+1)*120<=140737488355328:=by omega
    have hI:=fun g' ρ=>ih (l ++ [d]) more g' ρ (by omega) (by omega) (fun y hy=>by
     rcases Wd.1 hy with hy | hy
     ·exact hF y hy
     ·simp at hy;subst hy;exact hx) (by simp;omega)
    cases g <;> cases ok <;> cases is <;> simp[-getElem?_pos,Qr,Qv,h0,h4,h5,h6,hse,hse2,c1,hl4,hl4',c2,e1,UX] <;> (rw[hI] <;> simp[h0,UX])
def Qcf (s:Qb) (hs:s.length < 800000) (bs:Qd):call tb 722 [.str s] bs=some (.tup [.sl false 8 (Zh (Ts s).1),.int .i64 (Ts s).2],bs):=by
 have hL:=HK s bs (fun l g=>some (.tup [.sl false 8 (Zh (if g=false then(([]:QS),(2:Int))else if(Zk l).2≠0\/(Zk l).1≠s then([],2)else(l,0)).1),.int .i64 (if g=false then(([]:QS),(2:Int))else if(Zk l).2≠0\/(Zk l).1≠s then([],2)else(l,0)).2],bs))
  (fun l g ρ hF hl h0 h4 h6=>Bc s bs l g (by omega) hF ρ h0 h4 h6) (s.length+1) [] s true
 unfold Ts;rw[zcc 722 rfl rfl];by_cases hb:65536 < s.length
 ·have hb': (65536:Int) < (s.length:Int):=by omega
  rw[Qh hb];simp[f722C,hb,hb',Zy]
 ·have hb': ¬(65536:Int) < (s.length:Int):=by omega
  rw[Qe hb];simp[f722C,hb,hb'];rw[hL] <;> first | omega | (simp[Zy];done) | (intro d hd;cases hd) | skip
  cases rPl (s.length+1) [] s true <;> simp[Zy]
def getD_set_ne {u:Y3} {i j:Nat} {b:Bool} (h:j≠i): (u.set j b).getD i false=u.getD i false:=by
 simp[WV,WX h]
def Ae (l out:QS) (p:Nat) (x:Ded):Prop:=∃(j:Nat) (d:Ded),l[j]? =some d/\x.r=d.r/\x.n=d.n/\x.c=d.c/\x.t=d.t/\x.a.length=d.a.length/\
 ∀(i:Nat) (a:Int),d.a[i]? =some a->∃b:Nat,x.a[i]? =some (b:Int)/\b < p/\∃y,out[b]? =some y/\l[a.toNat]?.map Ded.t=some y.t
def Ae.app {l out:QS} {p:Nat} {x:Ded} (h:Ae l out p x) (z:QS) (hp:p<=out.length):Ae l (out ++ z) p x:=by
 obtain⟨j,d,h1,h2,h3,h4,h5,h6,h7⟩:=h;refine⟨j,d,h1,h2,h3,h4,h5,h6,fun i a ha=> ?_⟩;obtain⟨b,k1,k2,y,k3,k4⟩:=h7 i a ha;exact⟨b,k1,k2,y,by rw[ZO (by omega)];exact k3,k4⟩
def Qdc (l:QH) (bs:Qd) (hl:l.length<=1000000):
  ∀(post pre:QH) (ρ:Qq),l=pre ++ post->ρ 0= .sl false 1 (ZD l)->ρ 1= .sl false 1 (ZD l)->ρ 5= .int .i64 pre.length->
  R tb (.loop f710l0) ρ bs (Q1 0 (ZE tb f710r0 (Zn f710 bs)))=some (.bool true,bs):=by
 intro post
 induction post with
 | nil=>
  intro pre ρ hk h0 h1 h5;simp only[Ya]at hk;rw[<- hk]at h5;rw[Qo f710l0.eq_1];simp[h0,h1,h5,f710r0]
 | cons x post IH=>
  intro pre ρ hk h0 h1 h5;have hll:=XA hk;have hx: (ZD l)[pre.length]? =some [.int .i64 x]:=by rw[Ih,ZM hk];rfl
  have hw1:=wr1 pre.length (by omega);have hlt:=XX hk;rw[Qo f710l0.eq_1];simp[-Ih,h0,h1,h5,hx,hlt,hw1];rw[IH (pre ++ [x])] <;> simp[h0,h1,hk]
def JY (l:QH) (bs:Qd) (hl:l.length<=1000000):call tb 710 [.sl false 1 (ZD l),.sl false 1 (ZD l)] bs=some (.bool true,bs):=by
 rw[zcc 710 rfl rfl];simp[f710C];rw[Qdc l bs hl l []] <;> simp
def QaU (l:QS) (bs:Qd) (hl:l.length<=1000000) (hac: ∀d∈l,d.a.length<=1000000/\d.c.length<=1000000/\d.t.mass < 1000000):
  ∀(post pre:QS) (ρ:Qq),l=pre ++ post->ρ 0= .sl false 8 (Zh l)->ρ 1= .sl false 8 (Zh l)->ρ 5= .int .i64 pre.length->
  R tb (.loop f709l0) ρ bs (Q1 0 (ZE tb f709r0 (Zn f709 bs)))=some (.bool true,bs):=by
 intro post
 induction post with
 | nil=>
  intro pre ρ hk h0 h1 h5;simp only[Ya]at hk;rw[<- hk]at h5;rw[Qo f709l0.eq_1];simp[h0,h1,h5,f709r0]
 | cons d post IH=>
  intro pre ρ hk h0 h1 h5;have hll:=XA hk;have hx: (Zh l)[pre.length]? =some (Zi d):=by rw[Rr,ZM hk];rfl
  have hw1:=wr1 pre.length (by omega);have hlt:=XX hk;obtain⟨a1,a2,a3⟩:=hac d (by rw[hk];simp);have c1:=JY d.a bs a1;have c2:=JY d.c bs a2;have c3:=Fq d.t d.t bs (by unfold big;omega) (by unfold big;omega);rw[Pu]at c3;have e0:=Qcp d;have e1:=Qcq d;have e2:=Qcr d;have e3:=Qcs d;have e4:=Oh d;have el:=CC d;have htk: (Ql d.t).take 4=Ql d.t:=Py d.t;generalize ZD d.a=EA at *;generalize ZD d.c=EC at *;generalize Zi d=ED at *;rw[Qo f709l0.eq_1];simp[-getElem?_pos,Qr,List.getElem?_cons_succ,-Rr,h0,h1,h5,hx,hlt,hw1,e0,e1,e2,e3,e4,el,htk,c1,c2,c3];rw[IH (pre ++ [d])] <;> simp[h0,h1,hk]
def OA (l:QS) (o o1:Bool) (bs:Qd) (hl:l.length<=1000000) (hac: ∀d∈l,d.a.length<=1000000/\d.c.length<=1000000/\d.t.mass < 1000000):
  call tb 709 [.sl o 8 (Zh l),.sl o1 8 (Zh l)] bs=some (.bool true,bs):=by
 rw[zcc 709 rfl rfl];simp[f709C];rw[QaU l bs hl hac l []] <;> simp
def AZ {l:QS} (h: ∀d∈l,GdD d): ∀d∈l,d.a.length<=1000000/\d.c.length<=1000000/\d.t.mass < 1000000:=fun d hd=>by
 have h1:=h d hd;have h2:=h1.al;have h3:=h1.ca;have h4:=(Ey h1.v).2.2;exact⟨by omega,by omega,by omega⟩
def OL (l:QS) (h0:call tb 633 [] []=some (.bool true,[])) (hl:l.length<=1172812402961) (hr:Ai l):call tb 716 [.sl false 8 (Zh l)] []=some (.bool true,[]):=by
 have h1:=Qcd l false [] hl;rw[zcc 716 rfl rfl];cases hf:OG l
 ·rw[hf]at h1;simp[f716C,h0,h1]
 ·rw[hf]at h1;have hfd:=QiZ hr hf;have hll:=hfd.len;have hF:FmD l:=fun d hd=>by
   have:=hfd.ac d hd;have:=hfd.mass d hd;exact⟨by omega,by omega,by unfold big;omega⟩
  have c1:=PZ l false hF (by omega) [];have c2:=Gc l false hF (by omega) [];have c4:=OA l false false [] (by omega) fun d hd=>by
   have:=hfd.ac d hd;have:=hfd.mass d hd;exact⟨by omega,by omega,by omega⟩
  by_cases he: (Zk l).2=0
  ·obtain⟨_,q2,q3,_⟩:=P4 hF he;have c3:=Mf (Zk l).1 (by rw[q2];omega) [];rw[IL hF he]at c3;generalize Zk l=p at *;obtain⟨t,e⟩:=p;simp only at c1 c2 c3 he;subst he;simp[f716C,h0,h1,c1,c2,c3,c4]
  ·have ht: (Zk l).1.length < 800000:=by
    unfold Zk;split
    ·simp
    ·split
     ·simp
     ·split
      ·simp
      ·simp only;omega
   have c3:=Mf (Zk l).1 ht [];generalize X8 (Zk l).1=q at *;generalize Zk l=p at *;obtain⟨t,e⟩:=p;obtain⟨m,g⟩:=q;simp only at c1 c2 c3 he;simp[f716C,h0,h1,c1,c2,c3,he]
def NL (s:Qb) (h0:call tb 633 [] []=some (.bool true,[])):call tb 721 [.str s] []=some (.bool true,[]):=by
 rw[zcc 721 rfl rfl];by_cases hb:5000 < s.length
 ·have hb': (5000:Int) < (s.length:Int):=by omega
  simp[f721C,h0,hb,hb']
 ·have hb': ¬(5000:Int) < (s.length:Int):=by omega
  have c1:=Mf s (by omega) [];have c2:=Qcf s (by omega) [];rw[<- QhY (by omega)]at c2;by_cases he: (X8 s).2=0
  ·obtain⟨q1,q2⟩:=IM (by omega) he;obtain⟨q3,_,_,q4⟩:=P4 q1 (by rw[q2]);have c3:=OA (X8 s).1 false false [] (by omega) (AZ q4);have c4:=PZ (X8 s).1 false q1 (by omega) [];rw[q2]at c4;generalize X8 s=p at *;obtain⟨l,e⟩:=p;simp only at c1 c2 c3 c4 he;subst he;simp[f721C,h0,hb,hb',c1,c2,c3,c4]
  ·have hn:=Qan he;have c3:=OA [] false false [] (by simp) (fun d hd=>by cases hd);have c4:=PZ [] false (fun d hd=>by cases hd) (by simp) [];generalize X8 s=p at *;obtain⟨l,e⟩:=p;simp only at c1 c2 he hn;subst hn;generalize Zk []=q at *;obtain⟨t,f⟩:=q;simp only at c4;simp[f721C,h0,hb,hb',c1,c2,c3,c4,he]
end Go.Am
