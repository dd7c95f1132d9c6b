/-
  Rc25, Rc26, Rc27, Rc28, Rc29, Rc30, Rc31, Rc32, Rc33, Rc34, Rc35, Rc36, Rc37, Rc38, Rc39, Rc40, Rc41, Rc42.
-/
import Derived.Test.YtpdmcibimbjknaaGreatDoorG18
set_option linter.unusedVariables false
set_option linter.unusedSimpArgs false
namespace Go.Am
set_option maxRecDepth 8000
theorem Ng {n:List UInt8} (h:Z4 n=true):n.length≤24:=by
 cases n with
 | nil=>simp
 | cons c r=>
  simp only[Z4,Bool.and_eq_true,decide_eq_true_eq]at h;simp only[List.length_cons];omega
theorem Hm {t:Tm} (h:Uv t=0):t.name.length≤24∧t.kids.length≤8∧(t.kind=3→t.sort=0)∧(t.kind≠3→t.kids=[]):=by
 unfold Uv at h;split at h
 ·rename_i hk;split at h
  ·cases h
  ·rename_i h1;split at h
   ·cases h
   ·rename_i h2;have h3:t.kids.length=0:=by omega
    exact⟨Ng (by simpa using h2),by omega,fun e=>by omega,fun _=>List.eq_nil_of_length_eq_zero h3⟩
 ·split at h
  ·rename_i hk;split at h
   ·cases h
   ·rename_i h1;split at h
    ·cases h
    ·rename_i h2;split at h
     ·cases h
     ·exact⟨Ng (by simpa using h2),by omega,fun _=>by simpa using h1,fun e=>absurd hk e⟩
  ·cases h
mutual
theorem LN: ∀t:Tm,Xs t=0→t.mass≤33*t.nodes
 | .mk k n s ks,h=>by
  simp only[Xs]at h;split at h
  ·rename_i h1;exact absurd h h1
  ·rename_i h1;obtain⟨a,b,_⟩:=Hm (t:= .mk k n s ks) (by simpa using h1);have:=errL_mass ks h;simp only[Zl,QY]at a b;simp only[Tm.mass,Tm.nodes];omega
theorem errL_mass: ∀ts:List Tm,errL ts=0→massL ts≤33*nodesL ts
 | [],_=>by simp[massL,nodesL]
 | t:: ts,h=>by
  simp only[errL]at h;split at h
  ·rename_i h1;exact absurd h h1
  ·rename_i h1;have a:=LN t (by simpa using h1);have b:=errL_mass ts h;simp only[massL,nodesL];omega
end
theorem UZ {t:Tm} (h:QK t=0):Xs t=0∧t.nodes≤400∧t.mass≤13200:=by
 unfold QK at h;split at h
 ·rename_i h1;exact absurd h h1
 ·rename_i h1;split at h
  ·cases h
  ·have:=LN t (by simpa using h1);exact⟨by simpa using h1,by omega,by omega⟩
theorem BA {n:List UInt8} {y:Sy} (h:Zu n YQ=some y) (m:Nat) (h1: ¬((m:Int) < y.l∨y.m < m)):ZH n m=true:=by
 unfold ZH;split
 ·rename_i hn;have:y.l=2∧y.m=2:=by rcases hn with rfl | rfl | rfl | rfl | rfl | rfl | rfl | rfl <;> simp[ZG,ENC,Yc,ZV,EXP,DEC,Zo,ZF,Zu,YQ]at h <;> subst h <;> simp
  simp;omega
 ·split
  ·rename_i hn;have:y.l=1∧y.m=1:=by rcases hn with rfl | rfl | rfl | rfl <;> simp[PK,FST,SND,READ,Zu,YQ]at h <;> subst h <;> simp
   simp;omega
  ·rfl
mutual
theorem Mk: ∀t:Tm,Xs t=0→YF t=0→QN t=true
 | .mk k n s ks,h,hc=>by
  simp only[Xs]at h;split at h
  ·rename_i h1;exact absurd h h1
  ·rename_i h1;obtain⟨_,_,a,b⟩:=Hm (t:= .mk k n s ks) (by simpa using h1);simp only[Vd,Uk,QY]at a b;simp only[YF]at hc;by_cases hk:k=3
   ·subst hk;rw[if_neg (by simp)]at hc;cases hy:Zu n YQ with
    | none=>rw[hy]at hc;simp at hc
    | some y=>
     rw[hy]at hc;simp only at hc;split at hc
     ·cases hc
     ·rename_i h2;have har:=BA hy ks.length h2;split at hc
      ·cases hc
      ·split at hc
       ·cases hc
       ·have:=goodL_valid ks h hc;simp[QN,a rfl,har,this]
   ·have:=b hk;subst this;simp[QN,hk,goodL]
theorem goodL_valid: ∀ts:List Tm,errL ts=0→chkL ts=0→goodL ts=true
 | [],_,_=>rfl
 | t:: ts,h,hc=>by
  simp only[errL]at h;simp only[chkL]at hc;split at h
  ·rename_i h1;exact absurd h h1
  ·rename_i h1;split at hc
   ·rename_i h2;exact absurd hc h2
   ·rename_i h2;simp[goodL,Mk t (by simpa using h1) (by simpa using h2),goodL_valid ts h hc]
end
mutual
theorem BD: ∀(t y:Tm),QN t=true→y∈ZW t→QN y=true
 | .mk k n s ks,y,h,hy=>by
  simp only[ZW,List.mem_cons]at hy;rcases hy with rfl | hy
  ·exact h
  ·exact good_allL ks y (X2 h) hy
theorem good_allL: ∀(ts:List Tm) (y:Tm),goodL ts=true→y∈allL ts→QN y=true
 | [],y,_,hy=>by simp[allL]at hy
 | t:: ts,y,h,hy=>by
  simp only[goodL,Bool.and_eq_true]at h;simp only[allL,List.mem_append]at hy;rcases hy with hy | hy
  ·exact BD t y h.1 hy
  ·exact good_allL ts y h.2 hy
end
theorem Xk:QN Qz=true:=by simp[Qz,QN,goodL]
theorem Vw {n:List UInt8} {us:List Tm} (ha:ZH n us.length=true) (h:goodL us=true):QN (.mk 3 n 0 us)=true:=by simp[QN,ha,h]
theorem Tw {t:Tm} (h:QN t=true) (i:Nat):QN (kid t i)=true:=by
 unfold kid;rw[List.getD_eq_getElem?_getD];cases hg:t.kids[i]? with
 | none=>simpa using Xk
 | some x=>exact YO.1 (X2 h) x (List.mem_of_getElem? hg)
theorem WZ (t:Tm) (i:Nat): (kid t i).mass≤t.mass:=by
 unfold kid;rw[List.getD_eq_getElem?_getD];have:=Qy t;cases hg:t.kids[i]? with
 | none=>simp[Qz,Tm.mass,massL];omega
 | some x=>have:=QF (List.mem_of_getElem? hg);simp;omega
theorem BF {us:List Tm} (h:goodL us=true):QN (Y8 us).1=true:=by
 unfold Y8;split
 ·exact Xk
 ·split
  ·exact Xk
  ·have hL: ∀y∈sumL [] us,QN y=true:=fun y hy=>by
    rcases sumL_mem us [] y hy with h1 | h1
    ·simp at h1
    ·exact good_allL us y h h1
   show QN (tmX (sumL [] us))=true
   match hh:sumL [] us with
   | []=>simp[tmX,QN,goodL,ZH,Zx,ZG,ENC,Yc,ZV,EXP,DEC,Zo,ZF,PK,FST,SND,READ]
   | [p]=>simp only[tmX];exact hL p (by rw[hh];simp)
   | p:: q:: r=>
    simp only[tmX];refine Vw (by simp[ZH,XOR,ZG,ENC,Yc,ZV,EXP,DEC,Zo,ZF,PK,FST,SND,READ]) (YO.2 fun x hx=>hL x (by rw[hh];exact hx))
theorem Ou (us:List Tm): (Y8 us).1.mass≤13200:=by
 unfold Y8;split
 ·simp[Qz,Tm.mass,massL]
 ·split
  ·simp[Qz,Tm.mass,massL]
  ·rename_i h;exact(UZ (by simpa using h)).2.2
theorem VT:Qz.mass=1:=by simp[Qz,Tm.mass,massL]
def KG (l:List Pw):Prop:=∀q∈l,QN q.1=true
theorem Fp {l:List Pw} {t:Tm} {m:Int} (h:KG l) (ht:QN t=true):KG (Ya l t m):=by
 intro q hq;rcases Ua hq with hq | rfl | ⟨_,_,rfl,_⟩
 ·exact h q hq
 ·exact ht
 ·exact ht
theorem Qen: ∀(t:Tm) (l:List Pw) (m:Int),KG l→QN t=true→KG (XM l t m):=by
 refine ZD ?_;intro k n s ks ih l m h hm;have hk:=YO.1 (X2 hm);have hL: ∀(xs:List Tm) (l:List Pw) (m:Int),(∀x∈xs,x∈ks)→KG l→KG (colL l xs m):=by
  intro xs
  induction xs with
  | nil=>intro l m _ h;simpa[colL]using h
  | cons x xs IH=>
   intro l m hx h;simp only[colL];exact IH _ m (fun y hy=>hx y (by simp[hy])) (ih x (hx x (by simp)) l m h (hk x (hx x (by simp))))
 rw[RP];split
 ·exact hL ks l _ (fun x hx=>hx) h
 ·exact Fp h hm
theorem Mr: ∀(b a:List Pw),KG a→KG b→KG (Y4 a b)
 | [],a,h,_=>h
 | q:: b,a,h,hb=>Mr b _ (Fp h (hb q (by simp))) fun x hx=>hb x (by simp[hx])
theorem Ms {t:Tm} (h:QN t=true):KG (ofP t):=by
 unfold ofP;split
 ·exact Qen t [] 1 (fun q hq=>by simp at hq) h
 ·intro q hq;simp at hq
theorem Qeo {a b:List Pw} (ha:KG a) (hb:KG b):KG (YG a b):=by
 unfold YG;split
 ·exact Mr b a ha hb
 ·intro q hq;simp at hq
theorem BE {l:List Pw} (h:KG l):goodL (Zv l)=true:=by
 refine YO.2 fun x hx=> ?_;simp only[Zv,Xl,XB,List.mem_append,List.mem_flatten,List.mem_map]at hx;rcases hx with⟨_,⟨q,hq,rfl⟩,hx⟩ | ⟨_,⟨q,hq,rfl⟩,hx⟩
 ·rw[List.eq_of_mem_replicate hx];exact h q hq
 ·rw[List.eq_of_mem_replicate hx];exact Vw (by simp[ZH,INV,ZG,ENC,Yc,ZV,EXP,DEC,Zo,ZF,PK,FST,SND,READ]) (by simp[goodL,h q hq])
theorem Mj {l:List Pw} (h:KG l):QN (ZA l).1=true:=by
 unfold ZA;split
 ·exact Xk
 ·split
  ·exact Xk
  ·split
   ·exact Xk
   ·have hL:=BE h
    show QN (Zm (Zv l))=true
    match hh:Zv l with
    | []=>simp[Zm,QN,goodL,ZH,ONE,ZG,ENC,Yc,ZV,EXP,DEC,Zo,ZF,PK,FST,SND,READ]
    | [p]=>simp only[Zm];rw[hh]at hL;simpa[goodL]using hL
    | p:: q:: r=>
     simp only[Zm];rw[hh]at hL;exact Vw (by simp[ZH,MUL,ZG,ENC,Yc,ZV,EXP,DEC,Zo,ZF,PK,FST,SND,READ]) hL
theorem MB (l:List Pw): (ZA l).1.mass≤13200:=by
 unfold ZA;split
 ·simp[Qz,Tm.mass,massL]
 ·split
  ·simp[Qz,Tm.mass,massL]
  ·split
   ·simp[Qz,Tm.mass,massL]
   ·rename_i h;exact(UZ (by simpa using h)).2.2
theorem Kf {t:Tm} (h:QN t=true):QN (Ye t).1=true:=by
 unfold Ye;split
 ·exact Xk
 ·exact Mj (Ms h)
theorem Kh (t:Tm): (Ye t).1.mass≤13200:=by
 unfold Ye;split
 ·simp[Qz,Tm.mass,massL]
 ·exact MB _
theorem Fk {b:Tm} {p:List Pw} (hb:QN b=true) (hp:KG p):QN (Wb b p).1=true∧(Wb b p).1.mass≤6+b.mass+13200:=by
 have h0:=MB p;unfold Wb;split
 ·exact⟨hb,by simp;omega⟩
 ·split
  ·exact⟨Xk,by show Qz.mass≤_;rw[VT];omega⟩
  ·exact⟨Vw (by simp[ZH]) (by simp[goodL,hb,Mj hp]),by simp only[Tm.mass,massL,EXP,List.length_cons,List.length_nil];omega⟩
theorem QeG {b e:Tm} (hb:QN b=true) (he:QN e=true):QN (Y0 b e).1=true∧(Y0 b e).1.mass≤6+b.mass+13200:=by
 have hz:QN Qz=true∧Qz.mass≤6+b.mass+13200:=⟨Xk,by show Qz.mass≤_;rw[VT];omega⟩;have hk:=WZ b 0;unfold Y0;split
 ·exact hz
 ·split
  ·split
   ·exact hz
   ·split
    ·exact hz
    ·obtain⟨h1,h2⟩:=Fk (Tw hb 0) (Qeo (Ms (Tw hb 1)) (Ms he));exact⟨h1,by omega⟩
  ·exact Fk hb (Ms he)
theorem Qat {n:List UInt8} {us:List Tm} (ha:ZH n us.length=true) (h:goodL us=true):QN (QI n us)=true∧(QI n us).mass≤1+n.length+us.length+massL us:=by
 have hout:QN (.mk 3 n 0 us)=true∧(Tm.mk 3 n 0 us).mass≤1+n.length+us.length+massL us:=⟨Vw ha h,by simp[Tm.mass]⟩;have ha0:QN (us.getD 0 Qz)=true∧(us.getD 0 Qz).mass≤1+massL us:=by
  cases us with
  | nil=>exact⟨Xk,by simp[Qz,Tm.mass,massL]⟩
  | cons x r=>simp only[goodL,Bool.and_eq_true]at h;exact⟨h.1,by simp[massL];omega⟩
 have hkid: ∀i,QN (kid (us.getD 0 Qz) i)=true∧(kid (us.getD 0 Qz) i).mass≤1+n.length+us.length+massL us:=fun i=>⟨Tw ha0.1 i,by have:=WZ (us.getD 0 Qz) i;omega⟩;simp only[QI]
 repeat' split
 all_goals first | exact hout | exact hkid _
def Z7 (n:List UInt8) (us:List Tm):Tm×Int:=
 if Wv n then(QI n us,0)else if n=XOR then Y8 us else if n=MUL∨n=INV∨n=ONE then Ye (.mk 3 n 0 us)
 else if n=EXP then Y0 (us.getD 0 Qz) (us.getD 1 Qz)else(.mk 3 n 0 us,0)
mutual
def Zf:Tm→Tm×Int
 | .mk k n s ks=>if k=3 then(if(normL ks).2=0 then Z7 n (normL ks).1 else(Qz,(normL ks).2))else(.mk k n s ks,0)
def normL:List Tm→List Tm×Int
 | []=>([],0)
 | t:: ts=>if(Zf t).2=0 then(if(normL ts).2=0 then((Zf t).1:: (normL ts).1,0)else([],(normL ts).2))else([],(Zf t).2)
end
theorem QaO {n:List UInt8} {us:List Tm} (ha:ZH n us.length=true) (h:goodL us=true):QN (Z7 n us).1=true∧(Z7 n us).1.mass≤1+n.length+us.length+massL us+13200:=by
 unfold Z7;split
 ·obtain⟨h1,h2⟩:=Qat ha h;exact⟨h1,by simp;omega⟩
 ·split
  ·exact⟨BF h,by have:=Ou us;omega⟩
  ·split
   ·exact⟨Kf (Vw ha h),by have:=Kh (.mk 3 n 0 us);omega⟩
   ·split
    ·rename_i hn;subst hn;have h2:us.length=2:=by simpa[ZH]using ha
     match us,h2,h with
     | [x,y],_,h=>
      simp only[goodL,Bool.and_eq_true]at h;obtain⟨h3,h4⟩:=QeG h.1 h.2.1;exact⟨h3,by simp only[massL,EXP,List.length_cons,List.length_nil]at *;simp at h4 ⊢;omega⟩
    ·exact⟨Vw ha h,by simp[Tm.mass]⟩
mutual
theorem TB: ∀t:Tm,QN t=true→QN (Zf t).1=true∧(Zf t).1.mass≤t.mass+13200*t.nodes
 | .mk k n s ks,h=>by
  have hk:=normL_ok ks (X2 h);simp only[Zf];split
  ·rename_i hk3;subst hk3;split
   ·rename_i h2;obtain⟨h3,h4,h5⟩:=hk;have h5:=h5 h2;have har:=(WY h rfl).2;simp only[Zl,QY]at har;obtain⟨h6,h7⟩:=QaO (by rw[h5];exact har) h3;exact⟨h6,by simp only[Tm.mass,Tm.nodes];rw[h5]at h7;omega⟩
   ·exact⟨Xk,by show Qz.mass≤_;rw[VT];simp only[Tm.mass];omega⟩
  ·exact⟨h,Nat.le_add_right _ _⟩
theorem normL_ok: ∀ts:List Tm,goodL ts=true→goodL (normL ts).1=true∧massL (normL ts).1≤massL ts+13200*nodesL ts∧((normL ts).2=0→(normL ts).1.length=ts.length)
 | [],_=>by simp[normL,goodL,massL]
 | t:: ts,h=>by
  simp only[goodL,Bool.and_eq_true]at h;obtain⟨a1,a2⟩:=TB t h.1;obtain⟨b1,b2,b3⟩:=normL_ok ts h.2;simp only[normL];split
  ·split
   ·rename_i h2;refine⟨by simp[goodL,a1,b1],by simp only[massL,nodesL];omega,fun _=>by simp[b3 h2]⟩
   ·rename_i h2;exact⟨rfl,by simp[massL],fun e=>absurd e h2⟩
  ·rename_i h2;exact⟨rfl,by simp[massL],fun e=>absurd e h2⟩
end
theorem Pu {x:Tm}: ∀{ks:List Tm},x∈ks→x.nodes≤nodesL ks
 | [],h=>by cases h
 | t:: ts,h=>by
  simp only[nodesL];rcases List.mem_cons.1 h with rfl | h
  ·omega
  ·have:=Pu h;omega
theorem TT {n:List UInt8} (h:Wv n=true): (n=FST∨n=SND∨n=READ)∨(n=DEC∨n=Zo∨n=ZF):=by
 simp only[Wv,Bool.or_eq_true,beq_iff_eq]at h;rcases h with((((h | h) | h) | h) | h) | h <;> simp[h]
theorem QcE {n:List UInt8} {us:List Tm} (bs:List (List AV)) (hn:Wv n=true) (ha:ZH n us.length=true) (hg:goodL us=true) (hm:massL us < 20000000):call F.tb 176 [.agg (Qc (.mk 3 n 0 us))] bs=some (.agg (Qc (QI n us)),bs):=by
 rcases TT hn with h | h
 ·have h1:us.length=1:=by rcases h with rfl | rfl | rfl <;> simpa[ZH,PK,ZG,ENC,Yc,ZV,EXP,DEC,Zo,ZF,FST,SND,READ]using ha
  obtain⟨a,rfl⟩:=List.length_eq_one_iff.1 h1;simp only[goodL,Bool.and_eq_true]at hg;simp only[massL]at hm;exact Qau n a bs h hg.1 (by unfold big;omega)
 ·have h1:us.length=2:=by rcases h with rfl | rfl | rfl <;> simpa[ZH]using ha
  match us,h1,hg,hm with
  | [a,b],_,hg,hm=>
   simp only[goodL,Bool.and_eq_true]at hg;simp only[massL]at hm;exact Qav n a b bs h hg.1 hg.2.1 (by unfold big;omega) (by unfold big;omega)
theorem QcU {n:List UInt8} {us:List Tm} (bs:List (List AV)) (hn:Wv n=true) (ha:ZH n us.length=true) (hg:goodL us=true) (hm:massL us < 20000000):AZ (QI n us) bs (call F.tb 243 [.agg (Qc (.mk 3 n 0 us))] bs):=by
 rcases TT hn with h | h
 ·have h1:us.length=1:=by rcases h with rfl | rfl | rfl <;> simpa[ZH,PK,ZG,ENC,Yc,ZV,EXP,DEC,Zo,ZF,FST,SND,READ]using ha
  obtain⟨a,rfl⟩:=List.length_eq_one_iff.1 h1;simp only[goodL,Bool.and_eq_true]at hg;simp only[massL]at hm;exact C6 n a bs h hg.1 (by unfold big;omega)
 ·have h1:us.length=2:=by rcases h with rfl | rfl | rfl <;> simpa[ZH]using ha
  match us,h1,hg,hm with
  | [a,b],_,hg,hm=>
   simp only[goodL,Bool.and_eq_true]at hg;simp only[massL]at hm;exact C7 n a b bs h hg.1 (by unfold big;omega) (by unfold big;omega)
def MX (us:List Tm) (n:List UInt8):Prop:=massL us+n.length+us.length < 15000000
set_option maxHeartbeats 2000000 in
theorem Qer (t:Tm) (us:List Tm) (bs:List (List AV)) (ha:ZH t.name us.length=true) (hg:goodL us=true) (hm:MX us t.name) (ρ:Nat→AV) (h1:ρ 1= .bx (Qc t)) (h2:ρ 2= .bx [.int .i64 0,.str [],.int .i64 0,.sl true 4 []])
  (h4:ρ 4= .bx [.int .i64 3,.str t.name,.int .i64 0,.sl true 4 (encTs us)]):R F.tb F.f175r0 ρ bs (Qx F.f175 bs)=some (QP (Z7 t.name us),bs):=by
 unfold MX at hm;have hf:=WW 3 t.name 0 us;have hgp:gpfreeE (encTs us)=true:=encTs_gp us;obtain⟨n,hn⟩: ∃n,t.name=n:=⟨_,rfl⟩;rw[hn]at ha hm h4 hf ⊢;cases hd:Wv n
 ·have hd':=hd;simp only[Wv,Bool.or_eq_false_iff]at hd';obtain⟨⟨⟨⟨⟨d1,d2⟩,d3⟩,d4⟩,d5⟩,d6⟩:=hd';simp only[FST,SND,DEC,Zo,ZF,READ]at d1 d2 d3 d4 d5 d6;by_cases hx:n=XOR
  ·subst hx;have e:Z7 XOR us=Y8 us:=by simp[Z7,hd]
   have hc:=IA us false bs (by omega) (by omega);rw[e];simp only[QP]at hc ⊢;simp only[XOR]at *;simp[F.f175r0,h1,h2,h4,hn,hc]
  ·by_cases hp:n=MUL∨n=INV∨n=ONE
   ·have e:Z7 n us=Ye (.mk 3 n 0 us):=by simp only[Z7,hd,hx,hp,if_true,if_false];simp
    have hmass: (Tm.mk 3 n 0 us).mass < 20000000:=by simp only[Tm.mass];omega
    have hc:=U9 (.mk 3 n 0 us) bs (by omega);have hc2:=Nu false bs (Tz (.mk 3 n 0 us) 25000000 (by omega)) (Ul _);rw[← hf]at hc;rw[e];by_cases c:ofE (.mk 3 n 0 us)=0
    ·have e2:Ye (.mk 3 n 0 us)=ZA (ofP (.mk 3 n 0 us)):=by simp[Ye,c]
     rw[e2];simp only[QP]at hc2 ⊢;rw[c]at hc;generalize ofP (.mk 3 n 0 us)=P at *;rcases hp with rfl | rfl | rfl
     ·simp only[MUL]at *;simp[F.f175r0,h1,h2,h4,hn,hc,hc2]
     ·simp only[INV]at *;simp[F.f175r0,h1,h2,h4,hn,hc,hc2]
     ·simp only[ONE]at *;simp[F.f175r0,h1,h2,h4,hn,hc,hc2]
    ·have e2:Ye (.mk 3 n 0 us)=(Qz,ofE (.mk 3 n 0 us)):=by simp[Ye,c]
     rw[e2];generalize ofE (.mk 3 n 0 us)=E at *;generalize ofP (.mk 3 n 0 us)=P at *;rcases hp with rfl | rfl | rfl
     ·simp only[MUL]at *;simp[F.f175r0,h1,h2,h4,hn,hc,c,QR,QG]
     ·simp only[INV]at *;simp[F.f175r0,h1,h2,h4,hn,hc,c,QR,QG]
     ·simp only[ONE]at *;simp[F.f175r0,h1,h2,h4,hn,hc,c,QR,QG]
   ·by_cases he:n=EXP
    ·have e:Z7 n us=Y0 (us.getD 0 Qz) (us.getD 1 Qz):=by subst he;simp only[Z7,hd,if_neg hx,if_neg hp];simp
     subst he;have hl:us.length=2:=by simpa[ZH]using ha
     match us,hl,hg,hm,h4,e with
     | [x,y],_,hg,hm,h4,e=>
      simp only[goodL,Bool.and_eq_true]at hg;simp only[massL]at hm;have hc:=QcJ x y bs hg.1 (by omega) (by omega);rw[e];simp only[QP]at hc ⊢;simp only[List.getD_cons_zero,List.getD_cons_succ]at *;simp only[EXP]at *;simp[F.f175r0,h1,h2,h4,hn,hc]
    ·have e:Z7 n us=(.mk 3 n 0 us,0):=by simp only[Z7,hd,hx,hp,he,if_false];simp
     rw[e];have b1: (n == XOR)=false:=by simpa using hx
     have b2: (n == MUL)=false:=by simp at hp ⊢;exact hp.1
     have b3: (n == INV)=false:=by simp at hp ⊢;exact hp.2.1
     have b4: (n == ONE)=false:=by simp at hp ⊢;exact hp.2.2
     have b5: (n == EXP)=false:=by simpa using he
     simp only[XOR,MUL,INV,ONE,EXP]at b1 b2 b3 b4 b5;simp[F.f175r0,h1,h2,h4,hn,d1,d2,d3,d4,d5,d6,b1,b2,b3,b4,b5,QR,QS]
 ·have e:Z7 n us=(QI n us,0):=by simp[Z7,hd]
  have hc:=QcE bs hd ha hg (by omega);rw[← hf]at hc;rw[e];generalize QI n us=D at *;rcases TT hd with(rfl | rfl | rfl) | (rfl | rfl | rfl)
  ·simp only[FST]at *;simp[F.f175r0,h1,h2,h4,hn,hc,QR]
  ·simp only[SND]at *;simp[F.f175r0,h1,h2,h4,hn,hc,QR]
  ·simp only[READ]at *;simp[F.f175r0,h1,h2,h4,hn,hc,QR]
  ·simp only[DEC]at *;simp[F.f175r0,h1,h2,h4,hn,hc,QR]
  ·simp only[Zo]at *;simp[F.f175r0,h1,h2,h4,hn,hc,QR]
  ·simp only[ZF]at *;simp[F.f175r0,h1,h2,h4,hn,hc,QR]
def Xp (n:List UInt8) (us:List Tm) (r:List Tm×Int):Tm×Int:=if r.2=0 then Z7 n (us ++ r.1)else(Qz,r.2)
theorem BS (t:Tm) (bs:List (List AV)) (hg:QN t=true) (hk3:t.kind=3) (hm:t.mass+13200*t.nodes < 15000000) (ih: ∀x∈t.kids,∀bs,call F.tb 175 [.agg (Qc x)] bs=some (QP (Zf x),bs)):
  ∀(post pre us:List Tm) (ρ:Nat→AV),t.kids=pre ++ post→us.length=pre.length→goodL us=true→massL us≤massL pre+13200*nodesL pre→ρ 1= .bx (Qc t)→ρ 2= .bx [.int .i64 0,.str [],.int .i64 0,.sl true 4 []]→
   ρ 4= .bx [.int .i64 3,.str t.name,.int .i64 0,.sl true 4 (encTs us)]→ρ 19= .sl false 4 (encTs t.kids)→ρ 20= .int .i64 t.kids.length→ρ 21= .int .i64 pre.length→
  R F.tb (.loop F.f175l0) ρ bs (Qh 0 (Qq F.tb F.f175r0 (Qx F.f175 bs)))=some (QP (Xp t.name us (normL post)),bs):=by
 have hme:=Qy t;have hne:=YW t;intro post
 induction post with
 | nil=>
  intro pre us ρ hk hl hgu hmu h1 h2 h4 h19 h20 h21;simp only[List.append_nil]at hk;rw[← hk]at h21 hl hmu;have har:=(WY hg hk3).2;have hr:=Qer t us bs (by rw[hl];exact har) hgu (by unfold MX;omega);have e:Xp t.name us (normL [])=Z7 t.name us:=by simp[Xp,normL]
  rw[Qb F.f175l0.eq_1,e];simp[h1,h2,h4,h19,h20,h21];apply hr <;> simp[h1,h2,h4]
 | cons x post IH=>
  intro pre us ρ hk hl hgu hmu h1 h2 h4 h19 h20 h21;have hg2:=Qn hk;have hll:=Qu hk;have hw1:=wr1 pre.length (by omega);have hlt:=Qv hk;have hxk:x∈t.kids:=by rw[hk];simp
  have hc:=ih x hxk bs;obtain⟨n1,n2⟩:=TB x (YO.1 (X2 hg) x hxk);simp only[QP]at hc;rw[Qb F.f175l0.eq_1];by_cases c: (Zf x).2=0
  ·have e:Xp t.name us (normL (x:: post))=Xp t.name (us ++ [(Zf x).1]) (normL post):=by
    simp only[Xp,normL,c,if_true];by_cases c2: (normL post).2=0
    ·simp[c2]
    ·simp[c2]
   have hb: (us.length+1)*56≤140737488355328:=Yu (by omega);have hi:=fun ρ=>IH (pre ++ [x]) (us ++ [(Zf x).1]) ρ (by rw[hk];simp) (by simp[hl]) (YO.2 fun y hy=>by
    rcases List.mem_append.1 hy with hy | hy
    ·exact YO.1 hgu y hy
    ·simp at hy;subst hy;exact n1) (by rw[XO,XO,YD];simp only[massL,nodesL];omega)
   rw[e];simp[h1,h2,h4,h19,h20,h21,hg2,hlt,hw1,hc,c,hb,Q7,QZ];apply hi <;> simp[h1,h2,h19,h20]
  ·have e:Xp t.name us (normL (x:: post))=(Qz,(Zf x).2):=by simp[Xp,normL,c]
   rw[e];simp[h1,h2,h4,h19,h20,h21,hg2,hlt,hc,c,QR,QG]
theorem QcD: ∀(t:Tm) (bs:List (List AV)),QN t=true→t.mass+13200*t.nodes < 15000000→call F.tb 175 [.agg (Qc t)] bs=some (QP (Zf t),bs):=by
 refine ZD ?_;intro k n s ks ih bs hg hm;have hme:=Qy (.mk k n s ks);have hne:=YW (.mk k n s ks);simp only[QY,Zl]at hme hne;rw[Qa F.tb_175 _ _ rfl];by_cases hk:k=3
 ·subst hk;have hl:=fun ρ=>BS (.mk 3 n s ks) bs hg rfl hm (fun x hx bs=>ih x hx bs (YO.1 (X2 hg) x hx) (by have h1:x.mass≤massL ks:=QF hx;have h2:x.nodes≤nodesL ks:=Pu hx;omega)) ks [] [] ρ rfl rfl rfl (by simp[massL]);have e:Zf (.mk 3 n s ks)=Xp n [] (normL ks):=by simp[Zf,Xp]
  rw[e];simp only[Zl,QY]at hl;simp[F.f175C];apply hl <;> simp[encTs]
 ·have e:Zf (.mk k n s ks)=(.mk k n s ks,0):=by simp[Zf,hk]
  rw[e];simp[F.f175C,hk,QR]
theorem Nd {n:List UInt8}: ∀{l:List Sy} {y:Sy},Zu n l=some y→y∈l∧y.n=n
 | [],y,h=>by simp[Zu]at h
 | s:: ss,y,h=>by
  simp only[Zu]at h;split at h
  ·rename_i hs;injection h with h;subst h;exact⟨by simp,hs⟩
  ·obtain⟨h1,h2⟩:=Nd h;exact⟨by simp[h1],h2⟩
theorem QbI:YQ.all (fun y=> !(y.k == 3) || Wv y.n)=true:=by decide
def Uu (n:List UInt8):Int:=match Zu n YQ with | some y=>y.k | none=>0
theorem ED (n:List UInt8):decide (Uu n=3)=Wv n:=by
 unfold Uu;cases hd:Wv n
 ·cases hf:Zu n YQ with
  | none=>simp
  | some y=>
   obtain⟨h1,h2⟩:=Nd hf;have h3:=List.all_eq_true.1 QbI y h1;rw[h2,hd]at h3;simpa using h3
 ·rcases TT hd with(rfl | rfl | rfl) | (rfl | rfl | rfl) <;> simp[FST,SND,DEC,Zo,ZF,READ,Zu,YQ]
theorem GL (n:List UInt8) (bs:List (List AV)):call F.tb 128 [.str n] bs=some (.int .i64 (Uu n),bs):=LB n bs
set_option maxHeartbeats 4000000 in
theorem A4 (t:Tm) (us:List Tm) (bs:List (List AV)) (ha:ZH t.name us.length=true) (hg:goodL us=true) (hm:MX us t.name) (ρ:Nat→AV) (h1:ρ 1= .bx (Qc t)) (h2:ρ 2= .bx [.int .i64 0,.str [],.int .i64 0,.sl true 4 []])
  (h4:ρ 4= .sl true 4 (encTs us)):R F.tb F.f242r0 ρ bs (Qx F.f242 bs)=some (QP (Z7 t.name us),bs):=by
 unfold MX at hm;obtain⟨n,hn⟩: ∃n,t.name=n:=⟨_,rfl⟩;rw[hn]at ha hm ⊢;have hap:=XF n us false bs (by omega);have hkn:=GL n bs;have hk3:=ED n;cases hd:Wv n
 ·rw[hd]at hk3;have hk3': ¬Uu n=3:=by simpa using hk3
  generalize Uu n=KK at *;by_cases hx:n=XOR
  ·subst hx;have e:Z7 XOR us=Y8 us:=by simp[Z7,hd]
   have hc:=N6 us false bs (by omega) (by omega);rw[e];simp only[QP]at hc ⊢;simp only[XOR]at *;simp[F.f242r0,h1,h2,h4,hn,hap,hkn,hk3',hc]
  ·have b1: (n == XOR)=false:=by simpa using hx
   simp only[XOR]at b1;by_cases hp:n=MUL∨n=INV∨n=ONE
   ·have e:Z7 n us=Ye (.mk 3 n 0 us):=by simp only[Z7,hd,hx,hp,if_true,if_false];simp
    have hmass: (Tm.mk 3 n 0 us).mass < 20000000:=by simp only[Tm.mass];omega
    have hc:=QcV (.mk 3 n 0 us) bs (by omega);rw[e];simp only[QP]at hc ⊢;generalize Ye (.mk 3 n 0 us)=P at *;rcases hp with rfl | rfl | rfl
    ·simp only[MUL]at *;simp[F.f242r0,h1,h2,h4,hn,hap,hkn,hk3',hc]
    ·simp only[INV]at *;simp[F.f242r0,h1,h2,h4,hn,hap,hkn,hk3',hc]
    ·simp only[ONE]at *;simp[F.f242r0,h1,h2,h4,hn,hap,hkn,hk3',hc]
   ·by_cases he:n=EXP
    ·have e:Z7 n us=Y0 (us.getD 0 Qz) (us.getD 1 Qz):=by subst he;simp only[Z7,hd,if_neg hx,if_neg hp];simp
     subst he;have hl:us.length=2:=by simpa[ZH]using ha
     match us,hl,hg,hm,h4,e,hap with
     | [x,y],_,hg,hm,h4,e,hap=>
      simp only[goodL,Bool.and_eq_true]at hg;simp only[massL]at hm;have hc:=QcZ x y bs hg.1 (by omega) (by omega);rw[e];simp only[QP]at hc ⊢;simp only[List.getD_cons_zero,List.getD_cons_succ]at *;simp only[EXP]at *;simp[F.f242r0,h1,h2,h4,hn,hap,hkn,hk3',hc]
    ·have e:Z7 n us=(.mk 3 n 0 us,0):=by simp only[Z7,hd,hx,hp,he,if_false];simp
     rw[e];have b2: (n == MUL)=false:=by simp at hp ⊢;exact hp.1
     have b3: (n == INV)=false:=by simp at hp ⊢;exact hp.2.1
     have b4: (n == ONE)=false:=by simp at hp ⊢;exact hp.2.2
     have b5: (n == EXP)=false:=by simpa using he
     simp only[MUL,INV,ONE,EXP]at b2 b3 b4 b5;simp[F.f242r0,h1,h2,h4,hn,hap,hkn,hk3',b1,b2,b3,b4,b5,QR]
 ·rw[hd]at hk3;have hk3':Uu n=3:=by simpa using hk3
  rw[hk3']at hkn;have e:Z7 n us=(QI n us,0):=by simp[Z7,hd]
  obtain⟨b,hc⟩:=QcU bs hd ha hg (by omega);rw[e];generalize QI n us=D at *;simp[F.f242r0,h1,h2,h4,hn,hap,hkn,hc,QR]
theorem FY (t:Tm) (bs:List (List AV)) (hg:QN t=true) (hk3:t.kind=3) (hm:t.mass+13200*t.nodes < 15000000) (ih: ∀x∈t.kids,∀bs,call F.tb 242 [.agg (Qc x)] bs=some (QP (Zf x),bs)):
  ∀(post pre us:List Tm) (ρ:Nat→AV),t.kids=pre ++ post→us.length=pre.length→goodL us=true→massL us≤massL pre+13200*nodesL pre→ρ 1= .bx (Qc t)→ρ 2= .bx [.int .i64 0,.str [],.int .i64 0,.sl true 4 []]→
   ρ 4= .sl true 4 (encTs us)→ρ 5= .int .i64 pre.length→
  R F.tb (.loop F.f242l0) ρ bs (Qh 0 (Qq F.tb F.f242r0 (Qx F.f242 bs)))=some (QP (Xp t.name us (normL post)),bs):=by
 have hme:=Qy t;have hne:=YW t;intro post
 induction post with
 | nil=>
  intro pre us ρ hk hl hgu hmu h1 h2 h4 h5;simp only[List.append_nil]at hk;rw[← hk]at h5 hl hmu;have har:=(WY hg hk3).2;have hr:=A4 t us bs (by rw[hl];exact har) hgu (by unfold MX;omega);have e:Xp t.name us (normL [])=Z7 t.name us:=by simp[Xp,normL]
  rw[Qb F.f242l0.eq_1,e];simp[h1,h2,h4,h5];apply hr <;> simp[h1,h2,h4]
 | cons x post IH=>
  intro pre us ρ hk hl hgu hmu h1 h2 h4 h5;have hg2:=Qn hk;have hll:=Qu hk;have hw1:=wr1 pre.length (by omega);have hlt:=Qv hk;have hxk:x∈t.kids:=by rw[hk];simp
  have hc:=ih x hxk bs;obtain⟨n1,n2⟩:=TB x (YO.1 (X2 hg) x hxk);simp only[QP]at hc;rw[Qb F.f242l0.eq_1];by_cases c: (Zf x).2=0
  ·have e:Xp t.name us (normL (x:: post))=Xp t.name (us ++ [(Zf x).1]) (normL post):=by
    simp only[Xp,normL,c,if_true];by_cases c2: (normL post).2=0
    ·simp[c2]
    ·simp[c2]
   have hb: (us.length+1)*56≤140737488355328:=Yu (by omega);have hi:=fun ρ=>IH (pre ++ [x]) (us ++ [(Zf x).1]) ρ (by rw[hk];simp) (by simp[hl]) (YO.2 fun y hy=>by
    rcases List.mem_append.1 hy with hy | hy
    ·exact YO.1 hgu y hy
    ·simp at hy;subst hy;exact n1) (by rw[XO,XO,YD];simp only[massL,nodesL];omega)
   rw[e];simp[h1,h2,h4,h5,hg2,hlt,hw1,hc,c,hb,Q7,QZ];apply hi <;> simp[h1,h2]
  ·have e:Xp t.name us (normL (x:: post))=(Qz,(Zf x).2):=by simp[Xp,normL,c]
   rw[e];simp[h1,h2,h4,h5,hg2,hlt,hc,c,QR,QG]
theorem QcT: ∀(t:Tm) (bs:List (List AV)),QN t=true→t.mass+13200*t.nodes < 15000000→call F.tb 242 [.agg (Qc t)] bs=some (QP (Zf t),bs):=by
 refine ZD ?_;intro k n s ks ih bs hg hm;have hme:=Qy (.mk k n s ks);have hne:=YW (.mk k n s ks);simp only[QY,Zl]at hme hne;rw[Qa F.tb_242 _ _ rfl];by_cases hk:k=3
 ·subst hk;have hl:=fun ρ=>FY (.mk 3 n s ks) bs hg rfl hm (fun x hx bs=>ih x hx bs (YO.1 (X2 hg) x hx) (by have h1:x.mass≤massL ks:=QF hx;have h2:x.nodes≤nodesL ks:=Pu hx;omega)) ks [] [] ρ rfl rfl rfl (by simp[massL]);have e:Zf (.mk 3 n s ks)=Xp n [] (normL ks):=by simp[Zf,Xp]
  rw[e];simp only[Zl,QY]at hl;simp[F.f242C];apply hl <;> simp[encTs]
 ·have e:Zf (.mk k n s ks)=(.mk k n s ks,0):=by simp[Zf,hk]
  rw[e];simp[F.f242C,hk,QR]
def ZU (t:Tm):Tm×Int:=if thV t≠0 then(Qz,thV t)else if(Zf t).2≠0 then(Qz,(Zf t).2)else if QK (Zf t).1≠0 then(Qz,QK (Zf t).1)else((Zf t).1,0)
theorem Lv {t:Tm} (h:thV t=0):QK t=0∧YF t=0∧QN t=true∧t.mass≤13200∧t.nodes≤400:=by
 unfold thV at h;split at h
 ·rename_i h1;exact absurd h h1
 ·rename_i h1;have h2:QK t=0:=by simpa using h1
  obtain⟨a,b,c⟩:=UZ h2;exact⟨h2,h,Mk t a h,c,b⟩
theorem MC (t:Tm): (ZU t).1.mass≤13200:=by
 unfold ZU;split
 ·show Qz.mass≤_;rw[VT];omega
 ·split
  ·show Qz.mass≤_;rw[VT];omega
  ·split
   ·show Qz.mass≤_;rw[VT];omega
   ·rename_i h;exact(UZ (by simpa using h)).2.2
theorem QcC (t:Tm) (bs:List (List AV)) (hm:t.mass < big):call F.tb 174 [.agg (Qc t)] bs=some (QP (ZU t),bs):=by
 have h1:=Ts t bs hm;rw[Qa F.tb_174 _ _ rfl];by_cases c1:thV t=0
 ·obtain⟨_,_,hg,hma,hno⟩:=Lv c1;have h2:=QcD t bs hg (by omega);obtain⟨n1,n2⟩:=TB t hg;have h3:=XZ (Zf t).1 bs (by unfold big;omega);simp only[QP]at h2;by_cases c2: (Zf t).2=0
  ·by_cases c3:QK (Zf t).1=0
   ·have e:ZU t=((Zf t).1,0):=by simp[ZU,c1,c2,c3]
    rw[e];simp[F.f174C,h1,h2,h3,c1,c2,c3,QR]
   ·have e:ZU t=(Qz,QK (Zf t).1):=by simp[ZU,c1,c2,c3]
    rw[e];simp[F.f174C,h1,h2,h3,c1,c2,c3,QR,QG]
  ·have e:ZU t=(Qz,(Zf t).2):=by simp[ZU,c1,c2]
   rw[e];simp[F.f174C,h1,h2,c1,c2,QR,QG]
 ·have e:ZU t=(Qz,thV t):=by simp[ZU,c1]
  rw[e];simp[F.f174C,h1,c1,QR,QG]
theorem QcS (t:Tm) (bs:List (List AV)) (hm:t.mass < big):call F.tb 241 [.agg (Qc t)] bs=some (QP (ZU t),bs):=by
 have h1:=PZ t bs hm;rw[Qa F.tb_241 _ _ rfl];by_cases c1:thV t=0
 ·obtain⟨_,_,hg,hma,hno⟩:=Lv c1;have h2:=QcT t bs hg (by omega);obtain⟨n1,n2⟩:=TB t hg;have h3:=Xf (Zf t).1 bs (by unfold big;omega);simp only[QP]at h2;by_cases c2: (Zf t).2=0
  ·by_cases c3:QK (Zf t).1=0
   ·have e:ZU t=((Zf t).1,0):=by simp[ZU,c1,c2,c3]
    rw[e];simp[F.f241C,h1,h2,h3,c1,c2,c3,QR]
   ·have e:ZU t=(Qz,QK (Zf t).1):=by simp[ZU,c1,c2,c3]
    rw[e];simp[F.f241C,h1,h2,h3,c1,c2,c3,QR,QG]
  ·have e:ZU t=(Qz,(Zf t).2):=by simp[ZU,c1,c2]
   rw[e];simp[F.f241C,h1,h2,c1,c2,QR,QG]
 ·have e:ZU t=(Qz,thV t):=by simp[ZU,c1]
  rw[e];simp[F.f241C,h1,c1,QR,QG]
theorem QcN (n:List UInt8) (bs:List (List AV)):call F.tb 206 [.str n] bs=some (.bool (!Wv n),bs):=by
 have h:=Xb n bs;have hk:=ED n;rw[Qa F.tb_206 _ _ rfl,← hk];unfold Uu;cases hf:Zu n YQ with
 | none=>
  rw[hf]at h;simp[F.f206C,h]
 | some y=>
  rw[hf]at h;simp[F.f206C,h,XW]
def ndN (t:Tm):Bool:= !(decide (t.kind=3) && Wv t.name)
mutual
def evT:Tm→Bool
 | .mk k n s ks=>ndN (.mk k n s ks) && evL ks
def evL:List Tm→Bool
 | []=>true
 | t:: ts=>evT t && evL ts
end
theorem Qg2 (t:Tm):evT t=(ndN t && evL t.kids):=by cases t;simp[evT]
mutual
theorem Fi: ∀t:Tm,evT t=(ZW t).all ndN
 | .mk k n s ks=>by simp only[evT,ZW,List.all_cons,evL_all ks]
theorem evL_all: ∀ts:List Tm,evL ts=(allL ts).all ndN
 | []=>rfl
 | t:: ts=>by simp only[evL,allL,List.all_append,Fi t,evL_all ts]
end
theorem Ep (t:Tm) (bs:List (List AV)) (hm:t.mass < big) (ih: ∀x∈t.kids,∀bs,call F.tb 207 [.agg (Qc x),.fn 206 []] bs=some (.bool (evT x),bs)):
  ∀(post pre:List Tm) (ρ:Nat→AV),t.kids=pre ++ post→ρ 1= .fn 206 []→ρ 18= .sl false 4 (encTs t.kids)→ρ 19= .int .i64 t.kids.length→ρ 20= .int .i64 pre.length→
  R F.tb (.loop F.f207l0) ρ bs (Qh 0 (Qq F.tb F.f207r0 (Qx F.f207 bs)))=some (.bool (evL post),bs):=by
 have hm2:=Qy t;unfold big at hm;intro post
 induction post with
 | nil=>
  intro pre ρ hk h1 h18 h19 h20;simp only[List.append_nil]at hk;rw[← hk]at h20;rw[Qb F.f207l0.eq_1];simp[h1,h18,h19,h20,F.f207r0,evL]
 | cons x post IH=>
  intro pre ρ hk h1 h18 h19 h20;have hg:=Qn hk;have hll:=Qu hk;have hw1:=wr1 pre.length (by omega);have hlt:=Qv hk;have hc:=ih x (by rw[hk];simp) bs;rw[Qb F.f207l0.eq_1];cases hb:evT x
  ·simp[h1,h18,h19,h20,hg,hlt,hc,hb,evL]
  ·have h2:=fun ρ=>IH (pre ++ [x]) ρ (by rw[hk];simp);simp[h1,h18,h19,h20,hg,hlt,hw1,hc,hb,evL];apply h2 <;> simp[h1,h18,h19]
theorem QcO: ∀(t:Tm) (bs:List (List AV)),t.mass < big→call F.tb 207 [.agg (Qc t),.fn 206 []] bs=some (.bool (evT t),bs):=by
 refine ZD ?_;intro k n s ks ih bs hm;have hl:=fun ρ=>Ep (.mk k n s ks) bs hm (fun x hx bs=>ih x hx bs (by have h1:x.mass≤massL ks:=QF hx;have:=Qy (.mk k n s ks);simp only[QY]at this;omega)) ks [] ρ rfl;have h2:=QcN n bs;simp only[QY]at hl;rw[Qa F.tb_207 _ _ rfl,Qg2];by_cases hk:k=3
 ·cases hd:Wv n
  ·have e:ndN (.mk k n s ks)=true:=by simp[ndN,hd]
   rw[e];simp[F.f207C,hk,hd,h2];apply hl <;> simp
  ·have e:ndN (.mk k n s ks)=false:=by simp[ndN,hd,hk]
   rw[e];simp[F.f207C,hk,hd,h2]
 ·have e:ndN (.mk k n s ks)=true:=by simp[ndN,hk]
  rw[e];simp[F.f207C,hk];apply hl <;> simp
def Vo (t:Tm):Bool:=decide ((ZU t).2=0) && decide (Qm (ZU t).1 t=0) && evT t
theorem GM (t:Tm) (bs:List (List AV)) (hm:t.mass < big):call F.tb 173 [.agg (Qc t)] bs=some (.bool (Vo t),bs):=by
 have h1:=QcC t bs hm;have hnm:=MC t;have h2:=OT (ZU t).1 t bs (by unfold big;omega) hm;have h3:=QcO t bs hm;simp only[QP]at h1;rw[Qa F.tb_173 _ _ rfl];by_cases c1: (ZU t).2=0
 ·by_cases c2:Qm (ZU t).1 t=0
  ·simp[F.f173C,h1,h2,h3,c1,c2,Vo]
  ·simp[F.f173C,h1,h2,h3,c1,c2,Vo]
 ·simp[F.f173C,h1,c1,Vo]
theorem HO (l:List Tm) (bs:List (List AV)) (hl:l.length < 100000000): ∀(post pre:List Tm) (o:Bool) (ρ:Nat→AV),l=pre ++ post→ρ 5= .sl o 4 (encTs l)→ρ 6= .int .i64 pre.length→
  R F.tb (.loop F.f240l0) ρ bs (Qh 0 (Qq F.tb F.f240r0 (Qx F.f240 bs)))=some (.bool (post.all ndN),bs):=by
 intro post
 induction post with
 | nil=>
  intro pre o ρ hk h5 h6;simp only[List.append_nil]at hk;rw[← hk]at h6;rw[Qb F.f240l0.eq_1];simp[h5,h6,F.f240r0]
 | cons x post IH=>
  intro pre o ρ hk h5 h6;have hg:=Qn hk;have hll:=Qu hk;have hw1:=wr1 pre.length (by omega);have hlt:=Qv hk;have hc:=GL x.name bs;have hk3:=ED x.name;have h2:=fun ρ=>IH (pre ++ [x]) o ρ (by rw[hk];simp);rw[List.all_cons];rw[Qb F.f240l0.eq_1];by_cases ck:x.kind=3
  ·cases hd:Wv x.name
   ·rw[hd]at hk3;have hk3': ¬Uu x.name=3:=by simpa using hk3
    have e:ndN x=true:=by simp[ndN,hd]
    rw[e,Bool.true_and];generalize Uu x.name=KK at *;simp[h5,h6,hg,hlt,hw1,hc,ck,hk3',-List.all_eq_true];apply h2 <;> simp[h5]
   ·rw[hd]at hk3;have hk3':Uu x.name=3:=by simpa using hk3
    have e:ndN x=false:=by simp[ndN,hd,ck]
    rw[e,Bool.false_and];simp[h5,h6,hg,hlt,hc,ck,hk3']
  ·have e:ndN x=true:=by simp[ndN,ck]
   rw[e,Bool.true_and];simp[h5,h6,hg,hlt,hw1,ck,-List.all_eq_true];apply h2 <;> simp[h5]
theorem QcR (t:Tm) (bs:List (List AV)) (hm:t.mass < 1000000):call F.tb 240 [.agg (Qc t)] bs=some (.bool (Vo t),bs):=by
 have hmb:t.mass < big:=by unfold big;omega
 have h1:=QcS t bs hmb;have hnm:=MC t;have h2:=Yi t (ZU t).1 bs hmb (by unfold big;omega);have hsym:decide (Qm t (ZU t).1=0)=decide (Qm (ZU t).1 t=0):=by
  have:=Xh t (ZU t).1;rw[decide_eq_decide];omega
 rw[hsym]at h2;have h3:=Iu t bs (by omega);have hlen:=Ub t;have hnn:=ZK t;have h4:=fun o ρ=>HO (ZW t) bs (by omega) (ZW t) [] o ρ rfl;simp only[QP]at h1;rw[Qa F.tb_240 _ _ rfl];have e:Vo t=(decide ((ZU t).2=0) && decide (Qm (ZU t).1 t=0) && (ZW t).all ndN):=by rw[← Fi];rfl
 rw[e];by_cases c1: (ZU t).2=0
 ·by_cases c2:Qm (ZU t).1 t=0
  ·simp[F.f240C,h1,h2,h3,c1,c2,-List.all_eq_true];refine h4 false _ ?_ ?_ <;> simp
  ·simp[F.f240C,h1,h2,c1,c2]
 ·simp[F.f240C,h1,c1]
def Wa (c:UInt8):Bool:=decide (48≤c.toNat) && decide (c.toNat≤57)
def V9:List UInt8:=[48,49,50,51,52,53,54,55,56,57]
theorem Qaw: ∀d:Fin 256,V9.contains (UInt8.ofNat d.val)=Wa (UInt8.ofNat d.val):=by decide
theorem Qax (c:UInt8):V9.contains c=Wa c:=by
 have h:=Qaw ⟨c.toNat,c.toNat_lt⟩;simp only[UInt8.ofNat_toNat]at h;exact h
theorem Md {p:UInt8→Bool}: ∀{l:List UInt8},l.dropWhile p=[]↔∀x∈l,p x=true
 | []=>by simp
 | a:: l=>by
  rw[List.dropWhile_cons];cases h:p a
  ·simp[h]
  ·simp[h,Md (l:=l)]
theorem QbL (s:List UInt8): (Lib.trimS s V9 == [])=s.all Wa:=by
 have hp: (fun b=>V9.contains b)=Wa:=funext Qax;cases hs:s.all Wa
 ·have hne:Lib.trimS s V9≠[]:=by
   intro e;unfold Lib.trimS Lib.trimLeftS Lib.trimRightS at e;rw[hp]at e;have h1:=Md.1 e;cases hw:s.reverse.dropWhile Wa with
   | nil=>
    have h2:=Md.1 hw;have:s.all Wa=true:=List.all_eq_true.2 fun x hx=>h2 x (by simpa using hx);rw[hs]at this;cases this
   | cons x r=>
    have h2:Wa x=false:=by
     have:=List.head_dropWhile_not Wa (l:=s.reverse) (by rw[hw];simp);simpa[hw]using this
    have h3:=h1 x (by rw[hw];simp);rw[h2]at h3;cases h3
  simpa using hne
 ·have:Lib.trimS s V9=[]:=by
   unfold Lib.trimS Lib.trimLeftS Lib.trimRightS;rw[hp];have:s.reverse.dropWhile Wa=[]:=Md.2 fun x hx=>List.all_eq_true.1 hs x (by simpa using hx);rw[this];rfl
  simp[this]
def W6 (s:List UInt8):Bool:=match s with
 | 101:: 35:: c:: r=>(c:: r).all Wa
 | _=>false
def Vl (t:Tm):Bool:=
 if t.kind=3 then(t.name == Zx || t.name == ONE) && decide (t.kids.length=0)
 else if t.kind=2 then(if t.sort=1∨t.sort=5 then true else if t.sort=4 then t.name == [103] || W6 t.name else if t.sort=0∨t.sort=2∨t.sort=3 then W6 t.name else false)
 else false
def IU (s:List UInt8):Bool:= !(s == []) && s.all Wa
theorem QcB (s:List UInt8) (bs:List (List AV)) (hs:s.length < 4294967281):call F.tb 163 [.str s] bs=some (.bool (IU s),bs):=by
 have ht:call F.tb 164 [.str s,.str V9] bs=some (.str (Lib.trimS s V9),bs):=by
  rw[Y6 F.tb_164];have hc: (V9.all (· < 128) && decide (s.length < 4294967281) && decide (V9.length < 4294967281))=true:=by
   rw[show V9.all (· < 128)=true from by decide];simp[hs,V9]
  simp only[YZ,MM,hc,if_true];rfl
 have hn:=QbL s;rw[Qa F.tb_163 _ _ rfl];simp only[V9]at ht hn;cases he:s == []
 ·simp[F.f163C,ht,hn,he,IU,bne,-List.all_eq_true]
 ·simp[F.f163C,ht,hn,he,IU,bne,-List.all_eq_true]
def XV (s:List UInt8):Bool:=decide (2≤s.length) && (s.take 2 == [101,35])
theorem QgO (s:List UInt8) (bs:List (List AV)):call F.tb 75 [.str s,.str [101,35]] bs=some (.bool (XV s),bs):=by
 rw[Qa F.tb_75 _ _ rfl];by_cases h:2≤s.length
 ·have h': (2:Int)≤(s.length:Int):=by omega
  simp[F.f75C,XV,h,h']
 ·have h': ¬(2:Int)≤(s.length:Int):=by omega
  simp[F.f75C,XV,h,h']
theorem QgN (s:List UInt8) (bs:List (List AV)):call F.tb 73 [.str s,.str [101,35]] bs=some (.tup [.str (if XV s then s.drop 2 else s),.bool (XV s)],bs):=by
 have h1:=QgO s bs;have h2:call F.tb 74 [.str s,.str [101,35]] bs=some (.tup [.str (if XV s then s.drop 2 else s),.bool (XV s)],bs):=by
  rw[Qa F.tb_74 _ _ rfl];cases hc:XV s
  ·simp[F.f74C,h1,hc]
  ·have hl:2≤s.length:=by simp[XV]at hc;exact hc.1
   have hl': (2:Int)≤(s.length:Int):=by omega
   simp[F.f74C,h1,hc,hl,hl']
 rw[Qa F.tb_73 _ _ rfl];generalize (if XV s then s.drop 2 else s)=w at *;simp[F.f73C,h2]
theorem QeE (s:List UInt8): (XV s && IU (if XV s then s.drop 2 else s))=W6 s:=by
 cases hc:XV s
 ·rw[Bool.false_and];unfold W6;split
  ·simp[XV]at hc
  ·rfl
 ·simp only[if_true,Bool.true_and]
  match s,hc with
  | [],hc=>simp[XV]at hc
  | [_],hc=>simp[XV]at hc
  | [a,b],hc=>
   simp[XV]at hc;obtain⟨rfl,rfl⟩:=hc;rfl
  | a:: b:: c:: r,hc=>
   simp[XV]at hc;obtain⟨rfl,rfl⟩:=hc;simp[IU,W6]
theorem Qhu (x a b:List UInt8) (bs:List (List AV)):call F.tb 162 [.sl false 1 [[.str a],[.str b]],.str x] bs=some (.int .i64 (if x == a then 0 else if x == b then 1 else -1),bs):=by
 rw[Qa F.tb_162 _ _ rfl];simp[F.f162C];rw[Qb F.f162l0.eq_1];cases h1:x == a
 ·have g1: ¬x=a:=by simpa using h1
  simp[h1,g1];rw[Qb F.f162l0.eq_1];cases h2:x == b
  ·have hw:IntKind.i64.wrap 1=1:=rfl;have hw2:IntKind.i64.wrap 2=2:=rfl;have g2: ¬x=b:=by simpa using h2
   simp[h2,hw,hw2,g2];rw[Qb F.f162l0.eq_1];simp[F.f162r0]
  ·have hw:IntKind.i64.wrap 1=1:=rfl;have g2:x=b:=by simpa using h2
   simp[h2,hw,← g2]
 ·have g1:x=a:=by simpa using h1
  simp[h1,← g1]
theorem QcA (t:Tm) (bs:List (List AV)) (hk:t.kind=3):call F.tb 160 [.agg (Qc t),.sl false 1 [[.str Zx],[.str ONE]]] bs=some (.bool (t.name == Zx || t.name == ONE),bs):=by
 have h:=Qhu t.name Zx ONE bs;have h2:call F.tb 161 [.sl false 1 [[.str Zx],[.str ONE]],.str t.name] bs=some (.bool (t.name == Zx || t.name == ONE),bs):=by
  rw[Qa F.tb_161 _ _ rfl];cases h1:t.name == Zx
  ·cases h3:t.name == ONE <;> simp[h1,h3]at h <;> simp[F.f161C,h]
  ·simp[h1]at h;simp[F.f161C,h]
 rw[Qa F.tb_160 _ _ rfl];simp[F.f160C,hk,h2]
theorem Qcz (t:Tm) (bs:List (List AV)) (hm:t.mass < 1000000):call F.tb 159 [.agg (Qc t)] bs=some (.bool (Vl t),bs):=by
 have hme:=Qy t;rw[Qa F.tb_159 _ _ rfl];by_cases hk:t.kind=3
 ·have h1:=QcA t bs hk;simp only[Zx,ONE]at h1;cases hz: (t.name == [122,101,114,111] || t.name == [111,110,101])
  ·rw[hz]at h1;simp[F.f159C,hk,h1,Vl,Zx,ONE,hz]
   try (simp at hz;simp[hz])
  ·rw[hz]at h1;by_cases hl:t.kids=[]
   ·simp[F.f159C,hk,h1,Vl,Zx,ONE,hz,hl]
   ·have hl0: ¬t.kids.length=0:=fun e=>hl (List.eq_nil_of_length_eq_zero e);have hl': ¬(t.kids.length:Int)=0:=by omega
    simp[F.f159C,hk,h1,Vl,Zx,ONE,hl,hl']
 ·by_cases hk2:t.kind=2
  ·have h1:=QgN t.name bs;have h2:=QcB (if XV t.name then t.name.drop 2 else t.name) bs (by
    split
    ·rw[List.length_drop];omega
    ·omega)
   have ho:=QeE t.name;generalize (if XV t.name then t.name.drop 2 else t.name)=w at *;have hp:Vl t=if t.sort=1∨t.sort=5 then true else if t.sort=4 then t.name == [103] || W6 t.name else if t.sort=0∨t.sort=2∨t.sort=3 then W6 t.name else false:=by
    unfold Vl;rw[if_neg hk,if_pos hk2]
   rw[hp];generalize W6 t.name=O at *;by_cases s1:t.sort=1
   ·simp[F.f159C,hk2,h1,s1]
   ·by_cases s5:t.sort=5
    ·simp[F.f159C,hk2,h1,s5]
    ·by_cases s4:t.sort=4
     ·cases hg:t.name == [103]
      ·cases hcu:XV t.name
       ·rw[hcu]at h1 ho;simp at ho;subst ho;simp[F.f159C,hk2,h1,s4,hg]
       ·rw[hcu]at h1 ho;simp at ho;subst ho;simp[F.f159C,hk2,h1,h2,s4,hg]
      ·simp[F.f159C,hk2,h1,s4,hg]
     ·by_cases s0:t.sort=0∨t.sort=2∨t.sort=3
      ·cases hcu:XV t.name
       ·rw[hcu]at h1 ho;simp at ho;subst ho;rcases s0 with s0 | s0 | s0 <;> simp[F.f159C,hk2,h1,s0]
       ·rw[hcu]at h1 ho;simp at ho;subst ho;rcases s0 with s0 | s0 | s0 <;> simp[F.f159C,hk2,h1,h2,s0]
      ·simp only[not_or]at s0;simp[F.f159C,hk2,h1,s1,s5,s4,s0.1,s0.2.1,s0.2.2]
  ·have hp:Vl t=false:=by unfold Vl;rw[if_neg hk,if_neg hk2]
   rw[hp];simp[F.f159C,hk,hk2]
theorem EO (s:List UInt8) (bs:List (List AV)) (hs:s.length < 1000000000): ∀(post pre:List UInt8) (ρ:Nat→AV),s=pre ++ post→ρ 0= .str s→ρ 3= .int .i64 pre.length→
  R F.tb (.loop F.f232l0) ρ bs (Qh 0 (Qq F.tb F.f232r0 (Qx F.f232 bs)))=some (.bool (post.all Wa),bs):=by
 intro post
 induction post with
 | nil=>
  intro pre ρ hk h0 h3;simp only[List.append_nil]at hk;rw[← hk]at h3;rw[Qb F.f232l0.eq_1];simp[h0,h3,F.f232r0]
 | cons c post IH=>
  intro pre ρ hk h0 h3;have hg:=Qn hk;have hll:=Qu hk;have hw1:=wr1 pre.length (by omega);have hlt:=Qv hk;have h2:=fun ρ=>IH (pre ++ [c]) ρ (by rw[hk];simp);rw[List.all_cons];rw[Qb F.f232l0.eq_1];by_cases c1:c.toNat < 48
  ·have e:Wa c=false:=by simp[Wa];omega
   have c1': (c.toNat:Int) < 48:=by omega
   simp[-getElem?_pos,h0,h3,hg,hlt,c1,c1',e]
  ·have c1': ¬(c.toNat:Int) < 48:=by omega
   by_cases c2:57 < c.toNat
   ·have e:Wa c=false:=by simp[Wa];omega
    have c2': (57:Int) < (c.toNat:Int):=by omega
    simp[-getElem?_pos,h0,h3,hg,hlt,c1,c1',c2,c2',e]
   ·have e:Wa c=true:=by simp[Wa];omega
    have c2': ¬(57:Int) < (c.toNat:Int):=by omega
    rw[e,Bool.true_and];simp[-getElem?_pos,h0,h3,hg,hlt,hw1,c1,c1',c2,c2',-List.all_eq_true];apply h2 <;> simp[h0]
theorem QcQ (s:List UInt8) (bs:List (List AV)) (hs:s.length < 1000000000):call F.tb 232 [.str s] bs=some (.bool (W6 s),bs):=by
 rw[Qa F.tb_232 _ _ rfl];by_cases h3:s.length < 3
 ·have h3': (s.length:Int) < 3:=by omega
  have e:W6 s=false:=by
   unfold W6;split
   ·exfalso;simp only[List.length_cons]at h3;omega
   ·rfl
  simp[F.f232C,h3,h3',e]
 ·have h3': ¬(s.length:Int) < 3:=by omega
  have hl2:2≤s.length:=by omega
  have hl2': (2:Int)≤(s.length:Int):=by omega
  cases hp:s.take 2 == [101,35]
  ·have e:W6 s=false:=by
    unfold W6;split
    ·simp at hp
    ·rfl
   simp[F.f232C,h3,h3',hl2,hl2',hp,e,bne]
  ·match s,hp,h3,hs with
   | a:: b:: c:: r,hp,h3,hs=>
    have h2:=fun ρ=>EO (a:: b:: c:: r) bs hs (c:: r) [a,b] ρ rfl;simp at hp;obtain⟨rfl,rfl⟩:=hp;have e:W6 (101:: 35:: c:: r)=(c:: r).all Wa:=rfl;rw[e];simp only[List.length_cons,List.length_nil]at h3' hl2 hl2' h2;generalize (c:: r).all Wa=O at *;have h3'': ¬((r.length:Int)+1+1+1 < 3):=by omega
    have hl3: (2:Int)≤(r.length:Int)+1+1+1:=by omega
    simp[F.f232C,h3'',hl3,bne];apply h2 <;> simp
   | [],hp,_,_=>simp at hp
   | [_],hp,_,_=>simp at hp
   | [_,_],hp,h3,_=>simp at h3
theorem QcP (t:Tm) (bs:List (List AV)) (hm:t.mass < 1000000):call F.tb 231 [.agg (Qc t)] bs=some (.bool (Vl t),bs):=by
 have hme:=Qy t;have ho:=QcQ t.name bs (by omega);rw[Qa F.tb_231 _ _ rfl];by_cases hk:t.kind=3
 ·have hp:Vl t=((t.name == Zx || t.name == ONE) && decide (t.kids.length=0)):=by unfold Vl;rw[if_pos hk]
  rw[hp];by_cases hl:t.kids=[]
  ·cases h1:t.name == Zx
   ·cases h2:t.name == ONE <;> simp only[Zx,ONE]at h1 h2 <;> simp[F.f231C,hk,h1,h2,hl]
   ·simp only[Zx]at h1;simp[F.f231C,hk,h1,hl]
  ·have hl0: ¬t.kids.length=0:=fun e=>hl (List.eq_nil_of_length_eq_zero e);have hl': ¬(t.kids.length:Int)=0:=by omega
   cases h1:t.name == Zx
   ·cases h2:t.name == ONE <;> simp only[Zx,ONE]at h1 h2 <;> simp[F.f231C,hk,h1,h2,hl,hl']
   ·simp only[Zx]at h1;simp[F.f231C,hk,h1,hl,hl']
 ·by_cases hk2:t.kind=2
  ·have hp:Vl t=if t.sort=1∨t.sort=5 then true else if t.sort=4 then t.name == [103] || W6 t.name else if t.sort=0∨t.sort=2∨t.sort=3 then W6 t.name else false:=by
    unfold Vl;rw[if_neg hk,if_pos hk2]
   rw[hp];generalize W6 t.name=O at *;by_cases s1:t.sort=1
   ·simp[F.f231C,hk2,s1]
   ·by_cases s5:t.sort=5
    ·simp[F.f231C,hk2,s5]
    ·by_cases s4:t.sort=4
     ·cases hg:t.name == [103]
      ·simp[F.f231C,hk2,s4,hg,ho]
      ·simp[F.f231C,hk2,s4,hg]
     ·by_cases s0:t.sort=0∨t.sort=2∨t.sort=3
      ·cases hg:t.name == [103]
       ·rcases s0 with s0 | s0 | s0 <;> simp[F.f231C,hk2,s0,ho,hg]
       ·rcases s0 with s0 | s0 | s0 <;> simp[F.f231C,hk2,s0,ho,hg]
      ·simp only[not_or]at s0;cases hg:t.name == [103]
       ·simp[F.f231C,hk2,s1,s5,s4,s0.1,s0.2.1,s0.2.2,hg]
       ·simp[F.f231C,hk2,s1,s5,s4,s0.1,s0.2.1,s0.2.2,hg]
  ·have hp:Vl t=false:=by unfold Vl;rw[if_neg hk,if_neg hk2]
   rw[hp];simp[F.f231C,hk,hk2]
def QO (x:Tm):Int:=if thV x≠0 then thV x else if Wh x≠[]then 13 else if Vo x then 0 else 10
def WA:List Tm→Int
 | []=>0
 | x:: r=>if QO x≠0 then QO x else WA r
theorem OU (x:Tm) (bs:List (List AV)) (hm:x.mass < 1000000):call F.tb 233 [.agg (Qc x)] bs=some (.int .i64 (QO x),bs):=by
 have c1:=PZ x bs (by unfold big;omega);have c2:=HU x bs (by omega);have c3:=QcR x bs hm;rw[Qa F.tb_233 _ _ rfl];by_cases e1:thV x=0
 ·by_cases e2:Wh x=[]
  ·cases e3:Vo x
   ·simp[F.f233C,c1,c2,c3,e1,e2,e3,QO]
   ·simp[F.f233C,c1,c2,c3,e1,e2,e3,QO]
  ·simp[F.f233C,c1,c2,e1,e2,QO]
 ·simp[F.f233C,c1,e1,QO]
def TS (B0 B:List (List AV)) (v:AV) (l:List Tm):Prop:=∃(M:List (List AV)) (id sz:Nat),B=B0 ++ M∧v= .gs id 0 sz l.length∧
 ((sz=0∧id=0∧l=[])∨(sz=4∧B0.length≤id∧l≠[]∧B[id]? =some (Qo l)))
theorem Wg {B0 B:List (List AV)} {v:AV} {l:List Tm} (h:TS B0 B v l): ∃id sz,v= .gs id 0 sz l.length:=by
 obtain⟨M,id,sz,_,rfl,_⟩:=h;exact⟨id,sz,rfl⟩
theorem AJ (B0:List (List AV)):TS B0 B0 (.gs 0 0 0 0) []:=⟨[],0,0,by simp,rfl,.inl ⟨rfl,rfl,rfl⟩⟩
def QjE (i:Nat):Tm:= .mk 1 (119:: Qju i) 0 []
def hbs:Nat→List Tm→List (List AV)
 | _,[]=>[]
 | k,t:: ts=>(Qc (QjE k)++ Qc t):: hbs (k+1) ts
end Go.Am
