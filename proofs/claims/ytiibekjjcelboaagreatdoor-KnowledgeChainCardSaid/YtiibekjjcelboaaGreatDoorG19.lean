/-
  Rc25, Rc26, Rc27, Rc28, Rc29, Rc30, Rc31, Rc32, Rc33, Rc34, Rc35, Rc36, Rc37, Rc38, Rc39, Rc40, Rc41, Rc42, Rc43, Rc44.
-/
import Derived.Test.YtiibekjjcelboaaGreatDoorG18
set_option linter.unusedVariables false
set_option linter.unusedSimpArgs false
namespace Go.Am
set_option maxRecDepth 8000
theorem OL {n:List UInt8} (h:Xh n=true):n.length≤24:=by
 cases n with
 | nil=>simp
 | cons c r=>
  simp only[Xh,Bool.and_eq_true,decide_eq_true_eq]at h;simp only[List.length_cons];omega
theorem Ik {t:Tm} (h:U2 t=0):t.name.length≤24∧t.kids.length≤8∧(t.kind=3→t.sort=0)∧(t.kind≠3→t.kids=[]):=by
 unfold U2 at h;split at h
 ·rename_i hk;split at h
  ·cases h
  ·rename_i h1;split at h
   ·cases h
   ·rename_i h2;have h3:t.kids.length=0:=by omega
    exact⟨OL (by simpa using h2),by omega,fun e=>by omega,fun _=>List.eq_nil_of_length_eq_zero h3⟩
 ·split at h
  ·rename_i hk;split at h
   ·cases h
   ·rename_i h1;split at h
    ·cases h
    ·rename_i h2;split at h
     ·cases h
     ·exact⟨OL (by simpa using h2),by omega,fun _=>by simpa using h1,fun e=>absurd hk e⟩
  ·cases h
mutual
theorem Lf: ∀t:Tm,YK t=0→t.mass≤33*t.nodes
 | .mk k n s ks,h=>by
  simp only[YK]at h;split at h
  ·rename_i h1;exact absurd h h1
  ·rename_i h1;obtain⟨a,b,_⟩:=Ik (t:= .mk k n s ks) (by simpa using h1);have:=errL_mass ks h;simp only[ZH,Q0]at a b;simp only[Tm.mass,Tm.nodes];omega
theorem errL_mass: ∀ts:List Tm,errL ts=0→massL ts≤33*nodesL ts
 | [],_=>by simp[massL,nodesL]
 | t:: ts,h=>by
  simp only[errL]at h;split at h
  ·rename_i h1;exact absurd h h1
  ·rename_i h1;have a:=Lf t (by simpa using h1);have b:=errL_mass ts h;simp only[massL,nodesL];omega
end
theorem X2 {t:Tm} (h:Qz t=0):YK t=0∧t.nodes≤400∧t.mass≤13200:=by
 unfold Qz at h;split at h
 ·rename_i h1;exact absurd h h1
 ·rename_i h1;split at h
  ·cases h
  ·have:=Lf t (by simpa using h1);exact⟨by simpa using h1,by omega,by omega⟩
theorem CS {n:List UInt8} {y:Sy} (h:Zu n YG=some y) (m:Nat) (h1: ¬((m:Int) < y.l∨y.m < m)):ZF n m=true:=by
 unfold ZF;split
 ·rename_i hn;have:y.l=2∧y.m=2:=by rcases hn with rfl | rfl | rfl | rfl | rfl | rfl | rfl | rfl <;> simp[Zf,ENC,QY,Zd,EXP,DEC,Zo,ZE,Zu,YG]at h <;> subst h <;> simp
  simp;omega
 ·split
  ·rename_i hn;have:y.l=1∧y.m=1:=by rcases hn with rfl | rfl | rfl | rfl <;> simp[PK,FST,SND,READ,Zu,YG]at h <;> subst h <;> simp
   simp;omega
  ·rfl
mutual
theorem NU: ∀t:Tm,YK t=0→Yw t=0→QI t=true
 | .mk k n s ks,h,hc=>by
  simp only[YK]at h;split at h
  ·rename_i h1;exact absurd h h1
  ·rename_i h1;obtain⟨_,_,a,b⟩:=Ik (t:= .mk k n s ks) (by simpa using h1);simp only[W2,Uq,Q0]at a b;simp only[Yw]at hc;by_cases hk:k=3
   ·subst hk;rw[if_neg (by simp)]at hc;cases hy:Zu n YG with
    | none=>rw[hy]at hc;simp at hc
    | some y=>
     rw[hy]at hc;simp only at hc;split at hc
     ·cases hc
     ·rename_i h2;have har:=CS hy ks.length h2;split at hc
      ·cases hc
      ·split at hc
       ·cases hc
       ·have:=goodL_valid ks h hc;simp[QI,a rfl,har,this]
   ·have:=b hk;subst this;simp[QI,hk,goodL]
theorem goodL_valid: ∀ts:List Tm,errL ts=0→chkL ts=0→goodL ts=true
 | [],_,_=>rfl
 | t:: ts,h,hc=>by
  simp only[errL]at h;simp only[chkL]at hc;split at h
  ·rename_i h1;exact absurd h h1
  ·rename_i h1;split at hc
   ·rename_i h2;exact absurd hc h2
   ·rename_i h2;simp[goodL,NU t (by simpa using h1) (by simpa using h2),goodL_valid ts h hc]
end
mutual
theorem PN: ∀(t y:Tm),QI t=true→y∈QT t→QI y=true
 | .mk k n s ks,y,h,hy=>by
  simp only[QT,List.mem_cons]at hy;rcases hy with rfl | hy
  ·exact h
  ·exact good_allL ks y (XA h) hy
theorem good_allL: ∀(ts:List Tm) (y:Tm),goodL ts=true→y∈allL ts→QI y=true
 | [],y,_,hy=>by simp[allL]at hy
 | t:: ts,y,h,hy=>by
  simp only[goodL,Bool.and_eq_true]at h;simp only[allL,List.mem_append]at hy;rcases hy with hy | hy
  ·exact PN t y h.1 hy
  ·exact good_allL ts y h.2 hy
end
theorem Xa:QI QD=true:=by simp[QD,QI,goodL]
theorem Vn {n:List UInt8} {us:List Tm} (ha:ZF n us.length=true) (h:goodL us=true):QI (.mk 3 n 0 us)=true:=by simp[QI,ha,h]
theorem O8 {t:Tm} (h:QI t=true) (i:Nat):QI (kid t i)=true:=by
 unfold kid;rw[List.getD_eq_getElem?_getD];cases hg:t.kids[i]? with
 | none=>simpa using Xa
 | some x=>exact Yj.1 (XA h) x (List.mem_of_getElem? hg)
theorem Vq (t:Tm) (i:Nat): (kid t i).mass≤t.mass:=by
 unfold kid;rw[List.getD_eq_getElem?_getD];have:=Qp t;cases hg:t.kids[i]? with
 | none=>simp[QD,Tm.mass,massL];omega
 | some x=>have:=QC (List.mem_of_getElem? hg);simp;omega
theorem CY {us:List Tm} (h:goodL us=true):QI (X9 us).1=true:=by
 unfold X9;split
 ·exact Xa
 ·split
  ·exact Xa
  ·have hL: ∀y∈sumL [] us,QI y=true:=fun y hy=>by
    rcases sumL_mem us [] y hy with h1 | h1
    ·simp at h1
    ·exact good_allL us y h h1
   show QI (tmX (sumL [] us))=true
   match hh:sumL [] us with
   | []=>simp[tmX,QI,goodL,ZF,ZM,Zf,ENC,QY,Zd,EXP,DEC,Zo,ZE,PK,FST,SND,READ]
   | [p]=>simp only[tmX];exact hL p (by rw[hh];simp)
   | p:: q:: r=>
    simp only[tmX];refine Vn (by simp[ZF,XOR,Zf,ENC,QY,Zd,EXP,DEC,Zo,ZE,PK,FST,SND,READ]) (Yj.2 fun x hx=>hL x (by rw[hh];exact hx))
theorem C6 (us:List Tm): (X9 us).1.mass≤13200:=by
 unfold X9;split
 ·simp[QD,Tm.mass,massL]
 ·split
  ·simp[QD,Tm.mass,massL]
  ·rename_i h;exact(X2 (by simpa using h)).2.2
theorem VM:QD.mass=1:=by simp[QD,Tm.mass,massL]
def KG (l:List Pw):Prop:=∀q∈l,QI q.1=true
theorem Gx {l:List Pw} {t:Tm} {m:Int} (h:KG l) (ht:QI t=true):KG (Z9 l t m):=by
 intro q hq;rcases Ud hq with hq | rfl | ⟨_,_,rfl,_⟩
 ·exact h q hq
 ·exact ht
 ·exact ht
theorem Qd2: ∀(t:Tm) (l:List Pw) (m:Int),KG l→QI t=true→KG (XG l t m):=by
 refine ZG ?_;intro k n s ks ih l m h hm;have hk:=Yj.1 (XA hm);have hL: ∀(xs:List Tm) (l:List Pw) (m:Int),(∀x∈xs,x∈ks)→KG l→KG (colL l xs m):=by
  intro xs
  induction xs with
  | nil=>intro l m _ h;simpa[colL]using h
  | cons x xs IH=>
   intro l m hx h;simp only[colL];exact IH _ m (fun y hy=>hx y (by simp[hy])) (ih x (hx x (by simp)) l m h (hk x (hx x (by simp))))
 rw[Ta];split
 ·exact hL ks l _ (fun x hx=>hx) h
 ·exact Gx h hm
theorem N4: ∀(b a:List Pw),KG a→KG b→KG (YZ a b)
 | [],a,h,_=>h
 | q:: b,a,h,hb=>N4 b _ (Gx h (hb q (by simp))) fun x hx=>hb x (by simp[hx])
theorem N5 {t:Tm} (h:QI t=true):KG (ofP t):=by
 unfold ofP;split
 ·exact Qd2 t [] 1 (fun q hq=>by simp at hq) h
 ·intro q hq;simp at hq
theorem Qd3 {a b:List Pw} (ha:KG a) (hb:KG b):KG (Xl a b):=by
 unfold Xl;split
 ·exact N4 b a ha hb
 ·intro q hq;simp at hq
theorem CX {l:List Pw} (h:KG l):goodL (Zv l)=true:=by
 refine Yj.2 fun x hx=> ?_;simp only[Zv,Xb,Xu,List.mem_append,List.mem_flatten,List.mem_map]at hx;rcases hx with⟨_,⟨q,hq,rfl⟩,hx⟩ | ⟨_,⟨q,hq,rfl⟩,hx⟩
 ·rw[List.eq_of_mem_replicate hx];exact h q hq
 ·rw[List.eq_of_mem_replicate hx];exact Vn (by simp[ZF,INV,Zf,ENC,QY,Zd,EXP,DEC,Zo,ZE,PK,FST,SND,READ]) (by simp[goodL,h q hq])
theorem NT {l:List Pw} (h:KG l):QI (ZD l).1=true:=by
 unfold ZD;split
 ·exact Xa
 ·split
  ·exact Xa
  ·split
   ·exact Xa
   ·have hL:=CX h
    show QI (Zp (Zv l))=true
    match hh:Zv l with
    | []=>simp[Zp,QI,goodL,ZF,ONE,Zf,ENC,QY,Zd,EXP,DEC,Zo,ZE,PK,FST,SND,READ]
    | [p]=>simp only[Zp];rw[hh]at hL;simpa[goodL]using hL
    | p:: q:: r=>
     simp only[Zp];rw[hh]at hL;exact Vn (by simp[ZF,MUL,Zf,ENC,QY,Zd,EXP,DEC,Zo,ZE,PK,FST,SND,READ]) hL
theorem Mf (l:List Pw): (ZD l).1.mass≤13200:=by
 unfold ZD;split
 ·simp[QD,Tm.mass,massL]
 ·split
  ·simp[QD,Tm.mass,massL]
  ·split
   ·simp[QD,Tm.mass,massL]
   ·rename_i h;exact(X2 (by simpa using h)).2.2
theorem LI {t:Tm} (h:QI t=true):QI (Yf t).1=true:=by
 unfold Yf;split
 ·exact Xa
 ·exact NT (N5 h)
theorem LL (t:Tm): (Yf t).1.mass≤13200:=by
 unfold Yf;split
 ·simp[QD,Tm.mass,massL]
 ·exact Mf _
theorem Gt {b:Tm} {p:List Pw} (hb:QI b=true) (hp:KG p):QI (X5 b p).1=true∧(X5 b p).1.mass≤6+b.mass+13200:=by
 have h0:=Mf p;unfold X5;split
 ·exact⟨hb,by simp;omega⟩
 ·split
  ·exact⟨Xa,by show QD.mass≤_;rw[VM];omega⟩
  ·exact⟨Vn (by simp[ZF]) (by simp[goodL,hb,NT hp]),by simp only[Tm.mass,massL,EXP,List.length_cons,List.length_nil];omega⟩
theorem Qem {b e:Tm} (hb:QI b=true) (he:QI e=true):QI (YU b e).1=true∧(YU b e).1.mass≤6+b.mass+13200:=by
 have hz:QI QD=true∧QD.mass≤6+b.mass+13200:=⟨Xa,by show QD.mass≤_;rw[VM];omega⟩;have hk:=Vq b 0;unfold YU;split
 ·exact hz
 ·split
  ·split
   ·exact hz
   ·split
    ·exact hz
    ·obtain⟨h1,h2⟩:=Gt (O8 hb 0) (Qd3 (N5 (O8 hb 1)) (N5 he));exact⟨h1,by omega⟩
  ·exact Gt hb (N5 he)
theorem Qat {n:List UInt8} {us:List Tm} (ha:ZF n us.length=true) (h:goodL us=true):QI (QN n us)=true∧(QN n us).mass≤1+n.length+us.length+massL us:=by
 have hout:QI (.mk 3 n 0 us)=true∧(Tm.mk 3 n 0 us).mass≤1+n.length+us.length+massL us:=⟨Vn ha h,by simp[Tm.mass]⟩;have ha0:QI (us.getD 0 QD)=true∧(us.getD 0 QD).mass≤1+massL us:=by
  cases us with
  | nil=>exact⟨Xa,by simp[QD,Tm.mass,massL]⟩
  | cons x r=>simp only[goodL,Bool.and_eq_true]at h;exact⟨h.1,by simp[massL];omega⟩
 have hkid: ∀i,QI (kid (us.getD 0 QD) i)=true∧(kid (us.getD 0 QD) i).mass≤1+n.length+us.length+massL us:=fun i=>⟨O8 ha0.1 i,by have:=Vq (us.getD 0 QD) i;omega⟩;simp only[QN]
 repeat' split
 all_goals first | exact hout | exact hkid _
def ZZ (n:List UInt8) (us:List Tm):Tm×Int:=
 if Wb n then(QN n us,0)else if n=XOR then X9 us else if n=MUL∨n=INV∨n=ONE then Yf (.mk 3 n 0 us)
 else if n=EXP then YU (us.getD 0 QD) (us.getD 1 QD)else(.mk 3 n 0 us,0)
mutual
def Zb:Tm→Tm×Int
 | .mk k n s ks=>if k=3 then(if(normL ks).2=0 then ZZ n (normL ks).1 else(QD,(normL ks).2))else(.mk k n s ks,0)
def normL:List Tm→List Tm×Int
 | []=>([],0)
 | t:: ts=>if(Zb t).2=0 then(if(normL ts).2=0 then((Zb t).1:: (normL ts).1,0)else([],(normL ts).2))else([],(Zb t).2)
end
theorem QaQ {n:List UInt8} {us:List Tm} (ha:ZF n us.length=true) (h:goodL us=true):QI (ZZ n us).1=true∧(ZZ n us).1.mass≤1+n.length+us.length+massL us+13200:=by
 unfold ZZ;split
 ·obtain⟨h1,h2⟩:=Qat ha h;exact⟨h1,by simp;omega⟩
 ·split
  ·exact⟨CY h,by have:=C6 us;omega⟩
  ·split
   ·exact⟨LI (Vn ha h),by have:=LL (.mk 3 n 0 us);omega⟩
   ·split
    ·rename_i hn;subst hn;have h2:us.length=2:=by simpa[ZF]using ha
     match us,h2,h with
     | [x,y],_,h=>
      simp only[goodL,Bool.and_eq_true]at h;obtain⟨h3,h4⟩:=Qem h.1 h.2.1;exact⟨h3,by simp only[massL,EXP,List.length_cons,List.length_nil]at *;simp at h4 ⊢;omega⟩
    ·exact⟨Vn ha h,by simp[Tm.mass]⟩
mutual
theorem Ty: ∀t:Tm,QI t=true→QI (Zb t).1=true∧(Zb t).1.mass≤t.mass+13200*t.nodes
 | .mk k n s ks,h=>by
  have hk:=normL_ok ks (XA h);simp only[Zb];split
  ·rename_i hk3;subst hk3;split
   ·rename_i h2;obtain⟨h3,h4,h5⟩:=hk;have h5:=h5 h2;have har:=(XW h rfl).2;simp only[ZH,Q0]at har;obtain⟨h6,h7⟩:=QaQ (by rw[h5];exact har) h3;exact⟨h6,by simp only[Tm.mass,Tm.nodes];rw[h5]at h7;omega⟩
   ·exact⟨Xa,by show QD.mass≤_;rw[VM];simp only[Tm.mass];omega⟩
  ·exact⟨h,Nat.le_add_right _ _⟩
theorem normL_ok: ∀ts:List Tm,goodL ts=true→goodL (normL ts).1=true∧massL (normL ts).1≤massL ts+13200*nodesL ts∧((normL ts).2=0→(normL ts).1.length=ts.length)
 | [],_=>by simp[normL,goodL,massL]
 | t:: ts,h=>by
  simp only[goodL,Bool.and_eq_true]at h;obtain⟨a1,a2⟩:=Ty t h.1;obtain⟨b1,b2,b3⟩:=normL_ok ts h.2;simp only[normL];split
  ·split
   ·rename_i h2;refine⟨by simp[goodL,a1,b1],by simp only[massL,nodesL];omega,fun _=>by simp[b3 h2]⟩
   ·rename_i h2;exact⟨rfl,by simp[massL],fun e=>absurd e h2⟩
  ·rename_i h2;exact⟨rfl,by simp[massL],fun e=>absurd e h2⟩
end
theorem RN {x:Tm}: ∀{ks:List Tm},x∈ks→x.nodes≤nodesL ks
 | [],h=>by cases h
 | t:: ts,h=>by
  simp only[nodesL];rcases List.mem_cons.1 h with rfl | h
  ·omega
  ·have:=RN h;omega
theorem TO {n:List UInt8} (h:Wb n=true): (n=FST∨n=SND∨n=READ)∨(n=DEC∨n=Zo∨n=ZE):=by
 simp only[Wb,Bool.or_eq_true,beq_iff_eq]at h;rcases h with((((h | h) | h) | h) | h) | h <;> simp[h]
theorem QcA {n:List UInt8} {us:List Tm} (bs:List (List AV)) (hn:Wb n=true) (ha:ZF n us.length=true) (hg:goodL us=true) (hm:massL us < 20000000):call F.tb 176 [.agg (Qb (.mk 3 n 0 us))] bs=some (.agg (Qb (QN n us)),bs):=by
 rcases TO hn with h | h
 ·have h1:us.length=1:=by rcases h with rfl | rfl | rfl <;> simpa[ZF,PK,Zf,ENC,QY,Zd,EXP,DEC,Zo,ZE,FST,SND,READ]using ha
  obtain⟨a,rfl⟩:=List.length_eq_one_iff.1 h1;simp only[goodL,Bool.and_eq_true]at hg;simp only[massL]at hm;exact Qau n a bs h hg.1 (by unfold big;omega)
 ·have h1:us.length=2:=by rcases h with rfl | rfl | rfl <;> simpa[ZF]using ha
  match us,h1,hg,hm with
  | [a,b],_,hg,hm=>
   simp only[goodL,Bool.and_eq_true]at hg;simp only[massL]at hm;exact Qav n a b bs h hg.1 hg.2.1 (by unfold big;omega) (by unfold big;omega)
theorem QcP {n:List UInt8} {us:List Tm} (bs:List (List AV)) (hn:Wb n=true) (ha:ZF n us.length=true) (hg:goodL us=true) (hm:massL us < 20000000):Ao (QN n us) bs (call F.tb 243 [.agg (Qb (.mk 3 n 0 us))] bs):=by
 rcases TO hn with h | h
 ·have h1:us.length=1:=by rcases h with rfl | rfl | rfl <;> simpa[ZF,PK,Zf,ENC,QY,Zd,EXP,DEC,Zo,ZE,FST,SND,READ]using ha
  obtain⟨a,rfl⟩:=List.length_eq_one_iff.1 h1;simp only[goodL,Bool.and_eq_true]at hg;simp only[massL]at hm;exact Ci n a bs h hg.1 (by unfold big;omega)
 ·have h1:us.length=2:=by rcases h with rfl | rfl | rfl <;> simpa[ZF]using ha
  match us,h1,hg,hm with
  | [a,b],_,hg,hm=>
   simp only[goodL,Bool.and_eq_true]at hg;simp only[massL]at hm;exact Cj n a b bs h hg.1 (by unfold big;omega) (by unfold big;omega)
def MX (us:List Tm) (n:List UInt8):Prop:=massL us+n.length+us.length < 15000000
set_option maxHeartbeats 2000000 in
theorem Qd7 (t:Tm) (us:List Tm) (bs:List (List AV)) (ha:ZF t.name us.length=true) (hg:goodL us=true) (hm:MX us t.name) (ρ:Nat→AV) (h1:ρ 1= .bx (Qb t)) (h2:ρ 2= .bx [.int .i64 0,.str [],.int .i64 0,.sl true 4 []])
  (h4:ρ 4= .bx [.int .i64 3,.str t.name,.int .i64 0,.sl true 4 (encTs us)]):R F.tb F.f175r0 ρ bs (Qx F.f175 bs)=some (QR (ZZ t.name us),bs):=by
 unfold MX at hm;have hf:=WO 3 t.name 0 us;have hgp:gpfreeE (encTs us)=true:=encTs_gp us;obtain⟨n,hn⟩: ∃n,t.name=n:=⟨_,rfl⟩;rw[hn]at ha hm h4 hf ⊢;cases hd:Wb n
 ·have hd':=hd;simp only[Wb,Bool.or_eq_false_iff]at hd';obtain⟨⟨⟨⟨⟨d1,d2⟩,d3⟩,d4⟩,d5⟩,d6⟩:=hd';simp only[FST,SND,DEC,Zo,ZE,READ]at d1 d2 d3 d4 d5 d6;by_cases hx:n=XOR
  ·subst hx;have e:ZZ XOR us=X9 us:=by simp[ZZ,hd]
   have hc:=Qai us false bs (by omega) (by omega);rw[e];simp only[QR]at hc ⊢;simp only[XOR]at *;simp[F.f175r0,h1,h2,h4,hn,hc]
  ·by_cases hp:n=MUL∨n=INV∨n=ONE
   ·have e:ZZ n us=Yf (.mk 3 n 0 us):=by simp only[ZZ,hd,hx,hp,if_true,if_false];simp
    have hmass: (Tm.mk 3 n 0 us).mass < 20000000:=by simp only[Tm.mass];omega
    have hc:=Rc (.mk 3 n 0 us) bs (by omega);have hc2:=OW false bs (Rh (.mk 3 n 0 us) 25000000 (by omega)) (Td _);rw[← hf]at hc;rw[e];by_cases c:ofE (.mk 3 n 0 us)=0
    ·have e2:Yf (.mk 3 n 0 us)=ZD (ofP (.mk 3 n 0 us)):=by simp[Yf,c]
     rw[e2];simp only[QR]at hc2 ⊢;rw[c]at hc;generalize ofP (.mk 3 n 0 us)=P at *;rcases hp with rfl | rfl | rfl
     ·simp only[MUL]at *;simp[F.f175r0,h1,h2,h4,hn,hc,hc2]
     ·simp only[INV]at *;simp[F.f175r0,h1,h2,h4,hn,hc,hc2]
     ·simp only[ONE]at *;simp[F.f175r0,h1,h2,h4,hn,hc,hc2]
    ·have e2:Yf (.mk 3 n 0 us)=(QD,ofE (.mk 3 n 0 us)):=by simp[Yf,c]
     rw[e2];generalize ofE (.mk 3 n 0 us)=E at *;generalize ofP (.mk 3 n 0 us)=P at *;rcases hp with rfl | rfl | rfl
     ·simp only[MUL]at *;simp[F.f175r0,h1,h2,h4,hn,hc,c,QU,QJ]
     ·simp only[INV]at *;simp[F.f175r0,h1,h2,h4,hn,hc,c,QU,QJ]
     ·simp only[ONE]at *;simp[F.f175r0,h1,h2,h4,hn,hc,c,QU,QJ]
   ·by_cases he:n=EXP
    ·have e:ZZ n us=YU (us.getD 0 QD) (us.getD 1 QD):=by subst he;simp only[ZZ,hd,if_neg hx,if_neg hp];simp
     subst he;have hl:us.length=2:=by simpa[ZF]using ha
     match us,hl,hg,hm,h4,e with
     | [x,y],_,hg,hm,h4,e=>
      simp only[goodL,Bool.and_eq_true]at hg;simp only[massL]at hm;have hc:=QcF x y bs hg.1 (by omega) (by omega);rw[e];simp only[QR]at hc ⊢;simp only[List.getD_cons_zero,List.getD_cons_succ]at *;simp only[EXP]at *;simp[F.f175r0,h1,h2,h4,hn,hc]
    ·have e:ZZ n us=(.mk 3 n 0 us,0):=by simp only[ZZ,hd,hx,hp,he,if_false];simp
     rw[e];have b1: (n == XOR)=false:=by simpa using hx
     have b2: (n == MUL)=false:=by simp at hp ⊢;exact hp.1
     have b3: (n == INV)=false:=by simp at hp ⊢;exact hp.2.1
     have b4: (n == ONE)=false:=by simp at hp ⊢;exact hp.2.2
     have b5: (n == EXP)=false:=by simpa using he
     simp only[XOR,MUL,INV,ONE,EXP]at b1 b2 b3 b4 b5;simp[F.f175r0,h1,h2,h4,hn,d1,d2,d3,d4,d5,d6,b1,b2,b3,b4,b5,QU,Q6]
 ·have e:ZZ n us=(QN n us,0):=by simp[ZZ,hd]
  have hc:=QcA bs hd ha hg (by omega);rw[← hf]at hc;rw[e];generalize QN n us=D at *;rcases TO hd with(rfl | rfl | rfl) | (rfl | rfl | rfl)
  ·simp only[FST]at *;simp[F.f175r0,h1,h2,h4,hn,hc,QU]
  ·simp only[SND]at *;simp[F.f175r0,h1,h2,h4,hn,hc,QU]
  ·simp only[READ]at *;simp[F.f175r0,h1,h2,h4,hn,hc,QU]
  ·simp only[DEC]at *;simp[F.f175r0,h1,h2,h4,hn,hc,QU]
  ·simp only[Zo]at *;simp[F.f175r0,h1,h2,h4,hn,hc,QU]
  ·simp only[ZE]at *;simp[F.f175r0,h1,h2,h4,hn,hc,QU]
def Xi (n:List UInt8) (us:List Tm) (r:List Tm×Int):Tm×Int:=if r.2=0 then ZZ n (us ++ r.1)else(QD,r.2)
theorem Ba (t:Tm) (bs:List (List AV)) (hg:QI t=true) (hk3:t.kind=3) (hm:t.mass+13200*t.nodes < 15000000) (ih: ∀x∈t.kids,∀bs,call F.tb 175 [.agg (Qb x)] bs=some (QR (Zb x),bs)):
  ∀(post pre us:List Tm) (ρ:Nat→AV),t.kids=pre ++ post→us.length=pre.length→goodL us=true→massL us≤massL pre+13200*nodesL pre→ρ 1= .bx (Qb t)→ρ 2= .bx [.int .i64 0,.str [],.int .i64 0,.sl true 4 []]→
   ρ 4= .bx [.int .i64 3,.str t.name,.int .i64 0,.sl true 4 (encTs us)]→ρ 19= .sl false 4 (encTs t.kids)→ρ 20= .int .i64 t.kids.length→ρ 21= .int .i64 pre.length→
  R F.tb (.loop F.f175l0) ρ bs (Qj 0 (Qu F.tb F.f175r0 (Qx F.f175 bs)))=some (QR (Xi t.name us (normL post)),bs):=by
 have hme:=Qp t;have hne:=YM t;intro post
 induction post with
 | nil=>
  intro pre us ρ hk hl hgu hmu h1 h2 h4 h19 h20 h21;simp only[List.append_nil]at hk;rw[← hk]at h21 hl hmu;have har:=(XW hg hk3).2;have hr:=Qd7 t us bs (by rw[hl];exact har) hgu (by unfold MX;omega);have e:Xi t.name us (normL [])=ZZ t.name us:=by simp[Xi,normL]
  rw[Qc F.f175l0.eq_1,e];simp[h1,h2,h4,h19,h20,h21];apply hr <;> simp[h1,h2,h4]
 | cons x post IH=>
  intro pre us ρ hk hl hgu hmu h1 h2 h4 h19 h20 h21;have hg2:=Qt hk;have hll:=QE hk;have hw1:=wr1 pre.length (by omega);have hlt:=QF hk;have hxk:x∈t.kids:=by rw[hk];simp
  have hc:=ih x hxk bs;obtain⟨n1,n2⟩:=Ty x (Yj.1 (XA hg) x hxk);simp only[QR]at hc;rw[Qc F.f175l0.eq_1];by_cases c: (Zb x).2=0
  ·have e:Xi t.name us (normL (x:: post))=Xi t.name (us ++ [(Zb x).1]) (normL post):=by
    simp only[Xi,normL,c,if_true];by_cases c2: (normL post).2=0
    ·simp[c2]
    ·simp[c2]
   have hb: (us.length+1)*56≤140737488355328:=YW (by omega);have hi:=fun ρ=>IH (pre ++ [x]) (us ++ [(Zb x).1]) ρ (by rw[hk];simp) (by simp[hl]) (Yj.2 fun y hy=>by
    rcases List.mem_append.1 hy with hy | hy
    ·exact Yj.1 hgu y hy
    ·simp at hy;subst hy;exact n1) (by rw[XI,XI,Yu];simp only[massL,nodesL];omega)
   rw[e];simp[h1,h2,h4,h19,h20,h21,hg2,hlt,hw1,hc,c,hb,Zt,Q7];apply hi <;> simp[h1,h2,h19,h20]
  ·have e:Xi t.name us (normL (x:: post))=(QD,(Zb x).2):=by simp[Xi,normL,c]
   rw[e];simp[h1,h2,h4,h19,h20,h21,hg2,hlt,hc,c,QU,QJ]
theorem Qcz: ∀(t:Tm) (bs:List (List AV)),QI t=true→t.mass+13200*t.nodes < 15000000→call F.tb 175 [.agg (Qb t)] bs=some (QR (Zb t),bs):=by
 refine ZG ?_;intro k n s ks ih bs hg hm;have hme:=Qp (.mk k n s ks);have hne:=YM (.mk k n s ks);simp only[Q0,ZH]at hme hne;rw[Qa F.tb_175 _ _ rfl];by_cases hk:k=3
 ·subst hk;have hl:=fun ρ=>Ba (.mk 3 n s ks) bs hg rfl hm (fun x hx bs=>ih x hx bs (Yj.1 (XA hg) x hx) (by have h1:x.mass≤massL ks:=QC hx;have h2:x.nodes≤nodesL ks:=RN hx;omega)) ks [] [] ρ rfl rfl rfl (by simp[massL]);have e:Zb (.mk 3 n s ks)=Xi n [] (normL ks):=by simp[Zb,Xi]
  rw[e];simp only[ZH,Q0]at hl;simp[F.f175C];apply hl <;> simp[encTs]
 ·have e:Zb (.mk k n s ks)=(.mk k n s ks,0):=by simp[Zb,hk]
  rw[e];simp[F.f175C,hk,QU]
theorem OJ {n:List UInt8}: ∀{l:List Sy} {y:Sy},Zu n l=some y→y∈l∧y.n=n
 | [],y,h=>by simp[Zu]at h
 | s:: ss,y,h=>by
  simp only[Zu]at h;split at h
  ·rename_i hs;injection h with h;subst h;exact⟨by simp,hs⟩
  ·obtain⟨h1,h2⟩:=OJ h;exact⟨by simp[h1],h2⟩
theorem QbF:YG.all (fun y=> !(y.k == 3) || Wb y.n)=true:=by decide
def UC (n:List UInt8):Int:=match Zu n YG with | some y=>y.k | none=>0
theorem FY (n:List UInt8):decide (UC n=3)=Wb n:=by
 unfold UC;cases hd:Wb n
 ·cases hf:Zu n YG with
  | none=>simp
  | some y=>
   obtain⟨h1,h2⟩:=OJ hf;have h3:=List.all_eq_true.1 QbF y h1;rw[h2,hd]at h3;simpa using h3
 ·rcases TO hd with(rfl | rfl | rfl) | (rfl | rfl | rfl) <;> simp[FST,SND,DEC,Zo,ZE,READ,Zu,YG]
theorem HU (n:List UInt8) (bs:List (List AV)):call F.tb 128 [.str n] bs=some (.int .i64 (UC n),bs):=MY n bs
set_option maxHeartbeats 4000000 in
theorem At (t:Tm) (us:List Tm) (bs:List (List AV)) (ha:ZF t.name us.length=true) (hg:goodL us=true) (hm:MX us t.name) (ρ:Nat→AV) (h1:ρ 1= .bx (Qb t)) (h2:ρ 2= .bx [.int .i64 0,.str [],.int .i64 0,.sl true 4 []])
  (h4:ρ 4= .sl true 4 (encTs us)):R F.tb F.f242r0 ρ bs (Qx F.f242 bs)=some (QR (ZZ t.name us),bs):=by
 unfold MX at hm;obtain⟨n,hn⟩: ∃n,t.name=n:=⟨_,rfl⟩;rw[hn]at ha hm ⊢;have hap:=Vz n us false bs (by omega);have hkn:=HU n bs;have hk3:=FY n;cases hd:Wb n
 ·rw[hd]at hk3;have hk3': ¬UC n=3:=by simpa using hk3
  generalize UC n=KK at *;by_cases hx:n=XOR
  ·subst hx;have e:ZZ XOR us=X9 us:=by simp[ZZ,hd]
   have hc:=Fr us false bs (by omega) (by omega);rw[e];simp only[QR]at hc ⊢;simp only[XOR]at *;simp[F.f242r0,h1,h2,h4,hn,hap,hkn,hk3',hc]
  ·have b1: (n == XOR)=false:=by simpa using hx
   simp only[XOR]at b1;by_cases hp:n=MUL∨n=INV∨n=ONE
   ·have e:ZZ n us=Yf (.mk 3 n 0 us):=by simp only[ZZ,hd,hx,hp,if_true,if_false];simp
    have hmass: (Tm.mk 3 n 0 us).mass < 20000000:=by simp only[Tm.mass];omega
    have hc:=QcQ (.mk 3 n 0 us) bs (by omega);rw[e];simp only[QR]at hc ⊢;generalize Yf (.mk 3 n 0 us)=P at *;rcases hp with rfl | rfl | rfl
    ·simp only[MUL]at *;simp[F.f242r0,h1,h2,h4,hn,hap,hkn,hk3',hc]
    ·simp only[INV]at *;simp[F.f242r0,h1,h2,h4,hn,hap,hkn,hk3',hc]
    ·simp only[ONE]at *;simp[F.f242r0,h1,h2,h4,hn,hap,hkn,hk3',hc]
   ·by_cases he:n=EXP
    ·have e:ZZ n us=YU (us.getD 0 QD) (us.getD 1 QD):=by subst he;simp only[ZZ,hd,if_neg hx,if_neg hp];simp
     subst he;have hl:us.length=2:=by simpa[ZF]using ha
     match us,hl,hg,hm,h4,e,hap with
     | [x,y],_,hg,hm,h4,e,hap=>
      simp only[goodL,Bool.and_eq_true]at hg;simp only[massL]at hm;have hc:=QcU x y bs hg.1 (by omega) (by omega);rw[e];simp only[QR]at hc ⊢;simp only[List.getD_cons_zero,List.getD_cons_succ]at *;simp only[EXP]at *;simp[F.f242r0,h1,h2,h4,hn,hap,hkn,hk3',hc]
    ·have e:ZZ n us=(.mk 3 n 0 us,0):=by simp only[ZZ,hd,hx,hp,he,if_false];simp
     rw[e];have b2: (n == MUL)=false:=by simp at hp ⊢;exact hp.1
     have b3: (n == INV)=false:=by simp at hp ⊢;exact hp.2.1
     have b4: (n == ONE)=false:=by simp at hp ⊢;exact hp.2.2
     have b5: (n == EXP)=false:=by simpa using he
     simp only[MUL,INV,ONE,EXP]at b2 b3 b4 b5;simp[F.f242r0,h1,h2,h4,hn,hap,hkn,hk3',b1,b2,b3,b4,b5,QU]
 ·rw[hd]at hk3;have hk3':UC n=3:=by simpa using hk3
  rw[hk3']at hkn;have e:ZZ n us=(QN n us,0):=by simp[ZZ,hd]
  obtain⟨b,hc⟩:=QcP bs hd ha hg (by omega);rw[e];generalize QN n us=D at *;simp[F.f242r0,h1,h2,h4,hn,hap,hkn,hc,QU]
theorem Fi (t:Tm) (bs:List (List AV)) (hg:QI t=true) (hk3:t.kind=3) (hm:t.mass+13200*t.nodes < 15000000) (ih: ∀x∈t.kids,∀bs,call F.tb 242 [.agg (Qb x)] bs=some (QR (Zb x),bs)):
  ∀(post pre us:List Tm) (ρ:Nat→AV),t.kids=pre ++ post→us.length=pre.length→goodL us=true→massL us≤massL pre+13200*nodesL pre→ρ 1= .bx (Qb t)→ρ 2= .bx [.int .i64 0,.str [],.int .i64 0,.sl true 4 []]→
   ρ 4= .sl true 4 (encTs us)→ρ 5= .int .i64 pre.length→
  R F.tb (.loop F.f242l0) ρ bs (Qj 0 (Qu F.tb F.f242r0 (Qx F.f242 bs)))=some (QR (Xi t.name us (normL post)),bs):=by
 have hme:=Qp t;have hne:=YM t;intro post
 induction post with
 | nil=>
  intro pre us ρ hk hl hgu hmu h1 h2 h4 h5;simp only[List.append_nil]at hk;rw[← hk]at h5 hl hmu;have har:=(XW hg hk3).2;have hr:=At t us bs (by rw[hl];exact har) hgu (by unfold MX;omega);have e:Xi t.name us (normL [])=ZZ t.name us:=by simp[Xi,normL]
  rw[Qc F.f242l0.eq_1,e];simp[h1,h2,h4,h5];apply hr <;> simp[h1,h2,h4]
 | cons x post IH=>
  intro pre us ρ hk hl hgu hmu h1 h2 h4 h5;have hg2:=Qt hk;have hll:=QE hk;have hw1:=wr1 pre.length (by omega);have hlt:=QF hk;have hxk:x∈t.kids:=by rw[hk];simp
  have hc:=ih x hxk bs;obtain⟨n1,n2⟩:=Ty x (Yj.1 (XA hg) x hxk);simp only[QR]at hc;rw[Qc F.f242l0.eq_1];by_cases c: (Zb x).2=0
  ·have e:Xi t.name us (normL (x:: post))=Xi t.name (us ++ [(Zb x).1]) (normL post):=by
    simp only[Xi,normL,c,if_true];by_cases c2: (normL post).2=0
    ·simp[c2]
    ·simp[c2]
   have hb: (us.length+1)*56≤140737488355328:=YW (by omega);have hi:=fun ρ=>IH (pre ++ [x]) (us ++ [(Zb x).1]) ρ (by rw[hk];simp) (by simp[hl]) (Yj.2 fun y hy=>by
    rcases List.mem_append.1 hy with hy | hy
    ·exact Yj.1 hgu y hy
    ·simp at hy;subst hy;exact n1) (by rw[XI,XI,Yu];simp only[massL,nodesL];omega)
   rw[e];simp[h1,h2,h4,h5,hg2,hlt,hw1,hc,c,hb,Zt,Q7];apply hi <;> simp[h1,h2]
  ·have e:Xi t.name us (normL (x:: post))=(QD,(Zb x).2):=by simp[Xi,normL,c]
   rw[e];simp[h1,h2,h4,h5,hg2,hlt,hc,c,QU,QJ]
theorem QcO: ∀(t:Tm) (bs:List (List AV)),QI t=true→t.mass+13200*t.nodes < 15000000→call F.tb 242 [.agg (Qb t)] bs=some (QR (Zb t),bs):=by
 refine ZG ?_;intro k n s ks ih bs hg hm;have hme:=Qp (.mk k n s ks);have hne:=YM (.mk k n s ks);simp only[Q0,ZH]at hme hne;rw[Qa F.tb_242 _ _ rfl];by_cases hk:k=3
 ·subst hk;have hl:=fun ρ=>Fi (.mk 3 n s ks) bs hg rfl hm (fun x hx bs=>ih x hx bs (Yj.1 (XA hg) x hx) (by have h1:x.mass≤massL ks:=QC hx;have h2:x.nodes≤nodesL ks:=RN hx;omega)) ks [] [] ρ rfl rfl rfl (by simp[massL]);have e:Zb (.mk 3 n s ks)=Xi n [] (normL ks):=by simp[Zb,Xi]
  rw[e];simp only[ZH,Q0]at hl;simp[F.f242C];apply hl <;> simp[encTs]
 ·have e:Zb (.mk k n s ks)=(.mk k n s ks,0):=by simp[Zb,hk]
  rw[e];simp[F.f242C,hk,QU]
def Zz (t:Tm):Tm×Int:=if thV t≠0 then(QD,thV t)else if(Zb t).2≠0 then(QD,(Zb t).2)else if Qz (Zb t).1≠0 then(QD,Qz (Zb t).1)else((Zb t).1,0)
theorem OD {t:Tm} (h:thV t=0):Qz t=0∧Yw t=0∧QI t=true∧t.mass≤13200∧t.nodes≤400:=by
 unfold thV at h;split at h
 ·rename_i h1;exact absurd h h1
 ·rename_i h1;have h2:Qz t=0:=by simpa using h1
  obtain⟨a,b,c⟩:=X2 h2;exact⟨h2,h,NU t a h,c,b⟩
theorem RO (t:Tm): (Zz t).1.mass≤13200:=by
 unfold Zz;split
 ·show QD.mass≤_;rw[VM];omega
 ·split
  ·show QD.mass≤_;rw[VM];omega
  ·split
   ·show QD.mass≤_;rw[VM];omega
   ·rename_i h;exact(X2 (by simpa using h)).2.2
theorem Qcy (t:Tm) (bs:List (List AV)) (hm:t.mass < big):call F.tb 174 [.agg (Qb t)] bs=some (QR (Zz t),bs):=by
 have h1:=Tt t bs hm;rw[Qa F.tb_174 _ _ rfl];by_cases c1:thV t=0
 ·obtain⟨_,_,hg,hma,hno⟩:=OD c1;have h2:=Qcz t bs hg (by omega);obtain⟨n1,n2⟩:=Ty t hg;have h3:=Wm (Zb t).1 bs (by unfold big;omega);simp only[QR]at h2;by_cases c2: (Zb t).2=0
  ·by_cases c3:Qz (Zb t).1=0
   ·have e:Zz t=((Zb t).1,0):=by simp[Zz,c1,c2,c3]
    rw[e];simp[F.f174C,h1,h2,h3,c1,c2,c3,QU]
   ·have e:Zz t=(QD,Qz (Zb t).1):=by simp[Zz,c1,c2,c3]
    rw[e];simp[F.f174C,h1,h2,h3,c1,c2,c3,QU,QJ]
  ·have e:Zz t=(QD,(Zb t).2):=by simp[Zz,c1,c2]
   rw[e];simp[F.f174C,h1,h2,c1,c2,QU,QJ]
 ·have e:Zz t=(QD,thV t):=by simp[Zz,c1]
  rw[e];simp[F.f174C,h1,c1,QU,QJ]
theorem HX (t:Tm) (bs:List (List AV)) (hm:t.mass < big):call F.tb 241 [.agg (Qb t)] bs=some (QR (Zz t),bs):=by
 have h1:=Jm t bs hm;rw[Qa F.tb_241 _ _ rfl];by_cases c1:thV t=0
 ·obtain⟨_,_,hg,hma,hno⟩:=OD c1;have h2:=QcO t bs hg (by omega);obtain⟨n1,n2⟩:=Ty t hg;have h3:=Y7 (Zb t).1 bs (by unfold big;omega);simp only[QR]at h2;by_cases c2: (Zb t).2=0
  ·by_cases c3:Qz (Zb t).1=0
   ·have e:Zz t=((Zb t).1,0):=by simp[Zz,c1,c2,c3]
    rw[e];simp[F.f241C,h1,h2,h3,c1,c2,c3,QU]
   ·have e:Zz t=(QD,Qz (Zb t).1):=by simp[Zz,c1,c2,c3]
    rw[e];simp[F.f241C,h1,h2,h3,c1,c2,c3,QU,QJ]
  ·have e:Zz t=(QD,(Zb t).2):=by simp[Zz,c1,c2]
   rw[e];simp[F.f241C,h1,h2,c1,c2,QU,QJ]
 ·have e:Zz t=(QD,thV t):=by simp[Zz,c1]
  rw[e];simp[F.f241C,h1,c1,QU,QJ]
theorem QcL (n:List UInt8) (bs:List (List AV)):call F.tb 206 [.str n] bs=some (.bool (!Wb n),bs):=by
 have h:=Y5 n bs;have hk:=FY n;rw[Qa F.tb_206 _ _ rfl,← hk];unfold UC;cases hf:Zu n YG with
 | none=>
  rw[hf]at h;simp[F.f206C,h]
 | some y=>
  rw[hf]at h;simp[F.f206C,h,XO]
def ndN (t:Tm):Bool:= !(decide (t.kind=3) && Wb t.name)
mutual
def evT:Tm→Bool
 | .mk k n s ks=>ndN (.mk k n s ks) && evL ks
def evL:List Tm→Bool
 | []=>true
 | t:: ts=>evT t && evL ts
end
theorem Qf4 (t:Tm):evT t=(ndN t && evL t.kids):=by cases t;simp[evT]
mutual
theorem Gp: ∀t:Tm,evT t=(QT t).all ndN
 | .mk k n s ks=>by simp only[evT,QT,List.all_cons,evL_all ks]
theorem evL_all: ∀ts:List Tm,evL ts=(allL ts).all ndN
 | []=>rfl
 | t:: ts=>by simp only[evL,allL,List.all_append,Gp t,evL_all ts]
end
theorem FK (t:Tm) (bs:List (List AV)) (hm:t.mass < big) (ih: ∀x∈t.kids,∀bs,call F.tb 207 [.agg (Qb x),.fn 206 []] bs=some (.bool (evT x),bs)):
  ∀(post pre:List Tm) (ρ:Nat→AV),t.kids=pre ++ post→ρ 1= .fn 206 []→ρ 18= .sl false 4 (encTs t.kids)→ρ 19= .int .i64 t.kids.length→ρ 20= .int .i64 pre.length→
  R F.tb (.loop F.f207l0) ρ bs (Qj 0 (Qu F.tb F.f207r0 (Qx F.f207 bs)))=some (.bool (evL post),bs):=by
 have hm2:=Qp t;unfold big at hm;intro post
 induction post with
 | nil=>
  intro pre ρ hk h1 h18 h19 h20;simp only[List.append_nil]at hk;rw[← hk]at h20;rw[Qc F.f207l0.eq_1];simp[h1,h18,h19,h20,F.f207r0,evL]
 | cons x post IH=>
  intro pre ρ hk h1 h18 h19 h20;have hg:=Qt hk;have hll:=QE hk;have hw1:=wr1 pre.length (by omega);have hlt:=QF hk;have hc:=ih x (by rw[hk];simp) bs;rw[Qc F.f207l0.eq_1];cases hb:evT x
  ·simp[h1,h18,h19,h20,hg,hlt,hc,hb,evL]
  ·have h2:=fun ρ=>IH (pre ++ [x]) ρ (by rw[hk];simp);simp[h1,h18,h19,h20,hg,hlt,hw1,hc,hb,evL];apply h2 <;> simp[h1,h18,h19]
theorem QcM: ∀(t:Tm) (bs:List (List AV)),t.mass < big→call F.tb 207 [.agg (Qb t),.fn 206 []] bs=some (.bool (evT t),bs):=by
 refine ZG ?_;intro k n s ks ih bs hm;have hl:=fun ρ=>FK (.mk k n s ks) bs hm (fun x hx bs=>ih x hx bs (by have h1:x.mass≤massL ks:=QC hx;have:=Qp (.mk k n s ks);simp only[Q0]at this;omega)) ks [] ρ rfl;have h2:=QcL n bs;simp only[Q0]at hl;rw[Qa F.tb_207 _ _ rfl,Qf4];by_cases hk:k=3
 ·cases hd:Wb n
  ·have e:ndN (.mk k n s ks)=true:=by simp[ndN,hd]
   rw[e];simp[F.f207C,hk,hd,h2];apply hl <;> simp
  ·have e:ndN (.mk k n s ks)=false:=by simp[ndN,hd,hk]
   rw[e];simp[F.f207C,hk,hd,h2]
 ·have e:ndN (.mk k n s ks)=true:=by simp[ndN,hk]
  rw[e];simp[F.f207C,hk];apply hl <;> simp
def V2 (t:Tm):Bool:=decide ((Zz t).2=0) && decide (Qh (Zz t).1 t=0) && evT t
theorem Qcx (t:Tm) (bs:List (List AV)) (hm:t.mass < big):call F.tb 173 [.agg (Qb t)] bs=some (.bool (V2 t),bs):=by
 have h1:=Qcy t bs hm;have hnm:=RO t;have h2:=Ol (Zz t).1 t bs (by unfold big;omega) hm;have h3:=QcM t bs hm;simp only[QR]at h1;rw[Qa F.tb_173 _ _ rfl];by_cases c1: (Zz t).2=0
 ·by_cases c2:Qh (Zz t).1 t=0
  ·simp[F.f173C,h1,h2,h3,c1,c2,V2]
  ·simp[F.f173C,h1,h2,h3,c1,c2,V2]
 ·simp[F.f173C,h1,c1,V2]
theorem I4 (l:List Tm) (bs:List (List AV)) (hl:l.length < 100000000): ∀(post pre:List Tm) (o:Bool) (ρ:Nat→AV),l=pre ++ post→ρ 5= .sl o 4 (encTs l)→ρ 6= .int .i64 pre.length→
  R F.tb (.loop F.f240l0) ρ bs (Qj 0 (Qu F.tb F.f240r0 (Qx F.f240 bs)))=some (.bool (post.all ndN),bs):=by
 intro post
 induction post with
 | nil=>
  intro pre o ρ hk h5 h6;simp only[List.append_nil]at hk;rw[← hk]at h6;rw[Qc F.f240l0.eq_1];simp[h5,h6,F.f240r0]
 | cons x post IH=>
  intro pre o ρ hk h5 h6;have hg:=Qt hk;have hll:=QE hk;have hw1:=wr1 pre.length (by omega);have hlt:=QF hk;have hc:=HU x.name bs;have hk3:=FY x.name;have h2:=fun ρ=>IH (pre ++ [x]) o ρ (by rw[hk];simp);rw[List.all_cons];rw[Qc F.f240l0.eq_1];by_cases ck:x.kind=3
  ·cases hd:Wb x.name
   ·rw[hd]at hk3;have hk3': ¬UC x.name=3:=by simpa using hk3
    have e:ndN x=true:=by simp[ndN,hd]
    rw[e,Bool.true_and];generalize UC x.name=KK at *;simp[h5,h6,hg,hlt,hw1,hc,ck,hk3',-List.all_eq_true];apply h2 <;> simp[h5]
   ·rw[hd]at hk3;have hk3':UC x.name=3:=by simpa using hk3
    have e:ndN x=false:=by simp[ndN,hd,ck]
    rw[e,Bool.false_and];simp[h5,h6,hg,hlt,hc,ck,hk3']
  ·have e:ndN x=true:=by simp[ndN,ck]
   rw[e,Bool.true_and];simp[h5,h6,hg,hlt,hw1,ck,-List.all_eq_true];apply h2 <;> simp[h5]
theorem QcN (t:Tm) (bs:List (List AV)) (hm:t.mass < 1000000):call F.tb 240 [.agg (Qb t)] bs=some (.bool (V2 t),bs):=by
 have hmb:t.mass < big:=by unfold big;omega
 have h1:=HX t bs hmb;have hnm:=RO t;have h2:=WW t (Zz t).1 bs hmb (by unfold big;omega);have hsym:decide (Qh t (Zz t).1=0)=decide (Qh (Zz t).1 t=0):=by
  have:=Z5 t (Zz t).1;rw[decide_eq_decide];omega
 rw[hsym]at h2;have h3:=Qaf t bs (by omega);have hlen:=WL t;have hnn:=ZL t;have h4:=fun o ρ=>I4 (QT t) bs (by omega) (QT t) [] o ρ rfl;simp only[QR]at h1;rw[Qa F.tb_240 _ _ rfl];have e:V2 t=(decide ((Zz t).2=0) && decide (Qh (Zz t).1 t=0) && (QT t).all ndN):=by rw[← Gp];rfl
 rw[e];by_cases c1: (Zz t).2=0
 ·by_cases c2:Qh (Zz t).1 t=0
  ·simp[F.f240C,h1,h2,h3,c1,c2,-List.all_eq_true];refine h4 false _ ?_ ?_ <;> simp
  ·simp[F.f240C,h1,h2,c1,c2]
 ·simp[F.f240C,h1,c1]
def UX (c:UInt8):Bool:=decide (48≤c.toNat) && decide (c.toNat≤57)
def Uc:List UInt8:=[48,49,50,51,52,53,54,55,56,57]
theorem Qaw: ∀d:Fin 256,Uc.contains (UInt8.ofNat d.val)=UX (UInt8.ofNat d.val):=by decide
theorem Qax (c:UInt8):Uc.contains c=UX c:=by
 have h:=Qaw ⟨c.toNat,c.toNat_lt⟩;simp only[UInt8.ofNat_toNat]at h;exact h
theorem NO {p:UInt8→Bool}: ∀{l:List UInt8},l.dropWhile p=[]↔∀x∈l,p x=true
 | []=>by simp
 | a:: l=>by
  rw[List.dropWhile_cons];cases h:p a
  ·simp[h]
  ·simp[h,NO (l:=l)]
theorem QbM (s:List UInt8): (Lib.trimS s Uc == [])=s.all UX:=by
 have hp: (fun b=>Uc.contains b)=UX:=funext Qax;cases hs:s.all UX
 ·have hne:Lib.trimS s Uc≠[]:=by
   intro e;unfold Lib.trimS Lib.trimLeftS Lib.trimRightS at e;rw[hp]at e;have h1:=NO.1 e;cases hw:s.reverse.dropWhile UX with
   | nil=>
    have h2:=NO.1 hw;have:s.all UX=true:=List.all_eq_true.2 fun x hx=>h2 x (by simpa using hx);rw[hs]at this;cases this
   | cons x r=>
    have h2:UX x=false:=by
     have:=List.head_dropWhile_not UX (l:=s.reverse) (by rw[hw];simp);simpa[hw]using this
    have h3:=h1 x (by rw[hw];simp);rw[h2]at h3;cases h3
  simpa using hne
 ·have:Lib.trimS s Uc=[]:=by
   unfold Lib.trimS Lib.trimLeftS Lib.trimRightS;rw[hp];have:s.reverse.dropWhile UX=[]:=NO.2 fun x hx=>List.all_eq_true.1 hs x (by simpa using hx);rw[this];rfl
  simp[this]
def P0 (s:List UInt8):Bool:=match s with
 | 101:: 35:: c:: r=>(c:: r).all UX
 | _=>false
def X8 (t:Tm):Bool:=
 if t.kind=3 then(t.name == ZM || t.name == ONE) && decide (t.kids.length=0)
 else if t.kind=2 then(if t.sort=1∨t.sort=5 then true else if t.sort=4 then t.name == [103] || P0 t.name else if t.sort=0∨t.sort=2∨t.sort=3 then P0 t.name else false)
 else false
def JJ (s:List UInt8):Bool:= !(s == []) && s.all UX
theorem Qcw (s:List UInt8) (bs:List (List AV)) (hs:s.length < 4294967281):call F.tb 163 [.str s] bs=some (.bool (JJ s),bs):=by
 have ht:call F.tb 164 [.str s,.str Uc] bs=some (.str (Lib.trimS s Uc),bs):=by
  rw[ZP F.tb_164];have hc: (Uc.all (· < 128) && decide (s.length < 4294967281) && decide (Uc.length < 4294967281))=true:=by
   rw[show Uc.all (· < 128)=true from by decide];simp[hs,Uc]
  simp only[XQ,Mo,hc,if_true];rfl
 have hn:=QbM s;rw[Qa F.tb_163 _ _ rfl];simp only[Uc]at ht hn;cases he:s == []
 ·simp[F.f163C,ht,hn,he,JJ,bne,-List.all_eq_true]
 ·simp[F.f163C,ht,hn,he,JJ,bne,-List.all_eq_true]
def XN (s:List UInt8):Bool:=decide (2≤s.length) && (s.take 2 == [101,35])
theorem QfU (s:List UInt8) (bs:List (List AV)):call F.tb 75 [.str s,.str [101,35]] bs=some (.bool (XN s),bs):=by
 rw[Qa F.tb_75 _ _ rfl];by_cases h:2≤s.length
 ·have h': (2:Int)≤(s.length:Int):=by omega
  simp[F.f75C,XN,h,h']
 ·have h': ¬(2:Int)≤(s.length:Int):=by omega
  simp[F.f75C,XN,h,h']
theorem QfT (s:List UInt8) (bs:List (List AV)):call F.tb 73 [.str s,.str [101,35]] bs=some (.tup [.str (if XN s then s.drop 2 else s),.bool (XN s)],bs):=by
 have h1:=QfU s bs;have h2:call F.tb 74 [.str s,.str [101,35]] bs=some (.tup [.str (if XN s then s.drop 2 else s),.bool (XN s)],bs):=by
  rw[Qa F.tb_74 _ _ rfl];cases hc:XN s
  ·simp[F.f74C,h1,hc]
  ·have hl:2≤s.length:=by simp[XN]at hc;exact hc.1
   have hl': (2:Int)≤(s.length:Int):=by omega
   simp[F.f74C,h1,hc,hl,hl']
 rw[Qa F.tb_73 _ _ rfl];generalize (if XN s then s.drop 2 else s)=w at *;simp[F.f73C,h2]
theorem Qek (s:List UInt8): (XN s && JJ (if XN s then s.drop 2 else s))=P0 s:=by
 cases hc:XN s
 ·rw[Bool.false_and];unfold P0;split
  ·simp[XN]at hc
  ·rfl
 ·simp only[if_true,Bool.true_and]
  match s,hc with
  | [],hc=>simp[XN]at hc
  | [_],hc=>simp[XN]at hc
  | [a,b],hc=>
   simp[XN]at hc;obtain⟨rfl,rfl⟩:=hc;rfl
  | a:: b:: c:: r,hc=>
   simp[XN]at hc;obtain⟨rfl,rfl⟩:=hc;simp[JJ,P0]
theorem QgC (x a b:List UInt8) (bs:List (List AV)):call F.tb 162 [.sl false 1 [[.str a],[.str b]],.str x] bs=some (.int .i64 (if x == a then 0 else if x == b then 1 else -1),bs):=by
 rw[Qa F.tb_162 _ _ rfl];simp[F.f162C];rw[Qc F.f162l0.eq_1];cases h1:x == a
 ·have g1: ¬x=a:=by simpa using h1
  simp[h1,g1];rw[Qc F.f162l0.eq_1];cases h2:x == b
  ·have hw:IntKind.i64.wrap 1=1:=rfl;have hw2:IntKind.i64.wrap 2=2:=rfl;have g2: ¬x=b:=by simpa using h2
   simp[h2,hw,hw2,g2];rw[Qc F.f162l0.eq_1];simp[F.f162r0]
  ·have hw:IntKind.i64.wrap 1=1:=rfl;have g2:x=b:=by simpa using h2
   simp[h2,hw,← g2]
 ·have g1:x=a:=by simpa using h1
  simp[h1,← g1]
theorem Qcv (t:Tm) (bs:List (List AV)) (hk:t.kind=3):call F.tb 160 [.agg (Qb t),.sl false 1 [[.str ZM],[.str ONE]]] bs=some (.bool (t.name == ZM || t.name == ONE),bs):=by
 have h:=QgC t.name ZM ONE bs;have h2:call F.tb 161 [.sl false 1 [[.str ZM],[.str ONE]],.str t.name] bs=some (.bool (t.name == ZM || t.name == ONE),bs):=by
  rw[Qa F.tb_161 _ _ rfl];cases h1:t.name == ZM
  ·cases h3:t.name == ONE <;> simp[h1,h3]at h <;> simp[F.f161C,h]
  ·simp[h1]at h;simp[F.f161C,h]
 rw[Qa F.tb_160 _ _ rfl];simp[F.f160C,hk,h2]
theorem Qcu (t:Tm) (bs:List (List AV)) (hm:t.mass < 1000000):call F.tb 159 [.agg (Qb t)] bs=some (.bool (X8 t),bs):=by
 have hme:=Qp t;rw[Qa F.tb_159 _ _ rfl];by_cases hk:t.kind=3
 ·have h1:=Qcv t bs hk;simp only[ZM,ONE]at h1;cases hz: (t.name == [122,101,114,111] || t.name == [111,110,101])
  ·rw[hz]at h1;simp[F.f159C,hk,h1,X8,ZM,ONE,hz]
   try (simp at hz;simp[hz])
  ·rw[hz]at h1;by_cases hl:t.kids=[]
   ·simp[F.f159C,hk,h1,X8,ZM,ONE,hz,hl]
   ·have hl0: ¬t.kids.length=0:=fun e=>hl (List.eq_nil_of_length_eq_zero e);have hl': ¬(t.kids.length:Int)=0:=by omega
    simp[F.f159C,hk,h1,X8,ZM,ONE,hl,hl']
 ·by_cases hk2:t.kind=2
  ·have h1:=QfT t.name bs;have h2:=Qcw (if XN t.name then t.name.drop 2 else t.name) bs (by
    split
    ·rw[List.length_drop];omega
    ·omega)
   have ho:=Qek t.name;generalize (if XN t.name then t.name.drop 2 else t.name)=w at *;have hp:X8 t=if t.sort=1∨t.sort=5 then true else if t.sort=4 then t.name == [103] || P0 t.name else if t.sort=0∨t.sort=2∨t.sort=3 then P0 t.name else false:=by
    unfold X8;rw[if_neg hk,if_pos hk2]
   rw[hp];generalize P0 t.name=O at *;by_cases s1:t.sort=1
   ·simp[F.f159C,hk2,h1,s1]
   ·by_cases s5:t.sort=5
    ·simp[F.f159C,hk2,h1,s5]
    ·by_cases s4:t.sort=4
     ·cases hg:t.name == [103]
      ·cases hcu:XN t.name
       ·rw[hcu]at h1 ho;simp at ho;subst ho;simp[F.f159C,hk2,h1,s4,hg]
       ·rw[hcu]at h1 ho;simp at ho;subst ho;simp[F.f159C,hk2,h1,h2,s4,hg]
      ·simp[F.f159C,hk2,h1,s4,hg]
     ·by_cases s0:t.sort=0∨t.sort=2∨t.sort=3
      ·cases hcu:XN t.name
       ·rw[hcu]at h1 ho;simp at ho;subst ho;rcases s0 with s0 | s0 | s0 <;> simp[F.f159C,hk2,h1,s0]
       ·rw[hcu]at h1 ho;simp at ho;subst ho;rcases s0 with s0 | s0 | s0 <;> simp[F.f159C,hk2,h1,h2,s0]
      ·simp only[not_or]at s0;simp[F.f159C,hk2,h1,s1,s5,s4,s0.1,s0.2.1,s0.2.2]
  ·have hp:X8 t=false:=by unfold X8;rw[if_neg hk,if_neg hk2]
   rw[hp];simp[F.f159C,hk,hk2]
def Y3 (x:Tm):Int:=if thV x≠0 then thV x else if UH x≠[]then 13 else if V2 x then 0 else 10
def TG:List Tm→Int
 | []=>0
 | x:: r=>if Y3 x≠0 then Y3 x else TG r
def TS (B0 B:List (List AV)) (v:AV) (l:List Tm):Prop:=∃(M:List (List AV)) (id sz:Nat),B=B0 ++ M∧v= .gs id 0 sz l.length∧
 ((sz=0∧id=0∧l=[])∨(sz=4∧B0.length≤id∧l≠[]∧B[id]? =some (Qf l)))
theorem L1 {B0 B:List (List AV)} {v:AV} {l:List Tm} (h:TS B0 B v l): ∃id sz,v= .gs id 0 sz l.length:=by
 obtain⟨M,id,sz,_,rfl,_⟩:=h;exact⟨id,sz,rfl⟩
theorem Qg1 (B0:List (List AV)):TS B0 B0 (.gs 0 0 0 0) []:=⟨[],0,0,by simp,rfl,.inl ⟨rfl,rfl,rfl⟩⟩
theorem QaW {l:List Tm} {M:Nat} (h: ∀x∈l,x.mass≤M):massL l≤l.length*M:=by
 induction l with
 | nil=>simp[massL]
 | cons x xs ih=>
  have h1:=ih fun y hy=>h y (by simp[hy]);have h2:=h x (by simp);simp only[massL,List.length_cons,Nat.succ_mul];omega
def Qip (i:Nat):Tm:= .mk 1 (119:: Qik i) 0 []
def SK:List UInt8:=[115,107]
def SHK:List UInt8:=[115,104,107]
theorem AB (l:List Tm) (g:Nat) (cs:List AV) (p:Tm→Bool) (bs:List (List AV)) (hl:l.length < 1000000) (hcs: ∀x∈cs,x.ok=true) (hp: ∀x∈l,call F.tb g (.agg (Qb x):: cs) bs=some (.bool (p x),bs)):
  ∀(post pre:List Tm) (o:Bool) (ρ:Nat→AV),l=pre ++ post→pre.any p=false→ρ 0= .sl o 4 (encTs l)→ρ 1= .fn g cs→ρ 7= .int .i64 l.length→ρ 8= .int .i64 pre.length→
  Ms (l.any p) bs (R F.tb (.loop F.f215l0) ρ bs (Qj 0 (Qu F.tb F.f215r0 (Qx F.f215 bs)))):=by
 intro post
 induction post with
 | nil=>
  intro pre o ρ hk hpp h0 h1 h7 h8;simp only[List.append_nil]at hk;rw[← hk]at h8 hpp;rw[Qc F.f215l0.eq_1];refine⟨-1,?_,by rw[hpp];simp⟩;simp[h0,h1,h7,h8,F.f215r0]
 | cons x post IH=>
  intro pre o ρ hk hpp h0 h1 h7 h8;have hgt:=Qt hk;have hll:=QE hk;have hw1:=wr1 pre.length (by omega);have hlt:=QF hk;have hcall:=hp x (by rw[hk];simp);have hcs2: (∀(x:AV),x∈cs→x.ok=true)=True:=eq_true hcs;have ih:=fun ρ hpp=>IH (pre ++ [x]) o ρ (by rw[hk];simp) hpp;rw[Qc F.f215l0.eq_1];cases ho:p x
  ·have ih2:=fun ρ=>ih ρ (by rw[List.any_append,hpp];simp[ho]);simp[h0,h1,h7,h8,hlt,hgt,hw1,hcall,hcs2,ho,-List.any_eq_false,-List.any_eq_true];apply ih2 <;> simp[h0,h1,h7]
  ·have hany:l.any p=true:=List.any_eq_true.2 ⟨x,by rw[hk];simp,ho⟩;refine⟨pre.length,?_,by rw[hany];simp⟩;simp[h0,h1,h7,h8,hlt,hgt,hcall,hcs2,ho]
theorem AP (l:List Tm) (g:Nat) (cs:List AV) (p:Tm→Bool) (o:Bool) (bs:List (List AV)) (hl:l.length < 1000000) (hcs: ∀x∈cs,x.ok=true) (hp: ∀x∈l,call F.tb g (.agg (Qb x):: cs) bs=some (.bool (p x),bs)):
  call F.tb 214 [.sl o 4 (encTs l),.fn g cs] bs=some (.bool (l.any p),bs):=by
 have h1:=fun ρ=>AB l g cs p bs hl hcs hp l [] false ρ rfl rfl;have hcs2: (∀(x:AV),x∈cs→x.ok=true)=True:=eq_true hcs;have h2:Ms (l.any p) bs (call F.tb 215 [.sl false 4 (encTs l),.fn g cs] bs):=by
  rw[Qa F.tb_215 _ _ rfl];simp[F.f215C,hcs2,-List.any_eq_false,-List.any_eq_true];apply h1 <;> simp
 obtain⟨i,hi,hb⟩:=h2;rw[Qa F.tb_214 _ _ rfl];simp[F.f214C,hi,hcs2,-List.any_eq_false,-List.any_eq_true];cases hx:l.any p
 ·rw[hx]at hb;simp at hb;simpa using hb
 ·rw[hx]at hb;simp at hb;simpa using hb
def hbs:Nat→List Tm→List (List AV)
 | _,[]=>[]
 | k,t:: ts=>(Qb (Qip k)++ Qb t):: hbs (k+1) ts
theorem Pq (t:Tm):t∈QT t:=by cases t;simp[QT]
def atA:Tm:= .mk 2 [97] 1 []
def atB:Tm:= .mk 2 [98] 1 []
def Yt:List Tm:=[.mk 2 [110,97] 2 [],.mk 2 [110,98] 2 [],.mk 2 [107] 3 [],.mk 2 [108] 3 [],.mk 2 [103] 4 [],atA,.mk 2 [104,105] 5 [],.mk 2 [100] 0 [],.mk 3 SK 0 [atA],.mk 3 SHK 0 [atA,atB]]
theorem MA (bs:List (List AV)):call F.tb 284 [] bs=some (.sl true 4 (encTs Yt),bs):=by
 have h1:=fun s n=>Fq s n bs;have h2: ∀o,call F.tb 120 [.str [115,107],.sl o 4 [Qb atA]] bs=some (.agg (Qb (.mk 3 SK 0 [atA])),bs):=fun o=>VA SK [atA] o bs (by simp);have h3: ∀o,call F.tb 120 [.str [115,104,107],.sl o 4 [Qb atA,Qb atB]] bs=some (.agg (Qb (.mk 3 SHK 0 [atA,atB])),bs):=fun o=>VA SHK [atA,atB] o bs (by simp);simp only[atA,atB]at h2 h3;rw[Qa F.tb_284 _ _ rfl];simp[F.f284C,h1,h2,h3,Yt,atA,atB,encTs]
def Yn (b:List Nat):List (List AV):=b.map fun n:Nat=>[AV.int .u8 (n:Int)]
theorem Yy (b:List Nat): (Yn b).length=b.length:=by simp[Yn]
theorem JK {b:List Nat} {i n:Nat} (h:b[i]? =some n): (Yn b)[i]? =some [AV.int .u8 (n:Int)]:=by simp[Yn,h]
def Qh6 (n:List UInt8):Bool:=n == XOR || n == EXP || n == MUL || n == INV || n == ZM || n == ONE
def frB (t:Tm):Bool:=(QT t).all fun x=> !decide (x.kind=3) || !Qh6 x.name
def nK:Nat→Nat
 | 0=>1
 | j+1=>2*nK j+1
def nM:Nat→Nat
 | 0=>40
 | j+1=>2*nM j+20
theorem Ie: ∀j,1≤nK j
 | 0=>Nat.le_refl _
 | j+1=>by simp only[nK];omega
theorem C7: ∀j,40≤nM j
 | 0=>Nat.le_refl _
 | j+1=>by have:=C7 j;simp only[nM];omega
theorem GA {k:Nat} {t:Tm} (h:Yt[k]? =some t):t.mass≤40∧frB t=true:=by
 have hm:t∈Yt:=List.mem_of_getElem? h;simp only[Yt,List.mem_cons,List.mem_nil_iff,or_false]at hm;rcases hm with rfl | rfl | rfl | rfl | rfl | rfl | rfl | rfl | rfl | rfl <;> exact⟨by decide,by decide⟩
def YI (l:List (List Nat)):List (List AV):=l.map fun b=>[AV.sl false 1 (Yn b)]
theorem PG (l:List (List Nat)): (YI l).length=l.length:=by simp[YI]
theorem CA {l:List (List Nat)} {i:Nat} {b:List Nat} (h:l[i]? =some b): (YI l)[i]? =some [AV.sl false 1 (Yn b)]:=by simp[YI,h]
end Go.Am
