/-
  En43, En44, En45, En46, En47, En48.
-/
import Derived.Test.YtpdmcibimbjknaaGreatDoorG22
set_option linter.unusedVariables false
set_option linter.unusedSimpArgs false
namespace Go.Am
set_option maxRecDepth 8000
theorem GY (l:List Tm) (m:List Pw) (c:List Int) (o o2 o3:Bool) (bs:List (List AV)) (hl:l.length < 1000000) (hm: ∀t∈l,t.mass < 1000000) (hs:SmP m) (hc:c.length < 1000000):
  call F.tb 365 [.sl o 4 (encTs l),.sl o2 5 (Qt m),.sl o3 1 (Yr c)] bs=some (.bool (Yk l && UL (Z9 l) m c),bs):=by
 obtain⟨o4,h1⟩:=Qdc l false bs hl hm;have h2:=fun o o2 o3=>Qdd (Z9 l) m c o o2 o3 bs (by have:=Pz l;omega) (OD hm) hs hc;rw[Qa F.tb_365 _ _ rfl];cases k:Yk l
 ·rw[k]at h1;simp[F.f365C,h1]
 ·rw[k]at h1;generalize UL (Z9 l) m c=X at *;simp[F.f365C,h1,h2]
def Ij (d:Ded) (a:List Tm):Bool:=
 if d.r=14 then decide ((Y8 a).2=0) && decide (Qm (Y8 a).1 d.t=0)
 else if d.r=15 then O5 d.t (a.headD Qz) && (Yk a.tail && UL (Z9 a.tail) (Lq d.t (a.headD Qz)) d.c)
 else decide (ofE d.t=0) && (Yk a && UL (Z9 a) (ofP d.t) d.c)
theorem IW (x:Tm×Int):QP x= .tup [.agg (Qc x.1),.int .i64 x.2]:=rfl
theorem Qda (d:Ded) (a:List Tm) (o:Bool) (bs:List (List AV)) (hd:d.t.mass < 1000000) (ha: ∀x∈a,x.mass < 1000000) (hal:a.length < 10000) (hml:massL a < 20000000) (hc:d.c.length < 1000000) (h15:d.r=15→a≠[]):
  call F.tb 361 [.agg (Zi d),.sl o 4 (encTs a)] bs=some (.bool (Ij d a),bs):=by
 have hdb:d.t.mass < big:=by unfold big;omega
 rw[Qa F.tb_361 _ _ rfl];unfold Ij;by_cases r14:d.r=14
 ·have h1:=fun o=>IA a o bs (by omega) (by omega);simp only[IW]at h1;have h2:=Ud (Y8 a).1 d.t bs (by have:=Ou a;unfold big;omega) hdb;generalize Y8 a=S at *;obtain⟨s1,s2⟩:=S;simp only at h1 h2 ⊢;by_cases c:s2=0
  ·simp[F.f361C,r14,h1,h2,c,Qf]
  ·simp[F.f361C,r14,h1,c,Qf]
 ·by_cases r15:d.r=15
  ·cases a with
   | nil=>exact absurd rfl (h15 r15)
   | cons a0 r=>
    have ham:=ha a0 (by simp);obtain⟨o1,b1⟩:=GX d.t bs hd;obtain⟨o2,b2⟩:=GX a0 bs ham;obtain⟨su,_⟩:=VR hd;obtain⟨sa,na⟩:=VR ham;have sn:=NV sa;obtain⟨o3,b3⟩:=Qdb (Z3 a0) false bs sa.1 sa.big na;have h4:=fun o o2=>GP (Z3 d.t) (Zd (Z3 a0)) o o2 bs (by have:=su.1;omega) (by have:=sn.1;omega) su.big sn.big;have mu:=UQ d.t;have ma:=UQ a0;have h5:=Ud (XQ d.t) (XQ a0) bs (by unfold big;omega) (by unfold big;omega);have h6:=fun o o2 o3=>GY r (YG (Z3 d.t) (Zd (Z3 a0))) d.c o o2 o3 bs (by simp at hal;omega) (fun x hx=>ha x (by simp[hx])) (HI su sn) hc;have e1:encTs (a0:: r)=Qc a0:: encTs r:=rfl;have htk: (encTs r).take r.length=encTs r:=List.take_of_length_le (by simp[Zq]);have h1r: (1:Int)≤(r.length:Int)+1:=by omega
    simp only[List.headD_cons,List.tail_cons,O5,Lq,r14,r15,if_false,if_true];generalize (Yk r && UL (Z9 r) (YG (Z3 d.t) (Zd (Z3 a0))) d.c)=X at *;by_cases c:Qm (XQ d.t) (XQ a0)=0
    ·by_cases c2:Xt (Z3 d.t) (Zd (Z3 a0))=0
     ·simp[F.f361C,r15,b1,b2,b3,h4,h5,h6,c,c2,e1,htk,h1r,Qf]
     ·simp[F.f361C,r15,b1,b2,b3,h4,h5,c,c2,e1,htk,h1r,Qf]
    ·simp[F.f361C,r15,b1,b2,b3,h4,h5,c,e1,Qf]
  ·have h1:=U9 d.t bs (by omega);have h6:=fun o o2 o3=>GY a (ofP d.t) d.c o o2 o3 bs (by omega) ha (O8 hd) hc;simp only[r14,r15,if_false];generalize (Yk a && UL (Z9 a) (ofP d.t) d.c)=X at *;by_cases c:ofE d.t=0
   ·simp[F.f361C,r14,r15,h1,h6,c,Qf]
   ·simp[F.f361C,r14,r15,h1,c,Qf]
theorem Qdp (d:Ded) (a:List Tm) (o:Bool) (bs:List (List AV)) (hr:d.r=14∨d.r=15∨d.r=16) (hd:d.t.mass < 1000000) (ha: ∀x∈a,x.mass < 1000000) (hal:a.length < 10000) (hml:massL a < 20000000) (hc:d.c.length < 1000000) (h15:d.r=15→a≠[])
  (hdk:isB d.t EXP=true→d.t.kids.length=2) (hak: ∀x∈a,isB x EXP=true→x.kids.length=2):
  call F.tb 390 [.agg (Zi d),.sl o 4 (encTs a)] bs=some (.bool (Ij d a),bs):=by
 have hdb:d.t.mass < big:=by unfold big;omega
 rw[Qa F.tb_390 _ _ rfl];unfold Ij;by_cases r14:d.r=14
 ·have h1:=fun o=>N6 a o bs (by omega) (by omega);simp only[IW]at h1;have h2:=Yi (Y8 a).1 d.t bs (by have:=Ou a;unfold big;omega) hdb;generalize Y8 a=S at *;obtain⟨s1,s2⟩:=S;simp only at h1 h2 ⊢;by_cases c:s2=0
  ·simp[F.f390C,r14,h1,h2,c,Qf]
  ·simp[F.f390C,r14,h1,c,Qf]
 ·by_cases r15:d.r=15
  ·cases a with
   | nil=>exact absurd rfl (h15 r15)
   | cons a0 r=>
    have ham:=ha a0 (by simp);obtain⟨o1,x,b1,hx⟩:=Qc3 d.t a0 bs hd ham hdk (hak a0 (by simp));obtain⟨su,_⟩:=VR hd;obtain⟨sa,na⟩:=VR ham;have sn:=NV sa;obtain⟨o4,b4⟩:=G0 r false bs (by simp at hal;omega) (fun x hx=>ha x (by simp[hx]));have hpl:=Pz r;have h6:=fun o o2 o3=>G1 (Z9 r) (Lq d.t a0) d.c o o2 o3 bs (by simp at hal;omega) (OD fun x hx=>ha x (by simp[hx])) (HI su sn) hc;have e1:encTs (a0:: r)=Qc a0:: encTs r:=rfl;have htk: (encTs r).take r.length=encTs r:=List.take_of_length_le (by simp[Zq]);have h1r: (1:Int)≤(r.length:Int)+1:=by omega
    simp only[List.headD_cons,List.tail_cons,r14,r15,if_false,if_true];cases q:O5 d.t a0
    ·rw[q]at b1;cases p:Yk r
     ·rw[p]at b4;simp[F.f390C,r15,b1,b4,e1,htk,h1r,Qf]
     ·rw[p]at b4;simp[F.f390C,r15,b1,b4,e1,htk,h1r,Qf]
    ·rw[q]at b1;rw[hx q]at b1;cases p:Yk r
     ·rw[p]at b4;simp[F.f390C,r15,b1,b4,e1,htk,h1r,Qf]
     ·rw[p]at b4;generalize UL (Z9 r) (Lq d.t a0) d.c=X at *;simp[F.f390C,r15,b1,b4,h6,e1,htk,h1r,Qf]
  ·have r16:d.r=16:=by omega
   have h1:=Ta d.t bs (by omega);obtain⟨o4,b4⟩:=G0 a false bs (by omega) ha;have hpl:=Pz a;have h6:=fun o o2 o3=>G1 (Z9 a) (ofP d.t) d.c o o2 o3 bs (by omega) (OD ha) (O8 hd) hc;simp only[r14,r15,if_false];cases p:Yk a
   ·rw[p]at b4;simp[F.f390C,r16,h1,b4,Qf]
   ·rw[p]at b4;generalize UL (Z9 a) (ofP d.t) d.c=X at *;by_cases c:ofE d.t=0
    ·simp[F.f390C,r16,h1,b4,h6,c,Qf]
    ·simp[F.f390C,r16,h1,b4,c,Qf]
theorem UX {t:Tm} (h:QO t=0):QN t=true∧t.mass≤13200:=by
 unfold QO at h;by_cases c:thV t=0
 ·obtain⟨_,_,h3,h4,_⟩:=Lv c;exact⟨h3,h4⟩
 ·simp[c]at h
theorem Fm {t:Tm} (hg:QN t=true) (hk:t.kind=3):t.sort=0∧ZH t.name t.kids.length=true:=by
 rw[NG]at hg;simp[hk]at hg;exact hg.1
def QbQ (n:List UInt8):Prop:=n=ZG∨n=ENC∨n=Yc∨n=ZV∨n=EXP
theorem gd2 {t:Tm} {n:List UInt8} (hg:QN t=true) (h:isB t n=true) (hn:QbQ n):t.kids.length=2∧t.sort=0:=by
 obtain⟨h1,rfl⟩:=VH.1 h;obtain⟨h2,h3⟩:=Fm hg h1;refine⟨?_,h2⟩;unfold ZH at h3;rw[if_pos (by unfold QbQ at hn;rcases hn with h | h | h | h | h <;> simp[h])]at h3;simpa using h3
theorem gdp {t:Tm} (hg:QN t=true) (h:isB t PK=true):t.kids.length=1∧t.sort=0:=by
 obtain⟨h1,h4⟩:=VH.1 h;obtain⟨h2,h3⟩:=Fm hg h1;refine⟨?_,h2⟩;rw[h4]at h3;simpa[ZH,PK,ZG,ENC,Yc,ZV,EXP,DEC,Zo,ZF]using h3
theorem AH (t:Tm):t= .mk t.kind t.name t.sort t.kids:=by cases t;rfl
theorem Fa {t u v:Tm} {n:List UInt8} (hg:QN t=true) (hn:QbQ n):decide (Qm t (.mk 3 n 0 [u,v])=0)=(Xe t n 0 u && decide (Qm (kid t 1) v=0)):=by
 rw[Bool.eq_iff_iff];unfold Xe;cases c:isB t n
 ·simp only[isN,c,Bool.false_and,decide_eq_true_eq,YU,Bool.false_eq_true,iff_false];intro e;subst e;simp[isB]at c
 ·obtain⟨h1,h2⟩:=gd2 hg c hn;obtain⟨h3,h4⟩:=VH.1 c;have hk:=UF h1;have e:t= .mk 3 n 0 [kid t 0,kid t 1]:=by
   have:=AH t;rw[h3,h4,h2,hk]at this;exact this
  have e0:t.kids[0]? =some (kid t 0):=by rw[hk];rfl
  simp only[isN,c,e0,Bool.true_and,Bool.and_eq_true,decide_eq_true_eq,YU];constructor
  ·intro h;rw[e]at h;injection h with _ _ _ h
   injection h with ha h
   injection h with hb h
   exact⟨ha,hb⟩
  ·rintro⟨ha,hb⟩
   rw[ha,hb]at e;exact e
theorem QgW {t v:Tm} (hg:QN t=true):decide (Qm t (.mk 3 PK 0 [v])=0)=Xe t PK 0 v:=by
 rw[Bool.eq_iff_iff];unfold Xe;cases c:isB t PK
 ·simp only[isN,c,Bool.false_and,decide_eq_true_eq,YU,Bool.false_eq_true,iff_false];intro e;subst e;simp[isB]at c
 ·obtain⟨h1,h2⟩:=gdp hg c;obtain⟨h3,h4⟩:=VH.1 c;cases hk:t.kids with
  | nil=>rw[hk]at h1;simp at h1
  | cons a r=>
   cases r with
   | cons b r2=>rw[hk]at h1;simp at h1
   | nil=>
    have e:t= .mk 3 PK 0 [a]:=by
     have:=AH t;rw[h3,h4,h2,hk]at this;exact this
    simp only[isN,c,List.getElem?_cons_zero,Bool.true_and,decide_eq_true_eq,YU];constructor
    ·intro h;rw[e]at h;injection h with _ _ _ h
     injection h
    ·intro h;rw[h]at e;exact e
def rtB (ks:List Tm) (d:Ded) (a:List Tm):Bool:=
 if d.r=1 then(match ks[d.n.toNat]? with | some k=>decide (Qm k d.t=0) | none=>false)
 else if d.r=2 then Vl d.t
 else if d.r=3∨d.r=6∨d.r=8∨d.r=10∨d.r=11∨d.r=13 then decide (Qm d.t (.mk 3 (YE d.r) 0 a)=0)
 else if d.r=4 then Xe (a.headD Qz) ZG 0 d.t
 else if d.r=5 then Xe (a.headD Qz) ZG 1 d.t
 else if d.r=12 then Xe (a.headD Qz) ZV 0 d.t
 else if d.r=7 then Xe (a.headD Qz) ENC 0 d.t && decide (Qm (kid (a.headD Qz) 1) (a.getD 1 Qz)=0)
 else if d.r=9 then Xe (a.headD Qz) Yc 0 d.t && Xe (kid (a.headD Qz) 1) PK 0 (a.getD 1 Qz)
 else Ij d a
structure AOk (d:Ded) (a:List Tm):Prop where
 ok:rOk d.r=true
 n0:0≤d.n
 n1:d.n≤1000000
 len:0≤Yb d.r→(a.length:Int)=Yb d.r
 p15:d.r=15→a≠[]
 al:a.length < 10000
 ml:massL a < 20000000
 good: ∀x∈a,QO x=0
 td:QO d.t=0
 cl:d.c.length < 1000000
theorem AOk.gd {d:Ded} {a:List Tm} (h:AOk d a): ∀x∈a,QN x=true∧x.mass < 1000000:=fun x hx=>by
 obtain⟨h1,h2⟩:=UX (h.good x hx);exact⟨h1,by omega⟩
theorem AOk.tm {d:Ded} {a:List Tm} (h:AOk d a):d.t.mass < 1000000:=by have:=(UX h.td).2;omega
theorem AOk.one {d:Ded} {a:List Tm} (h:AOk d a) (hr:Yb d.r=1): ∃x,a=[x]:=by
 have:=h.len (by omega);rw[hr]at this;cases a with
 | nil=>simp at this
 | cons x r=>cases r with
  | nil=>exact⟨x,rfl⟩
  | cons y r2=>simp at this;omega
theorem AOk.two {d:Ded} {a:List Tm} (h:AOk d a) (hr:Yb d.r=2): ∃x y,a=[x,y]:=by
 have:=h.len (by omega);rw[hr]at this;cases a with
 | nil=>simp at this
 | cons x r=>cases r with
  | nil=>simp at this
  | cons y r2=>cases r2 with
   | nil=>exact⟨x,y,rfl⟩
   | cons z r3=>simp at this;omega
theorem Qaz (w:List UInt8) (a:List Tm):Qc (.mk 3 w 0 a)=[.int .i64 3,.str w,.int .i64 0,.sl false 4 (encTs a)]:=by simp[Qc]
theorem Qi0 (ks:List Tm) (d:Ded) (a:List Tm) (bs:List (List AV)) (h:AOk d a) (hks: ∀x∈ks,x.mass < 1000000) (hkl:ks.length < 1000000) (o:Bool) (ρ:Nat→AV)
  (h0:ρ 0= .sl o 4 (encTs ks)) (h7:ρ 7= .bx (Zi d)) (h8:ρ 8= .sl true 4 (encTs a)):
  R F.tb F.f351r0 ρ bs (Qx F.f351 bs)=some (.bool (rtB ks d a),bs):=by
 have htm:=h.tm;have htb:d.t.mass < big:=by unfold big;omega
 have gd:=h.gd;have hml:=h.ml;have hal:=h.al;unfold rtB;by_cases r1:d.r=1
 ·simp only[r1,if_true];have hn:=h.n0;cases hk:ks[d.n.toNat]? with
  | none=>
   have hle:ks.length≤d.n.toNat:=by
    rcases Nat.lt_or_ge d.n.toNat ks.length with h | h
    ·rw[List.getElem?_eq_getElem h]at hk;cases hk
    ·exact h
   have hlt: ¬d.n < (ks.length:Int):=by omega
   simp[-getElem?_pos,QL,F.f351r0,h0,h7,h8,r1,hlt,Qf]
  | some k=>
   have hlt2:=(List.getElem?_eq_some_iff.1 hk).1;have hlt:d.n < (ks.length:Int):=by omega
   have h2:=Ud k d.t bs (by have:=hks k (List.mem_of_getElem? hk);unfold big;omega) htb;simp[-getElem?_pos,QL,F.f351r0,h0,h7,h8,r1,hlt,hn,hk,h2,Qf]
 ·by_cases r2:d.r=2
  ·have h2:=Qcz d.t bs htm;simp[F.f351r0,h0,h7,h8,r2,h2,Qf]
  ·have c353:=GV d.r bs;have hwl: (YE d.r).length≤7:=by
    rcases UI h.ok with e | e | e | e | e | e | e | e | e | e | e | e | e | e | e | e <;> rw[e] <;> decide
   have hc:=Ud d.t (.mk 3 (YE d.r) 0 a) bs htb (by rw[Qy];simp only[QY,Zl];unfold big;omega);rw[Qaz]at hc;by_cases r3:d.r=3∨d.r=6∨d.r=8∨d.r=10∨d.r=11∨d.r=13
   ·simp only[r1,r2,r3,if_true,if_false];generalize YE d.r=w at *;generalize Yb d.r=n at *;rcases r3 with e | e | e | e | e | e <;> (rw[e]at c353;simp[F.f351r0,h0,h7,h8,e,c353,hc,Qf])
   ·simp only[r1,r2,r3,if_false];clear hc c353;by_cases r4:d.r=4
    ·obtain⟨x,rfl⟩:=h.one (by rw[r4];rfl);obtain⟨g1,g2⟩:=gd x (by simp);have h2:=Tb x ZG 0 d.t bs (fun hb=>by have:=(gd2 g1 hb (.inl rfl)).1;omega) (by unfold big;omega) htb (by omega);rw[show((0:Nat):Int)=0 from rfl]at h2;unfold ZG at h2 ⊢;simp[F.f351r0,h0,h7,h8,r4,h2,encTs,Qf]
    ·by_cases r5:d.r=5
     ·obtain⟨x,rfl⟩:=h.one (by rw[r5];rfl);obtain⟨g1,g2⟩:=gd x (by simp);have h2:=Tb x ZG 1 d.t bs (fun hb=>by have:=(gd2 g1 hb (.inl rfl)).1;omega) (by unfold big;omega) htb (by omega);rw[show((1:Nat):Int)=1 from rfl]at h2;unfold ZG at h2 ⊢;simp[F.f351r0,h0,h7,h8,r5,h2,encTs,Qf]
     ·by_cases r12:d.r=12
      ·obtain⟨x,rfl⟩:=h.one (by rw[r12];rfl);obtain⟨g1,g2⟩:=gd x (by simp);have h2:=Tb x ZV 0 d.t bs (fun hb=>by have:=(gd2 g1 hb (.inr (.inr (.inr (.inl rfl))))).1;omega) (by unfold big;omega) htb (by omega);rw[show((0:Nat):Int)=0 from rfl]at h2;unfold ZV at h2 ⊢;simp[F.f351r0,h0,h7,h8,r12,h2,encTs,Qf]
      ·by_cases r7:d.r=7
       ·obtain⟨x,y,rfl⟩:=h.two (by rw[r7];rfl);obtain⟨g1,g2⟩:=gd x (by simp);obtain⟨g3,g4⟩:=gd y (by simp);have h2:=Tb x ENC 0 d.t bs (fun hb=>by have:=(gd2 g1 hb (.inr (.inl rfl))).1;omega) (by unfold big;omega) htb (by omega);have h3:=Ud (kid x 1) y bs (by have:=WZ x 1;unfold big;omega) (by unfold big;omega);simp only[r4,r5,r12,r7,if_false,if_true,List.headD_cons];rw[show((0:Nat):Int)=0 from rfl]at h2;cases c:Xe x ENC 0 d.t
        ·rw[c]at h2;unfold ENC at h2;simp[F.f351r0,h0,h7,h8,r7,h2,encTs,Qf]
        ·rw[c]at h2;have hb:isB x ENC=true:=by
          unfold Xe at c;simp only[Bool.and_eq_true]at c;exact c.1
         have hk:=UF (gd2 g1 hb (.inr (.inl rfl))).1;have e1:=QS x;have e2:encTs x.kids=[Qc (kid x 0),Qc (kid x 1)]:=by rw[hk];simp[encTs]
         rw[e2]at e1;unfold ENC at h2;simp only[e1]at h2;simp[F.f351r0,h0,h7,h8,r7,h2,h3,encTs,e1,Qf]
       ·by_cases r9:d.r=9
        ·obtain⟨x,y,rfl⟩:=h.two (by rw[r9];rfl);obtain⟨g1,g2⟩:=gd x (by simp);obtain⟨g3,g4⟩:=gd y (by simp);have h2:=Tb x Yc 0 d.t bs (fun hb=>by have:=(gd2 g1 hb (.inr (.inr (.inl rfl)))).1;omega) (by unfold big;omega) htb (by omega);have h3:=Tb (kid x 1) PK 0 y bs (fun hb=>by have:=(gdp (Tw g1 1) hb).1;omega) (by have:=WZ x 1;unfold big;omega) (by unfold big;omega) (by omega);simp only[r4,r5,r12,r7,r9,if_false,if_true,List.headD_cons];rw[show((0:Nat):Int)=0 from rfl]at h2 h3;cases c:Xe x Yc 0 d.t
         ·rw[c]at h2;unfold Yc at h2;simp[F.f351r0,h0,h7,h8,r9,h2,encTs,Qf]
         ·rw[c]at h2;have hb:isB x Yc=true:=by
           unfold Xe at c;simp only[Bool.and_eq_true]at c;exact c.1
          have hk:=UF (gd2 g1 hb (.inr (.inr (.inl rfl)))).1;have e1:=QS x;have e2:encTs x.kids=[Qc (kid x 0),Qc (kid x 1)]:=by rw[hk];simp[encTs]
          rw[e2]at e1;unfold Yc at h2;unfold PK at h3 ⊢;simp only[e1]at h2;simp[F.f351r0,h0,h7,h8,r9,h2,h3,encTs,e1,Qf]
        ·have h2:=Qda d a false bs htm (fun x hx=>(gd x hx).2) h.al h.ml h.cl h.p15;simp only[r4,r5,r12,r7,r9,if_false];have q3: ¬d.r=3:=fun e=>r3 (.inl e);have q6: ¬d.r=6:=fun e=>r3 (.inr (.inl e));have q8: ¬d.r=8:=fun e=>r3 (.inr (.inr (.inl e)));have q10: ¬d.r=10:=fun e=>r3 (.inr (.inr (.inr (.inl e))));have q11: ¬d.r=11:=fun e=>r3 (.inr (.inr (.inr (.inr (.inl e)))));have q13: ¬d.r=13:=fun e=>r3 (.inr (.inr (.inr (.inr (.inr e)))));simp[F.f351r0,h0,h7,h8,r1,r2,q3,q6,q8,q10,q11,q13,r4,r5,r12,r7,r9,h2,Qf]
def XJ (l:List Ded) (d:Ded):List Tm:=d.a.map fun n=>((l[n.toNat]?).map Ded.t).getD Qz
theorem Lh {d:Ded} {i:Int} (h:Vs d i=0):rOk d.r=true∧f6B d=false∧(∀n∈d.a,0≤n∧n < i)∧fNB d=false∧∀c∈d.c,ZB c=false:=by
 unfold Vs at h;cases h1:rOk d.r
 ·rw[h1]at h;simp at h
 ·cases h2:f6B d
  ·cases h3:d.a.any (W5 i)
   ·cases h4:fNB d
    ·cases h5:d.c.any ZB
     ·refine⟨rfl,rfl,fun n hn=> ?_,rfl,fun c hc=>by simpa using List.any_eq_false.1 h5 c hc⟩;have:=List.any_eq_false.1 h3 n hn;simp[W5]at this;omega
     ·rw[h1,h2,h3,h4,h5]at h;simp at h
    ·rw[h1,h2,h3,h4]at h;simp at h
   ·rw[h1,h2,h3]at h;simp at h
  ·rw[h1,h2]at h;simp at h
theorem LV {M:Nat}: ∀{a:List Tm},(∀x∈a,x.mass≤M)→massL a≤a.length*M
 | [],_=>by simp[massL]
 | x:: a,h=>by
  have h1:=h x (by simp);have h2:=LV (a:=a) fun y hy=>h y (by simp[hy]);simp only[massL,List.length_cons,Nat.succ_mul];omega
theorem C9 {d:Ded} {l:List Ded} {i:Nat} (h:Vs d i=0) (hi:i≤l.length) (hpre: ∀j x,j < i→l[j]? =some x→QO x.t=0) (htd:QO d.t=0) (ha:d.a.length≤20) (hc:d.c.length≤20):AOk d (XJ l d):=by
 obtain⟨h1,h2,h3,h4,h5⟩:=Lh h;have hlen: (XJ l d).length=d.a.length:=by simp[XJ]
 have hg: ∀x∈XJ l d,QO x=0:=by
  intro x hx;obtain⟨n,hn,rfl⟩:=List.mem_map.1 hx;obtain⟨n0,n1⟩:=h3 n hn;have hlt:n.toNat < l.length:=by omega
  rw[List.getElem?_eq_getElem hlt];exact hpre n.toNat _ (by omega) (List.getElem?_eq_getElem hlt)
 unfold f6B at h2;simp only[Bool.or_eq_false_iff,Bool.and_eq_false_iff,decide_eq_false_iff_not,Bool.not_eq_false',decide_eq_true_eq]at h2;obtain⟨⟨k1,k2⟩,k3⟩:=h2;simp only[fNB,Bool.or_eq_false_iff,decide_eq_false_iff_not]at h4;refine⟨h1,by omega,by omega,fun h0=> ?_,fun e=> ?_,by omega,?_,hg,htd,by omega⟩
 ·rcases k1 with k | k
  ·exact absurd h0 k
  ·rw[hlen];exact k
 ·have:Yb d.r= -2:=by rw[e];rfl
  intro e2;rw[e2]at hlen;rcases k2 with k | k
  ·exact k this
  ·simp at hlen;omega
 ·have:=LV (M:=13200) (a:=XJ l d) fun x hx=>(UX (hg x hx)).2;have: (XJ l d).length*13200≤20*13200:=Nat.mul_le_mul_right _ (by omega);omega
theorem QiZ (ks:List Tm) (l:List Ded) (d:Ded) (bs:List (List AV)) (h:AOk d (XJ l d)) (hks: ∀x∈ks,x.mass < 1000000) (hkl:ks.length < 1000000) (hal:d.a.length≤20) (hin: ∀n∈d.a,0≤n∧n.toNat < l.length):
  ∀(post pre:List Int) (o o1 o2:Bool) (ρ:Nat→AV),d.a=pre ++ post→ρ 0= .sl o 4 (encTs ks)→ρ 1= .sl o1 8 (ZX l)→ρ 7= .bx (Zi d)→ρ 8= .sl true 4 (encTs (pre.map fun n=>((l[n.toNat]?).map Ded.t).getD Qz))→
   ρ 23= .sl o2 1 (Yr d.a)→ρ 24= .int .i64 d.a.length→ρ 25= .int .i64 pre.length→
  R F.tb (.loop F.f351l0) ρ bs (Qh 0 (Qq F.tb F.f351r0 (Qx F.f351 bs)))=some (.bool (rtB ks d (XJ l d)),bs):=by
 intro post
 induction post with
 | nil=>
  intro pre o o1 o2 ρ hk h0 h1 h7 h8 h23 h24 h25;simp only[List.append_nil]at hk;rw[← hk]at h25 h8;have hr:=fun ρ=>Qi0 ks d (XJ l d) bs h hks hkl o ρ;change ρ 8= .sl true 4 (encTs (XJ l d))at h8;generalize rtB ks d (XJ l d)=X at *;generalize encTs (XJ l d)=E1 at *;rw[Qb F.f351l0.eq_1];simp[h0,h1,h7,h8,h23,h24,h25];apply hr <;> simp[h0,h7,h8]
 | cons n post IH=>
  intro pre o o1 o2 ρ hk h0 h1 h7 h8 h23 h24 h25;have hgt:=Qn hk;have hll:=Qu hk;have hw1:=wr1 pre.length (by omega);have hlt:=Qv hk;obtain⟨n0,nl⟩:=hin n (by rw[hk];simp);have hx:=List.getElem?_eq_getElem nl;have hb: ((pre.map fun n=>((l[n.toNat]?).map Ded.t).getD Qz).length+1)*56≤140737488355328:=Yu (by simp;omega);have ih:=fun ρ=>IH (pre ++ [n]) o o1 o2 ρ (by rw[hk];simp);have e: (pre ++ [n]).map (fun n=>((l[n.toNat]?).map Ded.t).getD Qz)=pre.map (fun n=>((l[n.toNat]?).map Ded.t).getD Qz)++ [(l[n.toNat]'nl).t]:=by simp[hx]
  rw[e]at ih;generalize l[n.toNat]'nl=x at *;generalize pre.map (fun n=>((l[n.toNat]?).map Ded.t).getD Qz)=acc at *;generalize rtB ks d (XJ l d)=X at *;rw[Qb F.f351l0.eq_1];simp[-getElem?_pos,QL,List.getElem?_cons_zero,List.getElem?_cons_succ,h0,h1,h7,h8,h23,h24,h25,hlt,hgt,hw1,n0,hx,hb,Qf,Q7,QZ];apply ih <;> simp[h0,h1,h7,h23,h24]
theorem Qc5 (ks:List Tm) (l:List Ded) (i:Nat) (d:Ded) (o o1:Bool) (bs:List (List AV)) (hi:l[i]? =some d) (hpre: ∀j x,j < i→l[j]? =some x→QO x.t=0) (htd:QO d.t=0) (ha:d.a.length≤20) (hc:d.c.length≤20)
  (hks: ∀x∈ks,x.mass < 1000000) (hkl:ks.length < 1000000):
  call F.tb 351 [.sl o 4 (encTs ks),.sl o1 8 (ZX l),.int .i64 i] bs=some (.bool (decide (Vs d i=0) && rtB ks d (XJ l d)),bs):=by
 have hil:=(List.getElem?_eq_some_iff.1 hi).1;have c352:=Qc6 d i bs (by omega) (by omega);rw[Qa F.tb_351 _ _ rfl];by_cases c:Vs d i=0
 ·have haok:=C9 c (Nat.le_of_lt hil) hpre htd ha hc;obtain⟨_,_,h3,_,_⟩:=Lh c;have h:=fun o o1 o2 ρ=>QiZ ks l d bs haok hks hkl ha (fun n hn=>⟨(h3 n hn).1,by have:=h3 n hn;omega⟩) d.a [] o o1 o2 ρ rfl;simp only[c,decide_true,Bool.true_and];generalize rtB ks d (XJ l d)=X at *;simp[-getElem?_pos,QL,List.getElem?_cons_zero,List.getElem?_cons_succ,F.f351C,hi,c352,c];refine h false false false _ ?_ ?_ ?_ ?_ ?_ ?_ ?_ <;> simp[encTs]
 ·simp[-getElem?_pos,QL,List.getElem?_cons_zero,List.getElem?_cons_succ,F.f351C,hi,c352,c]
theorem Qdo (ks:List Tm) (d:Ded) (a:List Tm) (o o1:Bool) (bs:List (List AV)) (h:AOk d a) (hks: ∀x∈ks,x.mass < 1000000) (hkl:ks.length < 1000000):
  call F.tb 388 [.sl o 4 (encTs ks),.agg (Zi d),.sl o1 4 (encTs a)] bs=some (.bool (rtB ks d a),bs):=by
 have htm:=h.tm;have htb:d.t.mass < big:=by unfold big;omega
 have gd:=h.gd;have hml:=h.ml;have hal:=h.al;rw[Qa F.tb_388 _ _ rfl];unfold rtB;have one: ∀(w:List UInt8) (x:Tm),w.length≤7→a=[x]→∀o,call F.tb 389 [.agg (Qc d.t),.str w,.sl o 4 [Qc x]] bs=some (.bool (decide (Qm d.t (.mk 3 w 0 a)=0)),bs):=by
  intro w x hw e o;subst e;exact OV d.t w [x] o bs htb (by rw[Qy];simp only[QY,Zl];unfold big;omega) (by simp)
 have two: ∀(w:List UInt8) (x y:Tm),w.length≤7→a=[x,y]→∀o,call F.tb 389 [.agg (Qc d.t),.str w,.sl o 4 [Qc x,Qc y]] bs=some (.bool (decide (Qm d.t (.mk 3 w 0 a)=0)),bs):=by
  intro w x y hw e o;subst e;exact OV d.t w [x,y] o bs htb (by rw[Qy];simp only[QY,Zl];unfold big;omega) (by simp)
 by_cases r1:d.r=1
 ·simp only[r1,if_true];have hn:=h.n0;cases hk:ks[d.n.toNat]? with
  | none=>
   have hle:ks.length≤d.n.toNat:=by
    rcases Nat.lt_or_ge d.n.toNat ks.length with h | h
    ·rw[List.getElem?_eq_getElem h]at hk;cases hk
    ·exact h
   have hlt: ¬d.n < (ks.length:Int):=by omega
   simp[-getElem?_pos,QL,F.f388C,r1,hlt,Qf]
  | some k=>
   have hlt2:=(List.getElem?_eq_some_iff.1 hk).1;have hlt:d.n < (ks.length:Int):=by omega
   have h2:=Yi k d.t bs (by have:=hks k (List.mem_of_getElem? hk);unfold big;omega) htb;simp[-getElem?_pos,QL,F.f388C,r1,hlt,hn,hk,h2,Qf]
 ·by_cases r2:d.r=2
  ·have h2:=QcP d.t bs htm;simp[F.f388C,r2,h2,Qf]
  ·by_cases r3:d.r=3
   ·obtain⟨x,y,e⟩:=h.two (by rw[r3];rfl);have h2:=two [112,97,105,114] x y (by decide) e;have ew:YE d.r=[112,97,105,114]:=by rw[r3];rfl
    have c6:d.r=3∨d.r=6∨d.r=8∨d.r=10∨d.r=11∨d.r=13:= .inl r3;rw[if_neg r1,if_neg r2,if_pos c6,ew];have ea:encTs a=[Qc x,Qc y]:=by rw[e];simp[encTs]
    generalize decide (Qm d.t (.mk 3 [112,97,105,114] 0 a)=0)=X at *;simp[F.f388C,ea,r3,h2,Qf]
   ·by_cases r6:d.r=6
    ·obtain⟨x,y,e⟩:=h.two (by rw[r6];rfl);have h2:=two [101,110,99] x y (by decide) e;have ew:YE d.r=[101,110,99]:=by rw[r6];rfl
     have c6:d.r=3∨d.r=6∨d.r=8∨d.r=10∨d.r=11∨d.r=13:= .inr (.inl r6);rw[if_neg r1,if_neg r2,if_pos c6,ew];have ea:encTs a=[Qc x,Qc y]:=by rw[e];simp[encTs]
     generalize decide (Qm d.t (.mk 3 [101,110,99] 0 a)=0)=X at *;simp[F.f388C,ea,r6,h2,Qf]
    ·by_cases r8:d.r=8
     ·obtain⟨x,y,e⟩:=h.two (by rw[r8];rfl);have h2:=two [97,101,110,99] x y (by decide) e;have ew:YE d.r=[97,101,110,99]:=by rw[r8];rfl
      have c6:d.r=3∨d.r=6∨d.r=8∨d.r=10∨d.r=11∨d.r=13:= .inr (.inr (.inl r8));rw[if_neg r1,if_neg r2,if_pos c6,ew];have ea:encTs a=[Qc x,Qc y]:=by rw[e];simp[encTs]
      generalize decide (Qm d.t (.mk 3 [97,101,110,99] 0 a)=0)=X at *;simp[F.f388C,ea,r8,h2,Qf]
     ·by_cases r10:d.r=10
      ·obtain⟨x,e⟩:=h.one (by rw[r10];rfl);have h2:=one [112,107] x (by decide) e;have ew:YE d.r=[112,107]:=by rw[r10];rfl
       have c6:d.r=3∨d.r=6∨d.r=8∨d.r=10∨d.r=11∨d.r=13:= .inr (.inr (.inr (.inl r10)));rw[if_neg r1,if_neg r2,if_pos c6,ew];have ea:encTs a=[Qc x]:=by rw[e];simp[encTs]
       generalize decide (Qm d.t (.mk 3 [112,107] 0 a)=0)=X at *;simp[F.f388C,ea,r10,h2,Qf]
      ·by_cases r11:d.r=11
       ·obtain⟨x,y,e⟩:=h.two (by rw[r11];rfl);have h2:=two [115,105,103,110] x y (by decide) e;have ew:YE d.r=[115,105,103,110]:=by rw[r11];rfl
        have c6:d.r=3∨d.r=6∨d.r=8∨d.r=10∨d.r=11∨d.r=13:= .inr (.inr (.inr (.inr (.inl r11))));rw[if_neg r1,if_neg r2,if_pos c6,ew];have ea:encTs a=[Qc x,Qc y]:=by rw[e];simp[encTs]
        generalize decide (Qm d.t (.mk 3 [115,105,103,110] 0 a)=0)=X at *;simp[F.f388C,ea,r11,h2,Qf]
       ·by_cases r13:d.r=13
        ·obtain⟨x,e⟩:=h.one (by rw[r13];rfl);have h2:=one [104,97,115,104] x (by decide) e;have ew:YE d.r=[104,97,115,104]:=by rw[r13];rfl
         have c6:d.r=3∨d.r=6∨d.r=8∨d.r=10∨d.r=11∨d.r=13:= .inr (.inr (.inr (.inr (.inr r13))));rw[if_neg r1,if_neg r2,if_pos c6,ew];have ea:encTs a=[Qc x]:=by rw[e];simp[encTs]
         generalize decide (Qm d.t (.mk 3 [104,97,115,104] 0 a)=0)=X at *;simp[F.f388C,ea,r13,h2,Qf]
        ·simp only[r1,r2,r3,r6,r8,r10,r11,r13,or_self,if_false];clear one two;by_cases r4:d.r=4
         ·obtain⟨x,rfl⟩:=h.one (by rw[r4];rfl);obtain⟨g1,g2⟩:=gd x (by simp);have h2:=M7 x ZG 0 d.t bs (by unfold big;omega) htb (by omega);rw[show((0:Nat):Int)=0 from rfl]at h2;unfold ZG at h2 ⊢;simp[F.f388C,r4,h2,encTs,Qf]
         ·by_cases r5:d.r=5
          ·obtain⟨x,rfl⟩:=h.one (by rw[r5];rfl);obtain⟨g1,g2⟩:=gd x (by simp);have h2:=M7 x ZG 1 d.t bs (by unfold big;omega) htb (by omega);rw[show((1:Nat):Int)=1 from rfl]at h2;unfold ZG at h2 ⊢;simp[F.f388C,r5,h2,encTs,Qf]
          ·by_cases r12:d.r=12
           ·obtain⟨x,rfl⟩:=h.one (by rw[r12];rfl);obtain⟨g1,g2⟩:=gd x (by simp);have h2:=M7 x ZV 0 d.t bs (by unfold big;omega) htb (by omega);rw[show((0:Nat):Int)=0 from rfl]at h2;unfold ZV at h2 ⊢;simp[F.f388C,r12,h2,encTs,Qf]
           ·by_cases r7:d.r=7
            ·obtain⟨x,y,rfl⟩:=h.two (by rw[r7];rfl);obtain⟨g1,g2⟩:=gd x (by simp);obtain⟨g3,g4⟩:=gd y (by simp);have h2:=fun o=>OV x ENC [d.t,y] o bs (by unfold big;omega) (by rw[Qy];simp only[QY,Zl,massL,List.length_cons,List.length_nil,ENC];unfold big;omega) (by simp);rw[Fa g1 (.inr (.inl rfl))]at h2;rw[if_neg r4,if_neg r5,if_neg r12,if_pos r7,show([x,y]:List Tm).headD Qz=x from rfl,show([x,y]:List Tm).getD 1 Qz=y from rfl];generalize (Xe x ENC 0 d.t && decide (Qm (kid x 1) y=0))=X at *;unfold ENC at h2;simp only[encTs]at h2;simp[F.f388C,r7,h2,encTs,Qf]
            ·by_cases r9:d.r=9
             ·obtain⟨x,y,rfl⟩:=h.two (by rw[r9];rfl);obtain⟨g1,g2⟩:=gd x (by simp);obtain⟨g3,g4⟩:=gd y (by simp);have h3:=fun o=>XF PK [y] o bs (by simp);have h2:=fun o=>OV x Yc [d.t,.mk 3 PK 0 [y]] o bs (by unfold big;omega) (by simp only[Tm.mass,massL,List.length_cons,List.length_nil,Yc,PK];unfold big;omega) (by simp);rw[Fa g1 (.inr (.inr (.inl rfl))),QgW (Tw g1 1)]at h2;rw[if_neg r4,if_neg r5,if_neg r12,if_neg r7,if_pos r9,show([x,y]:List Tm).headD Qz=x from rfl,show([x,y]:List Tm).getD 1 Qz=y from rfl];obtain⟨T2,hT2⟩: ∃T2,T2=Tm.mk 3 PK 0 [y]:=⟨_,rfl⟩;rw[← hT2]at h2 h3;generalize (Xe x Yc 0 d.t && Xe (kid x 1) PK 0 y)=X at *;unfold Yc at h2;simp only[encTs]at h2 h3;unfold PK at h3;simp[F.f388C,r9,h2,h3,encTs,Qf]
             ·have rr:d.r=14∨d.r=15∨d.r=16:=by
               rcases UI h.ok with e | e | e | e | e | e | e | e | e | e | e | e | e | e | e | e <;> simp_all
              have h2:=Qdp d a false bs rr htm (fun x hx=>(gd x hx).2) h.al h.ml h.cl h.p15 (fun hb=>(gd2 (UX h.td).1 hb (.inr (.inr (.inr (.inr rfl))))).1) (fun x hx hb=>(gd2 (gd x hx).1 hb (.inr (.inr (.inr (.inr rfl))))).1);simp only[r4,r5,r12,r7,r9,if_false];simp[F.f388C,r1,r2,r3,r6,r8,r10,r11,r13,r4,r5,r12,r7,r9,h2,Qf]
theorem M8 (t:Tm) (bs:List (List AV)) (hm:t.mass < 1000000):call F.tb 349 [.agg (Qc t)] bs=some (.bool (decide (QO t=0)),bs):=by
 have hb:t.mass < big:=by unfold big;omega
 have h1:=Ts t bs hb;have h2:=LD t bs (by omega);have h3:=GM t bs hb;have hlen: (encTs (Wh t)).length=(Wh t).length:=by simp[Zq]
 rw[Qa F.tb_349 _ _ rfl];unfold QO;by_cases c:thV t=0
 ·rw[c]at h1;by_cases c2:Wh t=[]
  ·rw[c2]at h2;simp only[encTs]at h2;cases c3:Vo t
   ·rw[c3]at h3;simp[F.f349C,h1,h2,h3,c,c2,Qf]
   ·rw[c3]at h3;simp[F.f349C,h1,h2,h3,c,c2,Qf]
  ·have c4: ¬((Wh t).length:Int)=0:=fun e=>c2 (List.eq_nil_of_length_eq_zero (by omega));simp[F.f349C,h1,h2,hlen,c,c2,c4,Qf]
 ·simp[F.f349C,h1,c,Qf]
def stB (ks:List Tm) (l:List Ded) (i:Nat) (d:Ded):Bool:=decide (QO d.t=0) && (decide (Vs d i=0) && rtB ks d (XJ l d))
def Wd (ks:List Tm) (l:List Ded):Nat→List Ded→Bool
 | _,[]=>true
 | i,d:: r=>stB ks l i d && Wd ks l (i+1) r
def WP (l:List Ded) (t:Tm):Bool:=match l.getLast? with | some d=>decide (Qm d.t t=0) | none=>false
def NC (ks:List Tm) (l:List Ded) (t:Tm):Bool:=
 !(decide (l.length=0) || decide (400 < l.length) || decide (200 < ks.length) || !decide (QO t=0) || !WP l t) && (ks.all (fun x=>decide (QO x=0)) && Wd ks l 0 l)
structure R0 (ks:List Tm) (l:List Ded):Prop where
 km: ∀x∈ks,x.mass < 1000000
 kl:ks.length < 1000000
 tm: ∀d∈l,d.t.mass < 1000000
 al: ∀d∈l,d.a.length≤20
 cl: ∀d∈l,d.c.length≤20
 ll:l.length < 1000000
theorem Qh5 (ks:List Tm) (l:List Ded) (bs:List (List AV)) (h:R0 ks l):
  ∀(post pre:List Ded) (o o1 o2:Bool) (ρ:Nat→AV),l=pre ++ post→(∀d∈pre,QO d.t=0)→ρ 0= .sl o 4 (encTs ks)→ρ 1= .sl o1 8 (ZX l)→ρ 51= .sl o2 8 (ZX l)→ρ 52= .int .i64 l.length→ρ 53= .int .i64 pre.length→
  R F.tb (.loop F.f348l1) ρ bs (Qh 2 (Qq F.tb F.f348r0 (Qx F.f348 bs)))=some (.bool (Wd ks l pre.length post),bs):=by
 intro post
 induction post with
 | nil=>
  intro pre o o1 o2 ρ hk hp h0 h1 h51 h52 h53;simp only[List.append_nil]at hk;rw[← hk]at h53;rw[Qb F.f348l1.eq_1];simp[h0,h1,h51,h52,h53,Wd,F.f348r0]
 | cons d post IH=>
  intro pre o o1 o2 ρ hk hp h0 h1 h51 h52 h53;have hgt:=Qn hk;have hll:=Qu hk;have hl2:=h.ll;have hw1:=wr1 pre.length (by omega);have hlt:=Qv hk;have hd:d∈l:=by rw[hk];simp
  have c349:=M8 d.t bs (h.tm d hd);simp only[Wd,stB];by_cases c:QO d.t=0
  ·have c351:=fun o o1=>Qc5 ks l pre.length d o o1 bs hgt (fun j x hj hx=>by
    rw[hk,List.getElem?_append_left hj]at hx;exact hp x (List.mem_of_getElem? hx)) c (h.al d hd) (h.cl d hd) h.km h.kl
   have ih:=fun ρ=>IH (pre ++ [d]) o o1 o2 ρ (by rw[hk];simp) (fun x hx=>by
    rcases List.mem_append.1 hx with hx | hx
    ·exact hp x hx
    ·simp at hx;subst hx;exact c)
   rw[List.length_append,List.length_singleton]at ih;generalize Wd ks l (pre.length+1) post=Y at *;generalize (decide (Vs d ↑pre.length=0) && rtB ks d (XJ l d))=X at *;rw[Qb F.f348l1.eq_1];cases X
   ·simp[h0,h1,h51,h52,h53,hlt,hgt,c349,c351,c]
   ·simp[h0,h1,h51,h52,h53,hlt,hgt,hw1,c349,c351,c];apply ih <;> simp[h0,h1,h51,h52]
  ·rw[Qb F.f348l1.eq_1];simp[h0,h1,h51,h52,h53,hlt,hgt,c349,c]
theorem Qh4 (ks:List Tm) (l:List Ded) (bs:List (List AV)) (h:R0 ks l):
  ∀(post pre:List Tm) (o o1 o2:Bool) (ρ:Nat→AV),ks=pre ++ post→ρ 0= .sl o 4 (encTs ks)→ρ 1= .sl o1 8 (ZX l)→ρ 41= .sl o2 4 (encTs ks)→ρ 42= .int .i64 ks.length→ρ 43= .int .i64 pre.length→
  R F.tb (.loop F.f348l0) ρ bs (Qh 0 (Qq F.tb F.f348r1 (Qx F.f348 bs)))=some (.bool (post.all (fun x=>decide (QO x=0)) && Wd ks l 0 l),bs):=by
 intro post
 induction post with
 | nil=>
  intro pre o o1 o2 ρ hk h0 h1 h41 h42 h43;simp only[List.append_nil]at hk;rw[← hk]at h43;have hh:=fun o o1 o2 ρ=>Qh5 ks l bs h l [] o o1 o2 ρ rfl (by simp);simp only[List.length_nil]at hh;generalize Wd ks l 0 l=X at *;rw[Qb F.f348l0.eq_1];simp[h0,h1,h41,h42,h43,F.f348r1];refine hh o o1 false _ ?_ ?_ ?_ ?_ ?_ <;> simp[h0,h1]
 | cons x post IH=>
  intro pre o o1 o2 ρ hk h0 h1 h41 h42 h43;have hgt:=Qn hk;have hll:=Qu hk;have hkl:=h.kl;have hw1:=wr1 pre.length (by omega);have hlt:=Qv hk;have c349:=M8 x bs (h.km x (by rw[hk];simp));have ih:=fun ρ=>IH (pre ++ [x]) o o1 o2 ρ (by rw[hk];simp);simp only[List.all_cons];generalize Wd ks l 0 l=X at *;generalize post.all (fun x=>decide (QO x=0))=Y at *;rw[Qb F.f348l0.eq_1];by_cases c:QO x=0
  ·simp[h0,h1,h41,h42,h43,hlt,hgt,hw1,c349,c,Qf];apply ih <;> simp[h0,h1,h41,h42]
  ·simp[h0,h1,h41,h42,h43,hlt,hgt,c349,c,Qf]
theorem Hb {l:List Ded} (h:l≠[]): ∃d,l.getLast?=some d∧l[l.length - 1]? =some d∧d∈l:=by
 rcases List.eq_nil_or_concat l with e | ⟨pre,d,rfl⟩
 ·exact absurd e h
 ·simp only[List.concat_eq_append];exact⟨d,by simp,by simp,by simp⟩
theorem Qc4 (ks:List Tm) (l:List Ded) (t:Tm) (o o1:Bool) (bs:List (List AV)) (h:R0 ks l) (ht:t.mass < 1000000):
  call F.tb 348 [.sl o 4 (encTs ks),.sl o1 8 (ZX l),.agg (Qc t)] bs=some (.bool (NC ks l t),bs):=by
 have c349:=M8 t bs ht;rw[Qa F.tb_348 _ _ rfl];unfold NC;by_cases k0:l.length=0
 ·have:l=[]:=List.eq_nil_of_length_eq_zero k0;subst this;simp[F.f348C,ZX]
 ·have k0': ¬l=[]:=fun e=>k0 (by simp[e]);obtain⟨d,e1,e2,hd⟩:=Hb (l:=l) k0';have el:WP l t=decide (Qm d.t t=0):=by unfold WP;rw[e1]
  rw[el];by_cases k1:400 < l.length
  ·have k1': (400:Int) < (l.length:Int):=by omega
   simp[F.f348C,k0,k0',k1,k1']
  ·have k1': ¬(400:Int) < (l.length:Int):=by omega
   by_cases k2:200 < ks.length
   ·have k2': (200:Int) < (ks.length:Int):=by omega
    simp[F.f348C,k0,k0',k1,k1',k2,k2']
   ·have k2': ¬(200:Int) < (ks.length:Int):=by omega
    by_cases k3:QO t=0
    ·have c350:=Ud d.t t bs (by have:=h.tm d hd;unfold big;omega) (by unfold big;omega);have hw:IntKind.i64.wrap ((l.length:Int) - 1)=(l.length:Int) - 1:=QW (by have:=h.ll;omega) (by have:=h.ll;omega);have hn: ((l.length:Int) - 1).toNat=l.length - 1:=by omega
     have hn0: (0:Int)≤(l.length:Int) - 1:=by omega
     have hn1: (1:Int)≤(l.length:Int):=by omega
     by_cases k4:Qm d.t t=0
     ·have hh:=fun o o1 o2 ρ=>Qh4 ks l bs h ks [] o o1 o2 ρ rfl;simp only[k0,k1,k2,k3,k4,decide_false,decide_true,Bool.or_false,Bool.not_true,Bool.not_false,Bool.true_and];generalize (ks.all (fun x=>decide (QO x=0)) && Wd ks l 0 l)=X at *;simp[-getElem?_pos,QL,F.f348C,k0',k1',k2',c349,c350,hw,hn,hn0,hn1,e2,k3,k4,Qf];refine hh false false false _ ?_ ?_ ?_ ?_ ?_ <;> simp
     ·simp[-getElem?_pos,QL,F.f348C,k0,k1,k2,k0',k1',k2',c349,c350,hw,hn,hn0,hn1,e2,k3,k4,Qf]
    ·simp[F.f348C,k0,k0',k1,k1',k2,k2',c349,k3,Qf]
theorem QiW (l:List Ded) (i:Nat) (d:Ded) (bs:List (List AV)) (hi:l[i]? =some d) (hal:d.a.length≤20) (hin: ∀n∈d.a,0≤n∧n.toNat < l.length) (c:AC) (K:Kn) (X:Out):
  ∀(post pre:List Int) (o1:Bool) (ρ:Nat→AV),d.a=pre ++ post→ρ 1= .sl o1 8 (ZX l)→ρ 8= .int .i64 i→ρ 9= .sl true 4 (encTs (pre.map fun n=>((l[n.toNat]?).map Ded.t).getD Qz))→ρ 10= .int .i64 pre.length→
   (∀ρ':Nat→AV,(∀j,j < 9→ρ' j=ρ j)→ρ' 9= .sl true 4 (encTs (XJ l d))→R F.tb c ρ' bs K=X)→
  R F.tb (.loop F.f384l1) ρ bs (Qh 4 (Qq F.tb c K))=X:=by
 intro post
 induction post with
 | nil=>
  intro pre o1 ρ hk h1 h8 h9 h10 H;simp only[List.append_nil]at hk;rw[← hk]at h10 h9;change ρ 9= .sl true 4 (encTs (XJ l d))at h9;generalize encTs (XJ l d)=E1 at *;rw[Qb F.f384l1.eq_1];simp[-getElem?_pos,QL,List.getElem?_cons_zero,List.getElem?_cons_succ,h1,h8,h9,h10,hi];refine H _ (fun j hj=> ?_) ?_
  ·simp[show j≠63 by omega,show j≠64 by omega,show j≠65 by omega,show j≠66 by omega,show j≠67 by omega,show j≠68 by omega,show j≠69 by omega,show j≠70 by omega]
  ·simp[h9]
 | cons n post IH=>
  intro pre o1 ρ hk h1 h8 h9 h10 H;have hgt:=Qn hk;have hll:=Qu hk;have hw1:=wr1 pre.length (by omega);have hlt:=Qv hk;obtain⟨n0,nl⟩:=hin n (by rw[hk];simp);have hx:=List.getElem?_eq_getElem nl;have hb: ((pre.map fun n=>((l[n.toNat]?).map Ded.t).getD Qz).length+1)*56≤140737488355328:=Yu (by simp;omega);have ih:=fun ρ=>IH (pre ++ [n]) o1 ρ (by rw[hk];simp);have e: (pre ++ [n]).map (fun n=>((l[n.toNat]?).map Ded.t).getD Qz)=pre.map (fun n=>((l[n.toNat]?).map Ded.t).getD Qz)++ [(l[n.toNat]'nl).t]:=by simp[hx]
  rw[e]at ih;generalize l[n.toNat]'nl=x at *;generalize pre.map (fun n=>((l[n.toNat]?).map Ded.t).getD Qz)=acc at *;generalize encTs (XJ l d)=E1 at *;rw[Qb F.f384l1.eq_1];simp[-getElem?_pos,QL,List.getElem?_cons_zero,List.getElem?_cons_succ,h1,h8,h9,h10,hi,hlt,hgt,hw1,n0,hx,hb,Qf,Q7,QZ];refine ih _ ?_ ?_ ?_ ?_ ?_
  ·simp[h1]
  ·simp[h8]
  ·simp
  ·simp
  ·intro ρ' gj g9;refine H ρ' (fun j hj=> ?_) g9;rw[gj j hj];simp[show j≠9 by omega,show j≠10 by omega,show j≠63 by omega,show j≠64 by omega,show j≠65 by omega,show j≠66 by omega,show j≠67 by omega,show j≠68 by omega,show j≠69 by omega,show j≠70 by omega,show j≠71 by omega,show j≠72 by omega,show j≠73 by omega,show j≠74 by omega,show j≠75 by omega,show j≠76 by omega,show j≠77 by omega,show j≠78 by omega,show j≠79 by omega,show j≠80 by omega,show j≠81 by omega,show j≠82 by omega,show j≠83 by omega,show j≠84 by omega,show j≠85 by omega,show j≠86 by omega,show j≠87 by omega]
theorem QiX (ks:List Tm) (l:List Ded) (t:Tm) (bs:List (List AV)) (h:R0 ks l) (ht:t.mass < 1000000) (hne:l≠[]):
  ∀(post pre:List Ded) (o o1:Bool) (ρ:Nat→AV),l=pre ++ post→(∀d∈pre,QO d.t=0)→ρ 0= .sl o 4 (encTs ks)→ρ 1= .sl o1 8 (ZX l)→ρ 5= .bx (Qc t)→ρ 8= .int .i64 pre.length→
  R F.tb (.loop F.f384l2) ρ bs (Qh 2 (Qq F.tb F.f384r2 (Qx F.f384 bs)))=some (.bool (Wd ks l pre.length post && WP l t),bs):=by
 intro post
 induction post with
 | nil=>
  intro pre o o1 ρ hk hp h0 h1 h5 h8;simp only[List.append_nil]at hk;rw[← hk]at h8;obtain⟨d,e1,e2,hd⟩:=Hb hne;have el:WP l t=decide (Qm d.t t=0):=by unfold WP;rw[e1]
  have c89:=Yi d.t t bs (by have:=h.tm d hd;unfold big;omega) (by unfold big;omega);have hl0:0 < l.length:=List.length_pos_iff.2 hne;have hw:IntKind.i64.wrap ((l.length:Int) - 1)=(l.length:Int) - 1:=QW (by have:=h.ll;omega) (by have:=h.ll;omega);have hn: ((l.length:Int) - 1).toNat=l.length - 1:=by omega
  have hn0: (0:Int)≤(l.length:Int) - 1:=by omega
  have hn1: (1:Int)≤(l.length:Int):=by omega
  rw[Qb F.f384l2.eq_1,el];simp[-getElem?_pos,QL,h0,h1,h5,h8,Wd,F.f384r2,hw,hn,hn0,hn1,e2,c89,Qf]
 | cons d post IH=>
  intro pre o o1 ρ hk hp h0 h1 h5 h8;have hgt:=Qn hk;have hll:=Qu hk;have hl2:=h.ll;have hw1:=wr1 pre.length (by omega);have hlt:=Qv hk;have hd:d∈l:=by rw[hk];simp
  have hda:=h.al d hd;have hdc:=h.cl d hd;have c233:=OU d.t bs (h.tm d hd);have c385:=Qdl d pre.length bs (by omega) (by omega);simp only[Wd,stB];by_cases c1:Vs d pre.length=0
  ·by_cases c:QO d.t=0
   ·have hpre: ∀j x,j < pre.length→l[j]? =some x→QO x.t=0:=fun j x hj hx=>by
     rw[hk,List.getElem?_append_left hj]at hx;exact hp x (List.mem_of_getElem? hx)
    have haok:=C9 c1 (by omega) hpre c hda hdc;obtain⟨_,_,h3,_,_⟩:=Lh c1;have c388:=fun o o1=>Qdo ks d (XJ l d) o o1 bs haok h.km h.kl;have hin:=fun o1 ρ c K X=>QiW l pre.length d bs hgt hda (fun n hn=>⟨(h3 n hn).1,by have:=h3 n hn;omega⟩) c K X d.a [] o1 ρ rfl;have ih:=fun ρ=>IH (pre ++ [d]) o o1 ρ (by rw[hk];simp) (fun x hx=>by
     rcases List.mem_append.1 hx with hx | hx
     ·exact hp x hx
     ·simp at hx;subst hx;exact c)
    rw[List.length_append,List.length_singleton]at ih;generalize Wd ks l (pre.length+1) post=Y at *;generalize WP l t=Z at *;generalize rtB ks d (XJ l d)=X at *;rw[Qb F.f384l2.eq_1];simp[-getElem?_pos,QL,List.getElem?_cons_zero,List.getElem?_cons_succ,h0,h1,h5,h8,hlt,hgt,c385,c233,c1,c,Qf];refine hin o1 _ _ _ _ ?_ ?_ ?_ ?_ ?_
    ·simp[h1]
    ·simp[h8]
    ·simp[encTs]
    ·simp
    ·intro ρ' gj g9;have e0:=gj 0 (by omega);have e1:=gj 1 (by omega);have e5:=gj 5 (by omega);have e8:=gj 8 (by omega);simp[h0]at e0;simp[h1]at e1;simp[h5]at e5;simp[h8]at e8;cases X
     ·simp[-getElem?_pos,QL,F.f384r0,F.f384r1,g9,e0,e1,e5,e8,hgt,c388]
     ·simp[-getElem?_pos,QL,F.f384r0,F.f384r1,g9,e0,e1,e5,e8,hgt,c388,hw1];apply ih <;> simp[e0,e1,e5]
   ·rw[Qb F.f384l2.eq_1];simp[-getElem?_pos,QL,List.getElem?_cons_zero,List.getElem?_cons_succ,h0,h1,h5,h8,hlt,hgt,c385,c233,c1,c,Qf]
  ·rw[Qb F.f384l2.eq_1];simp[-getElem?_pos,QL,List.getElem?_cons_zero,List.getElem?_cons_succ,h0,h1,h5,h8,hlt,hgt,c385,c1,Qf]
theorem QiV (ks:List Tm) (l:List Ded) (t:Tm) (bs:List (List AV)) (h:R0 ks l) (ht:t.mass < 1000000) (hne:l≠[]):
  ∀(post pre:List Tm) (o o1:Bool) (ρ:Nat→AV),ks=pre ++ post→ρ 0= .sl o 4 (encTs ks)→ρ 1= .sl o1 8 (ZX l)→ρ 5= .bx (Qc t)→ρ 7= .int .i64 pre.length→
  R F.tb (.loop F.f384l0) ρ bs (Qh 0 (Qq F.tb F.f384r3 (Qx F.f384 bs)))=some (.bool (post.all (fun x=>decide (QO x=0)) && (Wd ks l 0 l && WP l t)),bs):=by
 intro post
 induction post with
 | nil=>
  intro pre o o1 ρ hk h0 h1 h5 h7;simp only[List.append_nil]at hk;rw[← hk]at h7;have hh:=fun o o1 ρ=>QiX ks l t bs h ht hne l [] o o1 ρ rfl (by simp);simp only[List.length_nil]at hh;generalize (Wd ks l 0 l && WP l t)=X at *;rw[Qb F.f384l0.eq_1];simp[h0,h1,h5,h7,F.f384r3];refine hh o o1 _ ?_ ?_ ?_ ?_ <;> simp[h0,h1,h5]
 | cons x post IH=>
  intro pre o o1 ρ hk h0 h1 h5 h7;have hgt:=Qn hk;have hll:=Qu hk;have hkl:=h.kl;have hw1:=wr1 pre.length (by omega);have hlt:=Qv hk;have c233:=OU x bs (h.km x (by rw[hk];simp));have ih:=fun ρ=>IH (pre ++ [x]) o o1 ρ (by rw[hk];simp);simp only[List.all_cons];generalize (Wd ks l 0 l && WP l t)=X at *;generalize post.all (fun x=>decide (QO x=0))=Y at *;rw[Qb F.f384l0.eq_1];by_cases c:QO x=0
  ·simp[h0,h1,h5,h7,hlt,hgt,hw1,c233,c,Qf];apply ih <;> simp[h0,h1,h5]
  ·simp[h0,h1,h5,h7,hlt,hgt,c233,c,Qf]
theorem Qdk (ks:List Tm) (l:List Ded) (t:Tm) (o o1:Bool) (bs:List (List AV)) (h:R0 ks l) (ht:t.mass < 1000000):
  call F.tb 384 [.sl o 4 (encTs ks),.sl o1 8 (ZX l),.agg (Qc t)] bs=some (.bool (NC ks l t),bs):=by
 have c233:=OU t bs ht;rw[Qa F.tb_384 _ _ rfl];unfold NC;by_cases k2:200 < ks.length
 ·have k2': (200:Int) < (ks.length:Int):=by omega
  simp[F.f384C,k2,k2']
 ·have k2': ¬(200:Int) < (ks.length:Int):=by omega
  by_cases k0:l=[]
  ·subst k0;simp[F.f384C,ZX,k2,k2']
  ·have k0': ¬l.length=0:=fun e=>k0 (List.eq_nil_of_length_eq_zero e);by_cases k1:400 < l.length
   ·have k1': (400:Int) < (l.length:Int):=by omega
    simp[F.f384C,k0,k1,k1',k2,k2']
   ·have k1': ¬(400:Int) < (l.length:Int):=by omega
    by_cases k3:QO t=0
    ·have hh:=fun o o1 ρ=>QiV ks l t bs h ht k0 ks [] o o1 ρ rfl;have e: (!(decide (l.length=0) || decide (400 < l.length) || decide (200 < ks.length) || !decide (QO t=0) || !WP l t) && (ks.all (fun x=>decide (QO x=0)) && Wd ks l 0 l))=(ks.all (fun x=>decide (QO x=0)) && (Wd ks l 0 l && WP l t)):=by
      simp only[k0',k1,k2,k3,decide_false,decide_true,Bool.false_or,Bool.not_true,Bool.not_not];cases WP l t <;> cases ks.all (fun x=>decide (QO x=0)) <;> cases Wd ks l 0 l <;> rfl
     rw[e];generalize (ks.all (fun x=>decide (QO x=0)) && (Wd ks l 0 l && WP l t))=X at *;simp[F.f384C,k0,k1',k2',c233,k3,Qf];refine hh false false _ ?_ ?_ ?_ ?_ <;> simp
    ·simp[F.f384C,k0,k1,k1',k2,k2',c233,k3,Qf]
def Hf (ags bad:List Nm) (ks:List Tm) (t:Tm) (l:List Ded):Bool:=decide (ND ags bad ks=0) && NC ks l t
theorem QdO (ags bad:List Nm) (ks:List Tm) (t:Tm) (l:List Ded) (o:Bool) (bs:List (List AV)) (ha:ags.length < 1000000) (hb:bad.length < 1000000) (hma: ∀a∈ags,a.length≤1000) (hl:ks.length < 1000000) (h:R0 ks l) (ht:t.mass < 1000000):
  call F.tb 596 [.agg (Zj ags bad ks),.agg (Qc t),.sl o 8 (ZX l)] bs=some (.bool (Hf ags bad ks t l),bs):=by
 have c502:=Qdx ags bad ks bs ha hb hma hl h.km;have c348:=fun o o1=>Qc4 ks l t o o1 bs h ht;rw[Qa F.tb_596 _ _ rfl];unfold Hf;generalize NC ks l t=X at *;simp only[Zj]at *;by_cases c:ND ags bad ks=0
 ·simp[F.f596C,c502,c348,c,Qf]
 ·simp[F.f596C,c502,c,Qf]
theorem QdP (ags bad:List Nm) (ks:List Tm) (t:Tm) (l:List Ded) (o:Bool) (bs:List (List AV)) (ha:ags.length < 1000000) (hb:bad.length < 1000000) (hma: ∀a∈ags,a.length≤1000) (hl:ks.length < 1000000) (h:R0 ks l) (ht:t.mass < 1000000):
  call F.tb 597 [.agg (Zj ags bad ks),.agg (Qc t),.sl o 8 (ZX l)] bs=some (.bool (Hf ags bad ks t l),bs):=by
 have c587:=QdM ags bad ks bs ha hb hma hl h.km;have c384:=fun o o1=>Qdk ks l t o o1 bs h ht;rw[Qa F.tb_597 _ _ rfl];unfold Hf;generalize NC ks l t=X at *;simp only[Zj]at *;by_cases c:ND ags bad ks=0
 ·simp[F.f597C,c587,c384,c,Qf]
 ·simp[F.f597C,c587,c,Qf]
theorem Qir (ags bad:List Nm) (ks:List Tm) (t:Tm) (l:List Ded) (o:Bool) (ha:ags.length < 1000000) (hb:bad.length < 1000000) (hma: ∀a∈ags,a.length≤1000) (hl:ks.length < 1000000) (hkm: ∀y∈ks,y.mass < 1000000) (ht:t.mass < 1000000)
  (hll:l.length≤60) (hac: ∀d∈l,d.a.length≤20∧d.c.length≤20) (ρ:Nat→AV) (h2:ρ 2= .sl o 8 (ZX l)) (h3:ρ 3= .bx (Zj ags bad ks)) (h4:ρ 4= .bx (Qc t)) (h7:ρ 7= .sl true 4 (encTs (l.map Ded.t))):
  R F.tb F.f594r0 ρ [] (Qx F.f594 [])=some (.bool true,[]):=by
 have c101:call F.tb 101 [.sl false 4 (encTs (l.map Ded.t)),.int .i64 60,.int .i64 300] []=some (.bool (few (l.map Ded.t) 60 300),[]):=Ny (l.map Ded.t) false 60 300 [] (by omega) (by omega) (by omega);cases hf:few (l.map Ded.t) 60 300
 ·rw[hf]at c101;simp[F.f594r0,h2,h3,h4,h7,c101]
 ·rw[hf]at c101;have f2:=NE (by omega) hf;have e300: (300:Int).toNat=300:=rfl;rw[e300]at f2;have hd:R0 ks l:=⟨hkm,hl,fun d hd=>by
   have:=QF (x:=d.t) (ks:=l.map Ded.t) (List.mem_map.2 ⟨d,hd,rfl⟩);omega,fun d hd=>(hac d hd).1,fun d hd=>(hac d hd).2,by omega⟩
  have c595: ∀o,call F.tb 595 [.sl o 8 (ZX l)] []=some (.sl true 8 (ZX l),[]):=fun o=>by
   have e:l.length*120≤140737488355328:=by omega
   rw[Y6 F.tb_595];simp[Xg,UH,e]
  have c596:=fun o=>QdO ags bad ks t l o [] ha hb hma hl hd ht;have c597:=fun o=>QdP ags bad ks t l o [] ha hb hma hl hd ht;simp only[Zj]at *;generalize Hf ags bad ks t l=X at *;simp[F.f594r0,h2,h3,h4,h7,c101,c595,c596,c597,Qf]
theorem Qiq (ags bad:List Nm) (ks:List Tm) (t:Tm) (l:List Ded) (ha:ags.length < 1000000) (hb:bad.length < 1000000) (hma: ∀a∈ags,a.length≤1000) (hl:ks.length < 1000000) (hkm: ∀y∈ks,y.mass < 1000000) (ht:t.mass < 1000000)
  (hll:l.length≤60):
  ∀(post pre:List Ded) (o o2:Bool) (ρ:Nat→AV),l=pre ++ post→(∀d∈pre,d.a.length≤20∧d.c.length≤20)→ρ 2= .sl o 8 (ZX l)→ρ 3= .bx (Zj ags bad ks)→ρ 4= .bx (Qc t)→ρ 7= .sl true 4 (encTs (pre.map Ded.t))→
   ρ 24= .sl o2 8 (ZX l)→ρ 25= .int .i64 l.length→ρ 26= .int .i64 pre.length→
  R F.tb (.loop F.f594l0) ρ [] (Qh 0 (Qq F.tb F.f594r0 (Qx F.f594 [])))=some (.bool true,[]):=by
 intro post
 induction post with
 | nil=>
  intro pre o o2 ρ hk hp h2 h3 h4 h7 h24 h25 h26;simp only[List.append_nil]at hk;subst hk;have h:=fun ρ=>Qir ags bad ks t l o ha hb hma hl hkm ht hll hp ρ;generalize Zj ags bad ks=EV at *;rw[Qb F.f594l0.eq_1];simp[h2,h3,h4,h7,h24,h25,h26];apply h <;> simp[h2,h3,h4,h7]
 | cons d post IH=>
  intro pre o o2 ρ hk hp h2 h3 h4 h7 h24 h25 h26;have hgt:=Qn hk;have hlen:l.length=pre.length+ (post.length+1):=by rw[hk];simp
  have hw1:=wr1 pre.length (by omega);have hlt: (pre.length:Int) < (l.length:Int):=by omega
  rw[Qb F.f594l0.eq_1];by_cases c1:d.a.length≤20
  ·have c1': ¬(20:Int) < (d.a.length:Int):=by omega
   by_cases c2:d.c.length≤20
   ·have c2': ¬(20:Int) < (d.c.length:Int):=by omega
    have ih:=fun ρ=>IH (pre ++ [d]) o o2 ρ (by rw[hk];simp) (fun x hx=>by
     rcases List.mem_append.1 hx with hx | hx
     ·exact hp x hx
     ·simp at hx;subst hx;exact⟨c1,c2⟩)
    have hb: (pre.length+1)*56≤140737488355328:=Yu (by omega);have e: (pre ++ [d]).map Ded.t=pre.map Ded.t ++ [d.t]:=by simp
    rw[e]at ih;have el: (pre.map Ded.t).length=pre.length:=by simp
    generalize pre.map Ded.t=acc at *;generalize Zj ags bad ks=EV at *;simp[h2,h3,h4,h7,h24,h25,h26,hlt,hgt,hw1,c1',c2',el,hb,Qf,Q7,QZ];apply ih <;> simp[h2,h3,h4,h24,h25]
   ·have c2': (20:Int) < (d.c.length:Int):=by omega
    generalize Zj ags bad ks=EV at *;simp[h2,h3,h4,h7,h24,h25,h26,hlt,hgt,c1',c2']
  ·have c1': (20:Int) < (d.a.length:Int):=by omega
   generalize Zj ags bad ks=EV at *;simp[h2,h3,h4,h7,h24,h25,h26,hlt,hgt,c1']
theorem Oq (ags bad:List Nm) (ks:List Tm) (t:Tm) (l:List Ded) (h0:call F.tb 477 [] []=some (.bool true,[])) (ha:ags.length < 10000000000) (hb:bad.length < 10000000000):
  call F.tb 594 [.agg (Zj ags bad ks),.agg (Qc t),.sl false 8 (ZX l)] []=some (.bool true,[]):=by
 have c590:=QdN ags bad ks t [] ha hb;rw[Qa F.tb_594 _ _ rfl];cases hs: (Lg ags bad ks && few [t] 1 60)
 ·rw[hs]at c590;simp only[Zj]at *;simp[F.f594C,h0,c590,Qf]
 ·rw[hs]at c590;by_cases hll:l.length≤60
  ·have hll': ¬(60:Int) < (l.length:Int):=by omega
   simp only[Lg,Bool.and_eq_true]at hs;obtain⟨⟨s1,s2⟩,s3⟩:=hs;obtain⟨hal,hbl⟩:=QaI s1;have hma: ∀a∈ags,a.length≤1000:=fun a h=>by
    unfold Tu at s1;simp only[Bool.and_eq_true,List.all_eq_true,decide_eq_true_eq]at s1;have:=s1.1 a (by simp[h]);omega
   have f2:=NE (by omega) s2;have f3:=NE (by omega) s3;have e70: (400:Int).toNat=400:=rfl;have e60: (60:Int).toNat=60:=rfl;rw[e70]at f2;rw[e60]at f3
   have hkm: ∀y∈ks,y.mass < 1000000:=fun y hy=>by have:=QF hy;omega
   have htm:t.mass < 1000000:=by have:=QF (x:=t) (ks:=[t]) (by simp);omega
   have h:=fun o o2 ρ=>Qiq ags bad ks t l (by omega) (by omega) hma (by omega) hkm htm hll l [] o o2 ρ rfl (by simp);simp only[Zj]at *;simp[F.f594C,h0,c590,hll',Qf];refine h false false _ ?_ ?_ ?_ ?_ ?_ ?_ ?_ <;> simp[encTs]
  ·have hll': (60:Int) < (l.length:Int):=by omega
   simp only[Zj]at *;simp[F.f594C,h0,c590,hll',Qf]
end Go.Am
