/-
  Rc25, Rc26, Rc27, Rc28, Rc29, Rc30, Rc31, Rc32, Rc33, Rc34, Rc35, Rc36, Rc37, Rc38, Rc39, Rc40, Rc41, Rc42, En1, En2.
-/
import Derived.Test.YtkikjgionglgaaaGreatDoorG18
set_option linter.unusedVariables false
set_option linter.unusedSimpArgs false
namespace Go.Am
set_option maxRecDepth 8000
theorem Oy {n:List UInt8} (h:ZT n=true):n.length≤24:=by
 cases n with
 | nil=>simp
 | cons c r=>
  simp only[ZT,Bool.and_eq_true,decide_eq_true_eq]at h;simp only[List.length_cons];omega
theorem Il {t:Tm} (h:V9 t=0):t.name.length≤24∧t.kids.length≤8∧(t.kind=3→t.sort=0)∧(t.kind≠3→t.kids=[]):=by
 unfold V9 at h;split at h
 ·rename_i hk;split at h
  ·cases h
  ·rename_i h1;split at h
   ·cases h
   ·rename_i h2;have h3:t.kids.length=0:=by omega
    exact⟨Oy (by simpa using h2),by omega,fun e=>by omega,fun _=>List.eq_nil_of_length_eq_zero h3⟩
 ·split at h
  ·rename_i hk;split at h
   ·cases h
   ·rename_i h1;split at h
    ·cases h
    ·rename_i h2;split at h
     ·cases h
     ·exact⟨Oy (by simpa using h2),by omega,fun _=>by simpa using h1,fun e=>absurd hk e⟩
  ·cases h
mutual
theorem MS: ∀t:Tm,Xc t=0→t.mass≤33*t.nodes
 | .mk k n s ks,h=>by
  simp only[Xc]at h;split at h
  ·rename_i h1;exact absurd h h1
  ·rename_i h1;obtain⟨a,b,_⟩:=Il (t:= .mk k n s ks) (by simpa using h1);have:=errL_mass ks h;simp only[Zu,QZ]at a b;simp only[Tm.mass,Tm.nodes];omega
theorem errL_mass: ∀ts:List Tm,errL ts=0→massL ts≤33*nodesL ts
 | [],_=>by simp[massL,nodesL]
 | t:: ts,h=>by
  simp only[errL]at h;split at h
  ·rename_i h1;exact absurd h h1
  ·rename_i h1;have a:=MS t (by simpa using h1);have b:=errL_mass ts h;simp only[massL,nodesL];omega
end
theorem Uz {t:Tm} (h:QM t=0):Xc t=0∧t.nodes≤400∧t.mass≤13200:=by
 unfold QM at h;split at h
 ·rename_i h1;exact absurd h h1
 ·rename_i h1;split at h
  ·cases h
  ·have:=MS t (by simpa using h1);exact⟨by simpa using h1,by omega,by omega⟩
theorem Cv {n:List UInt8} {y:Sy} (h:Zm n Yy=some y) (m:Nat) (h1: ¬((m:Int) < y.l∨y.m < m)):ZB n m=true:=by
 unfold ZB;split
 ·rename_i hn;have:y.l=2∧y.m=2:=by rcases hn with rfl | rfl | rfl | rfl | rfl | rfl | rfl | rfl <;> simp[Z8,ENC,Xr,Z9,EXP,DEC,Zk,Zy,Zm,Yy]at h <;> subst h <;> simp
  simp;omega
 ·split
  ·rename_i hn;have:y.l=1∧y.m=1:=by rcases hn with rfl | rfl | rfl | rfl <;> simp[PK,FST,SND,READ,Zm,Yy]at h <;> subst h <;> simp
   simp;omega
  ·rfl
mutual
theorem Ny: ∀t:Tm,Xc t=0→Yn t=0→QS t=true
 | .mk k n s ks,h,hc=>by
  simp only[Xc]at h;split at h
  ·rename_i h1;exact absurd h h1
  ·rename_i h1;obtain⟨_,_,a,b⟩:=Il (t:= .mk k n s ks) (by simpa using h1);simp only[WS,VX,QZ]at a b;simp only[Yn]at hc;by_cases hk:k=3
   ·subst hk;rw[if_neg (by simp)]at hc;cases hy:Zm n Yy with
    | none=>rw[hy]at hc;simp at hc
    | some y=>
     rw[hy]at hc;simp only at hc;split at hc
     ·cases hc
     ·rename_i h2;have har:=Cv hy ks.length h2;split at hc
      ·cases hc
      ·split at hc
       ·cases hc
       ·have:=goodL_valid ks h hc;simp[QS,a rfl,har,this]
   ·have:=b hk;subst this;simp[QS,hk,goodL]
theorem goodL_valid: ∀ts:List Tm,errL ts=0→chkL ts=0→goodL ts=true
 | [],_,_=>rfl
 | t:: ts,h,hc=>by
  simp only[errL]at h;simp only[chkL]at hc;split at h
  ·rename_i h1;exact absurd h h1
  ·rename_i h1;split at hc
   ·rename_i h2;exact absurd hc h2
   ·rename_i h2;simp[goodL,Ny t (by simpa using h1) (by simpa using h2),goodL_valid ts h hc]
end
mutual
theorem Cy: ∀(t y:Tm),QS t=true→y∈Zh t→QS y=true
 | .mk k n s ks,y,h,hy=>by
  simp only[Zh,List.mem_cons]at hy;rcases hy with rfl | hy
  ·exact h
  ·exact good_allL ks y (XL h) hy
theorem good_allL: ∀(ts:List Tm) (y:Tm),goodL ts=true→y∈allL ts→QS y=true
 | [],y,_,hy=>by simp[allL]at hy
 | t:: ts,y,h,hy=>by
  simp only[goodL,Bool.and_eq_true]at h;simp only[allL,List.mem_append]at hy;rcases hy with hy | hy
  ·exact Cy t y h.1 hy
  ·exact good_allL ts y h.2 hy
end
theorem Y4:QS QE=true:=by simp[QE,QS,goodL]
theorem Vb {n:List UInt8} {us:List Tm} (ha:ZB n us.length=true) (h:goodL us=true):QS (.mk 3 n 0 us)=true:=by simp[QS,ha,h]
theorem O1 {t:Tm} (h:QS t=true) (i:Nat):QS (kid t i)=true:=by
 unfold kid;rw[List.getD_eq_getElem?_getD];cases hg:t.kids[i]? with
 | none=>simpa using Y4
 | some x=>exact Yt.1 (XL h) x (List.mem_of_getElem? hg)
theorem J7 (t:Tm) (i:Nat): (kid t i).mass≤t.mass:=by
 unfold kid;rw[List.getD_eq_getElem?_getD];have:=Qu t;cases hg:t.kids[i]? with
 | none=>simp[QE,Tm.mass,massL];omega
 | some x=>have:=QB (List.mem_of_getElem? hg);simp;omega
theorem CA {us:List Tm} (h:goodL us=true):QS (XY us).1=true:=by
 unfold XY;split
 ·exact Y4
 ·split
  ·exact Y4
  ·have hL: ∀y∈sumL [] us,QS y=true:=fun y hy=>by
    rcases sumL_mem us [] y hy with h1 | h1
    ·simp at h1
    ·exact good_allL us y h h1
   show QS (tmX (sumL [] us))=true
   match hh:sumL [] us with
   | []=>simp[tmX,QS,goodL,ZB,Yw,Z8,ENC,Xr,Z9,EXP,DEC,Zk,Zy,PK,FST,SND,READ]
   | [p]=>simp only[tmX];exact hL p (by rw[hh];simp)
   | p:: q:: r=>
    simp only[tmX];refine Vb (by simp[ZB,XOR,Z8,ENC,Xr,Z9,EXP,DEC,Zk,Zy,PK,FST,SND,READ]) (Yt.2 fun x hx=>hL x (by rw[hh];exact hx))
theorem CL (us:List Tm): (XY us).1.mass≤13200:=by
 unfold XY;split
 ·simp[QE,Tm.mass,massL]
 ·split
  ·simp[QE,Tm.mass,massL]
  ·rename_i h;exact(Uz (by simpa using h)).2.2
theorem Vv:QE.mass=1:=by simp[QE,Tm.mass,massL]
def KG (l:List Pw):Prop:=∀q∈l,QS q.1=true
theorem Gq {l:List Pw} {t:Tm} {m:Int} (h:KG l) (ht:QS t=true):KG (Z1 l t m):=by
 intro q hq;rcases VQ hq with hq | rfl | ⟨_,_,rfl,_⟩
 ·exact h q hq
 ·exact ht
 ·exact ht
theorem QcB: ∀(t:Tm) (l:List Pw) (m:Int),KG l→QS t=true→KG (Xw l t m):=by
 refine Zo ?_;intro k n s ks ih l m h hm;have hk:=Yt.1 (XL hm);have hL: ∀(xs:List Tm) (l:List Pw) (m:Int),(∀x∈xs,x∈ks)→KG l→KG (colL l xs m):=by
  intro xs
  induction xs with
  | nil=>intro l m _ h;simpa[colL]using h
  | cons x xs IH=>
   intro l m hx h;simp only[colL];exact IH _ m (fun y hy=>hx y (by simp[hy])) (ih x (hx x (by simp)) l m h (hk x (hx x (by simp))))
 rw[Rh];split
 ·exact hL ks l _ (fun x hx=>hx) h
 ·exact Gq h hm
theorem NE: ∀(b a:List Pw),KG a→KG b→KG (YN a b)
 | [],a,h,_=>h
 | q:: b,a,h,hb=>NE b _ (Gq h (hb q (by simp))) fun x hx=>hb x (by simp[hx])
theorem NF {t:Tm} (h:QS t=true):KG (ofP t):=by
 unfold ofP;split
 ·exact QcB t [] 1 (fun q hq=>by simp at hq) h
 ·intro q hq;simp at hq
theorem QcC {a b:List Pw} (ha:KG a) (hb:KG b):KG (Xd a b):=by
 unfold Xd;split
 ·exact NE b a ha hb
 ·intro q hq;simp at hq
theorem Cz {l:List Pw} (h:KG l):goodL (Zn l)=true:=by
 refine Yt.2 fun x hx=> ?_;simp only[Zn,Y5,Xj,List.mem_append,List.mem_flatten,List.mem_map]at hx;rcases hx with⟨_,⟨q,hq,rfl⟩,hx⟩ | ⟨_,⟨q,hq,rfl⟩,hx⟩
 ·rw[List.eq_of_mem_replicate hx];exact h q hq
 ·rw[List.eq_of_mem_replicate hx];exact Vb (by simp[ZB,INV,Z8,ENC,Xr,Z9,EXP,DEC,Zk,Zy,PK,FST,SND,READ]) (by simp[goodL,h q hq])
theorem Nx {l:List Pw} (h:KG l):QS (Zs l).1=true:=by
 unfold Zs;split
 ·exact Y4
 ·split
  ·exact Y4
  ·split
   ·exact Y4
   ·have hL:=Cz h
    show QS (Ze (Zn l))=true
    match hh:Zn l with
    | []=>simp[Ze,QS,goodL,ZB,ONE,Z8,ENC,Xr,Z9,EXP,DEC,Zk,Zy,PK,FST,SND,READ]
    | [p]=>simp only[Ze];rw[hh]at hL;simpa[goodL]using hL
    | p:: q:: r=>
     simp only[Ze];rw[hh]at hL;exact Vb (by simp[ZB,MUL,Z8,ENC,Xr,Z9,EXP,DEC,Zk,Zy,PK,FST,SND,READ]) hL
theorem NO (l:List Pw): (Zs l).1.mass≤13200:=by
 unfold Zs;split
 ·simp[QE,Tm.mass,massL]
 ·split
  ·simp[QE,Tm.mass,massL]
  ·split
   ·simp[QE,Tm.mass,massL]
   ·rename_i h;exact(Uz (by simpa using h)).2.2
theorem Lo {t:Tm} (h:QS t=true):QS (Z5 t).1=true:=by
 unfold Z5;split
 ·exact Y4
 ·exact Nx (NF h)
theorem Lq (t:Tm): (Z5 t).1.mass≤13200:=by
 unfold Z5;split
 ·simp[QE,Tm.mass,massL]
 ·exact NO _
theorem Gl {b:Tm} {p:List Pw} (hb:QS b=true) (hp:KG p):QS (XV b p).1=true∧(XV b p).1.mass≤6+b.mass+13200:=by
 have h0:=NO p;unfold XV;split
 ·exact⟨hb,by simp;omega⟩
 ·split
  ·exact⟨Y4,by show QE.mass≤_;rw[Vv];omega⟩
  ·exact⟨Vb (by simp[ZB]) (by simp[goodL,hb,Nx hp]),by simp only[Tm.mass,massL,EXP,List.length_cons,List.length_nil];omega⟩
theorem QcU {b e:Tm} (hb:QS b=true) (he:QS e=true):QS (YI b e).1=true∧(YI b e).1.mass≤6+b.mass+13200:=by
 have hz:QS QE=true∧QE.mass≤6+b.mass+13200:=⟨Y4,by show QE.mass≤_;rw[Vv];omega⟩;have hk:=J7 b 0;unfold YI;split
 ·exact hz
 ·split
  ·split
   ·exact hz
   ·split
    ·exact hz
    ·obtain⟨h1,h2⟩:=Gl (O1 hb 0) (QcC (NF (O1 hb 1)) (NF he));exact⟨h1,by omega⟩
  ·exact Gl hb (NF he)
theorem Ad {n:List UInt8} {us:List Tm} (ha:ZB n us.length=true) (h:goodL us=true):QS (QJ n us)=true∧(QJ n us).mass≤1+n.length+us.length+massL us:=by
 have hout:QS (.mk 3 n 0 us)=true∧(Tm.mk 3 n 0 us).mass≤1+n.length+us.length+massL us:=⟨Vb ha h,by simp[Tm.mass]⟩;have ha0:QS (us.getD 0 QE)=true∧(us.getD 0 QE).mass≤1+massL us:=by
  cases us with
  | nil=>exact⟨Y4,by simp[QE,Tm.mass,massL]⟩
  | cons x r=>simp only[goodL,Bool.and_eq_true]at h;exact⟨h.1,by simp[massL];omega⟩
 have hkid: ∀i,QS (kid (us.getD 0 QE) i)=true∧(kid (us.getD 0 QE) i).mass≤1+n.length+us.length+massL us:=fun i=>⟨O1 ha0.1 i,by have:=J7 (us.getD 0 QE) i;omega⟩;simp only[QJ]
 repeat' split
 all_goals first | exact hout | exact hkid _
def ZZ (n:List UInt8) (us:List Tm):Tm×Int:=
 if Wg n then(QJ n us,0)else if n=XOR then XY us else if n=MUL∨n=INV∨n=ONE then Z5 (.mk 3 n 0 us)
 else if n=EXP then YI (us.getD 0 QE) (us.getD 1 QE)else(.mk 3 n 0 us,0)
mutual
def Q9:Tm→Tm×Int
 | .mk k n s ks=>if k=3 then(if(normL ks).2=0 then ZZ n (normL ks).1 else(QE,(normL ks).2))else(.mk k n s ks,0)
def normL:List Tm→List Tm×Int
 | []=>([],0)
 | t:: ts=>if(Q9 t).2=0 then(if(normL ts).2=0 then((Q9 t).1:: (normL ts).1,0)else([],(normL ts).2))else([],(Q9 t).2)
end
theorem Ax {n:List UInt8} {us:List Tm} (ha:ZB n us.length=true) (h:goodL us=true):QS (ZZ n us).1=true∧(ZZ n us).1.mass≤1+n.length+us.length+massL us+13200:=by
 unfold ZZ;split
 ·obtain⟨h1,h2⟩:=Ad ha h;exact⟨h1,by simp;omega⟩
 ·split
  ·exact⟨CA h,by have:=CL us;omega⟩
  ·split
   ·exact⟨Lo (Vb ha h),by have:=Lq (.mk 3 n 0 us);omega⟩
   ·split
    ·rename_i hn;subst hn;have h2:us.length=2:=by simpa[ZB]using ha
     match us,h2,h with
     | [x,y],_,h=>
      simp only[goodL,Bool.and_eq_true]at h;obtain⟨h3,h4⟩:=QcU h.1 h.2.1;exact⟨h3,by simp only[massL,EXP,List.length_cons,List.length_nil]at *;simp at h4 ⊢;omega⟩
    ·exact⟨Vb ha h,by simp[Tm.mass]⟩
mutual
theorem U2: ∀t:Tm,QS t=true→QS (Q9 t).1=true∧(Q9 t).1.mass≤t.mass+13200*t.nodes
 | .mk k n s ks,h=>by
  have hk:=normL_ok ks (XL h);simp only[Q9];split
  ·rename_i hk3;subst hk3;split
   ·rename_i h2;obtain⟨h3,h4,h5⟩:=hk;have h5:=h5 h2;have har:=(WH h rfl).2;simp only[Zu,QZ]at har;obtain⟨h6,h7⟩:=Ax (by rw[h5];exact har) h3;exact⟨h6,by simp only[Tm.mass,Tm.nodes];rw[h5]at h7;omega⟩
   ·exact⟨Y4,by show QE.mass≤_;rw[Vv];simp only[Tm.mass];omega⟩
  ·exact⟨h,Nat.le_add_right _ _⟩
theorem normL_ok: ∀ts:List Tm,goodL ts=true→goodL (normL ts).1=true∧massL (normL ts).1≤massL ts+13200*nodesL ts∧((normL ts).2=0→(normL ts).1.length=ts.length)
 | [],_=>by simp[normL,goodL,massL]
 | t:: ts,h=>by
  simp only[goodL,Bool.and_eq_true]at h;obtain⟨a1,a2⟩:=U2 t h.1;obtain⟨b1,b2,b3⟩:=normL_ok ts h.2;simp only[normL];split
  ·split
   ·rename_i h2;refine⟨by simp[goodL,a1,b1],by simp only[massL,nodesL];omega,fun _=>by simp[b3 h2]⟩
   ·rename_i h2;exact⟨rfl,by simp[massL],fun e=>absurd e h2⟩
  ·rename_i h2;exact⟨rfl,by simp[massL],fun e=>absurd e h2⟩
end
theorem RP {x:Tm}: ∀{ks:List Tm},x∈ks→x.nodes≤nodesL ks
 | [],h=>by cases h
 | t:: ts,h=>by
  simp only[nodesL];rcases List.mem_cons.1 h with rfl | h
  ·omega
  ·have:=RP h;omega
theorem Tl {n:List UInt8} (h:Wg n=true): (n=FST∨n=SND∨n=READ)∨(n=DEC∨n=Zk∨n=Zy):=by
 simp only[Wg,Bool.or_eq_true,beq_iff_eq]at h;rcases h with((((h | h) | h) | h) | h) | h <;> simp[h]
theorem Qbh {n:List UInt8} {us:List Tm} (bs:List (List AV)) (hn:Wg n=true) (ha:ZB n us.length=true) (hg:goodL us=true) (hm:massL us < 20000000):call F.tb 176 [.agg (Qb (.mk 3 n 0 us))] bs=some (.agg (Qb (QJ n us)),bs):=by
 rcases Tl hn with h | h
 ·have h1:us.length=1:=by rcases h with rfl | rfl | rfl <;> simpa[ZB,PK,Z8,ENC,Xr,Z9,EXP,DEC,Zk,Zy,FST,SND,READ]using ha
  obtain⟨a,rfl⟩:=List.length_eq_one_iff.1 h1;simp only[goodL,Bool.and_eq_true]at hg;simp only[massL]at hm;exact Ae n a bs h hg.1 (by unfold big;omega)
 ·have h1:us.length=2:=by rcases h with rfl | rfl | rfl <;> simpa[ZB]using ha
  match us,h1,hg,hm with
  | [a,b],_,hg,hm=>
   simp only[goodL,Bool.and_eq_true]at hg;simp only[massL]at hm;exact Af n a b bs h hg.1 hg.2.1 (by unfold big;omega) (by unfold big;omega)
theorem Qbx {n:List UInt8} {us:List Tm} (bs:List (List AV)) (hn:Wg n=true) (ha:ZB n us.length=true) (hg:goodL us=true) (hm:massL us < 20000000):BE (QJ n us) bs (call F.tb 243 [.agg (Qb (.mk 3 n 0 us))] bs):=by
 rcases Tl hn with h | h
 ·have h1:us.length=1:=by rcases h with rfl | rfl | rfl <;> simpa[ZB,PK,Z8,ENC,Xr,Z9,EXP,DEC,Zk,Zy,FST,SND,READ]using ha
  obtain⟨a,rfl⟩:=List.length_eq_one_iff.1 h1;simp only[goodL,Bool.and_eq_true]at hg;simp only[massL]at hm;exact D3 n a bs h hg.1 (by unfold big;omega)
 ·have h1:us.length=2:=by rcases h with rfl | rfl | rfl <;> simpa[ZB]using ha
  match us,h1,hg,hm with
  | [a,b],_,hg,hm=>
   simp only[goodL,Bool.and_eq_true]at hg;simp only[massL]at hm;exact D4 n a b bs h hg.1 (by unfold big;omega) (by unfold big;omega)
def MX (us:List Tm) (n:List UInt8):Prop:=massL us+n.length+us.length < 15000000
set_option maxHeartbeats 2000000 in
theorem QcF (t:Tm) (us:List Tm) (bs:List (List AV)) (ha:ZB t.name us.length=true) (hg:goodL us=true) (hm:MX us t.name) (ρ:Nat→AV) (h1:ρ 1= .bx (Qb t)) (h2:ρ 2= .bx [.int .i64 0,.str [],.int .i64 0,.sl true 4 []])
  (h4:ρ 4= .bx [.int .i64 3,.str t.name,.int .i64 0,.sl true 4 (encTs us)]):R F.tb F.f175r0 ρ bs (Qy F.f175 bs)=some (QP (ZZ t.name us),bs):=by
 unfold MX at hm;have hf:=WF 3 t.name 0 us;have hgp:gpfreeE (encTs us)=true:=encTs_gp us;obtain⟨n,hn⟩: ∃n,t.name=n:=⟨_,rfl⟩;rw[hn]at ha hm h4 hf ⊢;cases hd:Wg n
 ·have hd':=hd;simp only[Wg,Bool.or_eq_false_iff]at hd';obtain⟨⟨⟨⟨⟨d1,d2⟩,d3⟩,d4⟩,d5⟩,d6⟩:=hd';simp only[FST,SND,DEC,Zk,Zy,READ]at d1 d2 d3 d4 d5 d6;by_cases hx:n=XOR
  ·subst hx;have e:ZZ XOR us=XY us:=by simp[ZZ,hd]
   have hc:=BX us false bs (by omega) (by omega);rw[e];simp only[QP]at hc ⊢;simp only[XOR]at *;simp[F.f175r0,h1,h2,h4,hn,hc]
  ·by_cases hp:n=MUL∨n=INV∨n=ONE
   ·have e:ZZ n us=Z5 (.mk 3 n 0 us):=by simp only[ZZ,hd,hx,hp,if_true,if_false];simp
    have hmass: (Tm.mk 3 n 0 us).mass < 20000000:=by simp only[Tm.mass];omega
    have hc:=Mg (.mk 3 n 0 us) bs (by omega);have hc2:=OM false bs (Rk (.mk 3 n 0 us) 25000000 (by omega)) (UK _);rw[← hf]at hc;rw[e];by_cases c:ofE (.mk 3 n 0 us)=0
    ·have e2:Z5 (.mk 3 n 0 us)=Zs (ofP (.mk 3 n 0 us)):=by simp[Z5,c]
     rw[e2];simp only[QP]at hc2 ⊢;rw[c]at hc;generalize ofP (.mk 3 n 0 us)=P at *;rcases hp with rfl | rfl | rfl
     ·simp only[MUL]at *;simp[F.f175r0,h1,h2,h4,hn,hc,hc2]
     ·simp only[INV]at *;simp[F.f175r0,h1,h2,h4,hn,hc,hc2]
     ·simp only[ONE]at *;simp[F.f175r0,h1,h2,h4,hn,hc,hc2]
    ·have e2:Z5 (.mk 3 n 0 us)=(QE,ofE (.mk 3 n 0 us)):=by simp[Z5,c]
     rw[e2];generalize ofE (.mk 3 n 0 us)=E at *;generalize ofP (.mk 3 n 0 us)=P at *;rcases hp with rfl | rfl | rfl
     ·simp only[MUL]at *;simp[F.f175r0,h1,h2,h4,hn,hc,c,QR,QG]
     ·simp only[INV]at *;simp[F.f175r0,h1,h2,h4,hn,hc,c,QR,QG]
     ·simp only[ONE]at *;simp[F.f175r0,h1,h2,h4,hn,hc,c,QR,QG]
   ·by_cases he:n=EXP
    ·have e:ZZ n us=YI (us.getD 0 QE) (us.getD 1 QE):=by subst he;simp only[ZZ,hd,if_neg hx,if_neg hp];simp
     subst he;have hl:us.length=2:=by simpa[ZB]using ha
     match us,hl,hg,hm,h4,e with
     | [x,y],_,hg,hm,h4,e=>
      simp only[goodL,Bool.and_eq_true]at hg;simp only[massL]at hm;have hc:=Qbm x y bs hg.1 (by omega) (by omega);rw[e];simp only[QP]at hc ⊢;simp only[List.getD_cons_zero,List.getD_cons_succ]at *;simp only[EXP]at *;simp[F.f175r0,h1,h2,h4,hn,hc]
    ·have e:ZZ n us=(.mk 3 n 0 us,0):=by simp only[ZZ,hd,hx,hp,he,if_false];simp
     rw[e];have b1: (n == XOR)=false:=by simpa using hx
     have b2: (n == MUL)=false:=by simp at hp ⊢;exact hp.1
     have b3: (n == INV)=false:=by simp at hp ⊢;exact hp.2.1
     have b4: (n == ONE)=false:=by simp at hp ⊢;exact hp.2.2
     have b5: (n == EXP)=false:=by simpa using he
     simp only[XOR,MUL,INV,ONE,EXP]at b1 b2 b3 b4 b5;simp[F.f175r0,h1,h2,h4,hn,d1,d2,d3,d4,d5,d6,b1,b2,b3,b4,b5,QR,Q4]
 ·have e:ZZ n us=(QJ n us,0):=by simp[ZZ,hd]
  have hc:=Qbh bs hd ha hg (by omega);rw[← hf]at hc;rw[e];generalize QJ n us=D at *;rcases Tl hd with(rfl | rfl | rfl) | (rfl | rfl | rfl)
  ·simp only[FST]at *;simp[F.f175r0,h1,h2,h4,hn,hc,QR]
  ·simp only[SND]at *;simp[F.f175r0,h1,h2,h4,hn,hc,QR]
  ·simp only[READ]at *;simp[F.f175r0,h1,h2,h4,hn,hc,QR]
  ·simp only[DEC]at *;simp[F.f175r0,h1,h2,h4,hn,hc,QR]
  ·simp only[Zk]at *;simp[F.f175r0,h1,h2,h4,hn,hc,QR]
  ·simp only[Zy]at *;simp[F.f175r0,h1,h2,h4,hn,hc,QR]
def Y9 (n:List UInt8) (us:List Tm) (r:List Tm×Int):Tm×Int:=if r.2=0 then ZZ n (us ++ r.1)else(QE,r.2)
theorem CN (t:Tm) (bs:List (List AV)) (hg:QS t=true) (hk3:t.kind=3) (hm:t.mass+13200*t.nodes < 15000000) (ih: ∀x∈t.kids,∀bs,call F.tb 175 [.agg (Qb x)] bs=some (QP (Q9 x),bs)):
  ∀(post pre us:List Tm) (ρ:Nat→AV),t.kids=pre ++ post→us.length=pre.length→goodL us=true→massL us≤massL pre+13200*nodesL pre→ρ 1= .bx (Qb t)→ρ 2= .bx [.int .i64 0,.str [],.int .i64 0,.sl true 4 []]→
   ρ 4= .bx [.int .i64 3,.str t.name,.int .i64 0,.sl true 4 (encTs us)]→ρ 19= .sl false 4 (encTs t.kids)→ρ 20= .int .i64 t.kids.length→ρ 21= .int .i64 pre.length→
  R F.tb (.loop F.f175l0) ρ bs (Qi 0 (Qs F.tb F.f175r0 (Qy F.f175 bs)))=some (QP (Y9 t.name us (normL post)),bs):=by
 have hme:=Qu t;have hne:=Yo t;intro post
 induction post with
 | nil=>
  intro pre us ρ hk hl hgu hmu h1 h2 h4 h19 h20 h21;simp only[List.append_nil]at hk;rw[← hk]at h21 hl hmu;have har:=(WH hg hk3).2;have hr:=QcF t us bs (by rw[hl];exact har) hgu (by unfold MX;omega);have e:Y9 t.name us (normL [])=ZZ t.name us:=by simp[Y9,normL]
  rw[Qc F.f175l0.eq_1,e];simp[h1,h2,h4,h19,h20,h21];apply hr <;> simp[h1,h2,h4]
 | cons x post IH=>
  intro pre us ρ hk hl hgu hmu h1 h2 h4 h19 h20 h21;have hg2:=Qn hk;have hll:=Qv hk;have hw1:=wr1 pre.length (by omega);have hlt:=Qw hk;have hxk:x∈t.kids:=by rw[hk];simp
  have hc:=ih x hxk bs;obtain⟨n1,n2⟩:=U2 x (Yt.1 (XL hg) x hxk);simp only[QP]at hc;rw[Qc F.f175l0.eq_1];by_cases c: (Q9 x).2=0
  ·have e:Y9 t.name us (normL (x:: post))=Y9 t.name (us ++ [(Q9 x).1]) (normL post):=by
    simp only[Y9,normL,c,if_true];by_cases c2: (normL post).2=0
    ·simp[c2]
    ·simp[c2]
   have hb: (us.length+1)*56≤140737488355328:=ZS (by omega);have hi:=fun ρ=>IH (pre ++ [x]) (us ++ [(Q9 x).1]) ρ (by rw[hk];simp) (by simp[hl]) (Yt.2 fun y hy=>by
    rcases List.mem_append.1 hy with hy | hy
    ·exact Yt.1 hgu y hy
    ·simp at hy;subst hy;exact n1) (by rw[Xx,Xx,Z6];simp only[massL,nodesL];omega)
   rw[e];simp[h1,h2,h4,h19,h20,h21,hg2,hlt,hw1,hc,c,hb,Zi,Q1];apply hi <;> simp[h1,h2,h19,h20]
  ·have e:Y9 t.name us (normL (x:: post))=(QE,(Q9 x).2):=by simp[Y9,normL,c]
   rw[e];simp[h1,h2,h4,h19,h20,h21,hg2,hlt,hc,c,QR,QG]
theorem Qbg: ∀(t:Tm) (bs:List (List AV)),QS t=true→t.mass+13200*t.nodes < 15000000→call F.tb 175 [.agg (Qb t)] bs=some (QP (Q9 t),bs):=by
 refine Zo ?_;intro k n s ks ih bs hg hm;have hme:=Qu (.mk k n s ks);have hne:=Yo (.mk k n s ks);simp only[QZ,Zu]at hme hne;rw[Qa F.tb_175 _ _ rfl];by_cases hk:k=3
 ·subst hk;have hl:=fun ρ=>CN (.mk 3 n s ks) bs hg rfl hm (fun x hx bs=>ih x hx bs (Yt.1 (XL hg) x hx) (by have h1:x.mass≤massL ks:=QB hx;have h2:x.nodes≤nodesL ks:=RP hx;omega)) ks [] [] ρ rfl rfl rfl (by simp[massL]);have e:Q9 (.mk 3 n s ks)=Y9 n [] (normL ks):=by simp[Q9,Y9]
  rw[e];simp only[Zu,QZ]at hl;simp[F.f175C];apply hl <;> simp[encTs]
 ·have e:Q9 (.mk k n s ks)=(.mk k n s ks,0):=by simp[Q9,hk]
  rw[e];simp[F.f175C,hk,QR]
theorem Ov {n:List UInt8}: ∀{l:List Sy} {y:Sy},Zm n l=some y→y∈l∧y.n=n
 | [],y,h=>by simp[Zm]at h
 | s:: ss,y,h=>by
  simp only[Zm]at h;split at h
  ·rename_i hs;injection h with h;subst h;exact⟨by simp,hs⟩
  ·obtain⟨h1,h2⟩:=Ov h;exact⟨by simp[h1],h2⟩
theorem Qap:Yy.all (fun y=> !(y.k == 3) || Wg y.n)=true:=by decide
def V8 (n:List UInt8):Int:=match Zm n Yy with | some y=>y.k | none=>0
theorem FB (n:List UInt8):decide (V8 n=3)=Wg n:=by
 unfold V8;cases hd:Wg n
 ·cases hf:Zm n Yy with
  | none=>simp
  | some y=>
   obtain⟨h1,h2⟩:=Ov hf;have h3:=List.all_eq_true.1 Qap y h1;rw[h2,hd]at h3;simpa using h3
 ·rcases Tl hd with(rfl | rfl | rfl) | (rfl | rfl | rfl) <;> simp[FST,SND,DEC,Zk,Zy,READ,Zm,Yy]
theorem HM (n:List UInt8) (bs:List (List AV)):call F.tb 128 [.str n] bs=some (.int .i64 (V8 n),bs):=MH n bs
set_option maxHeartbeats 4000000 in
theorem BJ (t:Tm) (us:List Tm) (bs:List (List AV)) (ha:ZB t.name us.length=true) (hg:goodL us=true) (hm:MX us t.name) (ρ:Nat→AV) (h1:ρ 1= .bx (Qb t)) (h2:ρ 2= .bx [.int .i64 0,.str [],.int .i64 0,.sl true 4 []])
  (h4:ρ 4= .sl true 4 (encTs us)):R F.tb F.f242r0 ρ bs (Qy F.f242 bs)=some (QP (ZZ t.name us),bs):=by
 unfold MX at hm;obtain⟨n,hn⟩: ∃n,t.name=n:=⟨_,rfl⟩;rw[hn]at ha hm ⊢;have hap:=X2 n us false bs (by omega);have hkn:=HM n bs;have hk3:=FB n;cases hd:Wg n
 ·rw[hd]at hk3;have hk3': ¬V8 n=3:=by simpa using hk3
  generalize V8 n=KK at *;by_cases hx:n=XOR
  ·subst hx;have e:ZZ XOR us=XY us:=by simp[ZZ,hd]
   have hc:=G6 us false bs (by omega) (by omega);rw[e];simp only[QP]at hc ⊢;simp only[XOR]at *;simp[F.f242r0,h1,h2,h4,hn,hap,hkn,hk3',hc]
  ·have b1: (n == XOR)=false:=by simpa using hx
   simp only[XOR]at b1;by_cases hp:n=MUL∨n=INV∨n=ONE
   ·have e:ZZ n us=Z5 (.mk 3 n 0 us):=by simp only[ZZ,hd,hx,hp,if_true,if_false];simp
    have hmass: (Tm.mk 3 n 0 us).mass < 20000000:=by simp only[Tm.mass];omega
    have hc:=Qby (.mk 3 n 0 us) bs (by omega);rw[e];simp only[QP]at hc ⊢;generalize Z5 (.mk 3 n 0 us)=P at *;rcases hp with rfl | rfl | rfl
    ·simp only[MUL]at *;simp[F.f242r0,h1,h2,h4,hn,hap,hkn,hk3',hc]
    ·simp only[INV]at *;simp[F.f242r0,h1,h2,h4,hn,hap,hkn,hk3',hc]
    ·simp only[ONE]at *;simp[F.f242r0,h1,h2,h4,hn,hap,hkn,hk3',hc]
   ·by_cases he:n=EXP
    ·have e:ZZ n us=YI (us.getD 0 QE) (us.getD 1 QE):=by subst he;simp only[ZZ,hd,if_neg hx,if_neg hp];simp
     subst he;have hl:us.length=2:=by simpa[ZB]using ha
     match us,hl,hg,hm,h4,e,hap with
     | [x,y],_,hg,hm,h4,e,hap=>
      simp only[goodL,Bool.and_eq_true]at hg;simp only[massL]at hm;have hc:=QbC x y bs hg.1 (by omega) (by omega);rw[e];simp only[QP]at hc ⊢;simp only[List.getD_cons_zero,List.getD_cons_succ]at *;simp only[EXP]at *;simp[F.f242r0,h1,h2,h4,hn,hap,hkn,hk3',hc]
    ·have e:ZZ n us=(.mk 3 n 0 us,0):=by simp only[ZZ,hd,hx,hp,he,if_false];simp
     rw[e];have b2: (n == MUL)=false:=by simp at hp ⊢;exact hp.1
     have b3: (n == INV)=false:=by simp at hp ⊢;exact hp.2.1
     have b4: (n == ONE)=false:=by simp at hp ⊢;exact hp.2.2
     have b5: (n == EXP)=false:=by simpa using he
     simp only[MUL,INV,ONE,EXP]at b2 b3 b4 b5;simp[F.f242r0,h1,h2,h4,hn,hap,hkn,hk3',b1,b2,b3,b4,b5,QR]
 ·rw[hd]at hk3;have hk3':V8 n=3:=by simpa using hk3
  rw[hk3']at hkn;have e:ZZ n us=(QJ n us,0):=by simp[ZZ,hd]
  obtain⟨b,hc⟩:=Qbx bs hd ha hg (by omega);rw[e];generalize QJ n us=D at *;simp[F.f242r0,h1,h2,h4,hn,hap,hkn,hc,QR]
theorem G2 (t:Tm) (bs:List (List AV)) (hg:QS t=true) (hk3:t.kind=3) (hm:t.mass+13200*t.nodes < 15000000) (ih: ∀x∈t.kids,∀bs,call F.tb 242 [.agg (Qb x)] bs=some (QP (Q9 x),bs)):
  ∀(post pre us:List Tm) (ρ:Nat→AV),t.kids=pre ++ post→us.length=pre.length→goodL us=true→massL us≤massL pre+13200*nodesL pre→ρ 1= .bx (Qb t)→ρ 2= .bx [.int .i64 0,.str [],.int .i64 0,.sl true 4 []]→
   ρ 4= .sl true 4 (encTs us)→ρ 5= .int .i64 pre.length→
  R F.tb (.loop F.f242l0) ρ bs (Qi 0 (Qs F.tb F.f242r0 (Qy F.f242 bs)))=some (QP (Y9 t.name us (normL post)),bs):=by
 have hme:=Qu t;have hne:=Yo t;intro post
 induction post with
 | nil=>
  intro pre us ρ hk hl hgu hmu h1 h2 h4 h5;simp only[List.append_nil]at hk;rw[← hk]at h5 hl hmu;have har:=(WH hg hk3).2;have hr:=BJ t us bs (by rw[hl];exact har) hgu (by unfold MX;omega);have e:Y9 t.name us (normL [])=ZZ t.name us:=by simp[Y9,normL]
  rw[Qc F.f242l0.eq_1,e];simp[h1,h2,h4,h5];apply hr <;> simp[h1,h2,h4]
 | cons x post IH=>
  intro pre us ρ hk hl hgu hmu h1 h2 h4 h5;have hg2:=Qn hk;have hll:=Qv hk;have hw1:=wr1 pre.length (by omega);have hlt:=Qw hk;have hxk:x∈t.kids:=by rw[hk];simp
  have hc:=ih x hxk bs;obtain⟨n1,n2⟩:=U2 x (Yt.1 (XL hg) x hxk);simp only[QP]at hc;rw[Qc F.f242l0.eq_1];by_cases c: (Q9 x).2=0
  ·have e:Y9 t.name us (normL (x:: post))=Y9 t.name (us ++ [(Q9 x).1]) (normL post):=by
    simp only[Y9,normL,c,if_true];by_cases c2: (normL post).2=0
    ·simp[c2]
    ·simp[c2]
   have hb: (us.length+1)*56≤140737488355328:=ZS (by omega);have hi:=fun ρ=>IH (pre ++ [x]) (us ++ [(Q9 x).1]) ρ (by rw[hk];simp) (by simp[hl]) (Yt.2 fun y hy=>by
    rcases List.mem_append.1 hy with hy | hy
    ·exact Yt.1 hgu y hy
    ·simp at hy;subst hy;exact n1) (by rw[Xx,Xx,Z6];simp only[massL,nodesL];omega)
   rw[e];simp[h1,h2,h4,h5,hg2,hlt,hw1,hc,c,hb,Zi,Q1];apply hi <;> simp[h1,h2]
  ·have e:Y9 t.name us (normL (x:: post))=(QE,(Q9 x).2):=by simp[Y9,normL,c]
   rw[e];simp[h1,h2,h4,h5,hg2,hlt,hc,c,QR,QG]
theorem Qbw: ∀(t:Tm) (bs:List (List AV)),QS t=true→t.mass+13200*t.nodes < 15000000→call F.tb 242 [.agg (Qb t)] bs=some (QP (Q9 t),bs):=by
 refine Zo ?_;intro k n s ks ih bs hg hm;have hme:=Qu (.mk k n s ks);have hne:=Yo (.mk k n s ks);simp only[QZ,Zu]at hme hne;rw[Qa F.tb_242 _ _ rfl];by_cases hk:k=3
 ·subst hk;have hl:=fun ρ=>G2 (.mk 3 n s ks) bs hg rfl hm (fun x hx bs=>ih x hx bs (Yt.1 (XL hg) x hx) (by have h1:x.mass≤massL ks:=QB hx;have h2:x.nodes≤nodesL ks:=RP hx;omega)) ks [] [] ρ rfl rfl rfl (by simp[massL]);have e:Q9 (.mk 3 n s ks)=Y9 n [] (normL ks):=by simp[Q9,Y9]
  rw[e];simp only[Zu,QZ]at hl;simp[F.f242C];apply hl <;> simp[encTs]
 ·have e:Q9 (.mk k n s ks)=(.mk k n s ks,0):=by simp[Q9,hk]
  rw[e];simp[F.f242C,hk,QR]
def ZJ (t:Tm):Tm×Int:=if thV t≠0 then(QE,thV t)else if(Q9 t).2≠0 then(QE,(Q9 t).2)else if QM (Q9 t).1≠0 then(QE,QM (Q9 t).1)else((Q9 t).1,0)
theorem GF {t:Tm} (h:thV t=0):QM t=0∧Yn t=0∧QS t=true∧t.mass≤13200∧t.nodes≤400:=by
 unfold thV at h;split at h
 ·rename_i h1;exact absurd h h1
 ·rename_i h1;have h2:QM t=0:=by simpa using h1
  obtain⟨a,b,c⟩:=Uz h2;exact⟨h2,h,Ny t a h,c,b⟩
theorem NQ (t:Tm): (ZJ t).1.mass≤13200:=by
 unfold ZJ;split
 ·show QE.mass≤_;rw[Vv];omega
 ·split
  ·show QE.mass≤_;rw[Vv];omega
  ·split
   ·show QE.mass≤_;rw[Vv];omega
   ·rename_i h;exact(Uz (by simpa using h)).2.2
theorem Qbf (t:Tm) (bs:List (List AV)) (hm:t.mass < big):call F.tb 174 [.agg (Qb t)] bs=some (QP (ZJ t),bs):=by
 have h1:=Pp t bs hm;rw[Qa F.tb_174 _ _ rfl];by_cases c1:thV t=0
 ·obtain⟨_,_,hg,hma,hno⟩:=GF c1;have h2:=Qbg t bs hg (by omega);obtain⟨n1,n2⟩:=U2 t hg;have h3:=XI (Q9 t).1 bs (by unfold big;omega);simp only[QP]at h2;by_cases c2: (Q9 t).2=0
  ·by_cases c3:QM (Q9 t).1=0
   ·have e:ZJ t=((Q9 t).1,0):=by simp[ZJ,c1,c2,c3]
    rw[e];simp[F.f174C,h1,h2,h3,c1,c2,c3,QR]
   ·have e:ZJ t=(QE,QM (Q9 t).1):=by simp[ZJ,c1,c2,c3]
    rw[e];simp[F.f174C,h1,h2,h3,c1,c2,c3,QR,QG]
  ·have e:ZJ t=(QE,(Q9 t).2):=by simp[ZJ,c1,c2]
   rw[e];simp[F.f174C,h1,h2,c1,c2,QR,QG]
 ·have e:ZJ t=(QE,thV t):=by simp[ZJ,c1]
  rw[e];simp[F.f174C,h1,c1,QR,QG]
theorem Qbv (t:Tm) (bs:List (List AV)) (hm:t.mass < big):call F.tb 241 [.agg (Qb t)] bs=some (QP (ZJ t),bs):=by
 have h1:=Ph t bs hm;rw[Qa F.tb_241 _ _ rfl];by_cases c1:thV t=0
 ·obtain⟨_,_,hg,hma,hno⟩:=GF c1;have h2:=Qbw t bs hg (by omega);obtain⟨n1,n2⟩:=U2 t hg;have h3:=YY (Q9 t).1 bs (by unfold big;omega);simp only[QP]at h2;by_cases c2: (Q9 t).2=0
  ·by_cases c3:QM (Q9 t).1=0
   ·have e:ZJ t=((Q9 t).1,0):=by simp[ZJ,c1,c2,c3]
    rw[e];simp[F.f241C,h1,h2,h3,c1,c2,c3,QR]
   ·have e:ZJ t=(QE,QM (Q9 t).1):=by simp[ZJ,c1,c2,c3]
    rw[e];simp[F.f241C,h1,h2,h3,c1,c2,c3,QR,QG]
  ·have e:ZJ t=(QE,(Q9 t).2):=by simp[ZJ,c1,c2]
   rw[e];simp[F.f241C,h1,h2,c1,c2,QR,QG]
 ·have e:ZJ t=(QE,thV t):=by simp[ZJ,c1]
  rw[e];simp[F.f241C,h1,c1,QR,QG]
theorem Qbs (n:List UInt8) (bs:List (List AV)):call F.tb 206 [.str n] bs=some (.bool (!Wg n),bs):=by
 have h:=YU n bs;have hk:=FB n;rw[Qa F.tb_206 _ _ rfl,← hk];unfold V8;cases hf:Zm n Yy with
 | none=>
  rw[hf]at h;simp[F.f206C,h]
 | some y=>
  rw[hf]at h;simp[F.f206C,h,XD]
def ndN (t:Tm):Bool:= !(decide (t.kind=3) && Wg t.name)
mutual
def evT:Tm→Bool
 | .mk k n s ks=>ndN (.mk k n s ks) && evL ks
def evL:List Tm→Bool
 | []=>true
 | t:: ts=>evT t && evL ts
end
theorem Qe6 (t:Tm):evT t=(ndN t && evL t.kids):=by cases t;simp[evT]
mutual
theorem Gj: ∀t:Tm,evT t=(Zh t).all ndN
 | .mk k n s ks=>by simp only[evT,Zh,List.all_cons,evL_all ks]
theorem evL_all: ∀ts:List Tm,evL ts=(allL ts).all ndN
 | []=>rfl
 | t:: ts=>by simp only[evL,allL,List.all_append,Gj t,evL_all ts]
end
theorem Fq (t:Tm) (bs:List (List AV)) (hm:t.mass < big) (ih: ∀x∈t.kids,∀bs,call F.tb 207 [.agg (Qb x),.fn 206 []] bs=some (.bool (evT x),bs)):
  ∀(post pre:List Tm) (ρ:Nat→AV),t.kids=pre ++ post→ρ 1= .fn 206 []→ρ 18= .sl false 4 (encTs t.kids)→ρ 19= .int .i64 t.kids.length→ρ 20= .int .i64 pre.length→
  R F.tb (.loop F.f207l0) ρ bs (Qi 0 (Qs F.tb F.f207r0 (Qy F.f207 bs)))=some (.bool (evL post),bs):=by
 have hm2:=Qu t;unfold big at hm;intro post
 induction post with
 | nil=>
  intro pre ρ hk h1 h18 h19 h20;simp only[List.append_nil]at hk;rw[← hk]at h20;rw[Qc F.f207l0.eq_1];simp[h1,h18,h19,h20,F.f207r0,evL]
 | cons x post IH=>
  intro pre ρ hk h1 h18 h19 h20;have hg:=Qn hk;have hll:=Qv hk;have hw1:=wr1 pre.length (by omega);have hlt:=Qw hk;have hc:=ih x (by rw[hk];simp) bs;rw[Qc F.f207l0.eq_1];cases hb:evT x
  ·simp[h1,h18,h19,h20,hg,hlt,hc,hb,evL]
  ·have h2:=fun ρ=>IH (pre ++ [x]) ρ (by rw[hk];simp);simp[h1,h18,h19,h20,hg,hlt,hw1,hc,hb,evL];apply h2 <;> simp[h1,h18,h19]
theorem Qbt: ∀(t:Tm) (bs:List (List AV)),t.mass < big→call F.tb 207 [.agg (Qb t),.fn 206 []] bs=some (.bool (evT t),bs):=by
 refine Zo ?_;intro k n s ks ih bs hm;have hl:=fun ρ=>Fq (.mk k n s ks) bs hm (fun x hx bs=>ih x hx bs (by have h1:x.mass≤massL ks:=QB hx;have:=Qu (.mk k n s ks);simp only[QZ]at this;omega)) ks [] ρ rfl;have h2:=Qbs n bs;simp only[QZ]at hl;rw[Qa F.tb_207 _ _ rfl,Qe6];by_cases hk:k=3
 ·cases hd:Wg n
  ·have e:ndN (.mk k n s ks)=true:=by simp[ndN,hd]
   rw[e];simp[F.f207C,hk,hd,h2];apply hl <;> simp
  ·have e:ndN (.mk k n s ks)=false:=by simp[ndN,hd,hk]
   rw[e];simp[F.f207C,hk,hd,h2]
 ·have e:ndN (.mk k n s ks)=true:=by simp[ndN,hk]
  rw[e];simp[F.f207C,hk];apply hl <;> simp
def VH (t:Tm):Bool:=decide ((ZJ t).2=0) && decide (Qm (ZJ t).1 t=0) && evT t
theorem Qbe (t:Tm) (bs:List (List AV)) (hm:t.mass < big):call F.tb 173 [.agg (Qb t)] bs=some (.bool (VH t),bs):=by
 have h1:=Qbf t bs hm;have hnm:=NQ t;have h2:=Ob (ZJ t).1 t bs (by unfold big;omega) hm;have h3:=Qbt t bs hm;simp only[QP]at h1;rw[Qa F.tb_173 _ _ rfl];by_cases c1: (ZJ t).2=0
 ·by_cases c2:Qm (ZJ t).1 t=0
  ·simp[F.f173C,h1,h2,h3,c1,c2,VH]
  ·simp[F.f173C,h1,h2,h3,c1,c2,VH]
 ·simp[F.f173C,h1,c1,VH]
theorem IU (l:List Tm) (bs:List (List AV)) (hl:l.length < 100000000): ∀(post pre:List Tm) (o:Bool) (ρ:Nat→AV),l=pre ++ post→ρ 5= .sl o 4 (encTs l)→ρ 6= .int .i64 pre.length→
  R F.tb (.loop F.f240l0) ρ bs (Qi 0 (Qs F.tb F.f240r0 (Qy F.f240 bs)))=some (.bool (post.all ndN),bs):=by
 intro post
 induction post with
 | nil=>
  intro pre o ρ hk h5 h6;simp only[List.append_nil]at hk;rw[← hk]at h6;rw[Qc F.f240l0.eq_1];simp[h5,h6,F.f240r0]
 | cons x post IH=>
  intro pre o ρ hk h5 h6;have hg:=Qn hk;have hll:=Qv hk;have hw1:=wr1 pre.length (by omega);have hlt:=Qw hk;have hc:=HM x.name bs;have hk3:=FB x.name;have h2:=fun ρ=>IH (pre ++ [x]) o ρ (by rw[hk];simp);rw[List.all_cons];rw[Qc F.f240l0.eq_1];by_cases ck:x.kind=3
  ·cases hd:Wg x.name
   ·rw[hd]at hk3;have hk3': ¬V8 x.name=3:=by simpa using hk3
    have e:ndN x=true:=by simp[ndN,hd]
    rw[e,Bool.true_and];generalize V8 x.name=KK at *;simp[h5,h6,hg,hlt,hw1,hc,ck,hk3',-List.all_eq_true];apply h2 <;> simp[h5]
   ·rw[hd]at hk3;have hk3':V8 x.name=3:=by simpa using hk3
    have e:ndN x=false:=by simp[ndN,hd,ck]
    rw[e,Bool.false_and];simp[h5,h6,hg,hlt,hc,ck,hk3']
  ·have e:ndN x=true:=by simp[ndN,ck]
   rw[e,Bool.true_and];simp[h5,h6,hg,hlt,hw1,ck,-List.all_eq_true];apply h2 <;> simp[h5]
theorem Qbu (t:Tm) (bs:List (List AV)) (hm:t.mass < 1000000):call F.tb 240 [.agg (Qb t)] bs=some (.bool (VH t),bs):=by
 have hmb:t.mass < big:=by unfold big;omega
 have h1:=Qbv t bs hmb;have hnm:=NQ t;have h2:=We t (ZJ t).1 bs hmb (by unfold big;omega);have hsym:decide (Qm t (ZJ t).1=0)=decide (Qm (ZJ t).1 t=0):=by
  have:=Y0 t (ZJ t).1;rw[decide_eq_decide];omega
 rw[hsym]at h2;have h3:=OO t bs (by omega);have hlen:=Xu t;have hnn:=ZK t;have h4:=fun o ρ=>IU (Zh t) bs (by omega) (Zh t) [] o ρ rfl;simp only[QP]at h1;rw[Qa F.tb_240 _ _ rfl];have e:VH t=(decide ((ZJ t).2=0) && decide (Qm (ZJ t).1 t=0) && (Zh t).all ndN):=by rw[← Gj];rfl
 rw[e];by_cases c1: (ZJ t).2=0
 ·by_cases c2:Qm (ZJ t).1 t=0
  ·simp[F.f240C,h1,h2,h3,c1,c2,-List.all_eq_true];refine h4 false _ ?_ ?_ <;> simp
  ·simp[F.f240C,h1,h2,c1,c2]
 ·simp[F.f240C,h1,c1]
def ZP (x:Tm):Int:=if thV x≠0 then thV x else if W7 x≠[]then 13 else if VH x then 0 else 10
def YR:List Tm→Int
 | []=>0
 | x:: r=>if ZP x≠0 then ZP x else YR r
theorem HP (x:Tm) (bs:List (List AV)) (hm:x.mass < 1000000):call F.tb 233 [.agg (Qb x)] bs=some (.int .i64 (ZP x),bs):=by
 have c1:=Ph x bs (by unfold big;omega);have c2:=IZ x bs (by omega);have c3:=Qbu x bs hm;rw[Qa F.tb_233 _ _ rfl];by_cases e1:thV x=0
 ·by_cases e2:W7 x=[]
  ·cases e3:VH x
   ·simp[F.f233C,c1,c2,c3,e1,e2,e3,ZP]
   ·simp[F.f233C,c1,c2,c3,e1,e2,e3,ZP]
  ·simp[F.f233C,c1,c2,e1,e2,ZP]
 ·simp[F.f233C,c1,e1,ZP]
def eqB (y x:Tm):Bool:=decide (Qm x y=0)
def TS (B0 B:List (List AV)) (v:AV) (l:List Tm):Prop:=∃(M:List (List AV)) (id sz:Nat),B=B0 ++ M∧v= .gs id 0 sz l.length∧
 ((sz=0∧id=0∧l=[])∨(sz=4∧B0.length≤id∧l≠[]∧B[id]? =some (Ql l)))
theorem Z3 {B0 B:List (List AV)} {v:AV} {l:List Tm} (h:TS B0 B v l): ∃id sz,v= .gs id 0 sz l.length:=by
 obtain⟨M,id,sz,_,rfl,_⟩:=h;exact⟨id,sz,rfl⟩
theorem PZ (B0:List (List AV)):TS B0 B0 (.gs 0 0 0 0) []:=⟨[],0,0,by simp,rfl,.inl ⟨rfl,rfl,rfl⟩⟩
theorem Au (l:List Tm) (x:Tm):l.any (eqB x)=Z2 l x:=rfl
def Qg6 (i:Nat):Tm:= .mk 1 (119:: Qg3 i) 0 []
def hbs:Nat→List Tm→List (List AV)
 | _,[]=>[]
 | k,t:: ts=>(Qb (Qg6 k)++ Qb t):: hbs (k+1) ts
theorem Fd (x y:Tm) (bs:List (List AV)) (hx:x.mass < big) (hy:y.mass < big):call F.tb 496 [.agg (Qb x),.agg (Qb y)] bs=some (.bool (decide (Qm x y=0)),bs):=by
 rw[Qa F.tb_496 _ _ rfl];have h:=call_Compare x y bs hx hy;simp[F.f496C,QC,h]
def EqF (f:Nat):Prop:=∀(x y:Tm) (bs:List (List AV)),x.mass < big→y.mass < big→call F.tb f [.agg (Qb x),.agg (Qb y)] bs=some (.bool (decide (Qm x y=0)),bs)
theorem Qe3:EqF 496:=Fd
def Rp (L:List Tm) (B:List (List AV)) (id:Nat) (r:Option (AV×List (List AV))):Prop:=r=some (.sl true 4 (encTs L),B.set id [])
theorem BD (B:List (List AV)) (id n:Nat) (D:List Tm) (c:List AV) (hB:id < B.length) (hc:c.length=n*4) (hD:D.length≤n) (hn:n < 100000000) (ht:c.take (D.length*4)=Ql D) (hDne:D≠[])
  (ρ:Nat→AV) (h0:ρ 0= .gs id 0 4 n) (h5:ρ 5= .int .i64 D.length):
  R F.tb F.f497r0 ρ (B.set id c) (Qi 1 (Qs F.tb F.f497r1 (Qs F.tb (.loop F.f497l1) (Qi 0 (Qs F.tb F.f497r2 (Qy F.f497 B))))))=
   some (.sl true 4 (encTs D),B.set id []):=by
 have e1: (0:Int)≤(D.length:Int):=by omega
 have e2: (D.length:Int)≤(n:Int):=by omega
 have hl0: ¬D.length=0:=fun e=>hDne (List.eq_nil_of_length_eq_zero e);have hg:=encTs_gp D;have hch: ∀t,ZE (Ql D ++ t) 0 4 D.length=encTs D:=fun t=>by
  have:=YX (f:=Qb) (k:=4) QA Q5 D t;rw[WM]at this;exact this
 have hlen: (Ql D).length=D.length*4:=Zv QA D;have hput:c.take (D.length*4)++ (List.replicate ((n - D.length)*4) AV.undef ++ c.drop (D.length*4+ (n - D.length)*4))=Ql D ++ List.replicate ((n - D.length)*4) .undef:=by
  rw[ht,List.drop_eq_nil_of_le (by rw[hc,← Nat.add_mul];exact Nat.mul_le_mul_right _ (by omega))];simp
 have hle:D.length*4+ (n - D.length)*4≤n*4:=by rw[← Nat.add_mul];exact Nat.mul_le_mul_right _ (by omega)
 by_cases hz:n - D.length=0
 ·have hDn:D.length=n:=by omega
  have hcc:c=Ql D:=by rw[← ht,List.take_of_length_le (by omega)]
  have hch0:=hch [];rw[List.append_nil]at hch0;rw[← hcc]at hch0 hlen;have hlc:D.length*4≤c.length:=by omega
  generalize encTs D=E at *;simp[F.f497r0,h0,h5,e1,e2,hD,hz,hl0,ZY,hB,hlc,hch0,hg,List.take_of_length_le]
 ·have hchr:=hch (List.replicate ((n - D.length)*4) .undef);have hlr:D.length*4≤(Ql D ++ List.replicate ((n - D.length)*4) AV.undef).length:=by rw[List.length_append];omega
  rw[← hput]at hchr hlr;generalize encTs D=E at *;generalize hX:c.take (D.length*4)++ (List.replicate ((n - D.length)*4) AV.undef ++ c.drop (D.length*4+ (n - D.length)*4))=X at *;simp[F.f497r0,h0,h5,e1,e2,hD,hz,hB,hc,hle,hX,hl0,ZY,hlr,hchr,hg,List.take_of_length_le]
theorem BB (f:Nat) (hf:EqF f) (B:List (List AV)) (id n k0:Nat) (hB:id < B.length) (hn:n < 100000000): ∀(post D mid:List Tm) (prev:Tm) (k2:Nat) (ρ:Nat→AV),D≠[]→D.length+mid.length+1+post.length=n→k0+k2=D.length+mid.length+1→0 < k2→
   (∀x∈prev:: post,x.mass < big)→ρ 0= .gs id 0 4 n→ρ 1= .fn f []→ρ 5= .int .i64 D.length→ρ 6= .gs id (k0*4) 4 (n - k0)→ρ 7= .int .i64 k2→
  Rp (D ++ Zt prev post) B id (R F.tb (.loop F.f497l0) ρ (B.set id (Ql (D ++ mid ++ prev:: post)))
   (Qi 2 (Qs F.tb F.f497r0 (Qi 1 (Qs F.tb F.f497r1 (Qs F.tb (.loop F.f497l1) (Qi 0 (Qs F.tb F.f497r2 (Qy F.f497 B))))))))):=by
 intro post
 induction post with
 | nil=>
  intro D mid prev k2 ρ hDne hl hk hk2 hm h0 h1 h5 h6 h7;have hlen: (Ql (D ++ mid ++ [prev])).length=n*4:=by rw[Zv QA];simp at hl ⊢;omega
  have ht: (Ql (D ++ mid ++ [prev])).take (D.length*4)=Ql D:=by
   have:=U7 (f:=Qb) (k:=4) QA (l:=D ++ mid ++ [prev]) (pre:=D) (post:=mid ++ [prev]) (by simp) [];simpa using this
  have hr:=fun ρ a b=>BD B id n D (Ql (D ++ mid ++ [prev])) hB hlen (by omega) hn ht hDne ρ a b;have hl':D.length+mid.length+1=n:=by simpa using hl
  have hnl: ¬((k2:Int) < ((n - k0:Nat):Int)):=by omega
  have hnl2: ¬(k2 < n - k0):=by omega
  rw[Qc F.f497l0.eq_1];simp only[Zt,List.append_nil];unfold Rp;simp[h0,h1,h5,h6,h7,hnl,hnl2];simp only[List.append_assoc]at hr;refine hr _ ?_ ?_ <;> simp[h0,h5]
 | cons x post IH=>
  intro D mid prev k2 ρ hDne hl hk hk2 hm h0 h1 h5 h6 h7;have hlen: (Ql (D ++ mid ++ prev:: x:: post)).length=n*4:=by rw[Zv QA];simp at hl ⊢;omega
  have hst: (Ql (D ++ mid ++ prev:: x:: post)).map AV.strip=Ql (D ++ mid ++ prev:: x:: post):=ZV Q5 _;have r1: ((Ql (D ++ mid ++ prev:: x:: post)).drop (k0*4+k2*4)).take 4=Qb x:=by
   have:=X6 (f:=Qb) (k:=4) QA (l:=D ++ mid ++ prev:: x:: post) (pre:=D ++ mid ++ [prev]) (post:=post) (x:=x) (by simp) [];rw[← Nat.add_mul,hk];simpa[Nat.add_assoc]using this
  have r2: ((Ql (D ++ mid ++ prev:: x:: post)).drop (k0*4+ (k2 - 1)*4)).take 4=Qb prev:=by
   have:=X6 (f:=Qb) (k:=4) QA (l:=D ++ mid ++ prev:: x:: post) (pre:=D ++ mid) (post:=x:: post) (x:=prev) (by simp) [];rw[← Nat.add_mul,show k0+ (k2 - 1)=D.length+mid.length by omega];simpa[Nat.add_assoc]using this
  have hput: (Ql (D ++ mid ++ prev:: x:: post)).take (D.length*4)++ (Qb x ++ (Ql (D ++ mid ++ prev:: x:: post)).drop (D.length*4+4))=Ql ((D ++ [x])++ (mid ++ [prev]).tail ++ x:: post):=by
   obtain⟨y,m2,hy⟩: ∃y m2,mid ++ [prev]=y:: m2:=by cases mid <;> simp
   have:=Ro (f:=Qb) (k:=4) QA (l:=D ++ mid ++ prev:: x:: post) (pre:=D) (post:=m2 ++ x:: post) (x:=y) x (by
    have:D ++ mid ++ prev:: x:: post=D ++ (mid ++ [prev])++ x:: post:=by simp
    rw[this,hy];simp) []
   rw[hy];simpa using this
  have hw1:IntKind.i64.wrap ((k2:Int) - 1)=((k2 - 1:Nat):Int):=by rw[Zd (by omega) (by omega)];omega
  have hw2:IntKind.i64.wrap ((k2:Int)+1)=((k2+1:Nat):Int):=by rw[Zd (by simp at hl;omega) (by simp at hl;omega)];omega
  have hw3:IntKind.i64.wrap ((D.length:Int)+1)=((D.length+1:Nat):Int):=by rw[Zd (by simp at hl;omega) (by simp at hl;omega)];omega
  have hlt: (k2:Int) < ((n - k0:Nat):Int):=by simp at hl;omega
  have hlt1:k2 < n - k0:=by simp at hl;omega
  have hlt2: ((k2 - 1:Nat):Int) < ((n - k0:Nat):Int):=by simp at hl;omega
  have hlt2':k2 - 1 < n - k0:=by simp at hl;omega
  have hlt3: (D.length:Int) < (n:Int):=by simp at hl;omega
  have hlt3':D.length < n:=by simp at hl;omega
  have hb1:k0*4+k2*4+4≤n*4:=by simp at hl;omega
  have hb2:k0*4+ (k2 - 1)*4+4≤n*4:=by simp at hl;omega
  have hb3:D.length*4+4≤n*4:=by simp at hl;omega
  have hnn: (0:Int)≤((k2 - 1:Nat):Int):=by omega
  have hc:=fun bs=>hf x prev bs (hm x (by simp)) (hm prev (by simp));have hcast: ((k2 - 1:Nat):Int).toNat=k2 - 1:=by omega
  have ih1:=IH D (mid ++ [prev]) x (k2+1);have ih2:=IH (D ++ [x]) (mid ++ [prev]).tail x (k2+1);have htl: ((mid ++ [prev]).tail).length=mid.length:=by simp
  rw[show D ++ (mid ++ [prev])++ x:: post=D ++ mid ++ prev:: x:: post by simp]at ih1;rw[Qc F.f497l0.eq_1];generalize Ql (D ++ mid ++ prev:: x:: post)=c at *;generalize hkm:k2 - 1=km at *;generalize n - k0=nk at *;by_cases he:Qm x prev=0
  ·have e:Zt prev (x:: post)=Zt x post:=by simp[Zt,he]
   rw[e];simp[h0,h1,h5,h6,h7,hlt,hlt1,hlt2,hlt2',hnn,hw1,hw2,hb1,hb2,hB,hlen,hst,r1,r2,hc,he,hcast];refine ih1 _ hDne (by simp at hl ⊢;omega) (by simp;omega) (by omega) (fun y hy=>hm y (by simp at hy ⊢;rcases hy with h | h <;> simp[h])) ?_ ?_ ?_ ?_ ?_ <;> simp[h0,h1,h5,h6]
  ·have e:D ++ Zt prev (x:: post)=D ++ x:: Zt x post:=by simp[Zt,he]
   rw[e];simp only[List.append_assoc,List.cons_append,List.nil_append]at ih2;simp[h0,h1,h5,h6,h7,hlt,hlt1,hlt2,hlt2',hlt3,hlt3',hnn,hw1,hw2,hw3,hb1,hb2,hb3,hB,hlen,hst,r1,r2,hc,he,hcast,hput];refine ih2 _ (by simp) (by simp at hl ⊢;omega) (by simp;omega) (by omega) (fun y hy=>hm y (by simp at hy ⊢;rcases hy with h | h <;> simp[h])) ?_ ?_ ?_ ?_ ?_ <;> simp[h0,h1,h5,h6]
theorem BC (f:Nat) (hf:EqF f) (B:List (List AV)) (id n:Nat) (hB:id < B.length) (hn:n < 100000000): ∀(post pre:List Tm) (prev:Tm) (ρ:Nat→AV),pre.length+1+post.length=n→
   (∀x∈prev:: post,x.mass < big)→ρ 0= .gs id 0 4 n→ρ 1= .fn f []→ρ 5= .int .i64 (pre.length+1:Nat)→
  Rp (pre ++ prev:: Zt prev post) B id (R F.tb (.loop F.f497l1) ρ (B.set id (Ql (pre ++ prev:: post)))
   (Qi 0 (Qs F.tb F.f497r2 (Qy F.f497 B)))):=by
 intro post
 induction post with
 | nil=>
  intro pre prev ρ hl hm h0 h1 h5;have hl':pre.length+1=n:=by simpa using hl
  have hnl: ¬((pre.length:Int)+1 < (n:Int)):=by omega
  rw[Qc F.f497l1.eq_1];have hlen: (Ql (pre ++ [prev])).length=n*4:=by rw[Zv QA];simp;omega
  have hn0: ¬n=0:=by omega
  have hch:ZE (Ql (pre ++ [prev])) 0 4 n=encTs (pre ++ [prev]):=by
   have:=YX (f:=Qb) (k:=4) QA Q5 (pre ++ [prev]) [];rw[List.append_nil,WM]at this;rw[← this,← hl'];simp
  have hg:=encTs_gp (pre ++ [prev]);simp only[Rp,Zt];generalize Ql (pre ++ [prev])=c at *;generalize encTs (pre ++ [prev])=e at *;simp[h0,h1,h5,hnl,F.f497r2,hl',ZY,hn0,hB,hlen,hch,hg,List.take_of_length_le]
 | cons x post IH=>
  intro pre prev ρ hl hm h0 h1 h5;have hl':pre.length+1+ (post.length+1)=n:=by simpa using hl
  have hlen: (Ql (pre ++ prev:: x:: post)).length=n*4:=by rw[Zv QA];simp;omega
  have hst: (Ql (pre ++ prev:: x:: post)).map AV.strip=Ql (pre ++ prev:: x:: post):=ZV Q5 _;have r1: ((Ql (pre ++ prev:: x:: post)).drop ((pre.length+1)*4)).take 4=Qb x:=by
   have:=X6 (f:=Qb) (k:=4) QA (l:=pre ++ prev:: x:: post) (pre:=pre ++ [prev]) (post:=post) (x:=x) (by simp) [];simpa using this
  have r2: ((Ql (pre ++ prev:: x:: post)).drop (pre.length*4)).take 4=Qb prev:=by
   have:=X6 (f:=Qb) (k:=4) QA (l:=pre ++ prev:: x:: post) (pre:=pre) (post:=x:: post) (x:=prev) (by simp) [];simpa using this
  have hw1:IntKind.i64.wrap (pre.length:Int)=(pre.length:Int):=Zd (by omega) (by omega);have hw2:IntKind.i64.wrap ((pre.length:Int)+1+1)=(pre.length:Int)+1+1:=Zd (by omega) (by omega);have hlt: (pre.length:Int)+1 < (n:Int):=by omega
  have hlt2: (pre.length:Int) < (n:Int):=by omega
  have hb1: (pre.length+1)*4+4≤n*4:=by omega
  have hb2:pre.length*4+4≤n*4:=by omega
  have hnn: (0:Int)≤(pre.length:Int)+1:=by omega
  have hle: (pre.length:Int)+1≤(n:Int):=by omega
  have hcast: ((pre.length:Int)+1).toNat=pre.length+1:=by omega
  have hc:=fun bs=>hf x prev bs (hm x (by simp)) (hm prev (by simp));have ih1:=IH (pre ++ [prev]) x;have ih2:=BB f hf B id n (pre.length+1) hB hn post (pre ++ [prev]) [] x 1;simp only[List.append_assoc,List.cons_append,List.nil_append]at ih1 ih2;rw[Qc F.f497l1.eq_1];generalize Ql (pre ++ prev:: x:: post)=c at *;by_cases he:Qm x prev=0
  ·have e:Zt prev (x:: post)=Zt x post:=by simp[Zt,he]
   rw[e];simp[h0,h1,h5,hlt,hlt2,hnn,hle,hw1,hw2,hb1,hb2,hB,hlen,hst,r1,r2,hc,he,hcast];refine ih2 _ (by simp) (by simp;omega) (by simp) (by omega) (fun y hy=>hm y (by simp at hy ⊢;rcases hy with h | h <;> simp[h])) ?_ ?_ ?_ ?_ ?_ <;> simp[h0,h1,h5]
  ·have e:pre ++ prev:: Zt prev (x:: post)=pre ++ prev:: x:: Zt x post:=by simp[Zt,he]
   rw[e];simp[h0,h1,h5,hlt,hlt2,hnn,hle,hw1,hw2,hb1,hb2,hB,hlen,hst,r1,r2,hc,he,hcast,F.f497r1];refine ih1 _ (by simp;omega) (fun y hy=>hm y (by simp at hy ⊢;rcases hy with h | h <;> simp[h])) ?_ ?_ ?_ <;> simp[h0,h1,h5]
theorem HT (f:Nat) (hf:EqF f) (L:List Tm) (B:List (List AV)) (id:Nat) (hid:B[id]? =some (Ql L)) (hne:L≠[]) (hn:L.length < 100000000) (hm: ∀x∈L,x.mass < big):
  Rp (Y8 L) B id (call F.tb 497 [.gs id 0 4 L.length,.fn f []] B):=by
 have hB:=XK hid;have hset:B.set id (Ql L)=B:=IF hid
 match L with
 | []=>exact absurd rfl hne
 | [x]=>
  have hch:ZE (Ql [x]) 0 4 1=encTs [x]:=by
   have:=YX (f:=Qb) (k:=4) QA Q5 [x] [];rw[List.append_nil,WM]at this;exact this
  have hlen: (Ql [x]).length=4:=Zv QA [x];have hg:=encTs_gp [x];rw[Qa F.tb_497 _ _ rfl]
  show _=some (_,_);rw[show Y8 [x]=[x] by simp[Y8]];generalize encTs [x]=E at *;generalize Ql [x]=c at *;simp[-getElem?_pos,F.f497C,ZY,hid,hlen,hch,hg,hB,List.take_of_length_le]
 | x:: y:: r=>
  have h:=BC f hf B id (r.length+2) hB (by simpa using hn) (y:: r) [] x;rw[Qa F.tb_497 _ _ rfl,Us];simp only[List.nil_append,hset]at h;have hge: ¬((r.length:Int)+1+1 < 2):=by omega
  simp[F.f497C,hge];refine h _ (by simp;omega) (fun z hz=>hm z hz) ?_ ?_ ?_ <;> simp
theorem Jz (f:Nat) (B:List (List AV)):call F.tb 497 [.gs 0 0 0 0,.fn f []] B=some (.sl true 4 [],B):=by
 rw[Qa F.tb_497 _ _ rfl];simp[F.f497C,ZY]
def Ch (B1 B:List (List AV)):Prop:=B1.length≤B.length∧∀(i:Nat) (x y:List AV),B1[i]? =some x→B[i]? =some y→x=y∨gpfreeL y=true
theorem Ch.refl (B:List (List AV)):Ch B B:=⟨Nat.le_refl _,fun i x y h1 h2=> .inl (by rw[h1]at h2;injection h2)⟩
theorem Ch.trans {B1 B2 B3:List (List AV)} (h:Ch B1 B2) (k:Ch B2 B3):Ch B1 B3:=⟨Nat.le_trans h.1 k.1,fun i x z h1 h3=>by
 have hlt:i < B1.length:=by
  rcases Nat.lt_or_ge i B1.length with g | g
  ·exact g
  ·rw[List.getElem?_eq_none g]at h1;cases h1
 have hlt2:i < B2.length:=Nat.lt_of_lt_of_le hlt h.1;obtain⟨y,hy⟩: ∃y,B2[i]? =some y:=⟨_,List.getElem?_eq_getElem hlt2⟩;rcases k.2 i y z hy h3 with e | e
 ·subst e;exact h.2 i x y h1 hy
 ·exact .inr e⟩
theorem Ch.set {B1 B:List (List AV)} (h:Ch B1 B) {c:List AV} (hc:gpfreeL c=true) (id:Nat):Ch B1 (B.set id c):=⟨by rw[List.length_set];exact h.1,fun i x y h1 h2=>by
 rw[List.getElem?_set]at h2;split at h2
 ·split at h2
  ·injection h2 with h2;subst h2;exact .inr hc
  ·cases h2
 ·exact h.2 i x y h1 h2⟩
theorem Ch.app {B1 B:List (List AV)} (h:Ch B1 B) (M:List (List AV)):Ch B1 (B ++ M):=⟨by rw[List.length_append];have:=h.1;omega,fun i x y h1 h2=>by
 have hlt:i < B1.length:=by
  rcases Nat.lt_or_ge i B1.length with g | g
  ·exact g
  ·rw[List.getElem?_eq_none g]at h1;cases h1
 rw[List.getElem?_append_left (Nat.lt_of_lt_of_le hlt h.1)]at h2;exact h.2 i x y h1 h2⟩
theorem Ch.take {B1 B:List (List AV)} (h:Ch B1 B):YB B1 (B.take B1.length)=true:=Mq (by rw[List.length_take];have:=h.1;omega) fun i x y h1 h2=>by
 have hlt:i < B1.length:=by
  rcases Nat.lt_or_ge i B1.length with g | g
  ·exact g
  ·rw[List.getElem?_eq_none g]at h1;cases h1
 rw[List.getElem?_take_of_lt hlt]at h2;exact h.2 i x y h1 h2
theorem Vu {B0 B:List (List AV)} {v:AV} {l:List Tm} (x:Tm) (o:Bool) (h:TS B0 B v l) (hl:l.length < 1000000): ∃v' B',appM 56 4 v (.sl o 4 [Qb x]) B=some (v',B')∧TS B0 B' v' (l ++ [x])∧∀B1,Ch B1 B→Ch B1 B':=by
 obtain⟨M,id,sz,rfl,rfl,hc⟩:=h;have hb: (l.length+1)*56≤140737488355328:=ZS (by omega);have hs:XS 4 (.sl o 4 [Qb x]) (B0 ++ M)=some (1,Qb x):=by simp[XS]
 rcases hc with⟨rfl,rfl,rfl⟩ | ⟨rfl,hid,hne0,hbx⟩
 ·refine⟨.gs (B0 ++ M).length 0 4 1,B0 ++ (M ++ [Qb x]),?_,⟨M ++ [Qb x],(B0 ++ M).length,4,rfl,rfl,.inr ⟨rfl,by simp,by simp,?_⟩⟩,fun B1 hB=>by rw[← List.append_assoc];exact hB.app _⟩
  ·simp[appM,hs]
  ·rw[← List.append_assoc,List.getElem?_concat_length];simp[Ql,ZD]
 ·have hr: (Ql l).length=l.length*4:=Zv QA l;have hrow:Ql (l ++ [x])=Ql l ++ Qb x:=by simp[Ql,XF,UN]
  have hst: (Ql l).map AV.strip=Ql l:=ZV Q5 l;have hne:Ql l≠[]:=by
   intro e;rw[e]at hr;simp at hr
   exact hne0 (List.eq_nil_of_length_eq_zero (by omega))
  have hroom: ¬(l.length+1)*4≤(Ql l).length:=by omega
  refine⟨.gs (B0 ++ M).length 0 4 (l.length+1),(B0 ++ M).set id []++ [Ql l ++ Qb x],?_,⟨M.set (id - B0.length) []++ [Ql l ++ Qb x],(B0 ++ M).length,4,?_,by simp,.inr ⟨rfl,by simp,by simp,?_⟩⟩,fun B1 hB=>(hB.set rfl _).app _⟩
  ·simp only[appM,hs,Option.bind_some];rw[if_pos ⟨by omega,hb⟩,if_neg (by omega),if_neg (by omega),if_pos ⟨trivial,trivial⟩,hbx];simp only[Option.bind_some];rw[if_pos ⟨hne,by omega⟩,if_neg hroom,List.take_of_length_le (by omega),hst]
  ·rw[YH hid,List.append_assoc]
  ·have e: (B0 ++ M).length=((B0 ++ M).set id []).length:=by simp
   rw[hrow,e,List.getElem?_concat_length]
theorem QbL {B0 B:List (List AV)} {v:AV} {l:List Tm} (h:TS B0 B v l) (hl:l.length < 1000000) (hm: ∀x∈l,x.mass < 1000000):
  ∃M,call F.tb 495 [v] B=some (.sl true 4 (encTs (QT l)),B0 ++ M)∧Ch B (B0 ++ M)∧(B0 ++ M).length=B.length:=by
 obtain⟨M,id,sz,rfl,rfl,hc⟩:=h;rcases hc with⟨rfl,rfl,rfl⟩ | ⟨rfl,hid,hne,hb⟩
 ·have hs:call F.tb 170 [.gs 0 0 0 0,.fn 30 []] (B0 ++ M)=some (.tup [],B0 ++ M):=by rw[Xb F.tb_170];simp[Tx]
  have hc:=Jz 496 (B0 ++ M);refine⟨M,?_,Ch.refl _,rfl⟩;rw[Qa F.tb_495 _ _ rfl];simp[F.f495C,hs,hc,encTs,QT,Xt,List.take_of_length_le]
 ·have hmb: ∀x∈l,x.mass < big:=fun x hx=>by have:=hm x hx;unfold big;omega
  have hs:=Pn l (B0 ++ M) id hb (by omega) hmb;have hB:=XK hb;have hS: ((B0 ++ M).set id (Ql (ZA l)))[id]? =some (Ql (ZA l)):=by rw[List.getElem?_set,if_pos rfl,if_pos hB]
  have hsne:ZA l≠[]:=by
   intro e;obtain⟨x,hx⟩:=List.exists_mem_of_ne_nil l hne;have:=(WJ (l:=l)).2 hx;rw[e]at this;simp at this
  have hc:=HT 496 Qe3 (ZA l) ((B0 ++ M).set id (Ql (ZA l))) id hS hsne (by rw[XR];omega) fun x hx=>hmb x (WJ.1 hx);rw[TC,XR]at hc;unfold Rp at hc;rw[List.set_set]at hc;have hg:=encTs_gp (QT l);refine⟨M.set (id - B0.length) [],?_,by rw[← YH hid];exact(Ch.refl _).set rfl _,by simp⟩;rw[← YH hid,Qa F.tb_495 _ _ rfl];simp[-getElem?_pos,F.f495C,hs,hc,hg,List.take_of_length_le]
abbrev Nm:=List UInt8
def QO (l:List Nm):List (List AV):=l.map fun s=>[AV.str s]
theorem Qz (l:List Nm): (QO l).length=l.length:=by simp[QO]
theorem ZU {l:List Nm} {i:Nat} {s:Nm} (h:l[i]? =some s): (QO l)[i]? =some [AV.str s]:=by simp[QO,h]
theorem Nt {l pre post:List Nm} (h:l=pre ++ post): (QO l).take pre.length=QO pre:=by
 subst h;simp only[QO,List.map_append];rw[List.take_append_of_le_length (by simp),List.take_of_length_le (by simp)]
def ixF (l:List Nm) (x:Nm):Int:=if l.contains x then(l.idxOf x:Int)else -1
theorem CE {x:Nm} {post:List Nm}: ∀{pre:List Nm},x ∉ pre→(pre ++ x:: post).idxOf x=pre.length
 | [],_=>by simp[List.idxOf_cons]
 | a:: pre,h=>by
  have h1: (a == x)=false:=by simpa using fun e=>h (by simp[e])
  have h2:=CE (x:=x) (post:=post) (pre:=pre) fun e=>h (by simp[e]);rw[List.cons_append,List.idxOf_cons,h1,h2];simp
theorem CI {l pre post:List Nm} {x:Nm} (h:l=pre ++ x:: post) (hp:pre.contains x=false):ixF l x=pre.length:=by
 have hn:x ∉ pre:=by simpa using hp
 subst h;have: (pre ++ x:: post).contains x=true:=by simp
 rw[ixF,if_pos this,CE hn]
theorem CJ {l:List Nm} {x:Nm} (hp:l.contains x=false):ixF l x= -1:=by rw[ixF,hp];simp
theorem PJ {l:List Nm} {x:Nm}:decide (0≤ixF l x)=l.contains x:=by
 unfold ixF;cases h:l.contains x <;> simp
theorem CV {pre:List Nm} {x a:Nm} (hp:pre.contains x=false) (ho: ¬x=a): (pre ++ [a]).contains x=false:=by
 simp only[List.contains_eq_mem,decide_eq_false_iff_not,List.mem_append,List.mem_singleton]at hp ⊢;exact fun h=>h.elim hp ho
theorem FA (l:List Nm) (x:Nm) (bs:List (List AV)) (hl:l.length < 1000000):
  ∀(post pre:List Nm) (o:Bool) (ρ:Nat→AV),l=pre ++ post→pre.contains x=false→ρ 0= .sl o 1 (QO l)→ρ 1= .str x→ρ 7= .int .i64 l.length→ρ 8= .int .i64 pre.length→
  R F.tb (.loop F.f162l0) ρ bs (Qi 0 (Qs F.tb F.f162r0 (Qy F.f162 bs)))=some (.int .i64 (ixF l x),bs):=by
 intro post
 induction post with
 | nil=>
  intro pre o ρ hk hpp h0 h1 h7 h8;simp only[List.append_nil]at hk;rw[← hk]at h8 hpp;rw[Qc F.f162l0.eq_1,CJ hpp];simp[h0,h1,h7,h8,F.f162r0]
 | cons a post IH=>
  intro pre o ρ hk hpp h0 h1 h7 h8;have hgt:=ZU (Qn hk);have hll:=Qv hk;have hw1:=wr1 pre.length (by omega);have hlt:=Qw hk;have ih:=fun ρ hpp=>IH (pre ++ [a]) o ρ (by rw[hk];simp) hpp;rw[Qc F.f162l0.eq_1];by_cases ho:x=a
  ·rw[CI (by rw[hk,ho]) hpp];simp[h0,h1,h7,h8,hlt,hgt,← ho]
  ·have hb: (x == a)=false:=by simpa using ho
   have ih2:=fun ρ=>ih ρ (CV hpp ho);simp[h0,h1,h7,h8,hlt,hgt,hw1,hb,-List.contains_eq_mem];apply ih2 <;> simp[h0,h1,h7]
theorem Jx (l:List Nm) (x:Nm) (o:Bool) (bs:List (List AV)) (hl:l.length < 1000000):call F.tb 162 [.sl o 1 (QO l),.str x] bs=some (.int .i64 (ixF l x),bs):=by
 have h1:=fun ρ=>FA l x bs hl l [] false ρ rfl rfl;rw[Qa F.tb_162 _ _ rfl];simp[F.f162C,-List.contains_eq_mem];apply h1 <;> simp[Qz]
theorem Rv (l:List Nm) (x:Nm) (o:Bool) (bs:List (List AV)) (hl:l.length < 1000000):call F.tb 161 [.sl o 1 (QO l),.str x] bs=some (.bool (l.contains x),bs):=by
 have h:=Jx l x false bs hl;rw[Qa F.tb_161 _ _ rfl];simp[F.f161C,h,PJ,-List.contains_eq_mem]
theorem Cw (l:List Nm) (x:Nm) (bs:List (List AV)) (hl:l.length < 1000000):
  ∀(post pre:List Nm) (o:Bool) (ρ:Nat→AV),l=pre ++ post→pre.contains x=false→ρ 0= .sl o 1 (QO l)→ρ 1= .str x→ρ 5= .int .i64 pre.length→
  R F.tb (.loop F.f574l0) ρ bs (Qi 0 (Qs F.tb F.f574r0 (Qy F.f574 bs)))=some (.int .i64 (ixF l x),bs):=by
 intro post
 induction post with
 | nil=>
  intro pre o ρ hk hpp h0 h1 h8;simp only[List.append_nil]at hk;rw[← hk]at h8 hpp;rw[Qc F.f574l0.eq_1,CJ hpp];simp[h0,h1,h8,Qz,F.f574r0]
 | cons a post IH=>
  intro pre o ρ hk hpp h0 h1 h8;have hgt:=ZU (Qn hk);have hll:=Qv hk;have hw1:=wr1 pre.length (by omega);have hlt:=Qw hk;have ih:=fun ρ hpp=>IH (pre ++ [a]) o ρ (by rw[hk];simp) hpp;rw[Qc F.f574l0.eq_1];by_cases ho:x=a
  ·rw[CI (by rw[hk,ho]) hpp];simp[h0,h1,h8,hlt,hgt,Qz,← ho]
  ·have hb: (a == x)=false:=by simpa using fun e=>ho e.symm
   have ih2:=fun ρ=>ih ρ (CV hpp ho);simp[h0,h1,h8,hlt,hgt,hw1,hb,Qz,-List.contains_eq_mem];apply ih2 <;> simp[h0,h1]
theorem Rf (l:List Nm) (x:Nm) (o:Bool) (bs:List (List AV)) (hl:l.length < 1000000):call F.tb 574 [.sl o 1 (QO l),.str x] bs=some (.int .i64 (ixF l x),bs):=by
 have h1:=fun ρ=>Cw l x bs hl l [] false ρ rfl rfl;rw[Qa F.tb_574 _ _ rfl];simp[F.f574C,-List.contains_eq_mem];apply h1 <;> simp[Qz]
theorem CC (s:Nm) (bs:List (List AV)) (hl:s.length < 1000000):
  ∀(post pre:Nm) (ρ:Nat→AV),s=pre ++ post→pre.contains 35=false→ρ 0= .str s→ρ 3= .int .i64 pre.length→
  R F.tb (.loop F.f573l0) ρ bs (Qi 0 (Qs F.tb F.f573r0 (Qy F.f573 bs)))=some (.bool (s.contains 35),bs):=by
 intro post
 induction post with
 | nil=>
  intro pre ρ hk hpp h0 h3;simp only[List.append_nil]at hk;rw[← hk]at h3 hpp;rw[Qc F.f573l0.eq_1,hpp];simp[h0,h3,F.f573r0]
 | cons a post IH=>
  intro pre ρ hk hpp h0 h3;have hgt:=Qn hk;have hll:=Qv hk;have hw1:=wr1 pre.length (by omega);have hlt:=Qw hk;have ih:=fun ρ hpp=>IH (pre ++ [a]) ρ (by rw[hk];simp) hpp;rw[Qc F.f573l0.eq_1];by_cases ho:a=35
  ·have:s.contains 35=true:=by rw[hk,ho];simp
   rw[this];simp[h0,h3,hlt,hgt,ho]
  ·have hb: ¬a.toNat=35:=fun e=>ho (UInt8.toNat_inj.1 (by simpa using e));have ih2:=fun ρ=>ih ρ (by
    simp only[List.contains_eq_mem,decide_eq_false_iff_not,List.mem_append,List.mem_singleton]at hpp ⊢;exact fun h=>h.elim hpp fun e=>ho e.symm)
   have hbi: ¬((a.toNat:Int)=35):=by omega
   simp[h0,h3,hlt,hgt,hw1,hb,hbi,-List.contains_eq_mem];apply ih2 <;> simp[h0]
theorem QbV (s:Nm) (bs:List (List AV)) (hl:s.length < 1000000):call F.tb 573 [.str s] bs=some (.bool (s.contains 35),bs):=by
 have h1:=fun ρ=>CC s bs hl s [] ρ rfl rfl;rw[Qa F.tb_573 _ _ rfl];simp[F.f573C,-List.contains_eq_mem];apply h1 <;> simp
theorem R3: ∀(s:Nm) (c:UInt8),decide (0≤Lib.indexByte s c)=s.contains c
 | [],c=>by simp[Lib.indexByte]
 | b:: l,c=>by
  have ih:=R3 l c;have hg:=Lib.indexByte_ge l c;simp only[Lib.indexByte];by_cases h:b=c
  ·simp[h]
  ·have h1: (b == c)=false:=by simpa using h
   simp only[h1,Bool.false_eq_true,if_false];have h2: (b:: l).contains c=l.contains c:=by
    simp only[List.contains_cons];have: (c == b)=false:=by simpa using fun e=>h e.symm
    rw[this];simp
   rw[h2,← ih];by_cases h3:Lib.indexByte l c= -1
   ·rw[h3];simp
   ·have h4: (Lib.indexByte l c == -1)=false:=by simpa using h3
    rw[h4];have:0≤Lib.indexByte l c:=by omega
    simp[this];omega
theorem BW (s:Nm) (bs:List (List AV)):call F.tb 484 [.str s,.str [35]] bs=some (.int .i64 (Lib.indexByte s 35),bs):=by
 have h:call F.tb 485 [.str s,.int .u8 35] bs=some (.int .i64 (Lib.indexByte s 35),bs):=by
  rw[Xb F.tb_485];simp[YQ,J1]
 have h0: (bif [35] == s then 0 else Lib.indexByte s 35)=Lib.indexByte s 35:=by
  by_cases e:s=[35]
  ·subst e;decide
  ·have: ([35] == s)=false:=by simpa using fun h=>e h.symm
   rw[this];rfl
 rw[Qa F.tb_484 _ _ rfl];simp[h0,F.f484C,h]
theorem BV (s:Nm) (bs:List (List AV)):call F.tb 482 [.str s,.str [35]] bs=some (.bool (s.contains 35),bs):=by
 have h:=BW s bs;have h2:call F.tb 483 [.str s,.str [35]] bs=some (.int .i64 (Lib.indexByte s 35),bs):=by
  rw[Qa F.tb_483 _ _ rfl];simp[F.f483C,h]
 rw[Qa F.tb_482 _ _ rfl];simp[F.f482C,h2,R3,-List.contains_eq_mem]
end Go.Am
