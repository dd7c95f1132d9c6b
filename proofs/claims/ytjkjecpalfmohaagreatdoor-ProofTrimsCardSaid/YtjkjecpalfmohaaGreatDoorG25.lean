/-
  Pf2, Pf3, Pf4, Kn52, Kn53, Kn54, Kn55, Kn56, Kn57, Kn58, Kn59, Kn60, Kn19, Kn21, Kn61, Kn62, Kn63, Kn64, Kn65, Kn66, Rc43, Rc44, Rc45, Kn67, Kn68, Kn40, Kn41, Kn42, Kn43, Kn44, Kn69, Kn70, Kn71, Kn72, Kn73, Kn74, Pf5, Pf6, Pf9, Pf10.
-/
import Derived.Test.YtjkjecpalfmohaaGreatDoorG23
import Derived.Test.YtjkjecpalfmohaaGreatDoorG20
set_option linter.all false
open Go.Am.F
namespace Go.Am
set_option maxRecDepth 20000
def Mq (a b:QO):QJ (a ++ b)=QJ a ++ QJ b:=by simp[QJ]
def Qhg (D:QO) (t:Qh):Z3 (QJ D ++ t) 0 1 D.length=ZF D:=by
 apply Tl;intro i;simp only[Z3,Zl,RU,Wr,ZF];by_cases h:i < D.length
 ·rw[Nn h,Zq h];have h1: (QJ D ++ t)[i]? =some (.int .i64 D[i]):=by
   rw[ZH (by rw[Tv];exact h)];simp[QJ,h]
  have h2: ((QJ D ++ t).drop i).take 1=[.int .i64 D[i]]:=by
   have hl:i < (QJ D ++ t).length:=by simp[QJ];omega
   rw[Jv hl];rw[Zq hl]at h1;injection h1 with h1
   rw[h1];rfl
  simp only[QS,h2];rfl
 ·rw[Q2 (by simpa using h),Q2 (by simpa using h)];rfl
def OQ {l pre post:QO} {x:Int} (y:Int) (h:l=pre ++ x:: post): (QJ l).take pre.length ++ (.int .i64 y:: (QJ l).drop (pre.length+1))=QJ (pre ++ y:: post):=by
 subst h;have h1: (QJ (pre ++ x:: post)).take pre.length=QJ pre:=by
  rw[Mq,PL (by rw[Tv];exact Zm _),YH (by rw[Tv];exact Zm _)]
 have h2: (QJ (pre ++ x:: post)).drop (pre.length+1)=QJ post:=by
  rw[show pre ++ x:: post=(pre ++ [x])++ post by simp,Mq,List.drop_append_of_le_length (by rw[Tv];simp),Nf (by rw[Tv];simp)];rfl
 rw[h1,h2,Mq];rfl
def Qrg (rs:Wj):Qh:=rs.map fun r=>AV.sl false 1 (ZF r)
def usB (us:ZT):Qh:=us.map AV.bool
structure EJ (B0 B:List (List AV)) (rs:List (List Int)) (us:List Bool) (piv:List Int) (idr idu:Nat) (pv:AV):Prop where
 hr:B[idr]? =some (Qrg rs)
 hu:B[idu]? =some (usB us)
 hp:IS B0 B pv piv
 n1:B0.length<=idr
 n2:idr < idu
 n4: ∀id,pv= .gs id 0 1 piv.length->piv≠[]->idu < id
 ul:us.length=rs.length
def EJ.app {B0 B:Qa} {rs:Wj} {us:ZT} {piv:QO} {idr idu:Nat} {pv:AV} (h:EJ B0 B rs us piv idr idu pv) (x:Int) (o:Bool) (hl:piv.length < 1000000):
  ∃B',appM 8 1 pv (.sl o 1 [[.int .i64 x]]) B=some (.gs B.length 0 1 (piv.length+1),B')/\EJ B0 B' rs us (piv ++ [x]) idr idu (.gs B.length 0 1 (piv.length+1)):=by
 have hrl:=YT h.hr;have hul:=YT h.hu;have n2:=h.n2;have n1:=h.n1;obtain⟨hP,h2⟩:=h.hp;have hsr:Wh 1 (.sl o 1 [[AV.int .i64 x]]) B=some (1,[.int .i64 x]):=by simp[Wh]
 rcases h2 with⟨e1,e2⟩ | ⟨id,e1,e2,e3,e4⟩
 ·subst e1;subst e2
  refine⟨B ++ [[.int .i64 x]],?_,⟨Wy h.hr _,Wy h.hu _,⟨hP.app _,.inr ⟨B.length,rfl,by simp,by obtain⟨M,rfl⟩:=hP;simp,Qkx _ _ _⟩⟩,n1,n2,fun id hid _=>by injection hid with hid;omega,h.ul⟩⟩;simp[appM,hsr]
 ·subst e1;have hid:=h.n4 id rfl e2;have hidl:=YT e4;have hne0: ¬piv.length=0:=fun e=>e2 (YX e);have hrl2: (QJ piv).length=piv.length:=Tv piv;have hne:QJ piv≠[]:=fun e=>by rw[e]at hrl2;exact hne0 hrl2.symm
  have hst: (QJ piv).map AV.strip=QJ piv:=by simp[QJ,AV.strip]
  refine⟨B.set id []++ [QJ piv ++ [.int .i64 x]],?_,⟨Wy (by rw[Xq,Qm (by omega)];exact h.hr) _,Wy (by rw[Xq,Qm (by omega)];exact h.hu) _,⟨(hP.set e3 _).app _,.inr ⟨B.length,by simp,by simp,by obtain⟨M,rfl⟩:=hP;simp,?_⟩⟩,n1,n2,fun id2 hid2 _=>by injection hid2 with hid2;omega,h.ul⟩⟩
  ·simp only[appM,hsr,QC];rw[Qn ⟨by omega,by omega⟩,Qm (by omega),Qm (by omega),Qn ⟨trivial,trivial⟩,e4];simp only[QC];rw[Qn ⟨hne,by omega⟩,Qm (by omega),RU,<- hrl2,YH (Zm _),hst]
  ·have e:B.length=(B.set id []).length:=by simp
   rw[e,Ye];simp[QJ]
def Th.trans {B0 B B':Qa} (h:Th B0 B) (h2:Th B B'):Th B0 B':=by
 obtain⟨M,rfl⟩:=h;obtain⟨M2,rfl⟩:=h2;exact⟨M ++ M2,by simp⟩
def Th.len {B0 B:Qa} (h:Th B0 B):B0.length<=B.length:=by
 obtain⟨M,rfl⟩:=h;simp
def T9 (t:Tm):Bool:=isB t MUL || isB t INV
@[simp] def QkI: ∀l:Qj,ZV (l.map Zx)=true
 | []=>rfl
 | k:: l=>by simp[ZV,QkI l]
def Qjx (t:Tm) (bs:Qa):call tb 522 [.agg (Qf t)] bs=some (.bool (T9 t),bs):=by
 have h:=Df t MUL INV true bs;have h':=Df t MUL INV false bs;unfold MUL INV at h h';rw[zcc 522 rfl rfl];unfold T9 MUL INV;simp[f522C,h,h',Qk]
def NQ {x:Tm}: ∀{l:Qc},x∈ZA l↔∃t∈l,x∈ZB t
 | []=>by simp[ZA]
 | t:: ts=>by simp[ZA,NQ (l:=ts)]
mutual
theorem IX: ∀(t y z:Tm),y∈ZB t->z∈ZB y->z∈ZB t
 | .mk k n s ks,y,z,hy,hz=>by
  simp only[ZB,ZE]at hy;rcases hy with rfl | hy
  ·exact hz
  ·simp only[ZB,ZE];exact .inr (BV ks y z hy hz)
theorem BV: ∀(ts:List Tm) (y z:Tm),y∈ZA ts->z∈ZB y->z∈ZA ts
 | [],y,z,hy,_=>by simp[ZA]at hy
 | t:: ts,y,z,hy,hz=>by
  simp only[ZA,Xe]at hy ⊢;rcases hy with hy | hy
  ·exact .inl (IX t y z hy hz)
  ·exact .inr (BV ts y z hy hz)
end
def BU {t:Tm}: ∀{ts:Qc},t∈ts->∀y∈ZB t,y∈ZA ts
 | [],h,_,_=>by simp at h
 | x:: ts,h,y,hy=>by
  simp only[ZA,Xe];rcases ZE.1 h with rfl | h
  ·exact .inl hy
  ·exact .inr (BU h y hy)
def nL1 (l:Qj):Nat:=(l.map fun q=>q.2.natAbs).sum
def nnN (t:Tm):Prop:=(isB t XOR=true->ZG t≠[])/\(T9 t=true->nL1 (ofP t)<=8)
def HN (t:Tm):Prop:=∀x∈ZB t,nnN x
def D7 {t y:Tm} (h:HN t) (hy:y∈ZB t):HN y:=fun x hx=>h x (IX t y x hy hx)
def Qey {t x:Tm} (h:HN t) (hx:x∈t.kids):HN x:=D7 h (by rw[BW];exact Nj _ (BU hx x (Hw x)))
def RE {k:Int} {n:Qu} {s:Int} {us:Qc} (h:nnN (.mk k n s us)) (hu: ∀x∈us,HN x):HN (.mk k n s us):=by
 intro x hx;simp only[ZB,ZE]at hx;rcases hx with rfl | hx
 ·exact h
 ·obtain⟨t,ht,hxt⟩:=NQ.1 hx;exact hu t ht x hxt
def Jd {t:Tm} (h1:isB t XOR=false) (h2:T9 t=false):nnN t:=
 ⟨fun h=>absurd (h1.symm.trans h) (by decide),fun h=>absurd (h2.symm.trans h) (by decide)⟩
def NE {n:Qu} {us:Qc} (h1:n≠XOR) (h2:n≠MUL) (h3:n≠INV):nnN (.mk 3 n 0 us):=Jd (by simp[isB,h1]) (by simp[T9,isB,h2,h3])
def Vv:HN QM:=RE (Jd rfl rfl) (fun x hx=>by simp at hx)
mutual
theorem BN: ∀(t y:Tm),y∈ZG t->ZG y=[y]
 | .mk k n s ks,y,h=>by
  have h0:=h;simp only[ZG]at h;split at h
  ·simp at h
  ·rename_i c1;split at h
   ·rcases O5 ks [] y h with h | h
    ·simp at h
    ·exact h
   ·rename_i c2;simp at h;subst h;simp only[ZG,Qm c1,Qm c2]
theorem O5: ∀(ts acc:List Tm) (y:Tm),y∈Yd acc ts->y∈acc\/ZG y=[y]
 | [],acc,y,h=> .inl h
 | t:: ts,acc,y,h=>by
  rcases O5 ts _ y h with h | h
  ·rcases Uu (UI t) h with h | h
   ·exact .inl h
   ·exact .inr (BN t y h)
  ·exact .inr h
end
def Gi: ∀(ks acc:Qc),(∀y∈ks,ZG y=[y])->ks.Nodup->(∀y∈ks,y ∉ acc)->∀y,y∈acc\/y∈ks->y∈Yd acc ks
 | [],acc,_,_,_,y,h=>by
  rcases h with h | h
  ·exact h
  ·simp at h
 | t:: ts,acc,hs,hn,hd,y,h=>by
  have hst:=hs t (by simp);have hn2:=List.nodup_cons.1 hn;have hta:=hd t (by simp);simp only[Yd];have hm: ∀z,z∈Xl acc (ZG t)↔z∈acc\/z=t:=by
   intro z;rw[ON (UI t),hst,Vp];constructor
   ·intro h;rcases h with h | h
    ·exact .inl h.1
    ·exact .inr h.2
   ·intro h;by_cases hz:z=t
    ·subst hz;exact .inr ⟨hta,rfl⟩
    ·rcases h with h | h
     ·exact .inl ⟨h,hz⟩
     ·exact absurd h hz
  apply Gi ts _ (fun z hz=>hs z (by simp[hz])) hn2.2
  ·intro z hz hz2;rcases(hm z).1 hz2 with h1 | h1
   ·exact hd z (by simp[hz]) h1
   ·subst h1;exact hn2.1 hz
  ·rcases h with h | h
   ·exact .inl ((hm y).2 (.inl h))
   ·rcases ZE.1 h with h | h
    ·exact .inl ((hm y).2 (.inr h))
    ·exact .inr h
def QdY {l:Qc} (h:Asc l):l.Nodup:=by
 refine List.Pairwise.imp ?_ h;intro a b hab e;subst e;rw[V2]at hab;omega
def QkA {us:Qc} (h: ∀x∈us,HN x):HN (Ww us).1:=by
 unfold Ww;split
 ·exact Vv
 ·split
  ·exact Vv
  ·have hL: ∀y∈Yd [] us,HN y/\ZG y=[y]:=fun y hy=>by
    constructor
    ·rcases My us [] y hy with h1 | h1
     ·simp at h1
     ·obtain⟨t,ht,hyt⟩:=NQ.1 h1;exact D7 (h t ht) hyt
    ·rcases O5 us [] y hy with h1 | h1
     ·simp at h1
     ·exact h1
   have hA:=QdY (KS us [] Asc.nil)
   show HN (tmX (Yd [] us))
   match hh:Yd [] us with
   | []=>exact RE (NE (by decide) (by decide) (by decide)) (fun x hx=>by simp at hx)
   | [p]=>simp only[tmX];exact(hL p (by rw[hh];simp)).1
   | p:: q:: r=>
    simp only[tmX];rw[hh]at hL hA;refine RE ⟨fun _=> ?_,fun he=> ?_⟩ (fun x hx=>(hL x hx).1)
    ·have hp:=Gi (p:: q:: r) [] (fun y hy=>(hL y hy).2) hA (fun y _ hy=>by simp at hy) p (.inr (by simp));intro e;have e2:ZG (.mk 3 XOR 0 (p:: q:: r))=Yd [] (p:: q:: r):=by simp[ZG]
     rw[e2]at e;rw[e]at hp;simp at hp
    ·exact absurd he (by simp[T9,isB,XOR,MUL,INV])
def KK (l:Qj):Prop:=∀q∈l,HN q.1/\XB q.1=false
def AW {l:Qj} {t:Tm} {m:Int} (h:KK l) (ht:HN t) (hs:XB t=false):KK (Y7 l t m):=by
 intro q hq;rcases T8 hq with hq | rfl | ⟨_,_,rfl,_⟩
 ·exact h q hq
 ·exact⟨ht,hs⟩
 ·exact⟨ht,hs⟩
def AX: ∀(t:Tm) (l:Qj) (m:Int),KK l->HN t->KK (WJ l t m):=by
 refine Yq ?_;intro k n s ks ih l m h hm;have hL: ∀(xs:Qc) (l:Qj) (m:Int),(∀x∈xs,x∈ks)->KK l->KK (X3 l xs m):=by
  intro xs
  induction xs with
  | nil=>intro l m _ h;simpa[X3]using h
  | cons x xs IH=>
   intro l m hx h;simp only[X3];exact IH _ m (fun y hy=>hx y (by simp[hy])) (ih x (hx x (by simp)) l m h (Qey hm (hx x (by simp))))
 rw[Uq];cases hs:XB (.mk k n s ks)
 ·exact AW h hm hs
 ·exact hL ks l _ (fun x hx=>hx) h
def Io: ∀(b a:Qj),KK a->KK b->KK (Wx a b)
 | [],a,h,_=>h
 | q:: b,a,h,hb=>Io b _ (AW h (hb q (by simp)).1 (hb q (by simp)).2) fun x hx=>hb x (by simp[hx])
def Ce {t:Tm} (h:HN t):KK (ofP t):=by
 unfold ofP;split
 ·exact AX t [] 1 (fun q hq=>by simp at hq) h
 ·intro q hq;simp at hq
def QkG {a b:Qj} (ha:KK a) (hb:KK b):KK (XJ a b):=by
 unfold XJ;split
 ·exact Io b a ha hb
 ·intro q hq;simp at hq
def Jb: ∀(l:Qj) (t:Tm) (m:Int),nL1 (Y7 l t m)<=nL1 l+m.natAbs
 | [],t,m=>by simp[Y7,nL1]
 | p:: r,t,m=>by
  have ih:=Jb r t m;simp only[nL1,Y7]at ih ⊢;split
  ·simp;omega
  ·split
   ·split
    ·simp;omega
    ·simp;omega
   ·simp;omega
def opX (x:Tm):Prop:=XB x=false\/∃y,XB y=false/\x=Us y
def Cm {l:Qj} {x:Tm} (h:opX x):nL1 (WJ l x 1)<=nL1 l+1:=by
 rcases h with h | ⟨y,h,rfl⟩
 ·rw[Uq,h];exact Jb l x 1
 ·have hs:XB (Us y)=true:=by simp[XB,Us]
  rw[Uq,hs];simp only[Zj,Us,Tm.kids,Tm.name,beq_self_eq_true,X3];rw[Uq,h];exact Jb l y (-1)
def H8: ∀(xs:Qc) (l:Qj),(∀x∈xs,opX x)->nL1 (X3 l xs 1)<=nL1 l+xs.length
 | [],l,_=>by simp[X3]
 | x:: xs,l,h=>by
  simp only[X3,ZQ];have h1:=H8 xs (WJ l x 1) fun y hy=>h y (by simp[hy]);have h2:=Cm (l:=l) (h x (by simp));omega
def Iy {t:Tm} {b:Nat} (h:nL1 (WJ [] t 1)<=b):nL1 (ofP t)<=b:=by
 unfold ofP;split
 ·exact h
 ·simp[nL1]
def Qg7 {l:Qj} (h:KK l): ∀x∈Z9 l,opX x/\HN x:=by
 intro x hx;simp only[Z9,WM,Vk,Xe,M8,Wf]at hx;rcases hx with⟨_,⟨q,hq,rfl⟩,hx⟩ | ⟨_,⟨q,hq,rfl⟩,hx⟩
 ·rw[Jw hx];exact⟨.inl (h q hq).2,(h q hq).1⟩
 ·rw[Jw hx];have ho:opX (Us q.1):= .inr ⟨q.1,(h q hq).2,rfl⟩;refine⟨ho,RE ⟨fun e=>absurd e (by simp[isB,INV,XOR]),fun _=> ?_⟩ fun y hy=> ?_⟩
  ·refine Iy (VU (Cm (l:=[]) ho) ?_);simp[nL1]
  ·simp at hy;subst hy;exact(h q hq).1
def D8 {l:Qj} (h:KK l):HN (Yn l).1:=by
 unfold Yn;split
 ·exact Vv
 ·split
  ·exact Vv
  ·rename_i h8;split
   ·exact Vv
   ·have hL:=Qg7 h
    show HN (Z5 (Z9 l))
    match hh:Z9 l with
    | []=>exact RE (NE (by decide) (by decide) (by decide)) (fun x hx=>by simp at hx)
    | [p]=>simp only[Z5];exact(hL p (by rw[hh];simp)).2
    | p:: q:: r=>
     simp only[Z5];rw[hh]at hL h8;refine RE ⟨fun e=>absurd e (by simp[isB,MUL,XOR]),fun _=> ?_⟩ (fun x hx=>(hL x hx).2);have hs:XB (.mk 3 MUL 0 (p:: q:: r))=true:=by simp[XB]
     refine Iy ?_;rw[Uq,hs];simp only[Zj];have e: (if(Tm.mk 3 MUL 0 (p:: q:: r)).name == INV then(-1:Int)else 1)=1:=rfl;rw[e];have:=H8 (p:: q:: r) [] fun x hx=>(hL x hx).1;simp only[nL1,We,List.sum_nil,Zl]at this;exact VU this (by omega)
def Qpp {b e:Tm} (hb:HN b) (he:HN e):HN (.mk 3 EXP 0 [b,e]):=RE (NE (by decide) (by decide) (by decide)) fun x hx=>by
 simp at hx;rcases hx with rfl | rfl
 ·exact hb
 ·exact he
def AQ {b:Tm} {p:Qj} (hb:HN b) (hp:KK p):HN (VF b p).1:=by
 unfold VF;split
 ·exact hb
 ·split
  ·exact Vv
  ·exact Qpp hb (D8 hp)
def Hg {t:Tm} (h:HN t) (i:Nat):HN (kid t i):=by
 unfold kid;rw[Vm];cases hg:t.kids[i]? with
 | none=>simpa using Vv
 | some x=>exact Qey h (XN hg)
def Qkz {b e:Tm} (hb:HN b) (he:HN e):HN (Wm b e).1:=by
 unfold Wm;split
 ·exact Vv
 ·split
  ·split
   ·exact Vv
   ·split
    ·exact Vv
    ·exact AQ (Hg hb 0) (QkG (Ce (Hg hb 1)) (Ce he))
  ·exact AQ hb (Ce he)
def Hf {us:Qc} (h: ∀x∈us,HN x) (i:Nat):HN (us.getD i QM):=by
 rw[Vm];cases hg:us[i]? with
 | none=>simpa using Vv
 | some x=>exact h x (XN hg)
def QgN {n:Qu} {us:Qc} (hn:Ul n=true) (h: ∀x∈us,HN x):HN (Q9 n us):=by
 have hout:HN (.mk 3 n 0 us):=by
  refine RE (NE ?_ ?_ ?_) h <;> (intro e;subst e;revert hn;decide)
 have ha:=Hf h 0;have hk:=fun i=>Hg ha i;simp only[Q9]
 repeat' split
 all_goals first | exact hout | exact hk _
def QgO {n:Qu} {us:Qc} (h: ∀x∈us,HN x):HN (Xi n us).1:=by
 unfold Xi;split
 ·rename_i hn;exact QgN hn h
 ·split
  ·exact QkA h
  ·split
   ·rename_i c1 c2 c3;unfold Xp;split
    ·exact Vv
    ·refine D8 ?_;unfold ofP;split
     ·rw[Uq];have hL: ∀(xs:Qc) (l:Qj) (m:Int),(∀x∈xs,x∈us)->KK l->KK (X3 l xs m):=by
       intro xs
       induction xs with
       | nil=>intro l m _ h;simpa[X3]using h
       | cons x xs IH=>
        intro l m hx h2;simp only[X3];exact IH _ m (fun y hy=>hx y (by simp[hy])) (AX x l m h2 (h x (hx x (by simp))))
      have hs:XB (.mk 3 n 0 us)=true:=by rcases c3 with rfl | rfl | rfl <;> simp[XB]
      rw[hs];exact hL us [] _ (fun x hx=>hx) (fun q hq=>by simp at hq)
     ·intro q hq;simp at hq
   ·rename_i c1 c2 c3;split
    ·exact Qkz (Hf h 0) (Hf h 1)
    ·exact RE (NE c2 (fun e=>c3 (.inl e)) (fun e=>c3 (.inr (.inl e)))) h
mutual
theorem D6: ∀t:Tm,Wl t=0->HN (ZW t).1
 | .mk k n s ks,h=>by
  simp only[Wl]at h;split at h
  ·rename_i h1;exact absurd h h1
  ·rename_i h1;obtain⟨_,_,_,hb⟩:=Je (t:= .mk k n s ks) (by simpa using h1);simp only[U6,Zz]at hb;simp only[ZW];split
   ·split
    ·exact QgO (D5 ks h)
    ·exact Vv
   ·rename_i hk;have:=hb hk;subst this;exact RE (Jd (by simp[isB,hk]) (by simp[T9,isB,hk])) fun x hx=>by simp at hx
theorem D5: ∀ts:List Tm,Ug ts=0->∀x∈(YM ts).1,HN x
 | [],_,x,hx=>by simp[YM]at hx
 | t:: ts,h,x,hx=>by
  simp only[Ug]at h;split at h
  ·rename_i h1;exact absurd h h1
  ·rename_i h1;simp only[YM]at hx;split at hx
   ·split at hx
    ·simp at hx;rcases hx with rfl | hx
     ·exact D6 t (by simpa using h1)
     ·exact D5 ts h x hx
    ·simp at hx
   ·simp at hx
end
def aE (rs:Wj) (c i:Nat):Nat:=(ceE rs i c).natAbs
structure S4 where
 a0:Nat
 x0:Nat
 a1:Nat
 x1:Nat
 a2:Nat
 x2:Nat
 a3:Nat
 x3:Nat
def S4.a (s:S4):ZP
 | 0=>s.a0
 | 1=>s.a1
 | 2=>s.a2
 | _=>s.a3
def S4.x (s:S4):ZP
 | 0=>s.x0
 | 1=>s.x1
 | 2=>s.x2
 | _=>s.x3
def rA (p:Bool) (m a:Nat):Nat:=if p then a else a % m
def rX (p:Bool) (m y a x:Nat):Nat:=if p then x else x+a / m*y
def S4.step (s:S4) (b:Nat):S4:=
 ⟨rA (b == 0) (s.a b) s.a0,rX (b == 0) (s.a b) (s.x b) s.a0 s.x0,rA (b == 1) (s.a b) s.a1,rX (b == 1) (s.a b) (s.x b) s.a1 s.x1,
  rA (b == 2) (s.a b) s.a2,rX (b == 2) (s.a b) (s.x b) s.a2 s.x2,rA (b == 3) (s.a b) s.a3,rX (b == 3) (s.a b) (s.x b) s.a3 s.x3⟩
def S4.min (s:S4) (b:Nat):Bool:=s.a b != 0 && (s.a0 == 0 || Nat.ble (s.a b) s.a0) && (s.a1 == 0 || Nat.ble (s.a b) s.a1) && (s.a2 == 0 || Nat.ble (s.a b) s.a2) && (s.a3 == 0 || Nat.ble (s.a b) s.a3)
def nz1 (n:Nat):Nat:=if n == 0 then 0 else 1
def S4.one (s:S4):Bool:=Nat.ble (nz1 s.a0+nz1 s.a1+nz1 s.a2+nz1 s.a3) 1
mutual
theorem DM: ∀(t x:Tm),Wl t=0->x∈ZB t->Wl x=0
 | .mk k n s ks,x,h,hx=>by
  simp only[ZB,ZE]at hx;rcases hx with rfl | hx
  ·exact h
  ·simp only[Wl]at h;split at h
   ·rename_i h1;exact absurd h h1
   ·exact DL ks x h hx
theorem DL: ∀(ts:List Tm) (x:Tm),Ug ts=0->x∈ZA ts->Wl x=0
 | [],x,_,hx=>by simp[ZA]at hx
 | t:: ts,x,h,hx=>by
  simp only[Ug]at h;simp only[ZA,Xe]at hx;split at h
  ·rename_i h1;exact absurd h h1
  ·rename_i h1;rcases hx with hx | hx
   ·exact DM t x (by simpa using h1) hx
   ·exact DL ts x h hx
end
mutual
theorem Gc: ∀(t x:Tm),x∈ZB t->x.nodes<=t.nodes
 | .mk k n s ks,x,hx=>by
  simp only[ZB,ZE]at hx;rcases hx with rfl | hx
  ·exact Zm _
  ·have:=Iz ks x hx;simp only[Tm.nodes];omega
theorem Iz: ∀(ts:List Tm) (x:Tm),x∈ZA ts->x.nodes<=Qx ts
 | [],x,hx=>by simp[ZA]at hx
 | t:: ts,x,hx=>by
  simp only[ZA,Xe]at hx;simp only[Qx];rcases hx with hx | hx
  ·have:=Gc t x hx;omega
  ·have:=Iz ts x hx;omega
end
mutual
theorem HM: ∀(t x:Tm),x∈ZB t->x.depth<=t.depth
 | .mk k n s ks,x,hx=>by
  simp only[ZB,ZE]at hx;rcases hx with rfl | hx
  ·exact Zm _
  ·have:=J6 ks x hx;simp only[Tm.depth];omega
theorem J6: ∀(ts:List Tm) (x:Tm),x∈ZA ts->x.depth<=Y8 ts
 | [],x,hx=>by simp[ZA]at hx
 | t:: ts,x,hx=>by
  simp only[ZA,Xe]at hx;simp only[Y8];rcases hx with hx | hx
  ·have:=HM t x hx;omega
  ·have:=J6 ts x hx;omega
end
def CZ {t:Tm} (h:Q4 t=0):t.depth<=40:=by
 unfold Q4 at h;split at h
 ·rename_i h1;exact absurd h h1
 ·split at h
  ·cases h
  ·omega
def QbZ {t x:Tm} (h:Q4 t=0) (hx:x∈ZB t):Q4 x=0:=by
 obtain⟨h1,h2,h3⟩:=Uc h;have e1:=DM t x h1 hx;have e2:=Gc t x hx;have e3:=HM t x hx;have e4:=CZ h;unfold Q4;rw[Qm (by simp[e1]),Qm (by omega)]
def Ta (u:Qc):Qc:=(u.map fun t=>if T9 t then Zn (ofP t)else if isB t EXP then Zn (ofP (kid t 1))else []).flatten
def LU: ∀{s:Qc},(∀x∈s,Q4 x=0)->Qx s<=400*s.length
 | [],_=>by simp[Qx]
 | x:: s,h=>by
  have h1:=(Uc (h x (by simp))).2.1;have h2:=LU (s:=s) fun y hy=>h y (by simp[hy]);simp only[Qx,ZQ];omega
def Rl (t:Tm):Qc:=if T9 t then Zn (ofP t)else if isB t EXP then Zn (ofP (kid t 1))else []
def Hd (u:Qc):Ta u=(u.map Rl).flatten:=rfl
def Qeo (u:Qc) (t:Tm):Ta (u ++ [t])=Ta u ++ Rl t:=by simp[Hd]
def Qfq (a:Qc) (x:Tm):Yv (a ++ [x])=ZZ x (Yv a):=by simp[Yv,YG,List.foldl_append]
def QgF (t:Tm): (Rl t).length<=200:=by
 unfold Rl;split
 ·simp only[Zn,WQ];exact Uv t
 ·split
  ·simp only[Zn,WQ];exact Uv _
  ·simp
def DO: ∀u:Qc,(Ta u).length<=200*u.length
 | []=>by simp[Ta]
 | t:: u=>by
  have h1:=DO u;have h2:=QgF t;have:Ta (t:: u)=Rl t ++ Ta u:=by simp[Hd]
  rw[this];simp;omega
def Qep {t:Tm} (h:t.mass < 1000000): ∀x∈Rl t,x.mass < 1000000:=by
 intro x hx;unfold Rl at hx;split at hx
 ·obtain⟨q,hq,rfl⟩:=Wf.1 hx;exact(Sx h).2 q hq
 ·split at hx
  ·obtain⟨q,hq,rfl⟩:=Wf.1 hx;exact(Sx (Nat.lt_of_le_of_lt (Ui t 1) h)).2 q hq
  ·cases hx
def Qen {u:Qc} (h: ∀t∈u,t.mass < 1000000): ∀x∈Ta u,x.mass < 1000000:=by
 intro x hx;rw[Hd]at hx;obtain⟨l,hl,hx⟩:=M8.1 hx;obtain⟨t,ht,rfl⟩:=Wf.1 hl;exact Qep (h t ht) x hx
def szT (u:Qc):Int:=if 200 < u.length\/4 < (u.filter T9).length\/8 < (Yv (Ta u)).length then 3 else 0
def Qif (l:Qj) (hl:SmP l) (G:Qc) (hG:G.length+l.length < 900000) (hm: ∀x∈G,x.mass < 1000000) (v0 v3 v11 v12 v13:AV) (B:Qa) (K:Kn) (Q:Out->Prop):
  ∀(post pre:Qj) (o o35:Bool) (ρ:Ql),l=pre ++ post->ρ 0=v0->ρ 3=v3->ρ 4= .sl o 4 (Qb (Yv (G ++ Zn pre)))->ρ 11=v11->ρ 12=v12->ρ 13=v13->ρ 35= .sl o35 5 (QF l)->ρ 36= .int .i64 l.length->ρ 37= .int .i64 pre.length->
  (∀(ρ':Ql) (o':Bool),ρ' 0=v0->ρ' 3=v3->ρ' 4= .sl o' 4 (Qb (Yv (G ++ Zn l)))->ρ' 11=v11->ρ' 12=v12->ρ' 13=v13->Q (K .normal ⟨ρ',B⟩))->
  Q (R tb (.loop f521l0) ρ B (Qo 3 K)):=by
 intro post
 induction post with
 | nil=>
  intro pre o o35 ρ hk h0 h3 h4 h11 h12 h13 h35 h36 h37 hq;simp only[QH]at hk;subst hk;rw[Qe f521l0.eq_1];simp[h0,h3,h4,h11,h12,h13,h35,h36,h37];apply hq _ o <;> simp[h0,h3,h4,h11,h12,h13]
 | cons p post IH=>
  intro pre o o35 ρ hk h0 h3 h4 h11 h12 h13 h35 h36 h37 hq;have hg:=Qw hk;have hll:=QE hk;have hlt:=QI hk;have hl1:=hl.1;have hw1:=wr1 pre.length (by omega);have hpm:=hl.2 p (by rw[hk];simp);have hsl: (Yv (G ++ Zn pre)).length < 1000000:=by
   have:=Mu (G ++ Zn pre);simp only[Zk,Zn,WQ]at this ⊢;omega
  have hsm: ∀x∈Yv (G ++ Zn pre),x.mass < big:=fun x hx=>by
   have hx:=UO.1 hx;rcases Xe.1 hx with hx | hx
   ·have:=hm x hx;unfold big;omega
   ·obtain⟨q,hq,rfl⟩:=Wf.1 hx;have:=hl.2 q (by rw[hk];simp[hq]);unfold big;omega
  obtain⟨o2,c523⟩:=Qjy (Yv (G ++ Zn pre)) p.1 false B hsl hsm (by unfold big;omega) (KR _);have e1:ZZ p.1 (Yv (G ++ Zn pre))=Yv (G ++ Zn (pre ++ [p])):=by rw[<- Qfq];simp[Zn]
  rw[e1]at c523;have ih:=fun o o35 ρ=>IH (pre ++ [p]) o o35 ρ (by rw[hk];simp);rw[Qe f521l0.eq_1];simp[h0,h3,h4,h11,h12,h13,h35,h36,h37,hg,hlt,hw1,c523,Qk];apply ih o2 o35 <;> first | exact hq | simp[h0,h3,h11,h12,h13,h35,h36]
def Qrp (u:Qc) (hul:u.length < 4000) (hum: ∀t∈u,t.mass < 1000000) (hek: ∀t∈u,isB t EXP=true->t.kids.length=2) (B:Qa):
  ∀(post pre:Qc) (o o4 o11:Bool) (ρ:Ql),u=pre ++ post->ρ 0= .sl o 4 (Qb u)->ρ 3= .int .i64 (pre.filter T9).length->ρ 4= .sl o4 4 (Qb (Yv (Ta pre)))->ρ 11= .sl o11 4 (Qb u)->ρ 12= .int .i64 u.length->ρ 13= .int .i64 pre.length->
  R tb (.loop f521l1) ρ B (Qo 0 (QB tb f521r1 (QN f521 B)))=some (.int .i64 (szT u),B):=by
 intro post
 induction post with
 | nil=>
  intro pre o o4 o11 ρ hk h0 h3 h4 h11 h12 h13;simp only[QH]at hk;subst hk;rw[Qe f521l1.eq_1];unfold szT;have hfl: (Qb (Yv (Ta u))).length=(Yv (Ta u)).length:=Ur _;generalize (Yv (Ta u)).length=n3 at *;generalize (u.filter T9).length=n2 at *;generalize hE:Qb (Yv (Ta u))=E at *;have i1: (200 < u.length)↔(200:Int) < (u.length:Int):=by omega
  have i2: (4 < n2)↔(4:Int) < (n2:Int):=by omega
  have i3: (8 < n3)↔(8:Int) < (n3:Int):=by omega
  simp only[i1,i2,i3];by_cases c1: (200:Int) < (u.length:Int)
  ·simp[h0,h3,h4,h11,h12,h13,f521r1,hfl,c1]
  ·by_cases c2: (4:Int) < (n2:Int)
   ·simp[h0,h3,h4,h11,h12,h13,f521r1,hfl,c1,c2]
   ·by_cases c3: (8:Int) < (n3:Int)
    ·simp[h0,h3,h4,h11,h12,h13,f521r1,hfl,c1,c2,c3]
    ·simp[h0,h3,h4,h11,h12,h13,f521r1,hfl,c1,c2,c3]
 | cons t post IH=>
  intro pre o o4 o11 ρ hk h0 h3 h4 h11 h12 h13;have hg:=Qw hk;have hll:=QE hk;have hlt:=QI hk;have hw1:=wr1 pre.length (by omega);have ht:t∈u:=by rw[hk];simp
  have htm:=hum t ht;have h1:=fun o=>Qf5 t EXP o B;have h2:=Qjx t B;unfold EXP at h1;have hpm: ∀x∈Ta pre,x.mass < 1000000:=Qen fun x hx=>hum x (by rw[hk];simp[hx]);have hpl:=DO pre;have hfl:=RO T9 pre;have ih:=fun o o4 o11 ρ=>IH (pre ++ [t]) o o4 o11 ρ (by rw[hk];simp);rw[Qeo]at ih;simp only[List.filter_append,Zk]at ih;generalize (pre.filter T9).length=n at *;have hw2:IntKind.i64.wrap ((n:Int)+1)=(n:Int)+1:=Zf (by omega) (by omega);cases c3:T9 t
  ·rw[c3]at h2;by_cases c1:isB t EXP=true
   ·have c2:=hek t ht c1;have hkk:=Sh c2;have e1:=Zt t;have e2:Qb t.kids=[Qf (kid t 0),Qf (kid t 1)]:=by rw[hkk];simp[Qb]
    rw[e2]at e1;have km:=Ui t 1;have c186:=Si (kid t 1) B (by omega);have ef:Rl t=Zn (ofP (kid t 1)):=by unfold Rl;rw[c3,c1];simp
    have hsp:=Sx (t:=kid t 1) (by omega);have hol:=Uv (kid t 1);have l0:=fun K ρ=>Qif (ofP (kid t 1)) hsp (Ta pre) (by omega) hpm (.sl o 4 (Qb u)) (.int .i64 n) (.sl o11 4 (Qb u)) (.int .i64 u.length) (.int .i64 pre.length) B K (fun r=>r=some (.int .i64 (szT u),B)) (ofP (kid t 1)) [] o4 false ρ rfl;unfold EXP at c1;rw[c1]at h1;rw[ef]at ih;rw[Qe f521l1.eq_1];simp only[e1]at h1 h2 hg ⊢;simp[h0,h3,h4,h11,h12,h13,hg,hlt,hw1,h1,h2,c186,e1,Qk];apply l0
    ·simp[h0]
    ·simp[h3]
    ·simp[h4,Zn]
    ·simp[h11]
    ·simp[h12]
    ·simp[h13]
    ·simp
    ·simp
    ·simp
    ·intro ρ' o' q0 q3 q4 q11 q12 q13;simp[f521r0,q13,hw1];apply ih o o' o11 <;> simp[q0,q3,q4,q11,q12,c3]
   ·have c1:isB t EXP=false:=by simpa using c1
    have ef:Rl t=[]:=by unfold Rl;rw[c3,c1];simp
    unfold EXP at c1;rw[c1]at h1;rw[ef,QH]at ih;rw[Qe f521l1.eq_1];simp[h0,h3,h4,h11,h12,h13,hg,hlt,hw1,h1,h2,Qk,f521r0,I2];apply ih o o4 o11 <;> simp[h0,h3,h4,h11,h12,c3]
  ·have ef:Rl t=Zn (ofP t):=by unfold Rl;rw[c3];simp
   have c186:=Si t B (by omega);have hsp:=Sx (t:=t) (by omega);have hol:=Uv t;have l0:=fun K ρ=>Qif (ofP t) hsp (Ta pre) (by omega) hpm (.sl o 4 (Qb u)) (.int .i64 (n+1)) (.sl o11 4 (Qb u)) (.int .i64 u.length) (.int .i64 pre.length) B K (fun r=>r=some (.int .i64 (szT u),B)) (ofP t) [] o4 false ρ rfl;rw[ef]at ih;rw[c3]at h2;rw[Qe f521l1.eq_1];simp[h0,h3,h4,h11,h12,h13,hg,hlt,hw1,hw2,h2,c186,Qk];apply l0
   ·simp[h0]
   ·simp[h3]
   ·simp[h4,Zn]
   ·simp[h11]
   ·simp[h12]
   ·simp[h13]
   ·simp
   ·simp
   ·simp
   ·intro ρ' o' q0 q3 q4 q11 q12 q13;simp[f521r0,q13,hw1];apply ih o o' o11 <;> simp[q0,q3,q4,q11,q12,c3]
def Qjw (u:Qc) (hul:u.length < 4000) (hum: ∀t∈u,t.mass < 1000000) (hek: ∀t∈u,isB t EXP=true->t.kids.length=2) (o:Bool) (B:Qa):
  call tb 521 [.sl o 4 (Qb u)] B=some (.int .i64 (szT u),B):=by
 have h:=fun ρ=>Qrp u hul hum hek B u [] false true false ρ rfl;rw[zcc 521 rfl rfl];simp[f521C];apply h <;> simp[Ta,Yv,YG,Qb]
def Qjv (t:Tm) (bs:Qa) (hm:t.mass < 1000000):call tb 520 [.agg (Qf t)] bs=some (.int .i64 (Zc t),bs):=by
 have hb:t.mass < big:=by unfold big;omega
 have h1:=P9 t bs hb;have h2:=HD t bs (by omega);have h3:=B4 t bs hb;have hlen: (Qb (WX t)).length=(WX t).length:=by simp[YU]
 rw[zcc 520 rfl rfl];unfold Zc;by_cases c:thV t=0
 ·rw[c]at h1;by_cases c2:WX t=[]
  ·rw[c2]at h2;simp only[Qb]at h2;cases c3:Uw t
   ·rw[c3]at h3;simp[f520C,h1,h2,h3,c,c2,Qk]
   ·rw[c3]at h3;simp[f520C,h1,h2,h3,c,c2,Qk]
  ·have hpos: (0:Int) < ((WX t).length:Int):=by
    have:=Tk.2 c2;omega
   generalize Qb (WX t)=EV at *;simp[f520C,h1,h2,h3,c,c2,hlen,hpos,Qk]
 ·simp[f520C,h1,c,Qk]
def QpN (l:Qc) (hl:l.length < 1000000) (hm: ∀y∈l,y.mass < 1000000) (B:Qa):
  ∀(post pre:Qc) (o:Bool) (ρ:Ql),l=pre ++ post->ρ 6= .sl o 4 (Qb l)->ρ 7= .int .i64 l.length->ρ 8= .int .i64 pre.length->
  R tb (.loop f519l0) ρ B (Qo 0 (QB tb f519r0 (QN f519 B)))=some (.int .i64 (Ty post),B):=by
 intro post
 induction post with
 | nil=>
  intro pre o ρ hk h6 h7 h8;simp only[QH]at hk;rw[<- hk]at h8;rw[Qe f519l0.eq_1];simp[h6,h7,h8,f519r0,Ty]
 | cons x post IH=>
  intro pre o ρ hk h6 h7 h8;have hgt:=Qw hk;have hll:=QE hk;have hw1:=wr1 pre.length (by omega);have hlt:=QI hk;have hc:=Qjv x B (hm x (by rw[hk];simp));have ih:=fun ρ=>IH (pre ++ [x]) o ρ (by rw[hk];simp);rw[Qe f519l0.eq_1];by_cases cx:Zc x=0
  ·have e:Ty (x:: post)=Ty post:=by simp[Ty,cx]
   rw[e];rw[cx]at hc;simp[h6,h7,h8,hgt,hlt,hw1,hc,Qk];rw[ih] <;> simp[h6,h7]
  ·have e:Ty (x:: post)=Zc x:=by simp[Ty,cx]
   rw[e];simp[h6,h7,h8,hgt,hlt,hw1,hc,cx,Qk]
def Qju (l:Qc) (o:Bool) (B:Qa) (hl:l.length < 1000000) (hm: ∀y∈l,y.mass < 1000000):call tb 519 [.sl o 4 (Qb l)] B=some (.int .i64 (Ty l),B):=by
 have h:=fun ρ=>QpN l hl hm B l [] false ρ rfl;rw[zcc 519 rfl rfl];simp[f519C];rw[h] <;> simp
def Jm: ∀{l:Qc},Ty l=0->∀x∈l,Zc x=0
 | [],_,x,hx=>by cases hx
 | y:: l,h,x,hx=>by
  simp only[Ty]at h;by_cases c:Zc y=0
  ·rw[Qm (by simpa using c)]at h;rcases ZE.1 hx with rfl | hx
   ·exact c
   ·exact Jm h x hx
  ·rw[Qn (by simpa using c)]at h;exact absurd h c
structure RT (t:Tm):Prop where
 v:Q4 t=0
 g:Zh t=true
 hn:HN t
 gr: ∀x∈ZB t,x.kind≠1
def Qie {t:Tm} (h:Zc t=0):RT t:=by
 have hk:=fun x hx=>Bq (x:=x) hx;unfold Zc at h;by_cases c:thV t=0
 ·rw[Qm (by simpa using c)]at h;by_cases c2:WX t=[]
  ·rw[Qm (by simpa using c2)]at h;have c3:Uw t=true:=by
    by_cases c3:Uw t=true
    ·exact c3
    ·rw[Qm c3]at h;cases h
   obtain⟨h1,h2,h3,h4,h5⟩:=Kp c;have he:=(Uc h1).1;simp only[Uw,Qp,Qy]at c3;have e0:=Xg _ _ c3.1.2;have e1: (ZW t).1=t:=by
    have c4:=c3.1.1;unfold YR at c4 e0;rw[Qm (by simpa using c)]at c4 e0;by_cases d1: (ZW t).2=0
    ·rw[Qm (by simpa using d1)]at c4 e0;by_cases d2:Q4 (ZW t).1=0
     ·rw[Qm (by simpa using d2)]at e0;exact e0
     ·rw[Qn (by simpa using d2)]at c4;exact absurd c4 d2
    ·rw[Qn (by simpa using d1)]at c4;exact absurd c4 d1
   refine⟨h1,h3,?_,?_⟩
   ·have:=D6 t he;rwa[e1]at this
   ·intro x hx hk1;have:x∈WX t:=by
     unfold WX;exact UO.2 (PV.2 ⟨hx,by simp[Xt,hk1]⟩)
    rw[c2]at this;cases this
  ·rw[Qn (by simpa using c2)]at h;cases h
 ·rw[Qn (by simpa using c)]at h;exact absurd h c
def Qk6 {t x:Tm} (h:RT t) (hx:x∈ZB t):RT x:=⟨QbZ h.v hx,HZ t x h.g hx,D7 h.hn hx,fun y hy=>h.gr y (IX t x y hx hy)⟩
noncomputable def VQ (l:Qc):Qc:=Yv (ZA l)
noncomputable def Hs (k m:Qc):Int:=if 60 < k.length then 3 else if Ty (k ++ m)≠0 then Ty (k ++ m)else szT (VQ (k ++ m))
structure KI (l:List Tm):Prop where
 len:l.length < 1000
 nodes:Qx l < 4000\/l.length<=9
 mass:Qv l < 50000000
 ms: ∀x∈l,x.mass < 1000000
def Qlw {l:Qc} (hl:KI l) (hr: ∀x∈l,RT x): (Yv (ZA l)).length < 4000:=by
 have h1:=Mu (ZA l);rw[NP]at h1;rcases hl.nodes with h | h
 ·omega
 ·have:=LU (s:=l) fun x hx=>(hr x hx).v;omega
def Qg3 {l:Qc} {x:Tm}:x∈VQ l↔∃t∈l,x∈ZB t:=by unfold VQ;rw[UO,NQ]
def Kq {l:Qc} (hl:KI l) (hr:Ty l=0): (VQ l).length < 4000/\(∀t∈VQ l,t.mass < 1000000)/\(∀t∈VQ l,isB t EXP=true->t.kids.length=2):=by
 have hx: ∀x∈VQ l,RT x:=fun x hx=>by
  obtain⟨t,ht,hx⟩:=Qg3.1 hx;exact Qk6 (Qie (Jm hr t ht)) hx
 refine⟨Qlw hl fun x hx=>Qie (Jm hr x hx),fun t ht=> ?_,fun t ht he=> ?_⟩
 ·have:=(Uc (hx t ht).v).2.2;omega
 ·obtain⟨a,b,hk⟩:=Qev (hx t ht).g he (by simp[CY]);rw[hk];rfl
def QfT (k m:Qc) (B:Qa) (r:Out):Prop:=∃o,r=some (.tup [.sl o 4 (Qb (if Hs k m=0 then VQ (k ++ m)else [])),.int .i64 (Hs k m)],B)
def Qjt (k m:Qc) (h:KI (k ++ m)) (o o1:Bool) (B:Qa):QfT k m B (call tb 518 [.sl o 4 (Qb k),.sl o1 4 (Qb m)] B):=by
 have hlk:k.length+m.length < 1000:=by have:=h.len;simpa using this
 have c180:=fun o=>OX [k,m] o B (by simp) (by simp;omega);have c519:=fun o=>Qju (k ++ m) o B (by have:=h.len;omega) h.ms;have c511:=fun o=>Qjs (k ++ m) o B (by have:=h.len;omega) h.ms (by have:=h.mass;have:=YJ (k ++ m);omega);have c521:=fun hr:Ty (k ++ m)=0=>Qjw (VQ (k ++ m)) (Kq h hr).1 (Kq h hr).2.1 (Kq h hr).2.2;simp only[SS,Ym,We,Tn,List.flatten_nil,QH]at c180;rw[zcc 518 rfl rfl];unfold QfT Hs;have i1: (60 < k.length)↔(60:Int) < (k.length:Int):=by omega
 simp only[i1];by_cases c1: (60:Int) < (k.length:Int)
 ·refine⟨false,?_⟩;simp[f518C,c1,Qb]
 ·by_cases c2:Ty (k ++ m)=0
  ·have c521:=c521 c2;change ∀o,call tb 511 _ B=some (.sl true 4 (Qb (VQ (k ++ m))),B)at c511;rw[c2]at c519;generalize hu:VQ (k ++ m)=u at *;by_cases c3:szT u=0
   ·refine⟨false,?_⟩;simp[f518C,c1,c180,c519,c511,c521,c2,c3]
   ·refine⟨false,?_⟩;simp[f518C,c1,c180,c519,c511,c521,c2,c3,Qb]
  ·refine⟨false,?_⟩;simp[f518C,c1,c180,c519,c2,Qb]
def QjD (k:Qc) (t:Tm) (h:KI (k ++ [t])) (o:Bool) (B:Qa):QfT k [t] B (call tb 608 [.sl o 4 (Qb k),.agg (Qf t)] B):=by
 obtain⟨o2,c518⟩:=Qjt k [t] h false false B;have e1:Qb [t]=[Qf t]:=by simp[Qb]
 rw[e1]at c518;refine⟨false,?_⟩;rw[zcc 608 rfl rfl];simp[f608C,c518,Qk]
def QgW (f g:Nat) (p:Ded->Bool) (l:QL) (bs:Qa) (hc: ∀x∈l,call tb f [.agg (Za x),.gp g 0] bs=some (.bool (p x),bs)) (hl:l.length < 1000000):
  ∀(post pre:QL) (o:Bool) (ρ:Ql),l=pre ++ post->pre.any p=false->ρ 0= .sl o 8 (QD l)->ρ 1= .fn f [.gp g 0]->ρ 7= .int .i64 l.length->ρ 8= .int .i64 pre.length->
  R8 (l.any p) bs (R tb (.loop f666l0) ρ bs (Qo 0 (QB tb f666r0 (QN f666 bs)))):=by
 intro post
 induction post with
 | nil=>
  intro pre o ρ hk hp h0 h1 h7 h8;simp only[QH]at hk;rw[<- hk]at h8 hp;rw[Qe f666l0.eq_1];refine⟨-1,?_,by rw[hp];simp⟩;simp[h0,h1,h7,h8,f666r0]
 | cons x post IH=>
  intro pre o ρ hk hp h0 h1 h7 h8;have hgt: (QD l)[pre.length]? =some (Za x):=by rw[Zr,Qw hk];rfl
  have hll:=QE hk;have hw1:=wr1 pre.length (by omega);have hlt:=QI hk;have hcall:=hc x (by rw[hk];simp);have ih:=fun ρ hpp=>IH (pre ++ [x]) o ρ (by rw[hk];simp) hpp;rw[Qe f666l0.eq_1];cases ho:p x
  ·rw[ho]at hcall;have ih2:=fun ρ=>ih ρ (by rw[SJ,hp];simp[ho]);simp[-Zr,h0,h1,h7,h8,hlt,hgt,hw1,hcall,-List.any_eq_false,-List.any_eq_true];apply ih2 <;> simp[h0,h1,h7]
  ·rw[ho]at hcall;have hany:l.any p=true:=UX.2 ⟨x,by rw[hk];simp,ho⟩;refine⟨pre.length,?_,by rw[hany];simp⟩;simp[-Zr,h0,h1,h7,h8,hlt,hgt,hcall]
def QjN (f g:Nat) (p:Ded->Bool) (l:QL) (o:Bool) (bs:Qa) (hc: ∀x∈l,call tb f [.agg (Za x),.gp g 0] bs=some (.bool (p x),bs)) (hl:l.length < 1000000):
  call tb 706 [.sl o 8 (QD l),.fn f [.gp g 0]] bs=some (.bool (l.any p),bs):=by
 have h1:=fun ρ=>QgW f g p l bs hc hl l [] false ρ rfl rfl;have h2:R8 (l.any p) bs (call tb 666 [.sl false 8 (QD l),.fn f [.gp g 0]] bs):=by
  rw[zcc 666 rfl rfl];simp[f666C,-List.any_eq_false,-List.any_eq_true];apply h1 <;> simp
 obtain⟨i,hi,hb⟩:=h2;rw[zcc 706 rfl rfl];simp[f706C,hi,-List.any_eq_false,-List.any_eq_true];cases hx:l.any p
 ·rw[hx]at hb;simp at hb;simpa using hb
 ·rw[hx]at hb;simp at hb;simpa using hb
def QjM (x y:Tm) (g:Nat) (bs:Qa) (hg:bs[g]? =some (Qf y)) (hx:x.mass < big) (hy:y.mass < big):call tb 705 [.agg (Qf x),.gp g 0] bs=some (.bool (decide (Qq x y=0)),bs):=by
 have h:=Sj x y bs hx hy;rw[zcc 705 rfl rfl];simp[-getElem?_pos,Ze,Zv,f705C,hg,h]
def QjL (l:Qc) (y:Tm) (o:Bool) (bs:Qa) (hl:l.length < 1000000) (hm: ∀x∈l,x.mass < big) (hy:y.mass < big):
  call tb 704 [.sl o 4 (Qb l),.agg (Qf y)] bs=some (.bool (WK l y),bs):=by
 have hg: (bs ++ [Qf y])[bs.length]? =some (Qf y):=Ye;have h3:=Qf8 705 bs.length (fun x=>decide (Qq x y=0)) l false (bs ++ [Qf y]) (fun x hx=>QjM x y _ _ hg (hm x hx) hy) hl;change call tb 214 _ _=some (.bool (WK l y),_)at h3;rw[zcc 704 rfl rfl];simp[f704C,h3]
def QjK (u:Qc) (d:Ded) (g:Nat) (o:Bool) (bs:Qa) (hg:bs[g]? =some [.sl o 4 (Qb u)]) (hl:u.length < 1000000) (hm: ∀x∈u,x.mass < big) (hy:d.t.mass < big):
  call tb 703 [.agg (Za d),.gp g 0] bs=some (.bool (!WK u d.t),bs):=by
 have h:=QjL u d.t false bs hl hm hy;rw[zcc 703 rfl rfl];simp[-getElem?_pos,Ze,Zv,f703C,hg,h,RC]
noncomputable def K9 (k:Qc) (l:QL):Bool:=match l.getLast? with
 | some d=>decide (Hs k [d.t]=0) && (Pa k l d.t && l.all fun x=>WK (VQ (k ++ [d.t])) x.t)
 | none=>false
structure Qam (k:List Tm) (l:List Ded):Prop extends OV k l where
 ki: ∀d∈l,KI (k ++ [d.t])
def Al (k:Qc) (l:QL) (h:Qam k l) (o o1:Bool) (bs:Qa):call tb 702 [.sl o 4 (Qb k),.sl o1 8 (QD l)] bs=some (.bool (K9 k l),bs):=by
 have hll:=h.ll;rw[zcc 702 rfl rfl];unfold K9;by_cases hne:l=[]
 ·subst hne;simp[f702C]
 ·obtain⟨d,e1,e2,e3⟩:=Og hne;have hpos:0 < l.length:=Tk.2 hne;have hbb: ∀x:Qh,(bs ++ [x])[bs.length]? =some x:=fun x=>Ye;have hK:=h.ki d e3;have hdm:=h.tm d e3;have hg: (QD l)[l.length - 1]? =some (Za d):=by rw[Zr,e2];rfl
  have hl0: ¬(l.length:Int)=0:=by omega
  have hw:IntKind.i64.wrap ((l.length:Int) - 1)=((l.length - 1:Nat):Int):=by rw[Zf (by omega) (by omega)];omega
  have hnn: (0:Int)<=((l.length - 1:Nat):Int):=by omega
  have hcast: ((l.length - 1:Nat):Int).toNat=l.length - 1:=by omega
  obtain⟨o6,c608⟩:=QjD k d.t hK false bs;rw[e1];dsimp only;by_cases hu:Hs k [d.t]=0
  ·rw[hu,Qn rfl]at c608;have hr:Ty (k ++ [d.t])=0:=by
    unfold Hs at hu;split at hu
    ·cases hu
    ·split at hu
     ·rename_i h1 h2;exact absurd hu h2
     ·rename_i h1 h2;exact Classical.not_not.1 h2
   obtain⟨u1,u2,_⟩:=Kq hK hr;have hum: ∀x∈VQ (k ++ [d.t]),x.mass < big:=fun x hx=>by have:=u2 x hx;unfold big;omega
   have c348:=Ad k l d.t false false (bs ++ [[.sl false 4 (Qb (VQ (k ++ [d.t])))]]) ({h with}:OV k l) hdm;have hgb: (bs ++ [[AV.sl false 4 (Qb (VQ (k ++ [d.t])))]])[bs.length]? =some [.sl false 4 (Qb (VQ (k ++ [d.t])))]:=Ye;have c706:=QjN 703 bs.length (fun x=> !WK (VQ (k ++ [d.t])) x.t) l false (bs ++ [[.sl false 4 (Qb (VQ (k ++ [d.t])))]]) (fun x hx=>QjK _ x bs.length false _ hgb (by omega) hum (by have:=h.tm x hx;unfold big;omega)) h.ll;have hall:l.any (fun x=> !WK (VQ (k ++ [d.t])) x.t)= !(l.all fun x=>WK (VQ (k ++ [d.t])) x.t):=by rw[List.all_eq_not_any_not];simp
   rw[hall]at c706;rw[hu];generalize Qb (VQ (k ++ [d.t]))=U at *;generalize (l.all fun x=>WK (VQ (k ++ [d.t])) x.t)=A at *;generalize hn:l.length - 1=n at *;have el:=SR l;generalize QD l=L at *;cases hd:Pa k l d.t
   ·rw[hd]at c348;simp[-getElem?_pos,Ze,Zv,el,hne,hbb,hl0,hw,hnn,hcast,hg,c608,c348,f702C]
   ·rw[hd]at c348;simp[-getElem?_pos,Ze,Zv,el,hne,hbb,hl0,hw,hnn,hcast,hg,c608,c348,c706,f702C]
  ·rw[Qm hu]at c608;generalize hn:l.length - 1=n at *;have el:=SR l;generalize QD l=L at *;simp[-getElem?_pos,Ze,Zv,el,hne,hbb,hl0,hw,hnn,hcast,hg,c608,hu,f702C]
def QjH (l:QO) (o:Bool) (bs:Qa) (hl:l.length < 1000000):call tb 671 [.sl o 1 (ZF l)] bs=some (.sl true 1 (ZF l),bs):=by
 have hb:l.length*8<=140737488355328:=by omega
 rw[Ws tb_671];simp[W3,TZ,hb]
def zDl:Qh:=[.int .i64 0,.int .i64 0,.sl true 1 [],.sl true 1 [],.int .i64 0,.str [],.int .i64 0,.sl true 4 []]
def Y1 (to:QO) (a:Int):Int:=if 0<=a/\a < (to.length:Int)then to.getD a.toNat 0 else -1
def UP (d:Ded) (to:QO):Ded:=⟨d.r,d.n,d.a.map (Y1 to),d.c,d.t⟩
def Vi (to pre:QO) (m:Nat):Qh:=QJ (pre.map (Y1 to)++ List.replicate m 0)
def Ck (to pre:QO) (m:Nat): (Vi to pre m).length=pre.length+m:=by simp[Vi,QJ]
def QeH (to pre:QO) (a v:Int) (m:Nat): (Vi to pre (m+1)).take pre.length ++ (.int .i64 v:: (Vi to pre (m+1)).drop (pre.length+1))=QJ (pre.map (Y1 to)++ v:: List.replicate m 0):=by
 have:=OQ (l:=pre.map (Y1 to)++ List.replicate (m+1) 0) (pre:=pre.map (Y1 to)) (post:=List.replicate m 0) (x:=0) v (by rw[SG]);simpa[Vi]using this
def Qpy (d:Ded) (to:QO) (it k ia:Nat) (c:Qh) (bs:Qa) (hk:to.length=k) (hc: ∀j,j < k->c[j]? =some (.int .i64 (to.getD j 0))) (hit:bs[it]? =some c) (hal:d.a.length<=1000) (hkl:k < 1000000) (cc:AC) (K:Kn) (X:Out):
  ∀(post pre:QO) (M:Qa) (ρ:Ql),d.a=pre ++ post->ia=bs.length->M=[Vi to pre post.length]->ρ 1= .gs it 0 1 k->ρ 2= .bx (Za d)->ρ 4= .bx zDl->ρ 5= .gs ia 0 1 d.a.length->ρ 13= .sl false 1 (ZF d.a)->ρ 14= .int .i64 d.a.length->ρ 15= .int .i64 pre.length->
   (∀ρ':Ql,ρ' 2= .bx (Za d)->ρ' 4= .bx zDl->ρ' 5= .gs ia 0 1 d.a.length->R tb cc ρ' (bs ++ [Vi to d.a 0]) K=X)->
  R tb (.loop f670l0) ρ (bs ++ M) (Qo 0 (QB tb cc K))=X:=by
 intro post
 induction post with
 | nil=>
  intro pre M ρ hp hia hM h1 h2 h4 h5 h13 h14 h15 h;simp only[QH]at hp;subst hM;rw[<- hp]at h15 ⊢;rw[Qe f670l0.eq_1];simp[h1,h2,h4,h5,h13,h14,h15];apply h <;> simp[h2,h4,h5]
 | cons a post IH=>
  intro pre M ρ hp hia hM h1 h2 h4 h5 h13 h14 h15 h;have hll:d.a.length=pre.length+ (post.length+1):=by rw[hp];simp
  have hg: (ZF d.a)[pre.length]? =some [.int .i64 a]:=by rw[Xo,Qw hp];rfl
  have hw1:=wr1 pre.length (by omega);have hlt: (pre.length:Int) < (d.a.length:Int):=by omega
  have hltn:pre.length < d.a.length:=by omega
  have hcl:pre.length+1<=(Vi to pre (post.length+1)).length:=by rw[Ck];omega
  have hp1:=QeH to pre a (-1) post.length;have hit2: ∀x,(bs ++ [x])[it]? =some c:=fun x=>by rw[ZH (YT hit)];exact hit
  have hne:it≠bs.length:=by have:=YT hit;omega
  have hb: ∀x:Qh,(bs ++ [x])[bs.length]? =some x:=fun x=>Ye;have hset: ∀x y:Qh,(bs ++ [x]).set bs.length y=bs ++ [y]:=fun x y=>by simp
  subst hM hia;rw[Qe f670l0.eq_1];have hl1:pre.length+1<=(QJ (pre.map (Y1 to)++ -1:: List.replicate post.length 0)).length:=by simp[QJ]
  by_cases c0:0<=a
  ·by_cases c1:a < (k:Int)
   ·have hca:=hc a.toNat (by omega);have hcc:a.toNat+1<=c.length:=YT hca;have hma:Y1 to a=to.getD a.toNat 0:=by unfold Y1;rw[Qn ⟨c0,by omega⟩]
    have hp2:=OQ (l:=pre.map (Y1 to)++ -1:: List.replicate post.length 0) (pre:=pre.map (Y1 to)) (post:=List.replicate post.length 0) (x:= -1) (to.getD a.toNat 0) rfl;rw[WQ]at hp2;have hfin:QJ (pre.map (Y1 to)++ to.getD a.toNat 0:: List.replicate post.length 0)=Vi to (pre ++ [a]) post.length:=by unfold Vi;rw[Uk,ZY];simp[hma]
    rw[hfin]at hp2;generalize hv:to.getD a.toNat 0=v at *;generalize Vi to pre (post.length+1)=C0 at *;generalize QJ (pre.map (Y1 to)++ -1:: List.replicate post.length 0)=C1 at *;have c2:a.toNat < k:=by omega
    simp[-getElem?_pos,Ze,Zv,-Xo,h1,h2,h4,h5,h13,h14,h15,hg,hlt,hltn,hb,hset,hcl,hp1,hl1,c0,c1,c2,hit2,hca,hcc,hp2,hw1];apply IH (pre ++ [a]) <;> first | rfl | exact h | (simp[h1,h2,h4,h5,h13,h14,hp];done)
   ·have hma:Y1 to a= -1:=by unfold Y1;rw[Qm (by omega)]
    have hfin:QJ (pre.map (Y1 to)++ -1:: List.replicate post.length 0)=Vi to (pre ++ [a]) post.length:=by unfold Vi;rw[Uk,ZY];simp[hma]
    rw[hfin]at hp1;generalize Vi to pre (post.length+1)=C0 at *;simp[-getElem?_pos,Ze,Zv,-Xo,h1,h2,h4,h5,h13,h14,h15,hg,hlt,hltn,hb,hset,hcl,hp1,c0,c1,hw1];apply IH (pre ++ [a]) <;> first | rfl | exact h | (simp[h1,h2,h4,h5,h13,h14,hp];done)
  ·have hma:Y1 to a= -1:=by unfold Y1;rw[Qm (by omega)]
   have hfin:QJ (pre.map (Y1 to)++ -1:: List.replicate post.length 0)=Vi to (pre ++ [a]) post.length:=by unfold Vi;rw[Uk,ZY];simp[hma]
   rw[hfin]at hp1;generalize Vi to pre (post.length+1)=C0 at *;simp[-getElem?_pos,Ze,Zv,-Xo,h1,h2,h4,h5,h13,h14,h15,hg,hlt,hltn,hb,hset,hcl,hp1,c0,hw1];apply IH (pre ++ [a]) <;> first | rfl | exact h | (simp[h1,h2,h4,h5,h13,h14,hp];done)
def MW:=@List.flatten_replicate_singleton
def QjG (d:Ded) (to:QO) (it k:Nat) (c:Qh) (bs:Qa) (hk:to.length=k) (hc: ∀j,j < k->c[j]? =some (.int .i64 (to.getD j 0))) (hit:bs[it]? =some c) (hal:d.a.length<=1000) (hcl:d.c.length<=1000) (hkl:k < 1000000):
  call tb 670 [.agg (Za d),.gs it 0 1 k] bs=some (.agg (Za (UP d to)),bs):=by
 have h1:=fun cc K X ρ=>Qpy d to it k bs.length c bs hk hc hit hal hkl cc K X d.a [] [Vi to [] d.a.length] ρ rfl rfl rfl;have c671:=QjH d.c false (bs ++ [Vi to d.a 0]) (by omega);have hb: ∀x:Qh,(bs ++ [x])[bs.length]? =some x:=fun x=>Ye;have hset: ∀x y:Qh,(bs ++ [x]).set bs.length y=bs ++ [y]:=fun x y=>by simp
 have hcap:d.a.length*8<=140737488355328:=by omega
 have hnl: ((d.a.length:Int))<=4611686018427387904:=by omega
 have hrep: (List.replicate d.a.length [AV.int .i64 0]).flatten=Vi to [] d.a.length:=by simp[Vi,QJ,MW]
 have hch:Z3 (Vi to d.a 0) 0 1 d.a.length=ZF (d.a.map (Y1 to)):=by
  have:=Qhg (d.a.map (Y1 to)) [];simpa[Vi]using this
 have hml: (Vi to d.a 0).length=d.a.length:=by rw[Ck];rfl
 rw[zcc 670 rfl rfl];have e1:Za (UP d to)=[.int .i64 d.r,.int .i64 d.n,.sl false 1 (ZF (d.a.map (Y1 to))),.sl false 1 (ZF d.c),.int .i64 d.t.kind,.str d.t.name,.int .i64 d.t.sort,.sl false 4 (Qb d.t.kids)]:=by rw[X4];rfl
 have e2:=X4 d;simp[f670C,hcap,hnl,hrep];apply h1
 all_goals first | (simp;done) | (simp[zDl];done) | skip
 intro ρ' h2 h4 h5;rw[e2]at h2;by_cases h0:d.a.length=0
 ·have hnil:d.a=[]:=YX h0;rw[e1];rw[hnil]at h5 ⊢;rw[hnil]at c671;have e0:ZF []=[]:=rfl;have hg:=Ny d.c;simp only[We,e0];generalize ZF d.c=E at *;simp[-getElem?_pos,Ze,Zv,f670r0,h2,h4,h5,c671,zDl,ZV,QY,AV.gpfree,hg]
 ·rw[e1];have hg:=Ny (d.a.map (Y1 to));generalize Vi to d.a 0=C at *;generalize ZF (d.a.map (Y1 to))=E at *;simp[-getElem?_pos,Ze,Zv,f670r0,h2,h4,h5,c671,zDl,h0,hb,hml,hch,hset,hg]
def Qpz (d:Ded) (to:QO) (it k:Nat) (c:Qh) (bs:Qa) (hk:to.length=k) (hc: ∀j,j < k->c[j]? =some (.int .i64 (to.getD j 0))) (hit:bs[it]? =some c) (hal:d.a.length<=1000) (cc:AC) (K:Kn) (X:Out):
  ∀(post pre:QO) (ρ:Ql),d.a=pre ++ post->ρ 1= .gs it 0 1 k->ρ 2= .bx (Za d)->ρ 4= .bx zDl->ρ 5= .sl true 1 (ZF (pre.map (Y1 to)))->ρ 6= .int .i64 pre.length->
   (∀ρ':Ql,ρ' 2= .bx (Za d)->ρ' 4= .bx zDl->ρ' 5= .sl true 1 (ZF (d.a.map (Y1 to)))->R tb cc ρ' bs K=X)->
  R tb (.loop f346l0) ρ bs (Qo 0 (QB tb cc K))=X:=by
 intro post
 induction post with
 | nil=>
  intro pre ρ hp h1 h2 h4 h5 h6 h;simp only[QH]at hp;rw[<- hp]at h5 h6;rw[Qe f346l0.eq_1];simp[h1,h2,h4,h5,h6];apply h <;> simp[h2,h4,h5]
 | cons a post IH=>
  intro pre ρ hp h1 h2 h4 h5 h6 h;have hll:d.a.length=pre.length+ (post.length+1):=by rw[hp];simp
  have hg: (ZF d.a)[pre.length]? =some [.int .i64 a]:=by rw[Xo,Qw hp];rfl
  have hw1:=wr1 pre.length (by omega);have hlt: (pre.length:Int) < (d.a.length:Int):=by omega
  have hcap: (pre.length+1)*8<=140737488355328:=by omega
  have hfin:ZF (pre.map (Y1 to))++ [[.int .i64 (Y1 to a)]]=ZF ((pre ++ [a]).map (Y1 to)):=by simp[ZF]
  have hel: (ZF (pre.map (Y1 to))).length=pre.length:=by simp
  rw[Qe f346l0.eq_1];generalize hE:ZF (pre.map (Y1 to))=E at *;by_cases c0:0<=a
  ·by_cases c1:a < (k:Int)
   ·have hca:=hc a.toNat (by omega);have hcc:a.toNat+1<=c.length:=YT hca;have hma:Y1 to a=to.getD a.toNat 0:=by unfold Y1;rw[Qn ⟨c0,by omega⟩]
    have c2:a.toNat < k:=by omega
    rw[hma]at hfin;generalize hv:to.getD a.toNat 0=v at *;simp[-getElem?_pos,Ze,Zv,-Xo,h1,h2,h4,h5,h6,hg,hlt,c0,c1,c2,hit,hca,hcc,hel,hcap,hfin,hw1];apply IH (pre ++ [a]) <;> first | rfl | exact h | (simp[h1,h2,h4,h5,hp];done)
   ·have hma:Y1 to a= -1:=by unfold Y1;rw[Qm (by omega)]
    rw[hma]at hfin;simp[-getElem?_pos,Ze,Zv,-Xo,h1,h2,h4,h5,h6,hg,hlt,c0,c1,hel,hcap,hfin,hw1];apply IH (pre ++ [a]) <;> first | rfl | exact h | (simp[h1,h2,h4,h5,hp];done)
  ·have hma:Y1 to a= -1:=by unfold Y1;rw[Qm (by omega)]
   rw[hma]at hfin;simp[-getElem?_pos,Ze,Zv,-Xo,h1,h2,h4,h5,h6,hg,hlt,c0,hel,hcap,hfin,hw1];apply IH (pre ++ [a]) <;> first | rfl | exact h | (simp[h1,h2,h4,h5,hp];done)
def Qi5 (d:Ded) (to:QO) (it k:Nat) (c:Qh) (bs:Qa) (hk:to.length=k) (hc: ∀j,j < k->c[j]? =some (.int .i64 (to.getD j 0))) (hit:bs[it]? =some c) (hal:d.a.length<=1000):
  call tb 346 [.agg (Za d),.gs it 0 1 k] bs=some (.agg (Za (UP d to)),bs):=by
 have h1:=fun cc K X ρ=>Qpz d to it k c bs hk hc hit hal cc K X d.a [] ρ rfl;rw[zcc 346 rfl rfl];have e1:Za (UP d to)=[.int .i64 d.r,.int .i64 d.n,.sl false 1 (ZF (d.a.map (Y1 to))),.sl false 1 (ZF d.c),.int .i64 d.t.kind,.str d.t.name,.int .i64 d.t.sort,.sl false 4 (Qb d.t.kids)]:=by rw[X4];rfl
 have e2:=X4 d;simp[f346C];apply h1
 all_goals first | (simp;done) | (simp[zDl,ZF];done) | skip
 intro ρ' h2 h4 h5;rw[e2]at h2;rw[e1];have hg:=Ny (d.a.map (Y1 to));generalize ZF (d.a.map (Y1 to))=E at *;simp[-getElem?_pos,Ze,Zv,f346r0,h2,h4,h5,zDl,hg]
def Yh:Nat->QL->Bool
 | _,[]=>true
 | i,d:: r=> !(d.a.any (Xj i)) && Yh (i+1) r
def Zy (u:ZT):Qh:=u.map AV.bool
@[simp] def Qsr (u:ZT): (Zy u).length=u.length:=by simp[Zy]
def Ol {u:ZT} {k:Nat} (h:k < u.length): (Zy u)[k]? =some (.bool (u.getD k false)):=by
 simp[Zy,h]
def Mp {u:ZT} {k:Nat} (h:k < u.length) (b:Bool): (Zy u).take k ++ (.bool b:: (Zy u).drop (k+1))=Zy (u.set k b):=by
 rw[QdO,Qn h];simp[Zy,Ns,Lg]
def WE (u:ZT) (xs:QO):ZT:=xs.foldl (fun u a=>u.set a.toNat true) u
def RZ: ∀(xs:QO) (u:ZT),(WE u xs).length=u.length
 | [],_=>rfl
 | a:: xs,u=>by
  have:=RZ xs (u.set a.toNat true);simpa[WE]using this
def Y4 (l:QL):Nat->ZT->ZT
 | 0,u=>u
 | i+1,u=>Y4 l i (if u.getD i false then WE u ((l[i]?.map Ded.a).getD [])else u)
def L8 (l:QL): ∀(i:Nat) (u:ZT),(Y4 l i u).length=u.length
 | 0,_=>rfl
 | i+1,u=>by
  simp only[Y4];rw[L8 l i];split
  ·exact RZ _ _
  ·rfl
def UC: ∀{l:QL} {i:Nat},Yh i l=true->∀{j:Nat} {d:Ded},l[j]? =some d->∀a∈d.a,0<=a/\a < ((i+j:Nat):Int)
 | [],i,_,j,d,h=>by simp at h
 | x:: l,i,hf,j,d,h=>by
  simp only[Yh,Qp,UV]at hf;cases j with
  | zero=>
   simp at h;subst h;intro a ha;have:=TU.1 hf.1 a ha;simp[Xj]at this;omega
  | succ j=>
   intro a ha;have:=UC hf.2 (by simpa using h) a ha;omega
def QjF (a i:Int) (g:Nat) (bs:Qa) (hg:bs[g]? =some [.int .i64 i]):call tb 669 [.int .i64 a,.gp g 0] bs=some (.bool (Xj i a),bs):=by
 rw[zcc 669 rfl rfl];unfold Xj;by_cases h1:a < 0
 ·simp[-getElem?_pos,Ze,Zv,f669C,hg,h1]
 ·by_cases h2:i<=a
  ·simp[-getElem?_pos,Ze,Zv,f669C,hg,h1,h2]
  ·simp[-getElem?_pos,Ze,Zv,f669C,hg,h1,h2]
def Qrq (l:QL) (bs:Qa) (hl:l.length<=410) (hal: ∀d∈l,d.a.length<=1000) (U:Qh) (V:AV) (X:Out)
  (hX:Yh 0 l=true->∀(ρ':Ql) (M:Qa),ρ' 0= .sl false 8 (QD l)->ρ' 3=V->R tb f668r3 ρ' (bs ++ U:: M) (QN f668 bs)=X):
  ∀(post pre:QL) (M:Qa) (ρ:Ql),l=pre ++ post->Yh 0 l=Yh pre.length post->ρ 0= .sl false 8 (QD l)->ρ 3=V->ρ 16= .sl false 8 (QD l)->ρ 17= .int .i64 l.length->ρ 18= .int .i64 pre.length->
  R tb (.loop f668l0) ρ (bs ++ U:: M) (Qo 0 (QB tb f668r3 (QN f668 bs)))=if Yh 0 l then X else some (.sl false 8 (QD l),bs):=by
 intro post
 induction post with
 | nil=>
  intro pre M ρ hk hfm h0 h3 h16 h17 h18;simp only[QH]at hk;rw[<- hk]at h18;have hf:Yh 0 l=true:=hfm;rw[Qe f668l0.eq_1];simp[h0,h3,h16,h17,h18,hf];apply hX hf <;> simp[h0,h3]
 | cons d post IH=>
  intro pre M ρ hk hfm h0 h3 h16 h17 h18;have hg: (QD l)[pre.length]? =some (Za d):=by rw[Zr,Qw hk];rfl
  have hll:=QE hk;have hw1:=wr1 pre.length (by omega);have hlt:=QI hk;have hda:=hal d (by rw[hk];simp);have hb: ∀x:Qh,(bs ++ U:: (M ++ [x]))[bs.length+ (M.length+1)]? =some x:=fun x=>by
   rw[YQ (by omega)];simp
  have hset: ∀x y:Qh,(bs ++ U:: (M ++ [x])).set (bs.length+ (M.length+1)) y=bs ++ U:: (M ++ [y]):=fun x y=>by
   rw[Ni _ _ (by omega)];simp
  have hgb:=hb [.int .i64 pre.length];have c356:=Kc 669 [.gp (bs.length+ (M.length+1)) 0] (Xj pre.length) d.a false (bs ++ U:: (M ++ [[.int .i64 (pre.length:Int)]])) (fun x hx=>QjF x pre.length _ _ hgb) (by omega) (by simp);have ih:=IH (pre ++ [d]) (M ++ [[.int .i64 (pre.length:Int)]]);have hgp:=RY l;have htk: ∀x:Qh,List.take bs.length (bs ++ U:: (M ++ [x]))=bs:=fun x=>by simp
  rw[Qe f668l0.eq_1];have e2:=Pt d;simp only[Yh]at hfm;rcases Vn (d.a.any (Xj pre.length))with hany | hany
  rotate_left
  ·rw[hany]at c356;simp[-getElem?_pos,Ze,Zv,-Zr,h0,h3,h16,h17,h18,hg,hlt,hb,hset,e2,c356,hw1,hany];rw[hany]at hfm;apply ih _ (by rw[hk];simp) (by rw[hfm];simp) <;> simp[h0,h3,h16,h17]
  ·rw[hany]at c356 hfm;have hf:Yh 0 l=false:=hfm;simp[-getElem?_pos,Ze,Zv,-Zr,h0,h3,h16,h17,h18,hg,hlt,hb,hset,e2,c356,hw1,hf,hgp,htk]
def Qrr (xs:QO) (g n:Nat) (c:AC) (K:Kn) (X:Out) (V0 V6:AV) (hxl:xs.length < 1000000):
  ∀(post pre:QO) (u:ZT) (B:Qa) (ρ:Ql),xs=pre ++ post->(∀a∈post,0<=a/\a.toNat < n)->u.length=n->B[g]? =some (Zy u)->
   ρ 0=V0->ρ 3= .gs g 0 1 n->ρ 6=V6->ρ 53= .sl false 1 (ZF xs)->ρ 54= .int .i64 xs.length->ρ 55= .int .i64 pre.length->
   (∀ρ':Ql,ρ' 0=V0->ρ' 3= .gs g 0 1 n->ρ' 6=V6->R tb c ρ' (B.set g (Zy (WE u post))) K=X)->
  R tb (.loop f668l1) ρ B (Qo 4 (Qo 3 (QB tb c K)))=X:=by
 intro post
 induction post with
 | nil=>
  intro pre u B ρ hk hp hu hB h0 h3 h6 h53 h54 h55 h;simp only[QH]at hk;rw[<- hk]at h55;have hs:B.set g (Zy u)=B:=Rw hB;rw[Qe f668l1.eq_1];simp[h3,h53,h54,h55];simp only[WE,List.foldl_nil,hs]at h;apply h <;> simp[h0,h3,h6]
 | cons a post IH=>
  intro pre u B ρ hk hp hu hB h0 h3 h6 h53 h54 h55 h;have hg: (ZF xs)[pre.length]? =some [.int .i64 a]:=by rw[Xo,Qw hk];rfl
  have hll:=QE hk;have hw1:=wr1 pre.length (by omega);have hlt:=QI hk;obtain⟨a0,a1⟩:=hp a (by simp);have a2:a < (n:Int):=by omega
  have hbl:=YT hB;have hle:a.toNat+1<=(Zy u).length:=by simp;omega
  have hput:=Mp (u:=u) (k:=a.toNat) (by omega) true;have hB2: (B.set g (Zy (u.set a.toNat true)))[g]? =some (Zy (u.set a.toNat true)):=Vo hbl;rw[Qe f668l1.eq_1];generalize Zy u=C at *;simp[-getElem?_pos,Ze,Zv,-Xo,h3,h53,h54,h55,hg,hlt,a0,a1,a2,hB,hle,hput,hw1];apply IH (pre ++ [a]) (u.set a.toNat true) _ _ (by rw[hk];simp) (fun x hx=>hp x (by simp[hx])) (by simpa using hu) hB2
  all_goals first | (simp[h0,h3,h6,h53,h54];done) | skip
  intro ρ' b0 b3 b6;have:=h ρ' b0 b3 b6;rw[TX];simpa[WE]using this
def Qrs (l:QL) (g:Nat) (hf:Yh 0 l=true) (hl:l.length<=410) (hal: ∀d∈l,d.a.length<=1000) (c:AC) (K:Kn) (X:Out):
  ∀(k:Nat) (u:ZT) (B:Qa) (ρ:Ql),k<=l.length->u.length=l.length->B[g]? =some (Zy u)->
   ρ 0= .sl false 8 (QD l)->ρ 3= .gs g 0 1 l.length->ρ 6= .int .i64 ((k:Int) - 1)->
   (∀ρ':Ql,ρ' 0= .sl false 8 (QD l)->ρ' 3= .gs g 0 1 l.length->R tb c ρ' (B.set g (Zy (Y4 l k u))) K=X)->
  R tb (.loop f668l2) ρ B (Qo 2 (QB tb c K))=X:=by
 intro k
 induction k with
 | zero=>
  intro u B ρ hk hu hB h0 h3 h6 h;have hs:B.set g (Zy u)=B:=Rw hB;have h6':ρ 6= .int .i64 (-1):=by rw[h6];rfl
  rw[Qe f668l2.eq_1];simp only[Y4,hs]at h;simp[h0,h3,h6'];apply h <;> simp[h0,h3]
 | succ k IH=>
  intro u B ρ hk hu hB h0 h3 h6 h;have h6':ρ 6= .int .i64 (k:Int):=by rw[h6];simp
  obtain⟨d,hd⟩: ∃d,l[k]? =some d:=⟨_,Zq (by omega)⟩;have hdm:d∈l:=XN hd;have hg: (QD l)[k]? =some (Za d):=by rw[Zr,hd];rfl
  have hfd:=UC hf hd;have hw1:IntKind.i64.wrap ((k:Int) - 1)=(k:Int) - 1:=Zf (by omega) (by omega);have hlt: (k:Int) < (l.length:Int):=by omega
  have hbl:=YT hB;have hle:k+1<=(Zy u).length:=by simp;omega
  have hgu:=Ol (u:=u) (k:=k) (by omega);have e2:=Pt d;have hda:=hal d hdm;simp only[Y4,hd,QS,Un]at h;rw[Qe f668l2.eq_1];rcases Vn (u.getD k false)with hu1 | hu1
  ·rw[hu1]at hgu;rw[hu1,Qn rfl]at h;have hmk: (WE u d.a).length=l.length:=by rw[RZ,hu]
   have hB2: (B.set g (Zy (WE u d.a)))[g]? =some (Zy (WE u d.a)):=Vo hbl;have ih:=IH (WE u d.a) (B.set g (Zy (WE u d.a)));have hl1:=fun ρ=>Qrr d.a g l.length f668r0 (QB tb (.loop f668l2) (Qo 2 (QB tb c K))) X (.sl false 8 (QD l)) (.int .i64 (k:Int)) (by omega) d.a [] u B ρ rfl (fun a ha=>by have:=hfd a ha;omega) hu hB;generalize Zy u=C at *;simp[-getElem?_pos,Ze,Zv,-Zr,h0,h3,h6',hg,hlt,hB,hle,hgu,e2];apply hl1
   all_goals first | (simp[h0,h3,h6'];done) | skip
   intro ρ' b0 b3 b6;simp[f668r0,b6,hw1];apply ih _ (by omega) hmk hB2
   all_goals first | (simp[b0,b3];done) | skip
   intro ρ2 q0 q3;rw[TX];exact h ρ2 q0 q3
  ·rw[hu1]at hgu;rw[hu1]at h;simp only[Yl,Zi]at h;have ih:=IH u B;generalize Zy u=C at *;simp[-getElem?_pos,Ze,Zv,-Zr,h0,h3,h6',hg,hlt,hB,hle,hgu,e2,f668r0,hw1];apply ih _ (by omega) hu hB
   all_goals first | (simp[h0,h3];done) | exact h
def fwP (u:ZT):Nat->QO->QL->QL->QL
 | _,_,out,[]=>out
 | i,to,out,d:: r=>if u.getD i false then fwP u (i+1) (to ++ [(out.length:Int)]) (out ++ [UP d to]) r else fwP u (i+1) (to ++ [0]) out r
def Kt (l:QL) (d:Ded):QD l ++ [Za d]=QD (l ++ [d]):=by simp[QD]
def IE {to:QO} {t:QO} {j:Nat} (h:j < to.length): (QJ (to ++ t))[j]? =some (.int .i64 (to.getD j 0)):=by
 rw[Mq,ZH (by rw[Tv];exact h)];exact QeZ h
def Qrt (l:QL) (u:ZT) (g it:Nat) (bs:Qa) (hl:l.length<=410) (hac: ∀d∈l,d.a.length<=1000/\d.c.length<=1000) (hul:u.length=l.length) (hne:g≠it) (hib:bs.length<=it):
  ∀(post pre:QL) (to:QO) (out:QL) (B:Qa) (ρ:Ql),l=pre ++ post->to.length=pre.length->out.length<=pre.length->Th bs B->B[g]? =some (Zy u)->B[it]? =some (QJ (to ++ List.replicate post.length 0))->
   ρ 3= .gs g 0 1 l.length->ρ 9= .sl true 8 (QD out)->ρ 10= .gs it 0 1 l.length->ρ 66= .sl false 8 (QD l)->ρ 67= .int .i64 l.length->ρ 68= .int .i64 pre.length->
  R tb (.loop f668l3) ρ B (Qo 6 (QB tb f668r1 (QN f668 bs)))=some (.sl false 8 (QD (fwP u pre.length to out post)),bs):=by
 intro post
 induction post with
 | nil=>
  intro pre to out B ρ hk ht ho hP hg hi h3 h9 h10 h66 h67 h68;simp only[QH]at hk;rw[<- hk]at h68;obtain⟨M,rfl⟩:=hP;have hgp:=RY out;simp only[fwP];rw[Qe f668l3.eq_1];simp[h3,h9,h10,h66,h67,h68,f668r1,hgp]
 | cons d post IH=>
  intro pre to out B ρ hk ht ho hP hg hi h3 h9 h10 h66 h67 h68;have hgt: (QD l)[pre.length]? =some (Za d):=by rw[Zr,Qw hk];rfl
  have hll:=QE hk;have hw1:=wr1 pre.length (by omega);have hlt:=QI hk;have hle: (pre.length:Int)<=(l.length:Int):=by omega
  have hltn:pre.length < l.length:=by omega
  obtain⟨d1,d2⟩:=hac d (by rw[hk];simp);have hlu:pre.length+1<=(Zy u).length:=by simp;omega
  have hgu:=Ol (u:=u) (k:=pre.length) (by omega);have hcl:pre.length+1<=(QJ (to ++ List.replicate (post.length+1) 0)).length:=by simp[QJ];omega
  have hput:=OQ (l:=to ++ List.replicate (post.length+1) 0) (pre:=to) (post:=List.replicate post.length 0) (x:=0) (out.length:Int) (by rw[SG]);rw[ht]at hput;have hcap: (out.length+1)*120<=140737488355328:=by omega
  have el:=SR out;have hlen: (to ++ [(out.length:Int)]).length=(pre ++ [d]).length:=by simp[ht]
  have hlen0: (to ++ [(0:Int)]).length=(pre ++ [d]).length:=by simp[ht]
  have hpl: (pre ++ [d]).length=pre.length+1:=by simp
  rw[ZQ]at hi;simp only[fwP];rw[Qe f668l3.eq_1];rcases Vn (u.getD pre.length false)with hu1 | hu1
  ·rw[hu1]at hgu;have hbl:=YT hi;obtain⟨B',hB'⟩: ∃B',B'=B.set it (QJ (to ++ (out.length:Int):: List.replicate post.length 0)):=⟨_,rfl⟩;have hg':B'[g]? =some (Zy u):=by rw[hB',Wq (fun e=>hne e.symm)];exact hg
   have hi':B'[it]? =some (QJ (to ++ (out.length:Int):: List.replicate post.length 0)):=by rw[hB'];exact Vo hbl
   have hP':Th bs B':=by rw[hB'];exact hP.set hib _
   have c670:=QjG d to it pre.length (QJ (to ++ (out.length:Int):: List.replicate post.length 0)) B' ht (fun j hj=>IE (by omega)) hi' d1 d2 (by omega);have hsn:=Kt out (UP d to);have ih:=IH (pre ++ [d]) (to ++ [(out.length:Int)]) (out ++ [UP d to]) B';have hi2:B'[it]? =some (QJ (to ++ [(out.length:Int)]++ List.replicate post.length 0)):=by rw[hi'];simp
   have hBs:=hB'.symm;generalize Zy u=CU at *;generalize QJ (to ++ List.replicate (post.length+1) 0)=CI at *;rw[hu1,Qn rfl];rw[hpl]at ih;generalize hDD:QD out=DD at *;generalize hNN:QD (out ++ [UP d to])=NN at *;simp[-getElem?_pos,Ze,Zv,-Zr,h3,h9,h10,h66,h67,h68,hgt,hlt,hltn,hle,hg,hgu,hlu,hi,hcl,hput,el,hBs,c670,hcap,hsn,hw1];apply ih _ (by rw[hk];simp) (by simp[ht]) (by simp;omega) hP' hg' hi2
   all_goals first | (simp[h3,h10,h66,h67];done) | skip
  ·rw[hu1]at hgu;have ih:=IH (pre ++ [d]) (to ++ [0]) out B;have hi2:B[it]? =some (QJ (to ++ [0]++ List.replicate post.length 0)):=by rw[hi,SG];simp
   rw[hu1];simp only[Yl,Zi];rw[hpl]at ih;generalize Zy u=CU at *;generalize QJ (to ++ List.replicate (post.length+1) 0)=CI at *;simp[-getElem?_pos,Ze,Zv,-Zr,h3,h9,h10,h66,h67,h68,hgt,hlt,hltn,hg,hgu,hlu,hw1];apply ih _ (by rw[hk];simp) (by simp[ht]) (by omega) hP hg hi2
   all_goals first | (simp[h3,h9,h10,h66,h67];done) | skip
end Go.Am
