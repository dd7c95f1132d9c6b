/-
  Pf2, Pf3, Pf4, Kn52, Kn53, Kn54, Kn55, Kn56, Kn57, Kn58, Kn59, Kn60, Kn19, Kn21, Kn61, Kn62, Kn63, Kn64, Kn65, Kn66, Rc43, Rc44, Rc45, Kn67, Kn68, Kn40, Kn41, Kn42, Kn43, Kn44, Kn69, Kn70, Kn71, Kn72, Kn73, Kn74, Pf5, Pf8, AmMemo.
-/
import Derived.Test.YthagbooipdejlaaGreatDoorG23
import Derived.Test.YthagbooipdejlaaGreatDoorG20
import Derived.Test.YthagbooipdejlaaGreatDoorG15
import Derived.KernelRfl
set_option linter.all false
open Go.Am.F
namespace Go.Am
set_option maxRecDepth 20000
def Qqa (rs:X8):Qh:=rs.map fun r=>AV.sl false 1 (Xu r)
def usB (us:WY):Qh:=us.map AV.bool
structure EJ (B0 B:List (List AV)) (rs:List (List Int)) (us:List Bool) (piv:List Int) (idr idu:Nat) (pv:AV):Prop where
 hr:B[idr]? =some (Qqa rs)
 hu:B[idu]? =some (usB us)
 hp:IS B0 B pv piv
 n1:B0.length<=idr
 n2:idr < idu
 n4: ∀id,pv= .gs id 0 1 piv.length->piv≠[]->idu < id
 ul:us.length=rs.length
def EJ.app {B0 B:Qa} {rs:X8} {us:WY} {piv:Zf} {idr idu:Nat} {pv:AV} (h:EJ B0 B rs us piv idr idu pv) (x:Int) (o:Bool) (hl:piv.length < 1000000):
  ∃B',appM 8 1 pv (.sl o 1 [[.int .i64 x]]) B=some (.gs B.length 0 1 (piv.length+1),B')/\EJ B0 B' rs us (piv ++ [x]) idr idu (.gs B.length 0 1 (piv.length+1)):=by
 have hrl:=Wv h.hr;have hul:=Wv h.hu;have n2:=h.n2;have n1:=h.n1;obtain⟨hP,h2⟩:=h.hp;have hsr:X6 1 (.sl o 1 [[AV.int .i64 x]]) B=some (1,[.int .i64 x]):=by simp[X6]
 rcases h2 with⟨e1,e2⟩ | ⟨id,e1,e2,e3,e4⟩
 ·subst e1;subst e2
  refine⟨B ++ [[.int .i64 x]],?_,⟨Wn h.hr _,Wn h.hu _,⟨hP.app _,.inr ⟨B.length,rfl,by simp,by obtain⟨M,rfl⟩:=hP;simp,Qjy _ _ _⟩⟩,n1,n2,fun id hid _=>by injection hid with hid;omega,h.ul⟩⟩;simp[appM,hsr]
 ·subst e1;have hid:=h.n4 id rfl e2;have hidl:=Wv e4;have hne0: ¬piv.length=0:=fun e=>e2 (Y2 e);have hrl2: (Zr piv).length=piv.length:=DW piv;have hne:Zr piv≠[]:=fun e=>by rw[e]at hrl2;exact hne0 hrl2.symm
  have hst: (Zr piv).map AV.strip=Zr piv:=by simp[Zr,AV.strip]
  refine⟨B.set id []++ [Zr piv ++ [.int .i64 x]],?_,⟨Wn (by rw[Xh,Qm (by omega)];exact h.hr) _,Wn (by rw[Xh,Qm (by omega)];exact h.hu) _,⟨(hP.set e3 _).app _,.inr ⟨B.length,by simp,by simp,by obtain⟨M,rfl⟩:=hP;simp,?_⟩⟩,n1,n2,fun id2 hid2 _=>by injection hid2 with hid2;omega,h.ul⟩⟩
  ·simp only[appM,hsr,QB];rw[Qn ⟨by omega,by omega⟩,Qm (by omega),Qm (by omega),Qn ⟨trivial,trivial⟩,e4];simp only[QB];rw[Qn ⟨hne,by omega⟩,Qm (by omega),Pt,<- hrl2,YD (Zx _),hst]
  ·have e:B.length=(B.set id []).length:=by simp
   rw[e,Yu];simp[Zr]
def SS.trans {B0 B B':Qa} (h:SS B0 B) (h2:SS B B'):SS B0 B':=by
 obtain⟨M,rfl⟩:=h;obtain⟨M2,rfl⟩:=h2;exact⟨M ++ M2,by simp⟩
def SS.len {B0 B:Qa} (h:SS B0 B):B0.length<=B.length:=by
 obtain⟨M,rfl⟩:=h;simp
def W8 (t:Tm):Bool:=isB t MUL || isB t INV
def Br (t:Tm) (bs:Qa):call tb 297 [.agg (Qf t)] bs=some (.bool (W8 t),bs):=by
 have h1:=U2 t MUL bs;have h2:=U2 t INV bs;unfold MUL at h1;unfold INV at h2;rw[zcc 297 rfl rfl];unfold W8 MUL INV;cases c:isB t [109,117,108]
 ·rw[c]at h1;simp[f297C,h1,h2,Qi]
 ·rw[c]at h1;simp[f297C,h1,h2,Qi]
@[simp] def QjI: ∀l:Qk,ZU (l.map Zq)=true
 | []=>rfl
 | k:: l=>by simp[ZU,QjI l]
def QiD (t:Tm) (bs:Qa):call tb 522 [.agg (Qf t)] bs=some (.bool (W8 t),bs):=by
 have h:=EB t MUL INV true bs;have h':=EB t MUL INV false bs;unfold MUL INV at h h';rw[zcc 522 rfl rfl];unfold W8 MUL INV;simp[f522C,h,h',Qi]
def Nd {x:Tm}: ∀{l:Qc},x∈Ze l↔∃t∈l,x∈Zn t
 | []=>by simp[Ze]
 | t:: ts=>by simp[Ze,Nd (l:=ts)]
mutual
theorem Ij: ∀(t y z:Tm),y∈Zn t->z∈Zn y->z∈Zn t
 | .mk k n s ks,y,z,hy,hz=>by
  simp only[Zn,Zt]at hy;rcases hy with rfl | hy
  ·exact hz
  ·simp only[Zn,Zt];exact .inr (Bg ks y z hy hz)
theorem Bg: ∀(ts:List Tm) (y z:Tm),y∈Ze ts->z∈Zn y->z∈Ze ts
 | [],y,z,hy,_=>by simp[Ze]at hy
 | t:: ts,y,z,hy,hz=>by
  simp only[Ze,YU]at hy ⊢;rcases hy with hy | hy
  ·exact .inl (Ij t y z hy hz)
  ·exact .inr (Bg ts y z hy hz)
end
def Bf {t:Tm}: ∀{ts:Qc},t∈ts->∀y∈Zn t,y∈Ze ts
 | [],h,_,_=>by simp at h
 | x:: ts,h,y,hy=>by
  simp only[Ze,YU];rcases Zt.1 h with rfl | h
  ·exact .inl hy
  ·exact .inr (Bf h y hy)
def nL1 (l:Qk):Nat:=(l.map fun q=>q.2.natAbs).sum
def nnN (t:Tm):Prop:=(isB t XOR=true->Zy t≠[])/\(W8 t=true->nL1 (ofP t)<=8)
def HN (t:Tm):Prop:=∀x∈Zn t,nnN x
def Dp {t y:Tm} (h:HN t) (hy:y∈Zn t):HN y:=fun x hx=>h x (Ij t y x hy hx)
def QdN {t x:Tm} (h:HN t) (hx:x∈t.kids):HN x:=Dp h (by rw[Bh];exact OK _ (Bf hx x (IU x)))
def Rk {k:Int} {n:Qv} {s:Int} {us:Qc} (h:nnN (.mk k n s us)) (hu: ∀x∈us,HN x):HN (.mk k n s us):=by
 intro x hx;simp only[Zn,Zt]at hx;rcases hx with rfl | hx
 ·exact h
 ·obtain⟨t,ht,hxt⟩:=Nd.1 hx;exact hu t ht x hxt
def KA {t:Tm} (h1:isB t XOR=false) (h2:W8 t=false):nnN t:=
 ⟨fun h=>absurd (h1.symm.trans h) (by decide),fun h=>absurd (h2.symm.trans h) (by decide)⟩
def O3 {n:Qv} {us:Qc} (h1:n≠XOR) (h2:n≠MUL) (h3:n≠INV):nnN (.mk 3 n 0 us):=KA (by simp[isB,h1]) (by simp[W8,isB,h2,h3])
def Vk:HN QJ:=Rk (KA rfl rfl) (fun x hx=>by simp at hx)
mutual
theorem C8: ∀(t y:Tm),y∈Zy t->Zy y=[y]
 | .mk k n s ks,y,h=>by
  have h0:=h;simp only[Zy]at h;split at h
  ·simp at h
  ·rename_i c1;split at h
   ·rcases Oy ks [] y h with h | h
    ·simp at h
    ·exact h
   ·rename_i c2;simp at h;subst h;simp only[Zy,Qm c1,Qm c2]
theorem Oy: ∀(ts acc:List Tm) (y:Tm),y∈Z6 acc ts->y∈acc\/Zy y=[y]
 | [],acc,y,h=> .inl h
 | t:: ts,acc,y,h=>by
  rcases Oy ts _ y h with h | h
  ·rcases Ug (Ur t) h with h | h
   ·exact .inl h
   ·exact .inr (C8 t y h)
  ·exact .inr h
end
def HG: ∀(ks acc:Qc),(∀y∈ks,Zy y=[y])->ks.Nodup->(∀y∈ks,y ∉ acc)->∀y,y∈acc\/y∈ks->y∈Z6 acc ks
 | [],acc,_,_,_,y,h=>by
  rcases h with h | h
  ·exact h
  ·simp at h
 | t:: ts,acc,hs,hn,hd,y,h=>by
  have hst:=hs t (by simp);have hn2:=List.nodup_cons.1 hn;have hta:=hd t (by simp);simp only[Z6];have hm: ∀z,z∈Xd acc (Zy t)↔z∈acc\/z=t:=by
   intro z;rw[Of (Ur t),hst,Vd];constructor
   ·intro h;rcases h with h | h
    ·exact .inl h.1
    ·exact .inr h.2
   ·intro h;by_cases hz:z=t
    ·subst hz;exact .inr ⟨hta,rfl⟩
    ·rcases h with h | h
     ·exact .inl ⟨h,hz⟩
     ·exact absurd h hz
  apply HG ts _ (fun z hz=>hs z (by simp[hz])) hn2.2
  ·intro z hz hz2;rcases(hm z).1 hz2 with h1 | h1
   ·exact hd z (by simp[hz]) h1
   ·subst h1;exact hn2.1 hz
  ·rcases h with h | h
   ·exact .inl ((hm y).2 (.inl h))
   ·rcases Zt.1 h with h | h
    ·exact .inl ((hm y).2 (.inr h))
    ·exact .inr h
def Qdf {l:Qc} (h:Asc l):l.Nodup:=by
 refine List.Pairwise.imp ?_ h;intro a b hab e;subst e;rw[Un]at hab;omega
def QjA {us:Qc} (h: ∀x∈us,HN x):HN (Wk us).1:=by
 unfold Wk;split
 ·exact Vk
 ·split
  ·exact Vk
  ·have hL: ∀y∈Z6 [] us,HN y/\Zy y=[y]:=fun y hy=>by
    constructor
    ·rcases NX us [] y hy with h1 | h1
     ·simp at h1
     ·obtain⟨t,ht,hyt⟩:=Nd.1 h1;exact Dp (h t ht) hyt
    ·rcases Oy us [] y hy with h1 | h1
     ·simp at h1
     ·exact h1
   have hA:=Qdf (Ke us [] Asc.nil)
   show HN (tmX (Z6 [] us))
   match hh:Z6 [] us with
   | []=>exact Rk (O3 (by decide) (by decide) (by decide)) (fun x hx=>by simp at hx)
   | [p]=>simp only[tmX];exact(hL p (by rw[hh];simp)).1
   | p:: q:: r=>
    simp only[tmX];rw[hh]at hL hA;refine Rk ⟨fun _=> ?_,fun he=> ?_⟩ (fun x hx=>(hL x hx).1)
    ·have hp:=HG (p:: q:: r) [] (fun y hy=>(hL y hy).2) hA (fun y _ hy=>by simp at hy) p (.inr (by simp));intro e;have e2:Zy (.mk 3 XOR 0 (p:: q:: r))=Z6 [] (p:: q:: r):=by simp[Zy]
     rw[e2]at e;rw[e]at hp;simp at hp
    ·exact absurd he (by simp[W8,isB,XOR,MUL,INV])
def KK (l:Qk):Prop:=∀q∈l,HN q.1/\Xr q.1=false
def Ac {l:Qk} {t:Tm} {m:Int} (h:KK l) (ht:HN t) (hs:Xr t=false):KK (YY l t m):=by
 intro q hq;rcases TL hq with hq | rfl | ⟨_,_,rfl,_⟩
 ·exact h q hq
 ·exact⟨ht,hs⟩
 ·exact⟨ht,hs⟩
def Ad: ∀(t:Tm) (l:Qk) (m:Int),KK l->HN t->KK (WA l t m):=by
 refine Yj ?_;intro k n s ks ih l m h hm;have hL: ∀(xs:Qc) (l:Qk) (m:Int),(∀x∈xs,x∈ks)->KK l->KK (XT l xs m):=by
  intro xs
  induction xs with
  | nil=>intro l m _ h;simpa[XT]using h
  | cons x xs IH=>
   intro l m hx h;simp only[XT];exact IH _ m (fun y hy=>hx y (by simp[hy])) (ih x (hx x (by simp)) l m h (QdN hm (hx x (by simp))))
 rw[Ud];cases hs:Xr (.mk k n s ks)
 ·exact Ac h hm hs
 ·exact hL ks l _ (fun x hx=>hx) h
def JN: ∀(b a:Qk),KK a->KK b->KK (Wm a b)
 | [],a,h,_=>h
 | q:: b,a,h,hb=>JN b _ (Ac h (hb q (by simp)).1 (hb q (by simp)).2) fun x hx=>hb x (by simp[hx])
def Dx {t:Tm} (h:HN t):KK (ofP t):=by
 unfold ofP;split
 ·exact Ad t [] 1 (fun q hq=>by simp at hq) h
 ·intro q hq;simp at hq
def QjG {a b:Qk} (ha:KK a) (hb:KK b):KK (XA a b):=by
 unfold XA;split
 ·exact JN b a ha hb
 ·intro q hq;simp at hq
def Ky: ∀(l:Qk) (t:Tm) (m:Int),nL1 (YY l t m)<=nL1 l+m.natAbs
 | [],t,m=>by simp[YY,nL1]
 | p:: r,t,m=>by
  have ih:=Ky r t m;simp only[nL1,YY]at ih ⊢;split
  ·simp;omega
  ·split
   ·split
    ·simp;omega
    ·simp;omega
   ·simp;omega
def opX (x:Tm):Prop:=Xr x=false\/∃y,Xr y=false/\x=Ue y
def DE {l:Qk} {x:Tm} (h:opX x):nL1 (WA l x 1)<=nL1 l+1:=by
 rcases h with h | ⟨y,h,rfl⟩
 ·rw[Ud,h];exact Ky l x 1
 ·have hs:Xr (Ue y)=true:=by simp[Xr,Ue]
  rw[Ud,hs];simp only[Zd,Ue,Tm.kids,Tm.name,beq_self_eq_true,XT];rw[Ud,h];exact Ky l y (-1)
def Hx: ∀(xs:Qc) (l:Qk),(∀x∈xs,opX x)->nL1 (XT l xs 1)<=nL1 l+xs.length
 | [],l,_=>by simp[XT]
 | x:: xs,l,h=>by
  simp only[XT,ZM];have h1:=Hx xs (WA l x 1) fun y hy=>h y (by simp[hy]);have h2:=DE (l:=l) (h x (by simp));omega
def JY {t:Tm} {b:Nat} (h:nL1 (WA [] t 1)<=b):nL1 (ofP t)<=b:=by
 unfold ofP;split
 ·exact h
 ·simp[nL1]
def Qge {l:Qk} (h:KK l): ∀x∈Z2 l,opX x/\HN x:=by
 intro x hx;simp only[Z2,WC,Va,YU,MB,XN]at hx;rcases hx with⟨_,⟨q,hq,rfl⟩,hx⟩ | ⟨_,⟨q,hq,rfl⟩,hx⟩
 ·rw[KW hx];exact⟨.inl (h q hq).2,(h q hq).1⟩
 ·rw[KW hx];have ho:opX (Ue q.1):= .inr ⟨q.1,(h q hq).2,rfl⟩;refine⟨ho,Rk ⟨fun e=>absurd e (by simp[isB,INV,XOR]),fun _=> ?_⟩ fun y hy=> ?_⟩
  ·refine JY (VL (DE (l:=[]) ho) ?_);simp[nL1]
  ·simp at hy;subst hy;exact(h q hq).1
def Dq {l:Qk} (h:KK l):HN (Yg l).1:=by
 unfold Yg;split
 ·exact Vk
 ·split
  ·exact Vk
  ·rename_i h8;split
   ·exact Vk
   ·have hL:=Qge h
    show HN (ZY (Z2 l))
    match hh:Z2 l with
    | []=>exact Rk (O3 (by decide) (by decide) (by decide)) (fun x hx=>by simp at hx)
    | [p]=>simp only[ZY];exact(hL p (by rw[hh];simp)).2
    | p:: q:: r=>
     simp only[ZY];rw[hh]at hL h8;refine Rk ⟨fun e=>absurd e (by simp[isB,MUL,XOR]),fun _=> ?_⟩ (fun x hx=>(hL x hx).2);have hs:Xr (.mk 3 MUL 0 (p:: q:: r))=true:=by simp[Xr]
     refine JY ?_;rw[Ud,hs];simp only[Zd];have e: (if(Tm.mk 3 MUL 0 (p:: q:: r)).name == INV then(-1:Int)else 1)=1:=rfl;rw[e];have:=Hx (p:: q:: r) [] fun x hx=>(hL x hx).1;simp only[nL1,X4,List.sum_nil,Zm]at this;exact VL this (by omega)
def Qop {b e:Tm} (hb:HN b) (he:HN e):HN (.mk 3 EXP 0 [b,e]):=Rk (O3 (by decide) (by decide) (by decide)) fun x hx=>by
 simp at hx;rcases hx with rfl | rfl
 ·exact hb
 ·exact he
def B9 {b:Tm} {p:Qk} (hb:HN b) (hp:KK p):HN (Vx b p).1:=by
 unfold Vx;split
 ·exact hb
 ·split
  ·exact Vk
  ·exact Qop hb (Dq hp)
def ID {t:Tm} (h:HN t) (i:Nat):HN (kid t i):=by
 unfold kid;rw[Sq];cases hg:t.kids[i]? with
 | none=>simpa using Vk
 | some x=>exact QdN h (WF hg)
def Qjz {b e:Tm} (hb:HN b) (he:HN e):HN (Wc b e).1:=by
 unfold Wc;split
 ·exact Vk
 ·split
  ·split
   ·exact Vk
   ·split
    ·exact Vk
    ·exact B9 (ID hb 0) (QjG (Dx (ID hb 1)) (Dx he))
  ·exact B9 hb (Dx he)
def IC {us:Qc} (h: ∀x∈us,HN x) (i:Nat):HN (us.getD i QJ):=by
 rw[Sq];cases hg:us[i]? with
 | none=>simpa using Vk
 | some x=>exact h x (WF hg)
def QfT {n:Qv} {us:Qc} (hn:Ua n=true) (h: ∀x∈us,HN x):HN (Q7 n us):=by
 have hout:HN (.mk 3 n 0 us):=by
  refine Rk (O3 ?_ ?_ ?_) h <;> (intro e;subst e;revert hn;decide)
 have ha:=IC h 0;have hk:=fun i=>ID ha i;simp only[Q7]
 repeat' split
 all_goals first | exact hout | exact hk _
def QfU {n:Qv} {us:Qc} (h: ∀x∈us,HN x):HN (Y9 n us).1:=by
 unfold Y9;split
 ·rename_i hn;exact QfT hn h
 ·split
  ·exact QjA h
  ·split
   ·rename_i c1 c2 c3;unfold Xg;split
    ·exact Vk
    ·refine Dq ?_;unfold ofP;split
     ·rw[Ud];have hL: ∀(xs:Qc) (l:Qk) (m:Int),(∀x∈xs,x∈us)->KK l->KK (XT l xs m):=by
       intro xs
       induction xs with
       | nil=>intro l m _ h;simpa[XT]using h
       | cons x xs IH=>
        intro l m hx h2;simp only[XT];exact IH _ m (fun y hy=>hx y (by simp[hy])) (Ad x l m h2 (h x (hx x (by simp))))
      have hs:Xr (.mk 3 n 0 us)=true:=by rcases c3 with rfl | rfl | rfl <;> simp[Xr]
      rw[hs];exact hL us [] _ (fun x hx=>hx) (fun q hq=>by simp at hq)
     ·intro q hq;simp at hq
   ·rename_i c1 c2 c3;split
    ·exact Qjz (IC h 0) (IC h 1)
    ·exact Rk (O3 c2 (fun e=>c3 (.inl e)) (fun e=>c3 (.inr (.inl e)))) h
mutual
theorem Do: ∀t:Tm,Wa t=0->HN (ZN t).1
 | .mk k n s ks,h=>by
  simp only[Wa]at h;split at h
  ·rename_i h1;exact absurd h h1
  ·rename_i h1;obtain⟨_,_,_,hb⟩:=KB (t:= .mk k n s ks) (by simpa using h1);simp only[UM,Zs]at hb;simp only[ZN];split
   ·split
    ·exact QfU (Dn ks h)
    ·exact Vk
   ·rename_i hk;have:=hb hk;subst this;exact Rk (KA (by simp[isB,hk]) (by simp[W8,isB,hk])) fun x hx=>by simp at hx
theorem Dn: ∀ts:List Tm,V5 ts=0->∀x∈(YG ts).1,HN x
 | [],_,x,hx=>by simp[YG]at hx
 | t:: ts,h,x,hx=>by
  simp only[V5]at h;split at h
  ·rename_i h1;exact absurd h h1
  ·rename_i h1;simp only[YG]at hx;split at hx
   ·split at hx
    ·simp at hx;rcases hx with rfl | hx
     ·exact Do t (by simpa using h1)
     ·exact Dn ts h x hx
    ·simp at hx
   ·simp at hx
end
def aE (rs:X8) (c i:Nat):Nat:=(ceE rs i c).natAbs
structure S4 where
 a0:Nat
 x0:Nat
 a1:Nat
 x1:Nat
 a2:Nat
 x2:Nat
 a3:Nat
 x3:Nat
def S4.a (s:S4):ZH
 | 0=>s.a0
 | 1=>s.a1
 | 2=>s.a2
 | _=>s.a3
def S4.x (s:S4):ZH
 | 0=>s.x0
 | 1=>s.x1
 | 2=>s.x2
 | _=>s.x3
def rA (p:Bool) (m a:Nat):Nat:=if p then a else a % m
def rX (p:Bool) (m y a x:Nat):Nat:=if p then x else x+a / m*y
def S4.step (s:S4) (b:Nat):S4:=
 ⟨rA (b == 0) (s.a b) s.a0,rX (b == 0) (s.a b) (s.x b) s.a0 s.x0,rA (b == 1) (s.a b) s.a1,rX (b == 1) (s.a b) (s.x b) s.a1 s.x1,
  rA (b == 2) (s.a b) s.a2,rX (b == 2) (s.a b) (s.x b) s.a2 s.x2,rA (b == 3) (s.a b) s.a3,rX (b == 3) (s.a b) (s.x b) s.a3 s.x3⟩
def S4.min (s:S4) (b:Nat):Bool:=s.a b != 0 && (s.a0 == 0 || Nat.ble (s.a b) s.a0) && (s.a1 == 0 || Nat.ble (s.a b) s.a1) && (s.a2 == 0 || Nat.ble (s.a b) s.a2) && (s.a3 == 0 || Nat.ble (s.a b) s.a3)
def nz1 (n:Nat):Nat:=if n == 0 then 0 else 1
def S4.one (s:S4):Bool:=Nat.ble (nz1 s.a0+nz1 s.a1+nz1 s.a2+nz1 s.a3) 1
mutual
theorem Da: ∀(t x:Tm),Wa t=0->x∈Zn t->Wa x=0
 | .mk k n s ks,x,h,hx=>by
  simp only[Zn,Zt]at hx;rcases hx with rfl | hx
  ·exact h
  ·simp only[Wa]at h;split at h
   ·rename_i h1;exact absurd h h1
   ·exact E9 ks x h hx
theorem E9: ∀(ts:List Tm) (x:Tm),V5 ts=0->x∈Ze ts->Wa x=0
 | [],x,_,hx=>by simp[Ze]at hx
 | t:: ts,x,h,hx=>by
  simp only[V5]at h;simp only[Ze,YU]at hx;split at h
  ·rename_i h1;exact absurd h h1
  ·rename_i h1;rcases hx with hx | hx
   ·exact Da t x (by simpa using h1) hx
   ·exact E9 ts x h hx
end
mutual
theorem HA: ∀(t x:Tm),x∈Zn t->x.nodes<=t.nodes
 | .mk k n s ks,x,hx=>by
  simp only[Zn,Zt]at hx;rcases hx with rfl | hx
  ·exact Zx _
  ·have:=JZ ks x hx;simp only[Tm.nodes];omega
theorem JZ: ∀(ts:List Tm) (x:Tm),x∈Ze ts->x.nodes<=Qw ts
 | [],x,hx=>by simp[Ze]at hx
 | t:: ts,x,hx=>by
  simp only[Ze,YU]at hx;simp only[Qw];rcases hx with hx | hx
  ·have:=HA t x hx;omega
  ·have:=JZ ts x hx;omega
end
mutual
theorem Hb: ∀(t x:Tm),x∈Zn t->x.depth<=t.depth
 | .mk k n s ks,x,hx=>by
  simp only[Zn,Zt]at hx;rcases hx with rfl | hx
  ·exact Zx _
  ·have:=Jy ks x hx;simp only[Tm.depth];omega
theorem Jy: ∀(ts:List Tm) (x:Tm),x∈Ze ts->x.depth<=YZ ts
 | [],x,hx=>by simp[Ze]at hx
 | t:: ts,x,hx=>by
  simp only[Ze,YU]at hx;simp only[YZ];rcases hx with hx | hx
  ·have:=Hb t x hx;omega
  ·have:=Jy ts x hx;omega
end
def Cm {t:Tm} (h:Q1 t=0):t.depth<=40:=by
 unfold Q1 at h;split at h
 ·rename_i h1;exact absurd h h1
 ·split at h
  ·cases h
  ·omega
def Qbi {t x:Tm} (h:Q1 t=0) (hx:x∈Zn t):Q1 x=0:=by
 obtain⟨h1,h2,h3⟩:=V0 h;have e1:=Da t x h1 hx;have e2:=HA t x hx;have e3:=Hb t x hx;have e4:=Cm h;unfold Q1;rw[Qm (by simp[e1]),Qm (by omega)]
def XU (u:Qc):Qc:=(u.map fun t=>if W8 t then QZ (ofP t)else if isB t EXP then QZ (ofP (kid t 1))else []).flatten
def Lp: ∀{s:Qc},(∀x∈s,Q1 x=0)->Qw s<=400*s.length
 | [],_=>by simp[Qw]
 | x:: s,h=>by
  have h1:=(V0 (h x (by simp))).2.1;have h2:=Lp (s:=s) fun y hy=>h y (by simp[hy]);simp only[Qw,ZM];omega
def Uv (t:Tm):Qc:=if W8 t then QZ (ofP t)else if isB t EXP then QZ (ofP (kid t 1))else []
def Iz (u:Qc):XU u=(u.map Uv).flatten:=rfl
def Hm (u:Qc) (t:Tm):XU (u ++ [t])=XU u ++ Uv t:=by simp[Iz]
def HD (a:Qc) (x:Tm):Zz (a ++ [x])=ZO x (Zz a):=by simp[Zz,Yp,List.foldl_append]
def QfL (t:Tm): (Uv t).length<=200:=by
 unfold Uv;split
 ·simp only[QZ,WH];exact Vl t
 ·split
  ·simp only[QZ,WH];exact Vl _
  ·simp
def Kr: ∀u:Qc,(XU u).length<=200*u.length
 | []=>by simp[XU]
 | t:: u=>by
  have h1:=Kr u;have h2:=QfL t;have:XU (t:: u)=Uv t ++ XU u:=by simp[Iz]
  rw[this];simp;omega
def QdF {t:Tm} (h:t.mass < 1000000): ∀x∈Uv t,x.mass < 1000000:=by
 intro x hx;unfold Uv at hx;split at hx
 ·obtain⟨q,hq,rfl⟩:=XN.1 hx;exact(UP h).2 q hq
 ·split at hx
  ·obtain⟨q,hq,rfl⟩:=XN.1 hx;exact(UP (Nat.lt_of_le_of_lt (Vy t 1) h)).2 q hq
  ·cases hx
def Hl {u:Qc} (h: ∀t∈u,t.mass < 1000000): ∀x∈XU u,x.mass < 1000000:=by
 intro x hx;rw[Iz]at hx;obtain⟨l,hl,hx⟩:=MB.1 hx;obtain⟨t,ht,rfl⟩:=XN.1 hl;exact QdF (h t ht) x hx
def szT (u:Qc):Int:=if 200 < u.length\/4 < (u.filter W8).length\/8 < (Zz (XU u)).length then 3 else 0
def Ak (l:Qk) (hl:SmP l) (G:Qc) (hG:G.length+l.length < 1000000) (hm: ∀x∈G,x.mass < 1000000) (v0 v4:AV) (B:Qa) (K:Kn) (Q:Out->Prop):
  ∀(post pre:Qk) (o o6:Bool) (ρ:Ql),l=pre ++ post->ρ 0=v0->ρ 3= .sl o 4 (Qb (Zz (G ++ QZ pre)))->ρ 4=v4->ρ 6= .sl o6 5 (QC l)->ρ 8= .int .i64 pre.length->
  (∀(ρ':Ql) (o':Bool),ρ' 0=v0->ρ' 3= .sl o' 4 (Qb (Zz (G ++ QZ l)))->ρ' 4=v4->Q (K .normal ⟨ρ',B⟩))->
  Q (R tb (.loop f298l0) ρ B (Qq 2 K)):=by
 intro post
 induction post with
 | nil=>
  intro pre o o6 ρ hk h0 h3 h4 h6 h8 hq;simp only[QF]at hk;subst hk;rw[Qe f298l0.eq_1];simp[h0,h3,h4,h6,h8];apply hq _ o <;> simp[h0,h3,h4]
 | cons p post IH=>
  intro pre o o6 ρ hk h0 h3 h4 h6 h8 hq;have hg:=Qx hk;have hll:=QE hk;have hlt:=QG hk;have hl1:=hl.1;have hw1:=wr1 pre.length (by omega);have hpm:=hl.2 p (by rw[hk];simp);have hsl: (Zz (G ++ QZ pre)).length < 100000000:=by
   have:=PR (G ++ QZ pre);simp only[Zc,QZ,WH]at this ⊢;omega
  have hsm: ∀x∈Zz (G ++ QZ pre),x.mass < big:=fun x hx=>by
   have hx:=V7.1 hx;rcases YU.1 hx with hx | hx
   ·have:=hm x hx;unfold big;omega
   ·obtain⟨q,hq,rfl⟩:=XN.1 hx;have:=hl.2 q (by rw[hk];simp[hq]);unfold big;omega
  have c239:=fun o=>Nh (Zz (G ++ QZ pre)) p.1 o B hsl hsm (by unfold big;omega);have e1:ZO p.1 (Zz (G ++ QZ pre))=Zz (G ++ QZ (pre ++ [p])):=by rw[<- HD];simp[QZ]
  rw[e1]at c239;have ih:=fun o o6 ρ=>IH (pre ++ [p]) o o6 ρ (by rw[hk];simp);rw[Qe f298l0.eq_1];simp[h0,h3,h4,h6,h8,hg,hlt,hw1,c239,Qi];apply ih false o6 <;> first | exact hq | simp[h0,h4,h6]
def Qj4 (u:Qc) (hul:u.length < 4000) (hum: ∀t∈u,t.mass < 1000000) (hek: ∀t∈u,isB t EXP=true->t.kids.length=2) (B:Qa):
  ∀(post pre:Qc) (o o3:Bool) (ρ:Ql),u=pre ++ post->ρ 0= .sl o 4 (Qb u)->ρ 3= .sl o3 4 (Qb (Zz (XU pre)))->ρ 4= .int .i64 pre.length->
  R tb (.loop f298l1) ρ B (Qq 0 (QI tb f298r1 (QK f298 B)))=some (.sl false 4 (Qb (Zz (XU u))),B):=by
 intro post
 induction post with
 | nil=>
  intro pre o o3 ρ hk h0 h3 h4;simp only[QF]at hk;subst hk;rw[Qe f298l1.eq_1];simp[h0,h3,h4,f298r1]
 | cons t post IH=>
  intro pre o o3 ρ hk h0 h3 h4;have hg:=Qx hk;have hll:=QE hk;have hlt:=QG hk;have hw1:=wr1 pre.length (by omega);have ht:t∈u:=by rw[hk];simp
  have htm:=hum t ht;have h1:=U2 t EXP B;have h2:=Br t B;unfold EXP at h1;have hpm: ∀x∈XU pre,x.mass < 1000000:=Hl fun x hx=>hum x (by rw[hk];simp[hx]);have hpl:=Kr pre;have ih:=fun o o3 ρ=>IH (pre ++ [t]) o o3 ρ (by rw[hk];simp);rw[Hm]at ih;by_cases c1:isB t EXP=true
  ·have c2:=hek t ht c1;have hkk:=U1 c2;have e1:=Zj t;have e2:Qb t.kids=[Qf (kid t 0),Qf (kid t 1)]:=by rw[hkk];simp[Qb]
   rw[e2]at e1;have km:=Vy t 1;have c253:=TV (kid t 1) B (by omega);have hne:W8 t=false:=by
    obtain⟨_,hn⟩:=Tn.1 c1;simp[W8,isB,hn,MUL,INV,EXP]
   have ef:Uv t=QZ (ofP (kid t 1)):=by unfold Uv;rw[hne,c1];simp
   have hsp:=UP (t:=kid t 1) (by omega);have hol:=Vl (kid t 1);have l0:=fun K ρ=>Ak (ofP (kid t 1)) hsp (XU pre) (by omega) hpm (.sl o 4 (Qb u)) (.int .i64 pre.length) B K (fun r=>r=some (.sl false 4 (Qb (Zz (XU u))),B)) (ofP (kid t 1)) [] o3 false ρ rfl;unfold EXP at c1;rw[c1]at h1;rw[ef]at ih;rw[Qe f298l1.eq_1];simp only[e1]at h1 hg ⊢;simp[h0,h3,h4,hg,hlt,hw1,h1,c253,e1,Qi];apply l0
   ·simp[h0]
   ·simp[h3,QZ]
   ·simp[h4]
   ·simp
   ·simp
   ·intro ρ' o' q0 q3 q4;simp[f298r0,q4,hw1];apply ih o o' <;> simp[q0,q3]
  ·have c1:isB t EXP=false:=by simpa using c1
   unfold EXP at c1;rw[c1]at h1;cases c3:W8 t
   ·have ef:Uv t=[]:=by unfold Uv EXP;rw[c3,c1];simp
    rw[ef,QF]at ih;rw[c3]at h2;rw[Qe f298l1.eq_1];simp[h0,h3,h4,hg,hlt,hw1,h1,h2,Qi,f298r0,OU];apply ih o o3 <;> simp[h0,h3]
   ·have ef:Uv t=QZ (ofP t):=by unfold Uv;rw[c3];simp
    have c253:=TV t B (by omega);have hsp:=UP (t:=t) (by omega);have hol:=Vl t;have l0:=fun K ρ=>Ak (ofP t) hsp (XU pre) (by omega) hpm (.sl o 4 (Qb u)) (.int .i64 pre.length) B K (fun r=>r=some (.sl false 4 (Qb (Zz (XU u))),B)) (ofP t) [] o3 false ρ rfl;rw[ef]at ih;rw[c3]at h2;rw[Qe f298l1.eq_1];simp[h0,h3,h4,hg,hlt,hw1,h1,h2,c253,Qi];apply l0
    ·simp[h0]
    ·simp[h3,QZ]
    ·simp[h4]
    ·simp
    ·simp
    ·intro ρ' o' q0 q3 q4;simp[f298r0,q4,hw1];apply ih o o' <;> simp[q0,q3]
def Qh9 (u:Qc) (hul:u.length < 4000) (hum: ∀t∈u,t.mass < 1000000) (hek: ∀t∈u,isB t EXP=true->t.kids.length=2) (o:Bool) (B:Qa):
  call tb 298 [.sl o 4 (Qb u)] B=some (.sl false 4 (Qb (Zz (XU u))),B):=by
 have h:=fun ρ=>Qj4 u hul hum hek B u [] false true ρ rfl;rw[zcc 298 rfl rfl];simp[f298C];apply h <;> simp[XU,Zz,Yp,Qb]
def QoL (u:Qc) (hul:u.length < 4000) (hum: ∀t∈u,t.mass < 1000000) (hek: ∀t∈u,isB t EXP=true->t.kids.length=2) (B:Qa):
  ∀(post pre:Qc) (o:Bool) (ρ:Ql),u=pre ++ post->ρ 0= .sl o 4 (Qb u)->ρ 3= .int .i64 (pre.filter W8).length->ρ 4= .int .i64 pre.length->
  R tb (.loop f296l0) ρ B (Qq 0 (QI tb f296r0 (QK f296 B)))=some (.int .i64 (szT u),B):=by
 intro post
 induction post with
 | nil=>
  intro pre o ρ hk h0 h3 h4;simp only[QF]at hk;subst hk;have c298:=fun o=>Qh9 u hul hum hek o B;rw[Qe f296l0.eq_1];unfold szT;have hfl: (Qb (Zz (XU u))).length=(Zz (XU u)).length:=Wh _;generalize (Zz (XU u)).length=n3 at *;generalize (u.filter W8).length=n2 at *;generalize hE:Qb (Zz (XU u))=E at *;have i1: (200 < u.length)↔(200:Int) < (u.length:Int):=by omega
  have i2: (4 < n2)↔(4:Int) < (n2:Int):=by omega
  have i3: (8 < n3)↔(8:Int) < (n3:Int):=by omega
  simp only[i1,i2,i3];by_cases c1: (200:Int) < (u.length:Int)
  ·simp[h0,h3,h4,f296r0,c298,hfl,c1]
  ·by_cases c2: (4:Int) < (n2:Int)
   ·simp[h0,h3,h4,f296r0,c298,hfl,c1,c2]
   ·by_cases c3: (8:Int) < (n3:Int)
    ·simp[h0,h3,h4,f296r0,c298,hfl,c1,c2,c3]
    ·simp[h0,h3,h4,f296r0,c298,hfl,c1,c2,c3]
 | cons t post IH=>
  intro pre o ρ hk h0 h3 h4;have hg:=Qx hk;have hll:=QE hk;have hlt:=QG hk;have hw1:=wr1 pre.length (by omega);have hfl:=Sh W8 pre;have h2:=Br t B;have ih:=fun o ρ=>IH (pre ++ [t]) o ρ (by rw[hk];simp);simp only[Ef,Zc]at ih;generalize (pre.filter W8).length=n at *;have hw2:IntKind.i64.wrap ((n:Int)+1)=(n:Int)+1:=Zg (by omega) (by omega);rw[Qe f296l0.eq_1];cases c:W8 t
  ·rw[c]at h2;simp[h0,h3,h4,hg,hlt,hw1,h2,Qi];apply ih o <;> simp[h0,h3,c]
  ·rw[c]at h2;simp[h0,h3,h4,hg,hlt,hw1,hw2,h2,Qi];apply ih o <;> simp[h0,h3,c]
def Qh8 (u:Qc) (hul:u.length < 4000) (hum: ∀t∈u,t.mass < 1000000) (hek: ∀t∈u,isB t EXP=true->t.kids.length=2) (o:Bool) (B:Qa):
  call tb 296 [.sl o 4 (Qb u)] B=some (.int .i64 (szT u),B):=by
 have h:=fun ρ=>QoL u hul hum hek B u [] false ρ rfl;rw[zcc 296 rfl rfl];simp[f296C];apply h <;> simp
def Qhk (l:Qk) (hl:SmP l) (G:Qc) (hG:G.length+l.length < 900000) (hm: ∀x∈G,x.mass < 1000000) (v0 v3 v11 v12 v13:AV) (B:Qa) (K:Kn) (Q:Out->Prop):
  ∀(post pre:Qk) (o o35:Bool) (ρ:Ql),l=pre ++ post->ρ 0=v0->ρ 3=v3->ρ 4= .sl o 4 (Qb (Zz (G ++ QZ pre)))->ρ 11=v11->ρ 12=v12->ρ 13=v13->ρ 35= .sl o35 5 (QC l)->ρ 36= .int .i64 l.length->ρ 37= .int .i64 pre.length->
  (∀(ρ':Ql) (o':Bool),ρ' 0=v0->ρ' 3=v3->ρ' 4= .sl o' 4 (Qb (Zz (G ++ QZ l)))->ρ' 11=v11->ρ' 12=v12->ρ' 13=v13->Q (K .normal ⟨ρ',B⟩))->
  Q (R tb (.loop f521l0) ρ B (Qq 3 K)):=by
 intro post
 induction post with
 | nil=>
  intro pre o o35 ρ hk h0 h3 h4 h11 h12 h13 h35 h36 h37 hq;simp only[QF]at hk;subst hk;rw[Qe f521l0.eq_1];simp[h0,h3,h4,h11,h12,h13,h35,h36,h37];apply hq _ o <;> simp[h0,h3,h4,h11,h12,h13]
 | cons p post IH=>
  intro pre o o35 ρ hk h0 h3 h4 h11 h12 h13 h35 h36 h37 hq;have hg:=Qx hk;have hll:=QE hk;have hlt:=QG hk;have hl1:=hl.1;have hw1:=wr1 pre.length (by omega);have hpm:=hl.2 p (by rw[hk];simp);have hsl: (Zz (G ++ QZ pre)).length < 1000000:=by
   have:=PR (G ++ QZ pre);simp only[Zc,QZ,WH]at this ⊢;omega
  have hsm: ∀x∈Zz (G ++ QZ pre),x.mass < big:=fun x hx=>by
   have hx:=V7.1 hx;rcases YU.1 hx with hx | hx
   ·have:=hm x hx;unfold big;omega
   ·obtain⟨q,hq,rfl⟩:=XN.1 hx;have:=hl.2 q (by rw[hk];simp[hq]);unfold big;omega
  obtain⟨o2,c523⟩:=QiE (Zz (G ++ QZ pre)) p.1 false B hsl hsm (by unfold big;omega) (Kd _);have e1:ZO p.1 (Zz (G ++ QZ pre))=Zz (G ++ QZ (pre ++ [p])):=by rw[<- HD];simp[QZ]
  rw[e1]at c523;have ih:=fun o o35 ρ=>IH (pre ++ [p]) o o35 ρ (by rw[hk];simp);rw[Qe f521l0.eq_1];simp[h0,h3,h4,h11,h12,h13,h35,h36,h37,hg,hlt,hw1,c523,Qi];apply ih o2 o35 <;> first | exact hq | simp[h0,h3,h11,h12,h13,h35,h36]
def Qqj (u:Qc) (hul:u.length < 4000) (hum: ∀t∈u,t.mass < 1000000) (hek: ∀t∈u,isB t EXP=true->t.kids.length=2) (B:Qa):
  ∀(post pre:Qc) (o o4 o11:Bool) (ρ:Ql),u=pre ++ post->ρ 0= .sl o 4 (Qb u)->ρ 3= .int .i64 (pre.filter W8).length->ρ 4= .sl o4 4 (Qb (Zz (XU pre)))->ρ 11= .sl o11 4 (Qb u)->ρ 12= .int .i64 u.length->ρ 13= .int .i64 pre.length->
  R tb (.loop f521l1) ρ B (Qq 0 (QI tb f521r1 (QK f521 B)))=some (.int .i64 (szT u),B):=by
 intro post
 induction post with
 | nil=>
  intro pre o o4 o11 ρ hk h0 h3 h4 h11 h12 h13;simp only[QF]at hk;subst hk;rw[Qe f521l1.eq_1];unfold szT;have hfl: (Qb (Zz (XU u))).length=(Zz (XU u)).length:=Wh _;generalize (Zz (XU u)).length=n3 at *;generalize (u.filter W8).length=n2 at *;generalize hE:Qb (Zz (XU u))=E at *;have i1: (200 < u.length)↔(200:Int) < (u.length:Int):=by omega
  have i2: (4 < n2)↔(4:Int) < (n2:Int):=by omega
  have i3: (8 < n3)↔(8:Int) < (n3:Int):=by omega
  simp only[i1,i2,i3];by_cases c1: (200:Int) < (u.length:Int)
  ·simp[h0,h3,h4,h11,h12,h13,f521r1,hfl,c1]
  ·by_cases c2: (4:Int) < (n2:Int)
   ·simp[h0,h3,h4,h11,h12,h13,f521r1,hfl,c1,c2]
   ·by_cases c3: (8:Int) < (n3:Int)
    ·simp[h0,h3,h4,h11,h12,h13,f521r1,hfl,c1,c2,c3]
    ·simp[h0,h3,h4,h11,h12,h13,f521r1,hfl,c1,c2,c3]
 | cons t post IH=>
  intro pre o o4 o11 ρ hk h0 h3 h4 h11 h12 h13;have hg:=Qx hk;have hll:=QE hk;have hlt:=QG hk;have hw1:=wr1 pre.length (by omega);have ht:t∈u:=by rw[hk];simp
  have htm:=hum t ht;have h1:=fun o=>Qfe t EXP o B;have h2:=QiD t B;unfold EXP at h1;have hpm: ∀x∈XU pre,x.mass < 1000000:=Hl fun x hx=>hum x (by rw[hk];simp[hx]);have hpl:=Kr pre;have hfl:=Sh W8 pre;have ih:=fun o o4 o11 ρ=>IH (pre ++ [t]) o o4 o11 ρ (by rw[hk];simp);rw[Hm]at ih;simp only[Ef,Zc]at ih;generalize (pre.filter W8).length=n at *;have hw2:IntKind.i64.wrap ((n:Int)+1)=(n:Int)+1:=Zg (by omega) (by omega);cases c3:W8 t
  ·rw[c3]at h2;by_cases c1:isB t EXP=true
   ·have c2:=hek t ht c1;have hkk:=U1 c2;have e1:=Zj t;have e2:Qb t.kids=[Qf (kid t 0),Qf (kid t 1)]:=by rw[hkk];simp[Qb]
    rw[e2]at e1;have km:=Vy t 1;have c186:=TU (kid t 1) B (by omega);have ef:Uv t=QZ (ofP (kid t 1)):=by unfold Uv;rw[c3,c1];simp
    have hsp:=UP (t:=kid t 1) (by omega);have hol:=Vl (kid t 1);have l0:=fun K ρ=>Qhk (ofP (kid t 1)) hsp (XU pre) (by omega) hpm (.sl o 4 (Qb u)) (.int .i64 n) (.sl o11 4 (Qb u)) (.int .i64 u.length) (.int .i64 pre.length) B K (fun r=>r=some (.int .i64 (szT u),B)) (ofP (kid t 1)) [] o4 false ρ rfl;unfold EXP at c1;rw[c1]at h1;rw[ef]at ih;rw[Qe f521l1.eq_1];simp only[e1]at h1 h2 hg ⊢;simp[h0,h3,h4,h11,h12,h13,hg,hlt,hw1,h1,h2,c186,e1,Qi];apply l0
    ·simp[h0]
    ·simp[h3]
    ·simp[h4,QZ]
    ·simp[h11]
    ·simp[h12]
    ·simp[h13]
    ·simp
    ·simp
    ·simp
    ·intro ρ' o' q0 q3 q4 q11 q12 q13;simp[f521r0,q13,hw1];apply ih o o' o11 <;> simp[q0,q3,q4,q11,q12,c3]
   ·have c1:isB t EXP=false:=by simpa using c1
    have ef:Uv t=[]:=by unfold Uv;rw[c3,c1];simp
    unfold EXP at c1;rw[c1]at h1;rw[ef,QF]at ih;rw[Qe f521l1.eq_1];simp[h0,h3,h4,h11,h12,h13,hg,hlt,hw1,h1,h2,Qi,f521r0,OU];apply ih o o4 o11 <;> simp[h0,h3,h4,h11,h12,c3]
  ·have ef:Uv t=QZ (ofP t):=by unfold Uv;rw[c3];simp
   have c186:=TU t B (by omega);have hsp:=UP (t:=t) (by omega);have hol:=Vl t;have l0:=fun K ρ=>Qhk (ofP t) hsp (XU pre) (by omega) hpm (.sl o 4 (Qb u)) (.int .i64 (n+1)) (.sl o11 4 (Qb u)) (.int .i64 u.length) (.int .i64 pre.length) B K (fun r=>r=some (.int .i64 (szT u),B)) (ofP t) [] o4 false ρ rfl;rw[ef]at ih;rw[c3]at h2;rw[Qe f521l1.eq_1];simp[h0,h3,h4,h11,h12,h13,hg,hlt,hw1,hw2,h2,c186,Qi];apply l0
   ·simp[h0]
   ·simp[h3]
   ·simp[h4,QZ]
   ·simp[h11]
   ·simp[h12]
   ·simp[h13]
   ·simp
   ·simp
   ·simp
   ·intro ρ' o' q0 q3 q4 q11 q12 q13;simp[f521r0,q13,hw1];apply ih o o' o11 <;> simp[q0,q3,q4,q11,q12,c3]
def QiC (u:Qc) (hul:u.length < 4000) (hum: ∀t∈u,t.mass < 1000000) (hek: ∀t∈u,isB t EXP=true->t.kids.length=2) (o:Bool) (B:Qa):
  call tb 521 [.sl o 4 (Qb u)] B=some (.int .i64 (szT u),B):=by
 have h:=fun ρ=>Qqj u hul hum hek B u [] false true false ρ rfl;rw[zcc 521 rfl rfl];simp[f521C];apply h <;> simp[XU,Zz,Yp,Qb]
def QiB (t:Tm) (bs:Qa) (hm:t.mass < 1000000):call tb 520 [.agg (Qf t)] bs=some (.int .i64 (Q4 t),bs):=by
 have hb:t.mass < big:=by unfold big;omega
 have h1:=PC t bs hb;have h2:=I2 t bs (by omega);have h3:=Bk t bs hb;have hlen: (Qb (WO t)).length=(WO t).length:=by simp[YF]
 rw[zcc 520 rfl rfl];unfold Q4;by_cases c:thV t=0
 ·rw[c]at h1;by_cases c2:WO t=[]
  ·rw[c2]at h2;simp only[Qb]at h2;cases c3:Uh t
   ·rw[c3]at h3;simp[f520C,h1,h2,h3,c,c2,Qi]
   ·rw[c3]at h3;simp[f520C,h1,h2,h3,c,c2,Qi]
  ·have hpos: (0:Int) < ((WO t).length:Int):=by
    have:=Ru.2 c2;omega
   generalize Qb (WO t)=EV at *;simp[f520C,h1,h2,h3,c,c2,hlen,hpos,Qi]
 ·simp[f520C,h1,c,Qi]
def QoM (l:Qc) (hl:l.length < 1000000) (hm: ∀y∈l,y.mass < 1000000) (B:Qa):
  ∀(post pre:Qc) (o:Bool) (ρ:Ql),l=pre ++ post->ρ 6= .sl o 4 (Qb l)->ρ 7= .int .i64 l.length->ρ 8= .int .i64 pre.length->
  R tb (.loop f519l0) ρ B (Qq 0 (QI tb f519r0 (QK f519 B)))=some (.int .i64 (Wr post),B):=by
 intro post
 induction post with
 | nil=>
  intro pre o ρ hk h6 h7 h8;simp only[QF]at hk;rw[<- hk]at h8;rw[Qe f519l0.eq_1];simp[h6,h7,h8,f519r0,Wr]
 | cons x post IH=>
  intro pre o ρ hk h6 h7 h8;have hgt:=Qx hk;have hll:=QE hk;have hw1:=wr1 pre.length (by omega);have hlt:=QG hk;have hc:=QiB x B (hm x (by rw[hk];simp));have ih:=fun ρ=>IH (pre ++ [x]) o ρ (by rw[hk];simp);rw[Qe f519l0.eq_1];by_cases cx:Q4 x=0
  ·have e:Wr (x:: post)=Wr post:=by simp[Wr,cx]
   rw[e];rw[cx]at hc;simp[h6,h7,h8,hgt,hlt,hw1,hc,Qi];rw[ih] <;> simp[h6,h7]
  ·have e:Wr (x:: post)=Q4 x:=by simp[Wr,cx]
   rw[e];simp[h6,h7,h8,hgt,hlt,hw1,hc,cx,Qi]
def QiA (l:Qc) (o:Bool) (B:Qa) (hl:l.length < 1000000) (hm: ∀y∈l,y.mass < 1000000):call tb 519 [.sl o 4 (Qb l)] B=some (.int .i64 (Wr l),B):=by
 have h:=fun ρ=>QoM l hl hm B l [] false ρ rfl;rw[zcc 519 rfl rfl];simp[f519C];rw[h] <;> simp
def Qj7 (l:Qc) (hl:l.length < 1000000) (hm: ∀y∈l,y.mass < 1000000) (B:Qa):
  ∀(post pre:Qc) (o:Bool) (ρ:Ql),l=pre ++ post->ρ 0= .sl o 4 (Qb l)->ρ 3= .int .i64 pre.length->
  R tb (.loop f295l0) ρ B (Qq 0 (QI tb f295r0 (QK f295 B)))=some (.int .i64 (Wr post),B):=by
 intro post
 induction post with
 | nil=>
  intro pre o ρ hk h0 h3;simp only[QF]at hk;rw[<- hk]at h3;rw[Qe f295l0.eq_1];simp[h0,h3,f295r0,Wr]
 | cons x post IH=>
  intro pre o ρ hk h0 h3;have hgt:=Qx hk;have hll:=QE hk;have hw1:=wr1 pre.length (by omega);have hlt:=QG hk;have hc:=LF x B (hm x (by rw[hk];simp));have ih:=fun ρ=>IH (pre ++ [x]) o ρ (by rw[hk];simp);rw[Qe f295l0.eq_1];by_cases cx:Q4 x=0
  ·have e:Wr (x:: post)=Wr post:=by simp[Wr,cx]
   rw[e];rw[cx]at hc;simp[h0,h3,hgt,hlt,hw1,hc,Qi];rw[ih] <;> simp[h0]
  ·have e:Wr (x:: post)=Q4 x:=by simp[Wr,cx]
   rw[e];simp[h0,h3,hgt,hlt,hw1,hc,cx,Qi]
def Qh7 (l:Qc) (o:Bool) (B:Qa) (hl:l.length < 1000000) (hm: ∀y∈l,y.mass < 1000000):call tb 295 [.sl o 4 (Qb l)] B=some (.int .i64 (Wr l),B):=by
 have h:=fun ρ=>Qj7 l hl hm B l [] false ρ rfl;rw[zcc 295 rfl rfl];simp[f295C];rw[h] <;> simp
def KN: ∀{l:Qc},Wr l=0->∀x∈l,Q4 x=0
 | [],_,x,hx=>by cases hx
 | y:: l,h,x,hx=>by
  simp only[Wr]at h;by_cases c:Q4 y=0
  ·rw[Qm (by simpa using c)]at h;rcases Zt.1 hx with rfl | hx
   ·exact c
   ·exact KN h x hx
  ·rw[Qn (by simpa using c)]at h;exact absurd h c
structure RT (t:Tm):Prop where
 v:Q1 t=0
 g:Zb t=true
 hn:HN t
 gr: ∀x∈Zn t,x.kind≠1
def Qhj {t:Tm} (h:Q4 t=0):RT t:=by
 have hk:=fun x hx=>CM (x:=x) hx;unfold Q4 at h;by_cases c:thV t=0
 ·rw[Qm (by simpa using c)]at h;by_cases c2:WO t=[]
  ·rw[Qm (by simpa using c2)]at h;have c3:Uh t=true:=by
    by_cases c3:Uh t=true
    ·exact c3
    ·rw[Qm c3]at h;cases h
   obtain⟨h1,h2,h3,h4,h5⟩:=LR c;have he:=(V0 h1).1;simp only[Uh,Qo,Qy]at c3;have e0:=Y7 _ _ c3.1.2;have e1: (ZN t).1=t:=by
    have c4:=c3.1.1;unfold YK at c4 e0;rw[Qm (by simpa using c)]at c4 e0;by_cases d1: (ZN t).2=0
    ·rw[Qm (by simpa using d1)]at c4 e0;by_cases d2:Q1 (ZN t).1=0
     ·rw[Qm (by simpa using d2)]at e0;exact e0
     ·rw[Qn (by simpa using d2)]at c4;exact absurd c4 d2
    ·rw[Qn (by simpa using d1)]at c4;exact absurd c4 d1
   refine⟨h1,h3,?_,?_⟩
   ·have:=Do t he;rwa[e1]at this
   ·intro x hx hk1;have:x∈WO t:=by
     unfold WO;exact V7.2 (Pp.2 ⟨hx,by simp[Xj,hk1]⟩)
    rw[c2]at this;cases this
  ·rw[Qn (by simpa using c2)]at h;cases h
 ·rw[Qn (by simpa using c)]at h;exact absurd h c
def Qj8 {t x:Tm} (h:RT t) (hx:x∈Zn t):RT x:=⟨Qbi h.v hx,Ho t x h.g hx,Dp h.hn hx,fun y hy=>h.gr y (Ij t x y hx hy)⟩
noncomputable def Wl (l:Qc):Qc:=Zz (Ze l)
noncomputable def NY (k m:Qc):Int:=if 60 < k.length then 3 else if Wr (k ++ m)≠0 then Wr (k ++ m)else szT (Wl (k ++ m))
structure KI (l:List Tm):Prop where
 len:l.length < 1000
 nodes:Qw l < 4000\/l.length<=9
 mass:Qu l < 50000000
 ms: ∀x∈l,x.mass < 1000000
def Qkw {l:Qc} (hl:KI l) (hr: ∀x∈l,RT x): (Zz (Ze l)).length < 4000:=by
 have h1:=PR (Ze l);rw[SX]at h1;rcases hl.nodes with h | h
 ·omega
 ·have:=Lp (s:=l) fun x hx=>(hr x hx).v;omega
def Qf9 {l:Qc} {x:Tm}:x∈Wl l↔∃t∈l,x∈Zn t:=by unfold Wl;rw[V7,Nd]
def T9 {l:Qc} (hl:KI l) (hr:Wr l=0): (Wl l).length < 4000/\(∀t∈Wl l,t.mass < 1000000)/\(∀t∈Wl l,isB t EXP=true->t.kids.length=2):=by
 have hx: ∀x∈Wl l,RT x:=fun x hx=>by
  obtain⟨t,ht,hx⟩:=Qf9.1 hx;exact Qj8 (Qhj (KN hr t ht)) hx
 refine⟨Qkw hl fun x hx=>Qhj (KN hr x hx),fun t ht=> ?_,fun t ht he=> ?_⟩
 ·have:=(V0 (hx t ht).v).2.2;omega
 ·obtain⟨a,b,hk⟩:=QdK (hx t ht).g he (by simp[Cl]);rw[hk];rfl
def Ii (k m:Qc) (B:Qa) (r:Out):Prop:=∃o,r=some (.tup [.sl o 4 (Qb (if NY k m=0 then Wl (k ++ m)else [])),.int .i64 (NY k m)],B)
def Qiz (k m:Qc) (h:KI (k ++ m)) (o o1:Bool) (B:Qa):Ii k m B (call tb 518 [.sl o 4 (Qb k),.sl o1 4 (Qb m)] B):=by
 have hlk:k.length+m.length < 1000:=by have:=h.len;simpa using this
 have c180:=fun o=>Oo [k,m] o B (by simp) (by simp;omega);have c519:=fun o=>QiA (k ++ m) o B (by have:=h.len;omega) h.ms;have c511:=fun o=>Qiy (k ++ m) o B (by have:=h.len;omega) h.ms (by have:=h.mass;have:=Yn (k ++ m);omega);have c521:=fun hr:Wr (k ++ m)=0=>QiC (Wl (k ++ m)) (T9 h hr).1 (T9 h hr).2.1 (T9 h hr).2.2;simp only[Sx,Ya,X4,U0,List.flatten_nil,QF]at c180;rw[zcc 518 rfl rfl];unfold Ii NY;have i1: (60 < k.length)↔(60:Int) < (k.length:Int):=by omega
 simp only[i1];by_cases c1: (60:Int) < (k.length:Int)
 ·refine⟨false,?_⟩;simp[f518C,c1,Qb]
 ·by_cases c2:Wr (k ++ m)=0
  ·have c521:=c521 c2;change ∀o,call tb 511 _ B=some (.sl true 4 (Qb (Wl (k ++ m))),B)at c511;rw[c2]at c519;generalize hu:Wl (k ++ m)=u at *;by_cases c3:szT u=0
   ·refine⟨false,?_⟩;simp[f518C,c1,c180,c519,c511,c521,c2,c3]
   ·refine⟨false,?_⟩;simp[f518C,c1,c180,c519,c511,c521,c2,c3,Qb]
  ·refine⟨false,?_⟩;simp[f518C,c1,c180,c519,c2,Qb]
def QiJ (k:Qc) (t:Tm) (h:KI (k ++ [t])) (o:Bool) (B:Qa):Ii k [t] B (call tb 608 [.sl o 4 (Qb k),.agg (Qf t)] B):=by
 obtain⟨o2,c518⟩:=Qiz k [t] h false false B;have e1:Qb [t]=[Qf t]:=by simp[Qb]
 rw[e1]at c518;refine⟨false,?_⟩;rw[zcc 608 rfl rfl];simp[f608C,c518,Qi]
def Qh6 (k m:Qc) (h:KI (k ++ m)) (o o1:Bool) (B:Qa):Ii k m B (call tb 294 [.sl o 4 (Qb k),.sl o1 4 (Qb m)] B):=by
 have hlk:k.length+m.length < 1000:=by have:=h.len;simpa using this
 have c295:=fun o=>Qh7 (k ++ m) o B (by have:=h.len;omega) h.ms;have c265:=fun o=>HT (k ++ m) o B (by have:=h.len;omega) (by have:=h.mass;omega);have c296:=fun hr:Wr (k ++ m)=0=>Qh8 (Wl (k ++ m)) (T9 h hr).1 (T9 h hr).2.1 (T9 h hr).2.2;have ha:=Zu k m;have hal: (Qb k).length=k.length:=Wh k;have hbl: (Qb m).length=m.length:=Wh m;rw[zcc 294 rfl rfl];unfold Ii NY;have i1: (60 < k.length)↔(60:Int) < (k.length:Int):=by omega
 simp only[i1];have hc1:k.length*56<=140737488355328:=by omega
 have hc2: (k.length+m.length)*56<=140737488355328:=by omega
 by_cases c1: (60:Int) < (k.length:Int)
 ·refine⟨false,?_⟩;simp[f294C,c1,Qb]
 ·by_cases c2:Wr (k ++ m)=0
  ·have c296:=c296 c2;change ∀o,call tb 265 _ B=some (.sl false 4 (Qb (Wl (k ++ m))),B)at c265;rw[c2]at c295;generalize hu:Wl (k ++ m)=u at *;by_cases c3:szT u=0
   ·refine⟨false,?_⟩;simp[f294C,c1,ha,hal,hbl,hc1,hc2,c295,c265,c296,c2,c3]
   ·refine⟨false,?_⟩;simp[f294C,c1,ha,hal,hbl,hc1,hc2,c295,c265,c296,c2,c3,Qb]
  ·refine⟨false,?_⟩;simp[f294C,c1,ha,hal,hbl,hc1,hc2,c295,c2,Qb]
def Qh5 (k:Qc) (t:Tm) (h:KI (k ++ [t])) (o:Bool) (B:Qa):Ii k [t] B (call tb 293 [.sl o 4 (Qb k),.agg (Qf t)] B):=by
 obtain⟨o2,c294⟩:=Qh6 k [t] h false false B;have e1:Qb [t]=[Qf t]:=by simp[Qb]
 rw[e1]at c294;refine⟨false,?_⟩;rw[zcc 293 rfl rfl];simp[f293C,c294,Qi]
def Qf2 (f g:Nat) (p:Ded->Bool) (l:ZS) (bs:Qa) (hc: ∀x∈l,call tb f [.agg (ZL x),.gp g 0] bs=some (.bool (p x),bs)) (hl:l.length < 1000000):
  ∀(post pre:ZS) (o:Bool) (ρ:Ql),l=pre ++ post->pre.any p=false->ρ 0= .sl o 8 (ZQ l)->ρ 1= .fn f [.gp g 0]->ρ 7= .int .i64 l.length->ρ 8= .int .i64 pre.length->
  RG (l.any p) bs (R tb (.loop f666l0) ρ bs (Qq 0 (QI tb f666r0 (QK f666 bs)))):=by
 intro post
 induction post with
 | nil=>
  intro pre o ρ hk hp h0 h1 h7 h8;simp only[QF]at hk;rw[<- hk]at h8 hp;rw[Qe f666l0.eq_1];refine⟨-1,?_,by rw[hp];simp⟩;simp[h0,h1,h7,h8,f666r0]
 | cons x post IH=>
  intro pre o ρ hk hp h0 h1 h7 h8;have hgt: (ZQ l)[pre.length]? =some (ZL x):=by rw[Vf,Qx hk];rfl
  have hll:=QE hk;have hw1:=wr1 pre.length (by omega);have hlt:=QG hk;have hcall:=hc x (by rw[hk];simp);have ih:=fun ρ hpp=>IH (pre ++ [x]) o ρ (by rw[hk];simp) hpp;rw[Qe f666l0.eq_1];cases ho:p x
  ·rw[ho]at hcall;have ih2:=fun ρ=>ih ρ (by rw[Sl,hp];simp[ho]);simp[-Vf,h0,h1,h7,h8,hlt,hgt,hw1,hcall,-List.any_eq_false,-List.any_eq_true];apply ih2 <;> simp[h0,h1,h7]
  ·rw[ho]at hcall;have hany:l.any p=true:=UD.2 ⟨x,by rw[hk];simp,ho⟩;refine⟨pre.length,?_,by rw[hany];simp⟩;simp[-Vf,h0,h1,h7,h8,hlt,hgt,hcall]
def QiR (f g:Nat) (p:Ded->Bool) (l:ZS) (o:Bool) (bs:Qa) (hc: ∀x∈l,call tb f [.agg (ZL x),.gp g 0] bs=some (.bool (p x),bs)) (hl:l.length < 1000000):
  call tb 706 [.sl o 8 (ZQ l),.fn f [.gp g 0]] bs=some (.bool (l.any p),bs):=by
 have h1:=fun ρ=>Qf2 f g p l bs hc hl l [] false ρ rfl rfl;have h2:RG (l.any p) bs (call tb 666 [.sl false 8 (ZQ l),.fn f [.gp g 0]] bs):=by
  rw[zcc 666 rfl rfl];simp[f666C,-List.any_eq_false,-List.any_eq_true];apply h1 <;> simp
 obtain⟨i,hi,hb⟩:=h2;rw[zcc 706 rfl rfl];simp[f706C,hi,-List.any_eq_false,-List.any_eq_true];cases hx:l.any p
 ·rw[hx]at hb;simp at hb;simpa using hb
 ·rw[hx]at hb;simp at hb;simpa using hb
def QiQ (x y:Tm) (g:Nat) (bs:Qa) (hg:bs[g]? =some (Qf y)) (hx:x.mass < big) (hy:y.mass < big):call tb 705 [.agg (Qf x),.gp g 0] bs=some (.bool (decide (Qp x y=0)),bs):=by
 have h:=TW x y bs hx hy;rw[zcc 705 rfl rfl];simp[-getElem?_pos,Yf,YT,f705C,hg,h]
def QiP (l:Qc) (y:Tm) (o:Bool) (bs:Qa) (hl:l.length < 1000000) (hm: ∀x∈l,x.mass < big) (hy:y.mass < big):
  call tb 704 [.sl o 4 (Qb l),.agg (Qf y)] bs=some (.bool (Wb l y),bs):=by
 have hg: (bs ++ [Qf y])[bs.length]? =some (Qf y):=Yu;have h3:=Qfh 705 bs.length (fun x=>decide (Qp x y=0)) l false (bs ++ [Qf y]) (fun x hx=>QiQ x y _ _ hg (hm x hx) hy) hl;change call tb 214 _ _=some (.bool (Wb l y),_)at h3;rw[zcc 704 rfl rfl];simp[f704C,h3]
def QiO (u:Qc) (d:Ded) (g:Nat) (o:Bool) (bs:Qa) (hg:bs[g]? =some [.sl o 4 (Qb u)]) (hl:u.length < 1000000) (hm: ∀x∈u,x.mass < big) (hy:d.t.mass < big):
  call tb 703 [.agg (ZL d),.gp g 0] bs=some (.bool (!Wb u d.t),bs):=by
 have h:=QiP u d.t false bs hl hm hy;rw[zcc 703 rfl rfl];simp[-getElem?_pos,Yf,YT,f703C,hg,h,Ot]
noncomputable def DA (k:Qc) (l:ZS):Bool:=match l.getLast? with
 | some d=>decide (NY k [d.t]=0) && (M7 k l d.t && l.all fun x=>Wb (Wl (k ++ [d.t])) x.t)
 | none=>false
structure Ay (k:List Tm) (l:List Ded):Prop extends Me k l where
 ki: ∀d∈l,KI (k ++ [d.t])
def QiN (k:Qc) (l:ZS) (h:Ay k l) (o o1:Bool) (bs:Qa):call tb 702 [.sl o 4 (Qb k),.sl o1 8 (ZQ l)] bs=some (.bool (DA k l),bs):=by
 have hll:=h.ll;rw[zcc 702 rfl rfl];unfold DA;by_cases hne:l=[]
 ·subst hne;simp[f702C]
 ·obtain⟨d,e1,e2,e3⟩:=NG hne;have hpos:0 < l.length:=Ru.2 hne;have hbb: ∀x:Qh,(bs ++ [x])[bs.length]? =some x:=fun x=>Yu;have hK:=h.ki d e3;have hdm:=h.tm d e3;have hg: (ZQ l)[l.length - 1]? =some (ZL d):=by rw[Vf,e2];rfl
  have hl0: ¬(l.length:Int)=0:=by omega
  have hw:IntKind.i64.wrap ((l.length:Int) - 1)=((l.length - 1:Nat):Int):=by rw[Zg (by omega) (by omega)];omega
  have hnn: (0:Int)<=((l.length - 1:Nat):Int):=by omega
  have hcast: ((l.length - 1:Nat):Int).toNat=l.length - 1:=by omega
  obtain⟨o6,c608⟩:=QiJ k d.t hK false bs;rw[e1];dsimp only;by_cases hu:NY k [d.t]=0
  ·rw[hu,Qn rfl]at c608;have hr:Wr (k ++ [d.t])=0:=by
    unfold NY at hu;split at hu
    ·cases hu
    ·split at hu
     ·rename_i h1 h2;exact absurd hu h2
     ·rename_i h1 h2;exact Classical.not_not.1 h2
   obtain⟨u1,u2,_⟩:=T9 hK hr;have hum: ∀x∈Wl (k ++ [d.t]),x.mass < big:=fun x hx=>by have:=u2 x hx;unfold big;omega
   have c348:=Bu k l d.t false false (bs ++ [[.sl false 4 (Qb (Wl (k ++ [d.t])))]]) h.toMe hdm;have hgb: (bs ++ [[AV.sl false 4 (Qb (Wl (k ++ [d.t])))]])[bs.length]? =some [.sl false 4 (Qb (Wl (k ++ [d.t])))]:=Yu;have c706:=QiR 703 bs.length (fun x=> !Wb (Wl (k ++ [d.t])) x.t) l false (bs ++ [[.sl false 4 (Qb (Wl (k ++ [d.t])))]]) (fun x hx=>QiO _ x bs.length false _ hgb (by omega) hum (by have:=h.tm x hx;unfold big;omega)) h.ll;have hall:l.any (fun x=> !Wb (Wl (k ++ [d.t])) x.t)= !(l.all fun x=>Wb (Wl (k ++ [d.t])) x.t):=by rw[List.all_eq_not_any_not];simp
   rw[hall]at c706;rw[hu];generalize Qb (Wl (k ++ [d.t]))=U at *;generalize (l.all fun x=>Wb (Wl (k ++ [d.t])) x.t)=A at *;generalize hn:l.length - 1=n at *;have el:=RN l;generalize ZQ l=L at *;cases hd:M7 k l d.t
   ·rw[hd]at c348;simp[-getElem?_pos,Yf,YT,el,hne,hbb,hl0,hw,hnn,hcast,hg,c608,c348,f702C]
   ·rw[hd]at c348;simp[-getElem?_pos,Yf,YT,el,hne,hbb,hl0,hw,hnn,hcast,hg,c608,c348,c706,f702C]
  ·rw[Qm hu]at c608;generalize hn:l.length - 1=n at *;have el:=RN l;generalize ZQ l=L at *;simp[-getElem?_pos,Yf,YT,el,hne,hbb,hl0,hw,hnn,hcast,hg,c608,hu,f702C]
def Qj5 (l:ZS) (u:Qc) (o:Bool) (bs:Qa) (hl:l.length < 1000000) (hul:u.length < 1000000) (hm: ∀x∈u,x.mass < big) (hlm: ∀d∈l,d.t.mass < 1000000):
  ∀(post pre:ZS) (o1:Bool) (ρ:Ql),l=pre ++ post->ρ 1= .sl o1 8 (ZQ l)->ρ 6= .sl o 4 (Qb u)->ρ 8= .int .i64 pre.length->
  R tb (.loop f707l0) ρ bs (Qq 0 (QI tb f707r0 (QK f707 bs)))=some (.bool (post.all fun x=>Wb u x.t),bs):=by
 intro post
 induction post with
 | nil=>
  intro pre o1 ρ hk h1 h6 h8;simp only[QF]at hk;subst hk;rw[Qe f707l0.eq_1];simp[h1,h6,h8,f707r0]
 | cons d post IH=>
  intro pre o1 ρ hk h1 h6 h8;have hg: (ZQ l)[pre.length]? =some (ZL d):=by rw[Vf,Qx hk];rfl
  have hll:=QE hk;have hw1:=wr1 pre.length (by omega);have hlt:=QG hk;have hc:=ED u d.t false bs (by omega) hm (by have:=hlm d (by rw[hk];simp);unfold big;omega);have hd:=Ot d;rw[Qe f707l0.eq_1];cases hh:Wb u d.t
  ·rw[hh]at hc;simp[-Vf,h1,h6,h8,hg,hlt,hd,hc,hh,Qi]
  ·rw[hh]at hc;simp[-Vf,h1,h6,h8,hg,hlt,hd,hc,hh,Qi,hw1];rw[IH (pre ++ [d]) o1] <;> simp[h1,h6,hk]
def QiS (k:Qc) (l:ZS) (h:Ay k l) (o o1:Bool) (bs:Qa):call tb 707 [.sl o 4 (Qb k),.sl o1 8 (ZQ l)] bs=some (.bool (DA k l),bs):=by
 have hll:=h.ll;rw[zcc 707 rfl rfl];unfold DA;by_cases hne:l=[]
 ·subst hne;simp[f707C]
 ·obtain⟨d,e1,e2,e3⟩:=NG hne;have hpos:0 < l.length:=Ru.2 hne;have hbb: ∀x:Qh,(bs ++ [x])[bs.length]? =some x:=fun x=>Yu;have hK:=h.ki d e3;have hdm:=h.tm d e3;have hg: (ZQ l)[l.length - 1]? =some (ZL d):=by rw[Vf,e2];rfl
  have hl0: ¬(l.length:Int)=0:=by omega
  have hw:IntKind.i64.wrap ((l.length:Int) - 1)=((l.length - 1:Nat):Int):=by rw[Zg (by omega) (by omega)];omega
  have hnn: (0:Int)<=((l.length - 1:Nat):Int):=by omega
  have hcast: ((l.length - 1:Nat):Int).toNat=l.length - 1:=by omega
  obtain⟨o6,c293⟩:=Qh5 k d.t hK false bs;rw[e1];dsimp only;by_cases hu:NY k [d.t]=0
  ·rw[hu,Qn rfl]at c293;have hr:Wr (k ++ [d.t])=0:=by
    unfold NY at hu;split at hu
    ·cases hu
    ·split at hu
     ·rename_i h1 h2;exact absurd hu h2
     ·rename_i h1 h2;exact Classical.not_not.1 h2
   obtain⟨u1,u2,_⟩:=T9 hK hr;have hum: ∀x∈Wl (k ++ [d.t]),x.mass < big:=fun x hx=>by have:=u2 x hx;unfold big;omega
   have c384:=BB k l d.t false false bs h.toMe hdm;have hlp:=fun ρ=>Qj5 l (Wl (k ++ [d.t])) false bs h.ll (by omega) hum h.tm l [] false ρ rfl;rw[hu];generalize Qb (Wl (k ++ [d.t]))=U at *;generalize (l.all fun x=>Wb (Wl (k ++ [d.t])) x.t)=A at *;generalize hn:l.length - 1=n at *;have el:=RN l;generalize ZQ l=L at *;cases hd:M7 k l d.t
   ·rw[hd]at c384;simp[-getElem?_pos,Yf,YT,el,hne,hbb,hl0,hw,hnn,hcast,hg,c293,c384,f707C]
   ·rw[hd]at c384;simp[-getElem?_pos,Yf,YT,el,hne,hbb,hl0,hw,hnn,hcast,hg,c293,c384,f707C];apply hlp <;> simp
  ·rw[Qm hu]at c293;generalize hn:l.length - 1=n at *;have el:=RN l;generalize ZQ l=L at *;simp[-getElem?_pos,Yf,YT,el,hne,hbb,hl0,hw,hnn,hcast,hg,c293,hu,f707C]
def Nn:ZS->Nat
 | []=>0
 | d:: l=>d.a.length+d.c.length+Nn l
def Qe0 (l:ZS):Prop:=∀d∈l,d.a.length<=17592186044416/\d.c.length<=17592186044416
def BL: ∀(l:ZS) (n:Int),Qe0 l->0<=n->n+l.length*35184372088832 < 9223372036854775808->Np n l=n+Nn l
 | [],n,_,_,_=>by simp[Np,Nn]
 | d:: l,n,h,h0,hb=>by
  obtain⟨h1,h2⟩:=h d (by simp);have hb':n+ ((l.length:Int)+1)*35184372088832 < 9223372036854775808:=by simpa using hb
  have hb2:n+ (d.a.length:Int)+d.c.length+ (l.length:Int)*35184372088832 < 9223372036854775808:=by omega
  have hl0: (0:Int)<=(l.length:Int)*35184372088832:=by omega
  have w1:IntKind.i64.wrap (n+d.a.length)=n+d.a.length:=Zg (by omega) (by omega);have w2:IntKind.i64.wrap (n+d.a.length+d.c.length)=n+d.a.length+d.c.length:=Zg (by omega) (by omega);simp only[Np,w1,w2,Nn];rw[BL l _ (fun x hx=>h x (by simp[hx])) (by omega) hb2];omega
def E0: ∀{l:ZS} {d:Ded},d∈l->d.a.length+d.c.length<=Nn l
 | [],d,h=>by simp at h
 | x:: l,d,h=>by
  rcases Zt.1 h with rfl | h
  ·simp only[Nn];omega
  ·have:=E0 h;simp only[Nn];omega
structure FD (l:List Ded):Prop where
 len:l.length<=410
 ac: ∀d∈l,d.a.length<=1000/\d.c.length<=1000
 cnt:Nn l<=1000
 mass: ∀d∈l,d.t.mass<=126000
 nodes:Qw (l.map Ded.t)<=3000
def QpS {l:ZS} (hr:Qe0 l) (h:Ld l=true):FD l:=by
 have hl:=Qjw h;simp only[Ld,Qo,Qy]at h;obtain⟨h1,h2⟩:=h;rw[BL l 0 hr (by omega) (by omega)]at h1;have hc:Nn l<=1000:=by omega
 obtain⟨m1,m2,m3⟩:=Ny (by omega) h2;refine⟨hl,fun d hd=> ?_,hc,fun d hd=> ?_,by simpa using m3⟩
 ·have:=E0 hd;omega
 ·have:d.t.mass<=Qu (l.map Ded.t):=QY (K5 hd);simp at m2;omega
def Qhg {k:Qc} {l:ZS} (hk:few k 62 700=true) (hl:FD l):Me k l:=by
 obtain⟨k1,k2,k3⟩:=Ny (by omega) hk;refine⟨fun x hx=> ?_,by omega,fun d hd=> ?_,fun d hd=>(hl.ac d hd).1,fun d hd=>(hl.ac d hd).2,by have:=hl.len;omega⟩
 ·have:x.mass<=Qu k:=QY hx;simp at k2;omega
 ·have:=hl.mass d hd;omega
def Qow {k:Qc} {l:ZS} (hk:few k 62 700=true) (hl:FD l):Ay k l:=by
 obtain⟨k1,k2,k3⟩:=Ny (by omega) hk;have hD:=Qhg hk hl;refine⟨hD,fun d hd=> ?_⟩;have hn:d.t.nodes<=Qw (l.map Ded.t):=RU (K5 hd);have h3:=hl.nodes;have hm:=hl.mass d hd;refine⟨by simp;omega,.inl ?_,?_,fun x hx=> ?_⟩
 ·rw[Xb];simp[Qw]at k3 ⊢;omega
 ·rw[WV];simp[Qu]at k2 ⊢;omega
 ·rcases YU.1 hx with h | h
  ·exact hD.km x h
  ·rw[Vd.1 h];omega
def QiL (k:Qc) (l:ZS) (o o1:Bool) (bs:Qa) (hl:l.length<=1172812402961):call tb 700 [.sl o 4 (Qb k),.sl o1 8 (ZQ l)] bs=some (.bool (few k 62 700 && Ld l),bs):=by
 have h1:call tb 101 [.sl false 4 (Qb k),.int .i64 62,.int .i64 700] bs=some (.bool (few k 62 700),bs):=Kk k false 62 700 bs (by omega) (by omega) (by omega);have h2:=QiK l false bs hl;rw[zcc 700 rfl rfl];cases c:few k 62 700
 ·rw[c]at h1;simp[f700C,h1]
 ·rw[c]at h1;simp[f700C,h1,h2]
def QiM (t:Tm) (bs:Qa):call tb 701 [.agg (Qf t)] bs=some (.bool (few [t] 1 450),bs):=by
 have h1:call tb 101 [.sl false 4 (Qb [t]),.int .i64 1,.int .i64 450] bs=some (.bool (few [t] 1 450),bs):=Kk [t] false 1 450 bs (by omega) (by omega) (by omega);simp only[YF,Ya,X4]at h1;rw[zcc 701 rfl rfl];simp[f701C,h1,Qi]
def Qgd {t:Tm} (h:few [t] 1 450=true):t.mass < 1000000:=by
 obtain⟨_,k2,_⟩:=Ny (by omega) h;simp[Qu]at k2;omega
def JQ (k:Qc) (l:ZS) (t:Tm) (h0:call tb 633 [] []=some (.bool true,[])) (hl:l.length<=1172812402961) (hr:Qe0 l):
  call tb 699 [.sl false 4 (Qb k),.sl false 8 (ZQ l),.agg (Qf t)] []=some (.bool true,[]):=by
 have h1:=QiL k l false false [] hl;have h2:=QiM t [];have e4:=Qi t;rw[zcc 699 rfl rfl];cases hf: (few k 62 700 && Ld l)
 ·rw[hf]at h1;simp[f699C,h0,h1]
 ·rw[hf]at h1;simp only[Qo]at hf;have hfd:=QpS hr hf.2;have hD:=Qhg hf.1 hfd;have hL:=Qow hf.1 hfd;cases ht:few [t] 1 450
  ·rw[ht]at h2;simp[f699C,h0,h1,h2,e4]
  ·rw[ht]at h2;have hm:=Qgd ht;have c1:=Bu k l t false false [] hD hm;have c2:=BB k l t false false [] hD hm;have c3:=QiN k l hL false false [];have c4:=QiS k l hL false false [];generalize M7 k l t=A at *;generalize DA k l=B at *;generalize ZQ l=L at *;generalize Qb k=KK at *;cases A <;> cases B <;> simp[f699C,h0,h1,h2,e4,c1,c2,c3,c4]
def DZ {T:Vs} {K:Ys} (h:KLe K (call T)) {n:Nat}: ∀{c:AC} {σ:St} {x:Ex×St},ZF K n c σ=some x->run T c σ=some x:=by
 intro c
 induction c with
 | bad=>intro σ x he;simp[ZF]at he
 | skip=>intro σ x he;rw[D7];exact he
 | ret=>intro σ x he;rw[Ap];exact he
 | exit id=>intro σ x he;rw[D4];exact he
 | reg d ops=>
  intro σ x he;rw[Ao];simp only[ZF]at he;cases hr:Yc K ops σ with
  | none=>rw[hr]at he;cases he
  | some s=>rw[TE h hr];rw[hr]at he;exact he
 | seq a b iha ihb=>
  intro σ x he;rw[Aq];simp only[ZF]at he;cases ha:ZF K n a σ with
  | none=>rw[ha]at he;cases he
  | some p=>
   obtain⟨e,s⟩:=p;rw[ha]at he;rw[iha ha];cases e
   ·exact ihb he
   ·exact he
   ·exact he
 | cond c a b iha ihb=>
  intro σ x he;rw[D0];simp only[ZF]at he;split at he
  ·rename_i hv;rw[hv];exact iha he
  ·rename_i hv;rw[hv];exact ihb he
  ·cases he
 | block id c ih=>
  intro σ x he;rw[HC];simp only[ZF]at he;cases ha:ZF K n c σ with
  | none=>rw[ha]at he;cases he
  | some p=>rw[ha]at he;rw[ih ha];exact he
 | loop c ih=>
  intro σ x he;simp only[ZF]at he;have key: ∀(m:Nat) (σ:St) (x:Ex×St),Tx (ZF K n c) m σ=some x->run T (.loop c) σ=some x:=by
   intro m
   induction m with
   | zero=>intro σ x he;simp[Tx]at he
   | succ m IH=>
    intro σ x he;rw[D6];simp only[Tx]at he;cases ha:ZF K n c σ with
    | none=>rw[ha]at he;cases he
    | some p=>
     obtain⟨e,s⟩:=p;rw[ha]at he;rw[ih ha];cases e
     ·exact IH _ _ he
     ·exact he
     ·exact he
  exact key n σ x he
abbrev Q2:=Nat×List AV×List (List AV)×AV×List (List AV)
abbrev QL:=List Q2
def JS:QL->Nat->Qh->Qa->Option (AV×Qa)
 | [],_,_,_=>none
 | (g,ar,b,v,b2):: fs,f,args,bs=>if(g == f && PE b bs && UQ ar args)=true then some (v,b2)else JS fs f args bs
def LH (T:Vs) (fs:QL):Nat->Ys
 | 0,_,_,_=>none
 | n+1,f,args,bs=>match JS fs f args bs with
  | some r=>some r
  | none=>match T f with
   | none=>none
   | some (.orc g)=>g args bs
   | some (.code fn)=>
    if args.length=fn.nparams then
     match ZF (LH T fs n) n fn.body {env:=XG args,bs}with
     | some (.normal,σ)=>Xw fn bs σ
     | some (.ret,σ)=>Xw fn bs σ
     | _=>none
    else none
def R4 (T:Vs):QL->Prop
 | []=>True
 | (g,ar,b,v,b2):: fs=>call T g ar b=some (v,b2)/\R4 T fs
def DB {T:Vs}: ∀{fs:QL},R4 T fs->∀{f args bs r},JS fs f args bs=some r->call T f args bs=some r
 | [],_,_,_,_,_,h=>by simp[JS]at h
 | (g,ar,b,v,b2):: fs,hf,f,args,bs,r,h=>by
  simp only[JS]at h;split at h
  ·rename_i c;simp only[Qo,Uc]at c;obtain⟨⟨rfl,e2⟩,e⟩:=c;have e:=VI _ _ e;have e2:=OZ _ _ e2;subst e;subst e2;cases h;exact hf.1
  ·exact DB hf.2 h
def Kh {T:Vs} {fs:QL} (hf:R4 T fs): ∀n,KLe (LH T fs n) (call T)
 | 0,_,_,_,_,h=>by simp[LH]at h
 | n+1,f,args,bs,r,h=>by
  simp only[LH]at h;split at h
  ·rename_i r' hl;cases h;exact DB hf hl
  ·rw[Iw];have ih:=Kh hf n;split at h
   ·cases h
   ·rename_i g hg;rw[hg];exact h
   ·rename_i fn hg;rw[hg];simp only;split at h
    ·rename_i hl;rw[Qn hl];split at h
     ·rename_i σ hr;rw[DZ ih hr];exact h
     ·rename_i σ hr;rw[DZ ih hr];exact h
     ·cases h
    ·cases h
end Go.Am
