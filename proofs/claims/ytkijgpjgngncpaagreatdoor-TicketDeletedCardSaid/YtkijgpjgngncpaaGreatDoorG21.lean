/-
  Kn2, Kn3, Kn4, Kn5, Kn6, Kn7, Kn9.
-/
import Derived.Test.YtkijgpjgngncpaaGreatDoorG20
set_option linter.all false
namespace Go.Am
set_option maxRecDepth 8000
def TAt (l:List Tm) (t:Tm) (k:Nat):Prop:=k≤l.length∧(∀(i:Nat) (p:Tm),l[i]? =some p→i < k→Qh p t < 0)∧(∀(i:Nat) (p:Tm),l[i]? =some p→k≤i→¬Qh p t < 0)
def WW (l:List Tm) (t:Tm) (k:Nat):Bool:=match l[k]? with
 | some p=>decide (Qh p t=0)
 | none=>false
def Gy (l:List Tm) (t:Tm) (B:List (List AV)) (r:Out):Prop:=∃k,TAt l t k∧r=some (.tup [.int .i64 k,.bool (WW l t k)],B)
theorem Nu {l:List Tm} {t:Tm} {k:Nat} (ha:Asc l) (h:TAt l t k):WW l t k=Q2 l t:=by
 obtain⟨h1,h2,h3⟩:=h;unfold WW Q2;cases hk:l[k]? with
 | none=>
  symm;rw[List.any_eq_false];intro x hx;obtain⟨i,hi⟩:=List.getElem?_of_mem hx;have:i < k:=by
   rcases Nat.lt_or_ge i k with h | h
   ·exact h
   ·have hl:=(List.getElem?_eq_some_iff.1 hi).1;have:k < l.length:=by omega
    rw[List.getElem?_eq_getElem this]at hk;cases hk
  have:=h2 i x hi this;simp;omega
 | some p=>
  simp only;rw[Bool.eq_iff_iff,List.any_eq_true];constructor
  ·intro h;exact⟨p,List.mem_of_getElem? hk,h⟩
  ·rintro⟨x,hx,he⟩
   have e0:Qh x t=0:=by simpa using he
   obtain⟨i,hi⟩:=List.getElem?_of_mem hx;rcases Nat.lt_trichotomy i k with h | h | h
   ·have:=h2 i x hi h;omega
   ·subst h;rw[hi]at hk;injection hk with hk;subst hk;simpa using e0
   ·obtain⟨g1,e1⟩:=List.getElem?_eq_some_iff.1 hi;obtain⟨g2,e2⟩:=List.getElem?_eq_some_iff.1 hk;have hlt:=List.pairwise_iff_getElem.1 ha k i g2 g1 h;rw[e1,e2,(ZW.1 e0)]at hlt;exact absurd hlt (h3 k p hk (Nat.le_refl _))
theorem Qae {l:List Tm} {t:Tm} {B:List (List AV)} (hl:l.length < 100000000) (hm: ∀p∈l,p.mass < big) (ht:t.mass < big) (ha:Asc l):
  ∀(d i j:Nat) (o:Bool) (ρ:Nat→AV),j - i≤d→i≤j→j≤l.length→(∀(k:Nat) (p:Tm),l[k]? =some p→k < i→Qh p t < 0)→(∀(k:Nat) (p:Tm),l[k]? =some p→j≤k→¬Qh p t < 0)→
  ρ 0= .sl o 4 (encTs l)→ρ 4= .bx (Qb t)→ρ 2= .fn 30 []→ρ 8= .int .i64 l.length→ρ 9= .int .i64 i→ρ 10= .int .i64 j→
  Gy l t B (R F.tb (.loop F.f524l0) ρ B (Qi 0 (Qu F.tb F.f524r0 (Qy F.f524 B)))):=by
 have mono: ∀(i j:Nat) (p q:Tm),l[i]? =some p→l[j]? =some q→i≤j→Qh q t < 0→Qh p t < 0:=by
  intro i j p q hp hq hij h;rcases Nat.lt_or_ge i j with hlt | hge
  ·obtain⟨h1,rfl⟩:=List.getElem?_eq_some_iff.1 hp;obtain⟨h2,rfl⟩:=List.getElem?_eq_some_iff.1 hq;exact Z4 (List.pairwise_iff_getElem.1 ha i j h1 h2 hlt) h
  ·have:i=j:=by omega
   subst this;rw[hp]at hq;injection hq with hq;subst hq;exact h
 intro d
 induction d with
 | zero=>
  intro i j o ρ hd hij hj hlo hhi h0 h4 h2 h8 h9 h10;have:i=j:=by omega
  subst this;refine⟨i,⟨hj,hlo,hhi⟩,?_⟩;rw[Qd F.f524l0.eq_1];by_cases c1:i < l.length
  ·have hp:=List.getElem?_eq_getElem c1;have hmp:=hm _ (List.getElem_mem c1);have c1': (i:Int) < (l.length:Int):=by omega
   have hh:WW l t i=decide (Qh l[i] t=0):=by simp[WW,hp]
   rw[hh];generalize l[i]=p at *;have h3:=call_Compare p t B hmp ht;simp[-getElem?_pos,QR,F.f524r0,h0,h2,h4,h8,h9,h10,c1',hp,h3]
  ·have hh:WW l t i=false:=by simp[WW,List.getElem?_eq_none (Nat.le_of_not_lt c1)]
   have c1': ¬(i:Int) < (l.length:Int):=by omega
   simp[F.f524r0,h0,h2,h4,h8,h9,h10,c1',hh]
 | succ d IH=>
  intro i j o ρ hd hij hj hlo hhi h0 h4 h2 h8 h9 h10;by_cases hlt:i < j
  ·have hmn: (i+j) / 2 < l.length:=by omega
   have hw:=NY (i:=i) (j:=j) (by omega);have hp:=List.getElem?_eq_getElem hmn;have hmp:=hm _ (List.getElem_mem hmn);have hltI: (i:Int) < (j:Int):=by omega
   have hb1:i≤(i+j) / 2:=by omega
   have hb2: (i+j) / 2 < j:=by omega
   generalize l[(i+j) / 2]=p at *;generalize hmm: (i+j) / 2=m at *;have h3:=call_Compare p t B hmp ht;have hw1:IntKind.i64.wrap ((m:Int)+1)=((m+1:Nat):Int):=by rw[Qq (by omega) (by omega)];omega
   rw[Qd F.f524l0.eq_1];by_cases cc1:Qh p t < 0
   ·have ih:=fun o ρ=>IH (m+1) j o ρ (by omega) (by omega) hj (fun k q hq hk=>mono k m q p hq hp (by omega) cc1) hhi;simp[-getElem?_pos,h0,h2,h4,h8,h9,h10,hltI,hw,hw1,hp,h3,cc1];refine ih o _ ?_ ?_ ?_ ?_ ?_ ?_ <;> simp[h0,h2,h4,h8,h10]
   ·have ih:=fun o ρ=>IH i m o ρ (by omega) (by omega) (by omega) hlo (fun k q hq hk h=>cc1 (mono m k p q hp hq hk h));simp[-getElem?_pos,h0,h2,h4,h8,h9,h10,hltI,hw,hw1,hp,h3,cc1];refine ih o _ ?_ ?_ ?_ ?_ ?_ ?_ <;> simp[h0,h2,h4,h8,h9]
  ·exact IH i j o ρ (by omega) hij hj hlo hhi h0 h4 h2 h8 h9 h10
theorem Hu {l:List Tm} {t:Tm} {B:List (List AV)} (o:Bool) (hl:l.length < 100000000) (hm: ∀p∈l,p.mass < big) (ht:t.mass < big) (ha:Asc l):
  Gy l t B (call F.tb 524 [.sl o 4 (encTs l),.agg (Qb t),.fn 30 []] B):=by
 have h:=fun ρ=>Qae (B:=B) hl hm ht ha l.length 0 l.length false ρ (by omega) (by omega) (by omega) (fun k p _ hk=>by omega) (fun k p hp hk=>by rw[List.getElem?_eq_none hk]at hp;cases hp);rw[Qa F.tb_524 _ _ rfl];simp[-getElem?_pos,F.f524C];refine h _ ?_ ?_ ?_ ?_ ?_ ?_ <;> simp
theorem UL (s:List Tm) (t:Tm) (o:Bool) (B:List (List AV)) (hl:s.length < 100000000) (hm: ∀p∈s,p.mass < big) (ht:t.mass < big) (ha:Asc s):
  call F.tb 530 [.sl o 4 (encTs s),.agg (Qb t)] B=some (.bool (Q2 s t),B):=by
 obtain⟨k,hk,hc⟩:=Hu (B:=B) false hl hm ht ha;rw[Nu ha hk]at hc;rw[Qa F.tb_530 _ _ rfl];simp[F.f530C,hc,Qj]
theorem Qa3 {l:List Tm} {t:Tm} {k:Nat} (h:TAt l t k) (hh:WW l t k=false):Zu t l=l.take k ++ t:: l.drop k:=by
 obtain⟨h1,h2,h3⟩:=h
 induction l generalizing k with
 | nil=>
  have:k=0:=by simpa using h1
  subst this;rfl
 | cons x l ih=>
  cases k with
  | zero=>
   have h4:=h3 0 x rfl (Nat.le_refl _);have h5: ¬Qh x t=0:=by simpa[WW]using hh
   have h6:Qh t x < 0:=by have:=Yn t x;omega
   simp[Zu,h6]
  | succ k=>
   have h4:=h2 0 x rfl (by omega);have h5: ¬Qh t x < 0:=by have:=Yn t x;omega
   have h6: ¬Qh t x=0:=by have:=Yn t x;omega
   have:=ih (k:=k) (by simpa[WW]using hh) (by simpa using h1) (fun i p hp hi=>h2 (i+1) p (by simpa using hp) (by omega)) (fun i p hp hi=>h3 (i+1) p (by simpa using hp) (by omega));simp[Zu,h5,h6,this]
theorem CS {l:List Tm} {t:Tm} (ha:Asc l) (h:Q2 l t=true):Zu t l=l:=by
 induction l with
 | nil=>simp[Q2]at h
 | cons x l ih=>
  obtain⟨h1,h2⟩:=Yf.1 ha;by_cases c:Qh t x=0
  ·have: ¬Qh t x < 0:=by omega
   simp[Zu,c]
  ·have hx:Q2 l t=true:=by
    unfold Q2 at h ⊢;rw[List.any_cons]at h;have:decide (Qh x t=0)=false:=by
     have:=Yn t x;simp;omega
    rw[this,Bool.false_or]at h;exact h
   have hlt: ¬Qh t x < 0:=by
    intro hl;unfold Q2 at hx;obtain⟨y,hy,he⟩:=List.any_eq_true.1 hx;have e0:y=t:=ZW.1 (by simpa using he);subst e0;have:=h1 y hy;have:=Yn y x;omega
   simp[Zu,c,hlt,ih h2 hx]
def QfW (l:List Tm) (bs:List (List AV)) (r:Out):Prop:=∃o,r=some (.sl o 4 (encTs l),bs)
theorem Qby (s:List Tm) (t:Tm) (o:Bool) (B:List (List AV)) (hl:s.length < 1000000) (hm: ∀p∈s,p.mass < big) (ht:t.mass < big) (ha:Asc s):
  QfW (Zu t s) B (call F.tb 523 [.sl o 4 (encTs s),.agg (Qb t)] B):=by
 obtain⟨k,hk,hc⟩:=Hu (B:=B) false (by omega) hm ht ha;rw[Qa F.tb_523 _ _ rfl];cases hh:WW s t k
 ·rw[hh]at hc;have hadd:=Qa3 hk hh;have hkl:=hk.1;have hlen: (Zu t s).length=s.length+1:=by rw[hadd];simp;omega
  have hk1: (s.take k).length=k:=by rw[List.length_take];omega
  have hsplit:s=s.take k ++ s.drop k:=(List.take_append_drop _ _).symm;have q1: (0:Int)≤(k:Int):=by omega
  have q2: (k:Int)≤(s.length:Int):=by omega
  have q3: (s.length+1)*56≤140737488355328:=by omega
  have q4:s.length+1≤140737488355328:=by omega
  have q5:s.length*56≤140737488355328:=by omega
  have hgp:gpfreeL (Qf (Zu t s))=true:=J0 V4 _;have hins: ∃M v2,call F.tb 525 [.sl false 4 (encTs s)] B=some (v2,B ++ M)∧∃id2 M2,call F.tb 526 [v2,.int .i64 k,.sl false 4 [Qb t]] (B ++ M)=some (.gs id2 0 4 (s.length+1),B ++ M2)∧B.length≤id2∧(B ++ M2)[id2]? =some (Qf (Zu t s))∧v2.ok=true∧v2.strip=v2:=by
   rw[ZA F.tb_525];by_cases c:s.length=0
   ·have:s=[]:=List.eq_nil_of_length_eq_zero c;subst this;have hk0:k=0:=by simpa using hkl
    subst hk0;refine⟨[],.gs 0 0 0 0,by simp[Zx,XL,encTs],B.length,[Qb t],?_,Nat.le_refl _,?_,rfl,rfl⟩
    ·rw[ZA F.tb_526];simp[TF,Uq,RX]
    ·simp[Zu,Qf,Zs]
   ·refine⟨[Qf s],.gs B.length 0 4 s.length,?_,B.length+1,[[],Qf (Zu t s)],?_,by omega,by simp,rfl,rfl⟩
    ·have e1: (encTs s).flatten.map AV.strip=Qf s:=by
      have: (encTs s).flatten=Qf s:=by rw[YE];rfl
      rw[this,Zr QJ]
     have e2: (encTs s).length=s.length:=by simp[YE]
     have e3:=encTs_gp s;have e4: ¬(s=[]):=fun e=>c (by simp[e]);simp[Zx,XL,e1,e2,e3,e4,q5]
    ·rw[ZA F.tb_526];have hr0: (Qf s).length=s.length*4:=Za Qm s;have hne:Qf s≠[]:=fun e=>by rw[e]at hr0;simp at hr0;omega
     have hcs:Uq k 4 s.length (Qf s) [Qb t]=Qf (Zu t s):=by
      have h1: (Qf s).take (s.length*4)=Qf s:=by rw[← hr0,List.take_length]
      have h2:=VV (f:=Qb) (k:=4) Qm (l:=s) (pre:=s.take k) (post:=s.drop k) hsplit [];have h3:=R8 (f:=Qb) (k:=4) Qm (l:=s) (pre:=s.take k) (post:=s.drop k) hsplit [];rw[hk1,List.append_nil]at h2 h3;rw[List.append_nil]at h3;unfold Uq;rw[h1,h2,h3,hadd,show Qf (s.take k ++ t:: s.drop k)=Qf (s.take k)++ (Qb t ++ Qf (s.drop k)) by simp[Qf,XH,VU]];rw[List.map_append,List.map_append,Zr QJ,Zr QJ];simp[QJ]
     simp only[TF];rw[if_pos ⟨trivial,by omega,by simp,q1,q2,by simpa using q3,by simpa using q4⟩,if_neg (by omega),if_pos ⟨trivial,trivial⟩,List.getElem?_concat_length];simp only[Option.bind_some];rw[if_pos ⟨hne,by omega⟩,Int.toNat_natCast,hcs,List.set_append_right _ _ (Nat.le_refl _)];simp[RX,hgp]
  obtain⟨M,v2,c1,id2,M2,c2,g1,g2,gok,gst⟩:=hins;have hch:QY (Qf (Zu t s)) 0 4 (Zu t s).length=encTs (Zu t s):=by
   have:=YS (f:=Qb) (k:=4) Qm QJ (Zu t s) [];rw[List.append_nil]at this;rw[YE];exact this
  rw[hlen]at hch;have hle: (s.length+1)*4≤(Qf (Zu t s)).length:=by
   have: (Qf (Zu t s)).length=(Zu t s).length*4:=Za Qm _;rw[this,hlen];omega
  have hgp2:=encTs_gp (Zu t s);refine⟨true,?_⟩;generalize Qf (Zu t s)=RR at *;generalize encTs (Zu t s)=EE at *;simp[-getElem?_pos,QR,List.getElem?_cons_succ,F.f523C,hc,c1,c2,gok,gst,Qj,Zb,g2,hle,hch,hgp2,Xo g1]
 ·rw[hh]at hc;have:=CS ha (by rw[← Nu ha hk];exact hh);refine⟨false,?_⟩;rw[this];have hgp2:=encTs_gp s;simp[F.f523C,hc,Qj,hgp2]
theorem Hw (x y:Tm) (bs:List (List AV)) (hx:x.mass < big) (hy:y.mass < big):call F.tb 536 [.agg (Qb x),.agg (Qb y)] bs=some (.bool (decide (Qh x y=0)),bs):=by
 have h:=call_Compare x y bs hx hy;rw[Qa F.tb_536 _ _ rfl];simp[F.f536C,h]
theorem Qbz (x y:Tm) (bs:List (List AV)) (hx:x.mass < big) (hy:y.mass < big):call F.tb 528 [.agg (Qb x),.agg (Qb y)] bs=some (.bool (decide (Qh x y=0)),bs):=by
 have h:=call_Compare x y bs hx hy;rw[Qa F.tb_528 _ _ rfl];simp[F.f528C,h]
theorem QdT:EqF 528:=Qbz
theorem Hv (l:List Tm) (o:Bool) (B:List (List AV)) (hl:l.length < 1000000) (hm: ∀x∈l,x.mass < big):call F.tb 527 [.sl o 4 (encTs l)] B=some (.sl true 4 (encTs (Zv l)),B):=by
 rw[Qa F.tb_527 _ _ rfl];by_cases c:l=[]
 ·subst c;have h1:call F.tb 193 [.sl false 4 []] B=some (.gs 0 0 0 0,B):=by rw[ZA F.tb_193];simp[Zx,XL]
  have hs:call F.tb 170 [.gs 0 0 0 0,.fn 30 []] B=some (.tup [],B):=by rw[ZA F.tb_170];simp[SQ]
  have hc:=KC 528 B;simp[F.f527C,h1,hs,hc,encTs,Zv,WJ]
 ·have h1:call F.tb 193 [.sl false 4 (encTs l)] B=some (.gs B.length 0 4 l.length,B ++ [Qf l]):=by
   rw[ZA F.tb_193];have e1: (encTs l).flatten.map AV.strip=Qf l:=by
    have: (encTs l).flatten=Qf l:=by rw[YE];rfl
    rw[this,Zr QJ]
   have e2: (encTs l).length=l.length:=by simp[YE]
   have e3:=encTs_gp l;have q5:l.length*56≤140737488355328:=by omega
   simp[Zx,XL,e1,e2,e3,c,q5]
  have hb: (B ++ [Qf l])[B.length]? =some (Qf l):=List.getElem?_concat_length;have hs:=Sz l (B ++ [Qf l]) B.length hb (by omega) hm;have hB:=Zp hb;have hS: ((B ++ [Qf l]).set B.length (Qf (Zt l)))[B.length]? =some (Qf (Zt l)):=by rw[List.getElem?_set,if_pos rfl,if_pos hB]
  have hsne:Zt l≠[]:=by
   intro e;obtain⟨x,hx⟩:=List.exists_mem_of_ne_nil l c;have:=(Wx (l:=l)).2 hx;rw[e]at this;simp at this
  have hc:=Hs 528 QdT (Zt l) ((B ++ [Qf l]).set B.length (Qf (Zt l))) B.length hS hsne (by rw[XE];omega) fun x hx=>hm x (Wx.1 hx);rw[S0,XE]at hc;unfold Rw at hc;rw[List.set_set]at hc;have hg:=encTs_gp (Zv l);have htk: ((B ++ [Qf l]).set B.length []).take B.length=B:=by simp
  generalize (B ++ [Qf l]).set B.length (Qf (Zt l))=B2 at *;generalize (B ++ [Qf l]).set B.length []=B3 at *;generalize B ++ [Qf l]=B1 at *;simp[-getElem?_pos,QR,List.getElem?_cons_succ,F.f527C,h1,hs,hc,hg,htk]
theorem O0 (t:Tm) (l:List Nm) (o:Bool) (bs:List (List AV)) (hl:l.length < 1000000):call F.tb 160 [.agg (Qb t),.sl o 1 (SE l)] bs=some (.bool (decide (t.kind=3) && l.contains t.name),bs):=by
 have h:=C2 l t.name false bs hl;rw[Qa F.tb_160 _ _ rfl];by_cases hk:t.kind=3 <;> simp[F.f160C,hk,h,-List.contains_eq_mem]
theorem VL (t:Tm) (n:Nm) (o:Bool) (bs:List (List AV)):call F.tb 160 [.agg (Qb t),.sl o 1 [[.str n]]] bs=some (.bool (isB t n),bs):=by
 have h:=O0 t [n] o bs (by simp);have e: [n].contains t.name=(t.name == n):=by simp only[List.contains_cons,List.contains_nil,Bool.or_false]
 rw[e]at h;exact h
theorem O1 (t:Tm) (n m:Nm) (o:Bool) (bs:List (List AV)):call F.tb 160 [.agg (Qb t),.sl o 1 [[.str n],[.str m]]] bs=some (.bool (isB t n || isB t m),bs):=by
 have h:=O0 t [n,m] o bs (by simp);have e: (decide (t.kind=3) && [n,m].contains t.name)=(isB t n || isB t m):=by
  have: [n,m].contains t.name=(t.name == n || t.name == m):=by simp only[List.contains_cons,List.contains_nil,Bool.or_false]
  rw[this];unfold isB;cases decide (t.kind=3) <;> simp
 rw[e]at h;exact h
def Ms:List UInt8:=[104,97,115,104]
def K6 (n:List UInt8):Bool:=n == QK || n == ENC || n == Zz || n == PK || n == ZD || n == Ms
theorem K7 (n:List UInt8): [QK,ENC,Zz,PK,ZD,Ms].contains n=K6 n:=by
 unfold K6;simp only[List.contains_cons,List.contains_nil,Bool.or_false,Bool.or_assoc]
def Sc (s:List Tm) (u:Tm):Bool:=decide (u.kind=3) && K6 u.name && u.kids.all (Q2 s)
theorem QbB (s:List Tm) (x:Tm) (g:Nat) (bs:List (List AV)) (hg:bs[g]? =some [.sl false 4 (encTs s)]) (hl:s.length < 100000000) (hm: ∀p∈s,p.mass < big) (hx:x.mass < big) (ha:Asc s):
  call F.tb 533 [.agg (Qb x),.gp g 0] bs=some (.bool (!Q2 s x),bs):=by
 have h:=UL s x false bs hl hm hx ha;have hgt:=Zp hg;rw[Qa F.tb_533 _ _ rfl];simp[-getElem?_pos,QR,List.getElem?_cons_succ,F.f533C,h,hg]
theorem QbA (s:List Tm) (u:Tm) (o:Bool) (bs:List (List AV)) (hl:s.length < 100000000) (hm: ∀p∈s,p.mass < big) (hu:u.mass < 1000000) (ha:Asc s):
  call F.tb 532 [.sl o 4 (encTs s),.agg (Qb u)] bs=some (.bool (Sc s u),bs):=by
 have hkm: ∀x∈u.kids,x.mass < big:=fun x hx=>by have:=QN hx;have:=Qr u;unfold big;omega
 have hkl:u.kids.length < 1000000:=by have:=Qr u;omega
 have hg: (bs ++ [[AV.sl false 4 (encTs s)]])[bs.length]? =some [.sl false 4 (encTs s)]:=List.getElem?_concat_length;have h1:=O0 u [QK,ENC,Zz,PK,ZD,Ms] false (bs ++ [[AV.sl false 4 (encTs s)]]) (by simp);rw[K7]at h1;have h1:call F.tb 160 [.agg (Qb u),.sl false 1 [[.str [112,97,105,114]],[.str [101,110,99]],[.str [97,101,110,99]],[.str [112,107]],[.str [115,105,103,110]],[.str [104,97,115,104]]]] (bs ++ [[AV.sl false 4 (encTs s)]])=some (.bool (decide (u.kind=3) && K6 u.name),bs ++ [[AV.sl false 4 (encTs s)]]):=h1;have h2:=C6 u.kids 533 [.gp bs.length 0] (fun x=> !Q2 s x) false (bs ++ [[AV.sl false 4 (encTs s)]]) hkl (by simp) fun x hx=>QbB s x bs.length _ hg hl hm (hkm x hx) ha;have e: (u.kids.any fun x=> !Q2 s x)= !u.kids.all (Q2 s):=by rw[List.not_all_eq_any_not]
 rw[e]at h2;have htk: (bs ++ [[AV.sl false 4 (encTs s)]]).take bs.length=bs:=by simp
 rw[Qa F.tb_532 _ _ rfl];unfold Sc;generalize u.kids.all (Q2 s)=q at *;cases hc: (decide (u.kind=3) && K6 u.name)
 ·rw[hc]at h1;simp[-List.any_eq_false,-List.any_eq_true,F.f532C,h1]
 ·rw[hc]at h1;simp[-List.any_eq_false,-List.any_eq_true,F.f532C,h1,h2]
def Vd (t:Tm):Int:=if thV t≠0 then thV t else if isB t ENC then 0 else if isB t Zz then(if isB (kid t 1) PK then 0 else 4)else 10
def WU (t:Tm):Tm:=if Vd t≠0 then Qs else if isB t ENC then kid t 1 else kid (kid t 1) 0
def Jc (t:Tm):AV:= .tup [.agg (Qb (WU t)),.int .i64 (Vd t)]
theorem Et (t:Tm) (bs:List (List AV)) (hm:t.mass < big):call F.tb 46 [.agg (Qb t)] bs=some (.agg (Qb t),bs):=by
 rw[Qa F.tb_46 _ _ rfl];simp[F.f46,F.f46C,Bp t bs hm]
theorem YZ {t:Tm} {n:List UInt8} (hg:QI t=true) (h:isB t n=true) (hn:VY n): ∃x y,t.kids=[x,y]:=by
 have:=(gd2 hg h hn).1
 match hh:t.kids with
 | [x,y]=>exact⟨x,y,rfl⟩
 | []=>rw[hh]at this;simp at this
 | [_]=>rw[hh]at this;simp at this
 | _:: _:: _:: _=>rw[hh]at this;simp at this
theorem B8 {t:Tm} (hg:QI t=true) (h:isB t PK=true): ∃x,t.kids=[x]:=by
 obtain⟨h1,h0⟩:=XX.1 h;obtain⟨h2,h3⟩:=Ww hg h1;rw[h0]at h3;have:t.kids.length=1:=by
  unfold Ye at h3;simpa[PK,QK,ENC,Zz,ZD,EXP,FST,SND,DEC,Yc,Yj,READ]using h3
 match hh:t.kids with
 | [x]=>exact⟨x,rfl⟩
 | []=>rw[hh]at this;simp at this
 | _:: _:: _=>rw[hh]at this;simp at this
theorem S1:Qb Qs=[AV.int IntKind.i64 0,AV.str [],AV.int IntKind.i64 0,AV.sl false 4 []]:=by simp[Qs,Qb,encTs]
theorem Qbu (t:Tm) (bs:List (List AV)) (hg:QI t=true) (hm:t.mass < 1000000):call F.tb 418 [.agg (Qb t)] bs=some (Jc t,bs):=by
 have h1:=Sb t bs (by unfold big;omega);have h2:=V1 t ENC bs;have h3:=V1 t Zz bs;have h4:=fun x=>V1 x PK bs;unfold ENC at h2;unfold Zz at h3;unfold PK at h4
 have hkm: ∀x∈t.kids,x.mass < 1000000:=fun x hx=>by have:=QN hx;have:=Qr t;omega
 rw[Qa F.tb_418 _ _ rfl];unfold Jc WU Vd;by_cases v:thV t=0
 ·cases c1:isB t ENC
  ·cases c2:isB t Zz
   ·unfold ENC at c1;unfold Zz at c2
    simp[F.f418C,h1,h2,h3,v,c1,c2,ENC,Zz,S1,Qj]
   ·obtain⟨x,y,hk⟩:=YZ hg c2 (by simp[VY]);have ey:kid t 1=y:=by simp[kid,hk]
    rw[ey];have gy:QI y=true:=XD.1 (Wv hg) y (by rw[hk];simp);have my:=hkm y (by rw[hk];simp);cases c3:isB y PK
    ·unfold ENC at c1;unfold Zz at c2;unfold PK at c3
     simp[F.f418C,h1,h2,h3,h4,v,c1,c2,c3,ENC,Zz,PK,S1,encTs,hk,Qj]
    ·obtain⟨z,hz⟩:=B8 gy c3;have ez:kid y 0=z:=by simp[kid,hz]
     have h5:=Et z bs (by have:=QN (x:=z) (ks:=y.kids) (by rw[hz];simp);have:=Qr y;unfold big;omega);unfold ENC at c1;unfold Zz at c2;unfold PK at c3
     simp[F.f418C,h1,h2,h3,h4,h5,v,c1,c2,c3,ENC,Zz,PK,ez,encTs,hk,hz,Qj]
  ·obtain⟨x,y,hk⟩:=YZ hg c1 (by simp[VY]);have ey:kid t 1=y:=by simp[kid,hk]
   have h5:=Et y bs (by have:=hkm y (by rw[hk];simp);unfold big;omega);unfold ENC at c1;simp[F.f418C,h1,h2,h5,v,c1,ENC,ey,encTs,hk,Qj]
 ·simp[F.f418C,h1,v,S1,Qj]
theorem Ef (l:List Tm) (g:Nat) (cs:List AV) (p:Tm→Bool) (bs:List (List AV)) (hl:l.length < 1000000) (hcs: ∀x∈cs,x.ok=true) (hp: ∀x∈l,call F.tb g (.agg (Qb x):: cs) bs=some (.bool (p x),bs)):
  ∀(post pre:List Tm) (o:Bool) (ρ:Nat→AV),l=pre ++ post→pre.any p=false→ρ 0= .sl o 4 (encTs l)→ρ 1= .fn g cs→ρ 7= .int .i64 l.length→ρ 8= .int .i64 pre.length→
  Mt (l.any p) bs (R F.tb (.loop F.f538l0) ρ bs (Qi 0 (Qu F.tb F.f538r0 (Qy F.f538 bs)))):=by
 intro post
 induction post with
 | nil=>
  intro pre o ρ hk hpp h0 h1 h7 h8;simp only[List.append_nil]at hk;rw[← hk]at h8 hpp;rw[Qd F.f538l0.eq_1];refine⟨-1,?_,by rw[hpp];simp⟩;simp[h0,h1,h7,h8,F.f538r0]
 | cons x post IH=>
  intro pre o ρ hk hpp h0 h1 h7 h8;have hgt:=QB hk;have hll:=QM hk;have hw1:=wr1 pre.length (by omega);have hlt:=QO hk;have hcall:=hp x (by rw[hk];simp);have hcs2: (∀(x:AV),x∈cs→x.ok=true)=True:=eq_true hcs;have ih:=fun ρ hpp=>IH (pre ++ [x]) o ρ (by rw[hk];simp) hpp;rw[Qd F.f538l0.eq_1];cases ho:p x
  ·have ih2:=fun ρ=>ih ρ (by rw[List.any_append,hpp];simp[ho]);simp[h0,h1,h7,h8,hlt,hgt,hw1,hcall,hcs2,ho,-List.any_eq_false,-List.any_eq_true];apply ih2 <;> simp[h0,h1,h7]
  ·have hany:l.any p=true:=List.any_eq_true.2 ⟨x,by rw[hk];simp,ho⟩;refine⟨pre.length,?_,by rw[hany];simp⟩;simp[h0,h1,h7,h8,hlt,hgt,hcall,hcs2,ho]
theorem KD (l:List Tm) (g:Nat) (cs:List AV) (p:Tm→Bool) (o:Bool) (bs:List (List AV)) (hl:l.length < 1000000) (hcs: ∀x∈cs,x.ok=true) (hp: ∀x∈l,call F.tb g (.agg (Qb x):: cs) bs=some (.bool (p x),bs)):
  call F.tb 537 [.sl o 4 (encTs l),.fn g cs] bs=some (.bool (l.any p),bs):=by
 have h1:=fun ρ=>Ef l g cs p bs hl hcs hp l [] false ρ rfl rfl;have hcs2: (∀(x:AV),x∈cs→x.ok=true)=True:=eq_true hcs;have h2:Mt (l.any p) bs (call F.tb 538 [.sl false 4 (encTs l),.fn g cs] bs):=by
  rw[Qa F.tb_538 _ _ rfl];simp[F.f538C,hcs2,-List.any_eq_false,-List.any_eq_true];apply h1 <;> simp
 obtain⟨i,hi,hb⟩:=h2;rw[Qa F.tb_537 _ _ rfl];simp[F.f537C,hi,hcs2,-List.any_eq_false,-List.any_eq_true];cases hx:l.any p
 ·rw[hx]at hb;simp at hb;simpa using hb
 ·rw[hx]at hb;simp at hb;simpa using hb
def Nk (s:List Tm) (u t:Tm):Bool:=
 if isB t QK then decide (Qh (kid t 0) u=0) || decide (Qh (kid t 1) u=0)
 else if isB t ZD then decide (Qh (kid t 0) u=0)
 else if isB t ENC || isB t Zz then decide (Vd t=0) && decide (Qh (kid t 0) u=0) && Q2 s (WU t)
 else false
def S7 (s:List Tm) (u:Tm):Bool:=s.any (Nk s u)
def GS (s:List Tm):Prop:=s.length < 1000000∧∀x∈s,QI x=true∧x.mass < 1000000
theorem GS.bg {s:List Tm} (h:GS s): ∀x∈s,x.mass < big:=fun x hx=>by have:=(h.2 x hx).2;unfold big;omega
theorem DG (t:Tm): (WU t).mass≤t.mass:=by
 unfold WU;split
 ·have:=Qr t;simp[Qs,Qr,massL];omega
 ·split
  ·exact VR t 1
  ·exact Nat.le_trans (VR _ 0) (VR t 1)
theorem OC {t:Tm} (h:t.mass < 1000000) (i:Nat): (kid t i).mass < big:=by have:=VR t i;unfold big;omega
theorem QbD (s:List Tm) (u t:Tm) (gu gs:Nat) (bs:List (List AV)) (hgu:bs[gu]? =some (Qb u)) (hgs:bs[gs]? =some [.sl false 4 (encTs s)]) (hs:GS s) (ha:Asc s) (hu:u.mass < 1000000) (ht:t∈s):
  call F.tb 535 [.agg (Qb t),.gp gu 0,.gp gs 0] bs=some (.bool (Nk s u t),bs):=by
 obtain⟨hg,hm⟩:=hs.2 t ht;have hub:u.mass < big:=by unfold big;omega
 have l1:=Zp hgu;have l2:=Zp hgs;have hP:=VL t QK false bs;have hS:=VL t ZD false bs;have hE:=O1 t ENC Zz false bs;unfold QK at hP;unfold ZD at hS;unfold ENC Zz at hE
 have h0:=fun x (hx:x.mass < big)=>Hw x u bs hx hub;rw[Qa F.tb_535 _ _ rfl];unfold Nk;cases c1:isB t QK
 ·cases c2:isB t ZD
  ·cases c3: (isB t ENC || isB t Zz)
   ·unfold QK at c1;unfold ZD at c2;unfold ENC Zz at c3
    simp[-getElem?_pos,QR,List.getElem?_cons_succ,F.f535C,hP,hS,hE,c1,c2,c3]
   ·have ⟨x,y,hk⟩: ∃x y,t.kids=[x,y]:=by
     rcases Bool.or_eq_true_iff.1 c3 with h | h
     ·exact YZ hg h (by simp[VY])
     ·exact YZ hg h (by simp[VY])
    have e0:kid t 0=x:=by simp[kid,hk]
    have hx:x.mass < big:=by rw[← e0];exact OC hm 0
    have hx0:=h0 x hx;have hK:=Qbu t bs hg hm;unfold Jc at hK;have hH:=UL s (WU t) false bs (by have:=hs.1;omega) hs.bg (by have:=DG t;unfold big;omega) ha;unfold QK at c1;unfold ZD at c2;unfold ENC Zz at c3
    rw[e0];by_cases d1:Vd t=0
    ·cases d2:decide (Qh x u=0)
     ·rw[d2]at hx0;simp[-getElem?_pos,QR,List.getElem?_cons_succ,F.f535C,hP,hS,hE,c1,c2,c3,hK,hk,hgu,hgs,hx0,d1,d2,Qj,encTs]
     ·rw[d2]at hx0;simp[-getElem?_pos,QR,List.getElem?_cons_succ,F.f535C,hP,hS,hE,c1,c2,c3,hK,hk,hgu,hgs,hx0,d1,d2,hH,Qj,encTs]
    ·simp[-getElem?_pos,QR,List.getElem?_cons_succ,F.f535C,hP,hS,hE,c1,c2,c3,hK,hk,d1,Qj,encTs]
  ·obtain⟨x,y,hk⟩:=YZ hg c2 (by simp[VY]);have e0:kid t 0=x:=by simp[kid,hk]
   have hx:x.mass < big:=by rw[← e0];exact OC hm 0
   have hx0:=h0 x hx;unfold QK at c1;unfold ZD at c2
   rw[e0];simp[-getElem?_pos,QR,List.getElem?_cons_succ,F.f535C,hP,hS,c1,c2,hk,hgu,hx0,Qj,encTs]
 ·obtain⟨x,y,hk⟩:=YZ hg c1 (by simp[VY]);have e0:kid t 0=x:=by simp[kid,hk]
  have e1:kid t 1=y:=by simp[kid,hk]
  have hx:x.mass < big:=by rw[← e0];exact OC hm 0
  have hy:y.mass < big:=by rw[← e1];exact OC hm 1
  have hx0:=h0 x hx;have hy0:=h0 y hy;unfold QK at c1;rw[e0,e1];cases d1:decide (Qh x u=0)
  ·rw[d1]at hx0;simp[-getElem?_pos,QR,List.getElem?_cons_succ,F.f535C,hP,c1,hk,hgu,hx0,hy0,d1,Qj,encTs]
  ·rw[d1]at hx0;simp[-getElem?_pos,QR,List.getElem?_cons_succ,F.f535C,hP,c1,hk,hgu,hx0,d1,Qj,encTs]
theorem QbC (s:List Tm) (u:Tm) (o:Bool) (bs:List (List AV)) (hs:GS s) (ha:Asc s) (hu:u.mass < 1000000):
  call F.tb 534 [.sl o 4 (encTs s),.agg (Qb u)] bs=some (.bool (S7 s u),bs):=by
 have hgs: (bs ++ [[AV.sl false 4 (encTs s)],Qb u])[bs.length]? =some [.sl false 4 (encTs s)]:=by rw[List.getElem?_append_right (Nat.le_refl _)];simp
 have hgu: (bs ++ [[AV.sl false 4 (encTs s)],Qb u])[bs.length+1]? =some (Qb u):=by rw[List.getElem?_append_right (by omega)];simp
 have h:=KD s 535 [.gp (bs.length+1) 0,.gp bs.length 0] (Nk s u) false (bs ++ [[AV.sl false 4 (encTs s)],Qb u]) hs.1 (by simp) fun x hx=>QbD s u x (bs.length+1) bs.length _ hgu hgs hs ha hu hx;rw[Qa F.tb_534 _ _ rfl];unfold S7;generalize s.any (Nk s u)=q at *;simp[F.f534C,h]
abbrev W64:=BitVec 64
def WC (w:W64):AV:= .int .u64 w.toNat
def QH (l:List W64):List AV:=l.map WC
def U8 (l:List W64):List (List AV):=l.map fun w=>[WC w]
def Xs (l:List W64) (i:Nat):Bool:=(l.getD (i / 64) 0).getLsbD (i % 64)
def VH (l:List W64) (i:Nat):List W64:=l.set (i / 64) (l.getD (i / 64) 0 ^^^ (1#64 <<< (i % 64)))
def Xh (a b:List W64):List W64:=List.zipWith (· ^^^ ·) a b
theorem Eo {l:List W64} {i:Nat} (h:i / 64 < l.length) (j:Nat):Xs (VH l i) j=(Xs l j ^^ decide (j=i)):=by
 unfold Xs VH;rw[List.getD_eq_getElem?_getD,List.getElem?_set];by_cases hd:i / 64=j / 64
 ·rw[if_pos hd,if_pos h];simp only[Option.getD_some,BitVec.getLsbD_xor,BitVec.getLsbD_shiftLeft,BitVec.getLsbD_one];rw[hd];congr 1;have h1:j % 64 < 64:=Nat.mod_lt _ (by omega);by_cases he:j=i
  ·subst he;simp[h1]
  ·have:j % 64≠i % 64:=by omega
   simp[he,h1];omega
 ·rw[if_neg hd];have:j≠i:=fun e=>hd (by rw[e]);simp[this,List.getD_eq_getElem?_getD]
theorem Kz {a b:List W64} (h:a.length=b.length) (j:Nat):Xs (Xh a b) j=(Xs a j ^^ Xs b j):=by
 unfold Xs Xh;simp only[List.getD_eq_getElem?_getD,List.getElem?_zipWith];by_cases hl:j / 64 < a.length
 ·have hl2:j / 64 < b.length:=by omega
  simp[List.getElem?_eq_getElem hl,List.getElem?_eq_getElem hl2]
 ·rw[List.getElem?_eq_none (Nat.le_of_not_lt hl),List.getElem?_eq_none (by omega:b.length≤j / 64)];simp
theorem Pf {a b:List W64} (h:a.length=b.length): (Xh a b).length=a.length:=by simp[Xh,h]
theorem Lm (l:List W64) (i:Nat): (VH l i).length=l.length:=by simp[VH]
theorem Nq (l:List W64): (QH l).length=l.length:=by simp[QH]
theorem Gc (l:List W64):gpfreeL (QH l)=true:=by
 induction l with
 | nil=>rfl
 | cons w l ih=>simp only[QH,List.map_cons,gpfreeL]at ih ⊢;rw[ih];rfl
theorem Np {l:List W64} {k:Nat} (h:k < l.length): (QH l)[k]? =some (WC (l.getD k 0)):=by
 simp[QH,h,List.getD_eq_getElem?_getD]
theorem MO (w:W64):BitVec.ofInt 64 (w.toNat:Int)=w:=by
 rw[BitVec.ofInt_natCast];simp
theorem QaO {n:Nat} (h:n < 18446744073709551616):IntKind.u64.wrap (n:Int)=(n:Int):=by
 unfold IntKind.wrap;simp[IntKind.bits,IntKind.signed];omega
theorem Kp (a b:W64):Yr .xor (WC a) (WC b)=some (WC (a ^^^ b)):=by
 simp only[Yr,WC,if_true,Option.some.injEq,toI];rw[show BitVec.ofInt IntKind.u64.bits (a.toNat:Int)=a from MO a,show BitVec.ofInt IntKind.u64.bits (b.toNat:Int)=b from MO b];have:=(a ^^^ b).isLt;exact congrArg (AV.int IntKind.u64) (QaO this)
theorem CR {i:Nat} (h:i < 64):Yr .shl (.int .u64 1) (.int .i64 i)=some (WC (1#64 <<< i)):=by
 have hm:min i 64=i:=by omega
 have hlt:2 ^ i < 18446744073709551616:=by
  have:2 ^ i < 2 ^ 64:=Nat.pow_lt_pow_right (by omega) h;simpa using this
 have e: (1*2 ^ min (i:Int).toNat IntKind.u64.bits:Int)=((2 ^ i:Nat):Int):=by
  rw[Int.toNat_natCast,show IntKind.u64.bits=64 from rfl,hm];simp
 simp only[Yr,toI];rw[if_pos (by omega),e,QaO hlt];simp only[WC,Option.some.injEq,AV.int.injEq,true_and];rw[BitVec.toNat_shiftLeft];have: (1#64).toNat <<< i % 2 ^ 64=2 ^ i:=by
  rw[show(1#64).toNat=1 from rfl,Nat.shiftLeft_eq,Nat.one_mul,Nat.mod_eq_of_lt (by simpa using hlt)]
 rw[this]
theorem C0 (w:W64) {i:Nat} (h:i < 64): (BitVec.ofInt IntKind.u64.bits ((w.toNat:Int) / 2 ^ min i IntKind.u64.bits) &&& BitVec.ofInt IntKind.u64.bits 1).toNat=if w.getLsbD i then 1 else 0:=by
 have hm:min i 64=i:=by omega
 have e: ((w.toNat:Int) / 2 ^ min i IntKind.u64.bits)=((w >>> i).toNat:Int):=by
  rw[show IntKind.u64.bits=64 from rfl,hm,BitVec.toNat_ushiftRight,Nat.shiftRight_eq_div_pow];simp
 rw[e,show BitVec.ofInt IntKind.u64.bits ((w >>> i).toNat:Int)=w >>> i from MO _]
 show(w >>> i &&& 1#64).toNat=_;have h2: (w >>> i &&& 1#64)=if w.getLsbD i then 1#64 else 0#64:=by
  apply BitVec.eq_of_getLsbD_eq;intro j hj;rw[BitVec.getLsbD_and,BitVec.getLsbD_ushiftRight,BitVec.getLsbD_one];cases j with
  | zero=>cases hw:w.getLsbD i <;> simp[hw]
  | succ j=>cases hw:w.getLsbD i <;> simp
 rw[h2];split <;> rfl
theorem QaG {i n:Nat} (h:i / 64 < n) (hi:i < 1000000):IntKind.i64.wrap ((i:Int) / 64)=(i:Int) / 64∧(0:Int)≤(i:Int) / 64∧(i:Int) / 64 < (n:Int)∧((i:Int) / 64).toNat=i / 64∧(0:Int)≤(i:Int).tmod 64∧((i:Int).tmod 64).toNat=i % 64:=
 ⟨Qq (by omega) (by omega),by omega,by omega,by omega,Int.natCast_nonneg (i % 64),rfl⟩
theorem Hx (l:List W64) (i id:Nat) (bs:List (List AV)) (hb:bs[id]? =some (QH l)) (hi:i / 64 < l.length) (hi2:i < 1000000):call F.tb 549 [.gs id 0 1 l.length,.int .i64 i] bs=some (.bool (Xs l i),bs):=by
 obtain⟨q1,q2,q3,q4,q5,q6⟩:=QaG hi hi2;have hg:=Np hi;have hm:i % 64 < 64:=Nat.mod_lt _ (by omega);have ht:=C0 (l.getD (i / 64) 0) hm;have hid:=Zp hb;have hll:=Nq l;have hi1:i / 64+1≤l.length:=hi;have hbw:Xs l i=(l.getD (i / 64) 0).getLsbD (i % 64):=rfl;rw[hbw];rw[Qa F.tb_549 _ _ rfl];generalize l.getD (i / 64) 0=w at *;generalize QH l=RW at *;unfold WC at hg;have hW1:IntKind.u64.wrap 1=1:=rfl;have hW0:IntKind.u64.wrap 0=0:=rfl;cases hbit:w.getLsbD (i % 64)
 ·rw[hbit]at ht;simp at ht;simp[-getElem?_pos,hW0,hW1,F.f549C,q1,q2,q3,q4,q5,q6,hb,hg,hll,ht,hi1]
 ·rw[hbit]at ht;simp at ht;simp[-getElem?_pos,hW0,hW1,F.f549C,q1,q2,q3,q4,q5,q6,hb,hg,hll,ht,hi1]
theorem NK (B:List (List AV)) (id:Nat) (x:List AV) (h:gpfreeL x=true):Z9 B (B.set id x)=true:=by
 induction B generalizing id with
 | nil=>simp[Z9]
 | cons y B ih=>
  cases id with
  | zero=>
   simp only[List.set_cons_zero,Z9,h,Bool.or_true,Bool.true_and];have: ∀(B:List (List AV)),Z9 B B=true:=by
    intro B
    induction B with
    | nil=>rfl
    | cons y B ih=>simp only[Z9,eqVL_refl,Bool.true_or,Bool.true_and,ih]
   exact this B
  | succ id=>simp only[List.set_cons_succ,Z9,eqVL_refl,Bool.true_or,Bool.true_and];exact ih id
theorem JZ (l:List W64) (k:Nat) (w:W64): (QH l).set k (WC w)=QH (l.set k w):=by simp[QH,List.map_set]
theorem QbJ (l:List W64) (i id:Nat) (bs:List (List AV)) (hb:bs[id]? =some (QH l)) (hi:i / 64 < l.length) (hi2:i < 1000000):call F.tb 547 [.gs id 0 1 l.length,.int .i64 i] bs=some (.tup [],bs.set id (QH (VH l i))):=by
 obtain⟨q1,q2,q3,q4,q5,q6⟩:=QaG hi hi2;have hg:=Np hi;have hm:i % 64 < 64:=Nat.mod_lt _ (by omega);have hid:=Zp hb;have hll:=Nq l;have hi1:i / 64+1≤l.length:=hi;have hs:=CR hm;have hx:=Kp (l.getD (i / 64) 0) (1#64 <<< (i % 64));have hset:=JZ l (i / 64) (l.getD (i / 64) 0 ^^^ (1#64 <<< (i % 64)));have hfl:l.set (i / 64) (l.getD (i / 64) 0 ^^^ (1#64 <<< (i % 64)))=VH l i:=rfl;rw[hfl]at hset;have hck:=NK bs id (QH (VH l i)) (Gc _);have htk: (bs.set id (QH (VH l i))).take bs.length=bs.set id (QH (VH l i)):=List.take_of_length_le (by simp);have e1:Yr .quo (.int .i64 i) (.int .i64 64)=some (.int .i64 ((i:Int) / 64)):=by simp[Yr,toI,q1]
 have e2:Yr .rem (.int .i64 i) (.int .i64 64)=some (.int .i64 ((i % 64:Nat):Int)):=by simp[Yr];rfl
 rw[Qa F.tb_547 _ _ rfl];generalize hR:QH (VH l i)=RF at *;generalize hw:l.getD (i / 64) 0=w at *;generalize QH l=RW at *;generalize hw2: (1#64 <<< (i % 64))=w2 at *;generalize hw3:w ^^^ w2=w3 at *;have hs':Yr .shl (.int .u64 1) (.int .i64 ((i:Int) % 64))=some (WC w2):=hs;have p3:RW.take (i / 64)++ WC w3:: RW.drop (i / 64+1)=RW.set (i / 64) (WC w3):=by rw[List.set_eq_take_append_cons_drop,if_pos (by omega)]
 unfold WC at *;simp[-getElem?_pos,-Yr,F.f547C,e1,e2,hs',hx,q2,q3,q4,hb,hg,hll,hi1,p3,hset,hck,htk]
theorem JY {l:List Tm} {i:Nat} {p:Tm} {c:List AV} (h: (c.drop (i*4)).take 4=Qb p): ((c.map AV.strip).drop (i*4)).take 4=Qb p:=by
 rw[← List.map_drop,← List.map_take,h,QJ]
theorem Ga {l:List Tm} {i:Nat} {p:Tm} (h:l[i]? =some p) (c:List AV): ((Qf l ++ c).drop (i*4)).take 4=Qb p:=by
 obtain⟨hi,rfl⟩:=List.getElem?_eq_some_iff.1 h;have hl:l=l.take i ++ l[i]:: l.drop (i+1):=by rw[List.getElem_cons_drop,List.take_append_drop]
 have:=Xf (f:=Qb) (k:=4) Qm hl c;rw[List.length_take,Nat.min_eq_left (by omega)]at this;exact this
theorem Qas {l:List Tm} {t:Tm} {B:List (List AV)} {id sz:Nat} {c:List AV} (hl:l.length < 100000000) (hb:l≠[]→sz=4∧B[id]? =some (Qf l ++ c)) (hm: ∀p∈l,p.mass < big) (ht:t.mass < big) (ha:Asc l):
  ∀(d i j:Nat) (ρ:Nat→AV),j - i≤d→i≤j→j≤l.length→(∀(k:Nat) (p:Tm),l[k]? =some p→k < i→Qh p t < 0)→(∀(k:Nat) (p:Tm),l[k]? =some p→j≤k→¬Qh p t < 0)→
  ρ 0= .gs id 0 sz l.length→ρ 4= .bx (Qb t)→ρ 2= .fn 30 []→ρ 8= .int .i64 l.length→ρ 9= .int .i64 i→ρ 10= .int .i64 j→
  Gy l t B (R F.tb (.loop F.f546l0) ρ B (Qi 0 (Qu F.tb F.f546r0 (Qy F.f546 B)))):=by
 have mono: ∀(i j:Nat) (p q:Tm),l[i]? =some p→l[j]? =some q→i≤j→Qh q t < 0→Qh p t < 0:=by
  intro i j p q hp hq hij h;rcases Nat.lt_or_ge i j with hlt | hge
  ·obtain⟨h1,rfl⟩:=List.getElem?_eq_some_iff.1 hp;obtain⟨h2,rfl⟩:=List.getElem?_eq_some_iff.1 hq;exact Z4 (List.pairwise_iff_getElem.1 ha i j h1 h2 hlt) h
  ·have:i=j:=by omega
   subst this;rw[hp]at hq;injection hq with hq;subst hq;exact h
 intro d
 induction d with
 | zero=>
  intro i j ρ hd hij hj hlo hhi h0 h4 h2 h8 h9 h10;have:i=j:=by omega
  subst this;refine⟨i,⟨hj,hlo,hhi⟩,?_⟩;rw[Qd F.f546l0.eq_1];by_cases c1:i < l.length
  ·have hp:=List.getElem?_eq_getElem c1;obtain⟨rfl,hbx⟩:=hb (by intro e;subst e;simp at c1);have r1:=JY (l:=l) (Ga hp c);have hmp:=hm _ (List.getElem_mem c1);have hle:i*4+4≤(Qf l ++ c).length:=by rw[List.length_append,Za Qm];omega
   have c1': (i:Int) < (l.length:Int):=by omega
   have hh:WW l t i=decide (Qh l[i] t=0):=by simp[WW,hp]
   rw[hh];generalize l[i]=p at *;have h3:=call_Compare p t B hmp ht;generalize Qf l ++ c=cc at *;simp[F.f546r0,h0,h2,h4,h8,h9,h10,c1,c1',hbx,hle,r1,h3]
  ·have hh:WW l t i=false:=by simp[WW,List.getElem?_eq_none (Nat.le_of_not_lt c1)]
   have c1': ¬(i:Int) < (l.length:Int):=by omega
   simp[F.f546r0,h0,h2,h4,h8,h9,h10,c1,c1',hh]
 | succ d IH=>
  intro i j ρ hd hij hj hlo hhi h0 h4 h2 h8 h9 h10;by_cases hlt:i < j
  ·have hmn: (i+j) / 2 < l.length:=by omega
   have hw:=NY (i:=i) (j:=j) (by omega);have hp:=List.getElem?_eq_getElem hmn;obtain⟨rfl,hbx⟩:=hb (by intro e;subst e;simp at hmn);have r1:=JY (l:=l) (Ga hp c);have hmp:=hm _ (List.getElem_mem hmn);have hle: (i+j) / 2*4+4≤(Qf l ++ c).length:=by rw[List.length_append,Za Qm];omega
   have hltI: (i:Int) < (j:Int):=by omega
   have hb1:i≤(i+j) / 2:=by omega
   have hb2: (i+j) / 2 < j:=by omega
   generalize l[(i+j) / 2]=p at *;generalize hmm: (i+j) / 2=m at *;have h3:=call_Compare p t B hmp ht;have hw1:IntKind.i64.wrap ((m:Int)+1)=((m+1:Nat):Int):=by rw[Qq (by omega) (by omega)];omega
   have c1': (m:Int) < (l.length:Int):=by omega
   generalize hcc:Qf l ++ c=cc at *;rw[Qd F.f546l0.eq_1];by_cases cc1:Qh p t < 0
   ·have ih:=fun ρ=>IH (m+1) j ρ (by omega) (by omega) hj (fun k q hq hk=>mono k m q p hq hp (by omega) cc1) hhi;simp[-getElem?_pos,h0,h2,h4,h8,h9,h10,hltI,hw,hw1,c1',hmn,hbx,hle,r1,h3,cc1];refine ih _ ?_ ?_ ?_ ?_ ?_ ?_ <;> simp[h0,h2,h4,h8,h10]
   ·have ih:=fun ρ=>IH i m ρ (by omega) (by omega) (by omega) hlo (fun k q hq hk h=>cc1 (mono m k p q hp hq hk h));simp[-getElem?_pos,h0,h2,h4,h8,h9,h10,hltI,hw,hw1,c1',hmn,hbx,hle,r1,h3,cc1];refine ih _ ?_ ?_ ?_ ?_ ?_ ?_ <;> simp[h0,h2,h4,h8,h9]
  ·exact IH i j ρ (by omega) hij hj hlo hhi h0 h4 h2 h8 h9 h10
theorem QbI {l:List Tm} {t:Tm} {B:List (List AV)} {id sz:Nat} {c:List AV} (hl:l.length < 100000000) (hb:l≠[]→sz=4∧B[id]? =some (Qf l ++ c)) (hm: ∀p∈l,p.mass < big) (ht:t.mass < big) (ha:Asc l):
  Gy l t B (call F.tb 546 [.gs id 0 sz l.length,.agg (Qb t),.fn 30 []] B):=by
 have h:=fun ρ=>Qas hl hb hm ht ha l.length 0 l.length ρ (by omega) (by omega) (by omega) (fun k p _ hk=>by omega) (fun k p hp hk=>by rw[List.getElem?_eq_none hk]at hp;cases hp);rw[Qa F.tb_546 _ _ rfl];simp[F.f546C];refine h _ ?_ ?_ ?_ ?_ ?_ ?_ <;> simp
def TSg (B:List (List AV)) (v:AV) (l:List Tm):Prop:=∃id sz,v= .gs id 0 sz l.length∧∃c,l≠[]→sz=4∧B[id]? =some (Qf l ++ c)
theorem Qar {l:List Tm} {t:Tm} {k:Nat} (h:WW l t k=true):l[k]? =some t:=by
 unfold WW at h;cases hk:l[k]? with
 | none=>rw[hk]at h;cases h
 | some p=>
  rw[hk]at h;have:p=t:=ZW.1 (by simpa using h);rw[this]
theorem QbH {C:List Tm} {B:List (List AV)} {g:Nat} {vC:AV} {rest:List AV} (hg:B[g]? =some (vC:: rest)) (hv:TSg B vC C) (hC:C.length < 1000000) (hm: ∀x∈C,x.mass < big) (ha:Asc C) {y:Tm} (hy:y∈C):
  ∃k:Nat,C[k]? =some y∧call F.tb 545 [.gp g 0,.agg (Qb y)] B=some (.int .i64 k,B):=by
 obtain⟨id,sz,rfl,c,hc⟩:=hv;obtain⟨k,hk,hcall⟩:=QbI (B:=B) (id:=id) (sz:=sz) (c:=c) (l:=C) (t:=y) (by omega) hc hm (hm y hy) ha;have hh:WW C y k=true:=by rw[Nu ha hk];exact Zo.2 hy
 rw[hh]at hcall;have hgl:=Zp hg;refine⟨k,Qar hh,?_⟩;rw[Qa F.tb_545 _ _ rfl];simp[-getElem?_pos,QR,List.getElem?_cons_succ,F.f545C,hg,hcall,Qj]
theorem E4 (l:List W64): (U8 l).length=l.length:=by simp[U8]
theorem E3 {l:List W64} {k:Nat} (h:k < l.length): (U8 l)[k]? =some [WC (l.getD k 0)]:=by
 simp[U8,h,List.getD_eq_getElem?_getD]
def YW (a b:List W64) (k:Nat):List W64:=(Xh (a.take k) (b.take k))++ a.drop k
theorem F4 (a b:List W64):YW a b 0=a:=by simp[YW,Xh]
theorem CC {a b:List W64} (h:a.length=b.length):YW a b a.length=Xh a b:=by
 have e:b.take a.length=b:=by rw[h,List.take_length]
 rw[YW,List.take_length,e,List.drop_length,List.append_nil]
theorem LI {a b:List W64} (h:a.length=b.length) (k:Nat): (YW a b k).length=a.length:=by
 simp only[YW,Xh,List.length_append,List.length_zipWith,List.length_take,List.length_drop];omega
theorem F2 {a b:List W64} (h:a.length=b.length) {k:Nat} (hk:k < a.length): (YW a b k).getD k 0=a.getD k 0:=by
 have hl: (Xh (a.take k) (b.take k)).length=k:=by simp[Xh];omega
 simp only[YW,List.getD_eq_getElem?_getD];rw[List.getElem?_append_right (by omega),hl,Nat.sub_self,List.getElem?_drop,Nat.add_zero]
theorem F3 {a b:List W64} (h:a.length=b.length) {k:Nat} (hk:k < a.length): (YW a b k).set k (a.getD k 0 ^^^ b.getD k 0)=YW a b (k+1):=by
 have hl: (Xh (a.take k) (b.take k)).length=k:=by simp[Xh];omega
 have hkb:k < b.length:=by omega
 simp only[YW];rw[List.set_append_right _ _ (by omega),hl,Nat.sub_self];have e1:a.drop k=a[k]:: a.drop (k+1):=List.drop_eq_getElem_cons hk;rw[e1,List.set_cons_zero];have e2:Xh (a.take (k+1)) (b.take (k+1))=Xh (a.take k) (b.take k)++ [a[k] ^^^ b[k]]:=by
  unfold Xh;rw[List.take_succ_eq_append_getElem hk,List.take_succ_eq_append_getElem hkb,List.zipWith_append (by simp;omega)];rfl
 rw[e2];simp[List.getD_eq_getElem?_getD,hk,hkb]
theorem QaD (a b:List W64) (id:Nat) (B:List (List AV)) (hid:id < B.length) (hab:a.length=b.length) (ha:a.length < 1000000):
  ∀(n k:Nat) (o:Bool) (ρ:Nat→AV),a.length - k≤n→k≤a.length→ρ 0= .gs id 0 1 a.length→ρ 1= .sl o 1 (U8 b)→ρ 6= .int .i64 a.length→ρ 7= .int .i64 k→
  R F.tb (.loop F.f550l0) ρ (B.set id (QH (YW a b k))) (Qi 0 (Qy F.f550 B))=some (.tup [],B.set id (QH (Xh a b))):=by
 intro n
 induction n with
 | zero=>
  intro k o ρ hn hk h0 h1 h6 h7;have:k=a.length:=by omega
  subst this;rw[CC hab];have hck:=NK B id (QH (Xh a b)) (Gc _);have htk: (B.set id (QH (Xh a b))).take B.length=B.set id (QH (Xh a b)):=List.take_of_length_le (by simp);rw[Qd F.f550l0.eq_1];simp[h6,h7,hck,htk]
 | succ n IH=>
  intro k o ρ hn hk h0 h1 h6 h7;by_cases hlt:k < a.length
  ·have hI: (k:Int) < (a.length:Int):=by omega
   have hw1:IntKind.i64.wrap ((k:Int)+1)=((k+1:Nat):Int):=by rw[Qq (by omega) (by omega)];omega
   have hg:=Np (l:=YW a b k) (k:=k) (by rw[LI hab];exact hlt);rw[F2 hab hlt]at hg;have hb2:=E3 (l:=b) (k:=k) (by omega);have hx:=Kp (a.getD k 0) (b.getD k 0);have hset:=JZ (YW a b k) k (a.getD k 0 ^^^ b.getD k 0);rw[F3 hab hlt]at hset;have hbx: (B.set id (QH (YW a b k)))[id]? =some (QH (YW a b k)):=by rw[List.getElem?_set,if_pos rfl,if_pos hid]
   have hll: (QH (YW a b k)).length=a.length:=by rw[Nq,LI hab]
   have hss: (B.set id (QH (YW a b k))).set id (QH (YW a b (k+1)))=B.set id (QH (YW a b (k+1))):=by rw[List.set_set]
   have hbl: (k:Int) < (b.length:Int):=by omega
   have hew:=E4 b;have hbk:k < b.length:=by omega
   have hk1:k+1≤a.length:=hlt;have ih:=fun o ρ=>IH (k+1) o ρ (by omega) (by omega);have hgl:=Zp hbx;generalize hR1:QH (YW a b (k+1))=R1 at *;generalize hR0:QH (YW a b k)=R0 at *;generalize hB1:B.set id R1=B1 at *;generalize hB0:B.set id R0=B0 at *;generalize hw3:a.getD k 0 ^^^ b.getD k 0=w3 at *;generalize a.getD k 0=w at *;generalize b.getD k 0=w2 at *;have p3:R0.take k ++ WC w3:: R0.drop (k+1)=R1:=by rw[← hset,List.set_eq_take_append_cons_drop,if_pos (by omega)]
   unfold WC at hg hb2 hx p3;have e0:Yr .add (.int .i64 k) (.int .i64 1)=some (.int .i64 ((k+1:Nat):Int)):=by simp[Yr,hw1]
   have e1:Yr .lss (.int .i64 k) (.int .i64 a.length)=some (.bool true):=by simp[Yr,hI]
   rw[Qd F.f550l0.eq_1];simp[-getElem?_pos,QR,List.getElem?_cons_succ,-Yr,h0,h1,h6,h7,e0,e1,hI,hbx,hg,hb2,hx,hll,hk1,hlt,hbl,hbk,hew,p3,hss];refine ih o _ ?_ ?_ ?_ ?_ <;> simp[h0,h1,h6]
  ·have hk2:k=a.length:=by omega
   exact IH k o ρ (by omega) hk h0 h1 h6 h7
theorem Hy (a b:List W64) (o:Bool) (id:Nat) (bs:List (List AV)) (hb:bs[id]? =some (QH a)) (hab:a.length=b.length) (ha:a.length < 1000000):
  call F.tb 550 [.gs id 0 1 a.length,.sl o 1 (U8 b)] bs=some (.tup [],bs.set id (QH (Xh a b))):=by
 have hid:=Zp hb;have h:=fun ρ=>QaD a b id bs hid hab ha a.length 0 false ρ (by omega) (by omega);have e:bs.set id (QH (YW a b 0))=bs:=by
  rw[F4];obtain⟨h1,h2⟩:=List.getElem?_eq_some_iff.1 hb;rw[← h2,List.set_getElem_self]
 rw[e]at h;rw[Qa F.tb_550 _ _ rfl];simp[F.f550C];refine h _ ?_ ?_ ?_ ?_ <;> simp
def QfS (l:List W64) (n:Nat):Option Nat→Prop
 | none=>∀j,j < n→Xs l j=false
 | some c=>c < n∧Xs l c=true∧∀j,j < c→Xs l j=false
def frV:Option Nat→AV
 | none=> .int .i64 (-1)
 | some c=> .int .i64 (c:Int)
def Hl (l:List W64) (n:Nat) (B:List (List AV)) (r:Option (AV×List (List AV))):Prop:=∃o,QfS l n o∧r=some (frV o,B)
theorem IP (l:List W64) (id n:Nat) (B:List (List AV)) (hb:B[id]? =some (QH l)) (hn:n≤64*l.length) (hn2:n < 1000000):
  ∀(d k:Nat) (ρ:Nat→AV),n - k≤d→k≤n→(∀j,j < k→Xs l j=false)→ρ 0= .gs id 0 1 l.length→ρ 6= .int .i64 n→ρ 7= .int .i64 k→
  Hl l n B (R F.tb (.loop F.f551l0) ρ B (Qi 0 (Qu F.tb F.f551r0 (Qy F.f551 B)))):=by
 intro d
 induction d with
 | zero=>
  intro k ρ hd hk hz h0 h6 h7;have:k=n:=by omega
  subst this;refine⟨none,hz,?_⟩;rw[Qd F.f551l0.eq_1];simp[h6,h7,F.f551r0,frV]
 | succ d IH=>
  intro k ρ hd hk hz h0 h6 h7;by_cases hlt:k < n
  ·have hI: (k:Int) < (n:Int):=by omega
   have hw1:IntKind.i64.wrap ((k:Int)+1)=((k+1:Nat):Int):=by rw[Qq (by omega) (by omega)];omega
   have hc:=Hx l k id B hb (by omega) (by omega);cases hbit:Xs l k
   ·rw[hbit]at hc;have ih:=fun ρ=>IH (k+1) ρ (by omega) (by omega) (fun j hj=>by
     rcases Nat.lt_or_ge j k with h | h
     ·exact hz j h
     ·have:j=k:=by omega
      rw[this];exact hbit)
    rw[Qd F.f551l0.eq_1];simp[h0,h6,h7,hI,hc,hw1];refine ih _ ?_ ?_ ?_ <;> simp[h0,h6]
   ·rw[hbit]at hc;refine⟨some k,⟨hlt,hbit,hz⟩,?_⟩;rw[Qd F.f551l0.eq_1];simp[h0,h6,h7,hI,hc,hw1,F.f551r0,frV]
  ·exact IH k ρ (by omega) hk hz h0 h6 h7
theorem QbL (l:List W64) (id n:Nat) (B:List (List AV)) (hb:B[id]? =some (QH l)) (hn:n≤64*l.length) (hn2:n < 1000000):Hl l n B (call F.tb 551 [.gs id 0 1 l.length,.int .i64 n] B):=by
 have h:=fun ρ=>IP l id n B hb hn hn2 n 0 ρ (by omega) (by omega) (fun j hj=>by omega);rw[Qa F.tb_551 _ _ rfl];simp[F.f551C];refine h _ ?_ ?_ ?_ <;> simp
theorem Yq {α:Type} {B:List α} {i:Nat} {x:α} (h:B[i]? =some x) (M:List α): (B ++ M)[i]? =some x:=by
 rw[List.getElem?_append_left (Zp h)];exact h
theorem Ro {α:Type} (B:List α) (x:α) (M:List α): (B ++ x:: M)[B.length]? =some x:=by simp
theorem B7 {α:Type} (B:List α) (x y:α) (M:List α): (B ++ x:: y:: M)[B.length+1]? =some y:=by
 rw[List.getElem?_append_right (by omega)];simp
theorem Gf {α:Type} (B:List α) (x y:α) (M:List α): (B ++ x:: M).set B.length y=B ++ y:: M:=by
 rw[List.set_append_right _ _ (Nat.le_refl _)];simp
theorem Qaj {α:Type} (B:List α) (x y z:α) (M:List α): (B ++ x:: y:: M).set (B.length+1) z=B ++ x:: z:: M:=by
 rw[List.set_append_right _ _ (by omega)];simp
theorem TSg.app {B:List (List AV)} {v:AV} {l:List Tm} (h:TSg B v l) (M:List (List AV)):TSg (B ++ M) v l:=by
 obtain⟨id,sz,e,c,hc⟩:=h;exact⟨id,sz,e,c,fun hn=>⟨(hc hn).1,Yq (hc hn).2 M⟩⟩
def L7 (C:List Tm) (w:List W64) (f:Tm→Bool):Prop:=w.length=C.length / 64+1∧∀(k:Nat) (y:Tm),C[k]? =some y→Xs w k=f y
theorem Ir {C:List Tm} (hC:Asc C) {i j:Nat} {y:Tm} (h1:C[i]? =some y) (h2:C[j]? =some y):i=j:=by
 obtain⟨a,e1⟩:=List.getElem?_eq_some_iff.1 h1;obtain⟨b,e2⟩:=List.getElem?_eq_some_iff.1 h2;have hp:=List.pairwise_iff_getElem.1 hC;rcases Nat.lt_trichotomy i j with h | h | h
 ·have:=hp i j a b h;rw[e1,e2,Z3]at this;omega
 ·exact h
 ·have:=hp j i b a h;rw[e1,e2,Z3]at this;omega
def Gw (C:List Tm) (f:Tm→Bool) (B:List (List AV)) (r:Option (AV×List (List AV))):Prop:=∃w,L7 C w f∧r=some (.gs B.length 0 1 w.length,B ++ [QH w])
theorem Dk (l:List Tm) (x y:Tm):Q2 (l ++ [x]) y=(Q2 l y || decide (Qh x y=0)):=by
 simp[Q2,List.any_append]
theorem AN {C:List Tm} {B:List (List AV)} {g:Nat} {vC:AV} {rest:List AV} (hg:B[g]? =some (vC:: rest)) (hv:TSg B vC C) (hC:C.length < 1000000) (hm: ∀x∈C,x.mass < big) (ha:Asc C) (S:List Tm) (hS:Asc S) (hSC: ∀y∈S,y∈C) (hSl:S.length < 1000000):
  ∀(post pre:List Tm) (o:Bool) (w:List W64) (ρ:Nat→AV),S=pre ++ post→L7 C w (Q2 pre)→ρ 0= .gp g 0→ρ 5= .gs B.length 0 1 w.length→ρ 17= .sl o 4 (encTs S)→ρ 18= .int .i64 S.length→ρ 19= .int .i64 pre.length→
  Gw C (Q2 S) B (R F.tb (.loop F.f544l0) ρ (B ++ [QH w]) (Qi 0 (Qu F.tb F.f544r0 (Qy F.f544 B)))):=by
 intro post
 induction post with
 | nil=>
  intro pre o w ρ hk hw h0 h5 h17 h18 h19;simp only[List.append_nil]at hk;subst hk;refine⟨w,hw,?_⟩;rw[Qd F.f544l0.eq_1];simp[h0,h5,h17,h18,h19,F.f544r0]
 | cons y post IH=>
  intro pre o w ρ hk hw h0 h5 h17 h18 h19;have hgp:=QB hk;have hll:=QM hk;have hw1:=wr1 pre.length (by omega);have hlt:=QO hk;have hyS:y∈S:=by rw[hk];simp
  have hyC:=hSC y hyS;obtain⟨k,hck,hcall⟩:=QbH (Yq hg [QH w]) (hv.app [QH w]) hC hm ha hyC;have hkl:=Zp hck;have hwl:=hw.1;have hcf:=QbJ w k B.length (B ++ [QH w]) (Ro B (QH w) []) (by omega) (by omega);rw[Gf]at hcf;have hnp:y ∉ pre:=by
   intro h;rw[hk]at hS;have:=(List.pairwise_append.1 hS).2.2 y h y (by simp);rw[Z3]at this;omega
  have hrow:L7 C (VH w k) (Q2 (pre ++ [y])):=by
   refine⟨by rw[Lm];exact hwl,fun j z hz=> ?_⟩;rw[Eo (by omega),hw.2 j z hz,Dk];by_cases hj:j=k
   ·subst hj;rw[hck]at hz;have:y=z:=by injection hz
    subst this;have:Q2 pre y=false:=by
     cases h:Q2 pre y
     ·rfl
     ·exact absurd (Zo.1 h) hnp
    simp[this,Z3]
   ·have: ¬Qh y z=0:=by
     intro e;have e:=ZW.1 e;subst e;exact hj (Ir ha hz hck)
    simp[hj,this]
  have ih:=fun o ρ=>IH (pre ++ [y]) o (VH w k) ρ (by rw[hk];simp) hrow;rw[Lm]at ih;have he:Qb y≠[]:=by intro h;have:=Qm y;rw[h]at this;simp at this
  rw[Qd F.f544l0.eq_1];simp[h0,h5,h17,h18,h19,hgp,hlt,hw1,Qj,hcall,hcf];refine ih o _ ?_ ?_ ?_ ?_ ?_ <;> simp[h0,h5,h17,h18]
theorem H7 (n:Nat):QH (List.replicate n 0)=List.replicate n (.int .u64 0):=by
 simp[QH,WC]
theorem Ll (n:Nat) (x:AV): (List.replicate n [x]).flatten=List.replicate n x:=by
 induction n with
 | zero=>rfl
 | succ n ih=>simp[List.replicate_succ,ih]
theorem CZ (n j:Nat):Xs (List.replicate n 0) j=false:=by
 unfold Xs;rw[List.getD_eq_getElem?_getD,List.getElem?_replicate];split <;> simp
theorem QbG {C:List Tm} {B:List (List AV)} {g:Nat} {vC:AV} {rest:List AV} (hg:B[g]? =some (vC:: rest)) (hv:TSg B vC C) (hC:C.length < 1000000) (hm: ∀x∈C,x.mass < big) (ha:Asc C) {x:Tm} (hx:x.mass < 1000000) (hxC: ∀y∈Zi x,y∈C):
  Gw C (Q2 (Zi x)) B (call F.tb 544 [.gp g 0,.agg (Qb x)] B):=by
 have hz:L7 C (List.replicate (C.length / 64+1) 0) (Q2 []):=⟨by simp,fun k y _=>by rw[CZ];rfl⟩;have hsl: (Zi x).length < 1000000:=by
  have h1:=Sq x;have h2:=YA x;omega
 have h:=fun o ρ=>AN hg hv hC hm ha (Zi x) (UI x) hxC hsl (Zi x) [] o _ ρ rfl hz;rw[H7,List.length_replicate]at h;obtain⟨id,sz,rfl,c,hc⟩:=hv;obtain⟨o1,hs⟩:=VF x (B ++ [List.replicate (C.length / 64+1) (.int .u64 0)]) (by omega);have hgl:=Zp hg;have hw1:IntKind.i64.wrap ((C.length:Int) / 64)=(C.length:Int) / 64:=Qq (by omega) (by omega);have hw2:IntKind.i64.wrap ((C.length:Int) / 64+1)=(C.length:Int) / 64+1:=Qq (by omega) (by omega);have hn: ((C.length:Int) / 64+1).toNat=C.length / 64+1:=by omega
 have e1:Yr .quo (.int .i64 C.length) (.int .i64 64)=some (.int .i64 ((C.length:Int) / 64)):=by simp[Yr,toI,hw1]
 have e2:Yr .add (.int .i64 ((C.length:Int) / 64)) (.int .i64 1)=some (.int .i64 ((C.length / 64+1:Nat):Int)):=by
  simp[Yr,hw2]
 have hnn:0≤((C.length / 64+1:Nat):Int):=by omega
 have hb8: (C.length / 64+1)*8≤140737488355328:=by omega
 have hbig: ((C.length / 64+1:Nat):Int)≤4611686018427387904:=by omega
 have htn: ((C.length / 64+1:Nat):Int).toNat=C.length / 64+1:=by omega
 have hW0:IntKind.u64.wrap 0=0:=rfl;rw[Qa F.tb_544 _ _ rfl];generalize C.length / 64+1=W at *;simp[-getElem?_pos,QR,List.getElem?_cons_succ,-Yr,F.f544C,hg,e1,e2,hnn,hb8,hbig,htn,Ll,Qj,hs];refine h o1 _ ?_ ?_ ?_ ?_ ?_ <;> simp
abbrev VK:=Nat×List W64×List W64
def MI (x:VK):AV:= .agg [.int .i64 (x.1:Int),.sl false 1 (U8 x.2.1)]
def MH (x:VK):AV:= .agg [.int .i64 (x.1:Int),.sl false 1 (U8 x.2.2)]
def fR (k:Nat) (RS:List VK):Option VK:=RS.find? fun x=>x.1 == k
theorem QaI (k:Nat): ∀RS:List VK,Yy false (RS.map MI) (.int .i64 (k:Int))=some ((fR k RS).map fun x=> .sl false 1 (U8 x.2.1))
 | []=>by simp[Yy,UV,fR]
 | x:: RS=>by
  have ih:=QaI k RS;simp only[List.map_cons,MI,Yy,TL,if_true];by_cases h:x.1=k
  ·subst h;simp[fR]
  ·have h2: ((k:Int) == (x.1:Int))=false:=by simp only[beq_eq_false_iff_ne,ne_eq];omega
   have h3: (x.1 == k)=false:=by simp only[beq_eq_false_iff_ne,ne_eq];exact h
   rw[h2];simp only[fR,List.find?_cons,h3];exact ih
theorem QaH (k:Nat): ∀RS:List VK,Yy false (RS.map MH) (.int .i64 (k:Int))=some ((fR k RS).map fun x=> .sl false 1 (U8 x.2.2))
 | []=>by simp[Yy,UV,fR]
 | x:: RS=>by
  have ih:=QaH k RS;simp only[List.map_cons,MH,Yy,TL,if_true];by_cases h:x.1=k
  ·subst h;simp[fR]
  ·have h2: ((k:Int) == (x.1:Int))=false:=by simp only[beq_eq_false_iff_ne,ne_eq];omega
   have h3: (x.1 == k)=false:=by simp only[beq_eq_false_iff_ne,ne_eq];exact h
   rw[h2];simp only[fR,List.find?_cons,h3];exact ih
theorem Qcm {k:Nat} {RS:List VK} {x:VK} (h:fR k RS=some x):x∈RS∧x.1=k:=⟨List.mem_of_find?_eq_some h,by have:=List.find?_some h;simpa using this⟩
theorem Qcl {k:Nat} {RS:List VK} (h:fR k RS=none): ∀x∈RS,x.1≠k:=fun x hx=>by have:=List.find?_eq_none.1 h x hx;simpa using this
def SY (B:List (List AV)) (b0:Nat) (C:List Tm) (n:Nat) (RS:List VK):Prop:=∃(idC szC:Nat) (c:List AV) (vb:AV),
 B[b0+2]? =some [.gs idC 0 szC C.length,.int .i64 (n:Int),.mp b0,.mp (b0+1),vb]∧B[b0]? =some (.undef:: RS.map MI)∧B[b0+1]? =some (.undef:: RS.map MH)∧
 (C≠[]→szC=4∧b0+2 < idC∧B[idC]? =some (Qf C ++ c))∧
 (vb= .gs 0 0 0 0∨∃(idb:Nat) (ks:List AV),vb= .gs idb 0 1 ks.length∧ks≠[]∧b0+2 < idb∧(C≠[]→idC < idb)∧B[idb]? =some ks∧ks.length≤RS.length)
theorem SY.app {B:List (List AV)} {b0:Nat} {C:List Tm} {n:Nat} {RS:List VK} (h:SY B b0 C n RS) (M:List (List AV)):SY (B ++ M) b0 C n RS:=by
 obtain⟨idC,szC,c,vb,h1,h2,h3,h4,h5⟩:=h;refine⟨idC,szC,c,vb,Yq h1 M,Yq h2 M,Yq h3 M,fun hn=>⟨(h4 hn).1,(h4 hn).2.1,Yq (h4 hn).2.2 M⟩,?_⟩;rcases h5 with h5 | ⟨idb,ks,q1,q2,q3,q4,q5,q6⟩
 ·exact .inl h5
 ·exact .inr ⟨idb,ks,q1,q2,q3,q4,Yq q5 M,q6⟩
def vN (N:Nat) (w:List W64):Nat→Bool:=fun j=>decide (j < N) && Xs w j
theorem QeY (N:Nat) {a b:List W64} (h:a.length=b.length):vN N (Xh a b)=xv (vN N a) (vN N b):=by
 funext j;simp only[vN,xv,Kz h];cases decide (j < N) <;> simp
def QdC (N n:Nat) (RS:List VK):Prop:=∀x∈RS,x.1 < N∧x.2.1.length=N / 64+1∧x.2.2.length=n / 64+1∧Xs x.2.1 x.1=true∧∀j,j < x.1→Xs x.2.1 j=false
def QaF (N n:Nat) (RS:List VK) (B:List (List AV)) (b0:List W64) (r:Option (AV×List (List AV))):Prop:=∃b q,b.length=N / 64+1∧q.length=n / 64+1∧
 Sp (RS.map fun x=>vN N x.2.1) (xv (vN N b0) (vN N b))∧(∀x∈RS,Xs b x.1=false)∧r=some (.tup [.gs B.length 0 1 b.length,.gs (B.length+1) 0 1 q.length],B ++ [QH b,QH q])
theorem AG {B:List (List AV)} {b0:Nat} {C:List Tm} {n:Nat} {RS:List VK} (hS:SY B b0 C n RS) (hR:QdC C.length n RS) (hC:C.length < 100000) (hn:n < 100000) (w:List W64):
  ∀(d k:Nat) (b q:List W64) (ρ:Nat→AV),C.length - k≤d→k≤C.length→b.length=C.length / 64+1→q.length=n / 64+1→Sp (RS.map fun x=>vN C.length x.2.1) (xv (vN C.length w) (vN C.length b))→(∀x∈RS,x.1 < k→Xs b x.1=false)→
  ρ 0= .gp (b0+2) 0→ρ 1= .gs B.length 0 1 b.length→ρ 6= .gs (B.length+1) 0 1 q.length→ρ 21= .int .i64 C.length→ρ 22= .int .i64 k→
  QaF C.length n RS B w (R F.tb (.loop F.f548l0) ρ (B ++ [QH b,QH q]) (Qi 0 (Qu F.tb F.f548r0 (Qy F.f548 (B ++ [QH w]))))):=by
 intro d
 induction d with
 | zero=>
  intro k b q ρ hd hk hb hq hsp hz h0 h1 h6 h21 h22;have:k=C.length:=by omega
  subst this;refine⟨b,q,hb,hq,hsp,fun x hx=>hz x hx (hR x hx).1,?_⟩;rw[Qd F.f548l0.eq_1];simp[h0,h1,h6,h21,h22,F.f548r0]
 | succ d IH=>
  intro k b q ρ hd hk hb hq hsp hz h0 h1 h6 h21 h22;by_cases hlt:k < C.length
  ·have hI: (k:Int) < (C.length:Int):=by omega
   have hw1:IntKind.i64.wrap ((k:Int)+1)=((k+1:Nat):Int):=by rw[Qq (by omega) (by omega)];omega
   have hkb:k / 64 < b.length:=by omega
   have hc:=Hx b k B.length (B ++ [QH b,QH q]) (Ro B _ _) hkb (by omega);obtain⟨idC,szC,c,vb,s1,s2,s3,s4,s5⟩:=hS.app [QH b,QH q];have f1:=QaI k RS;have f2:=QaH k RS;have hw0:IntKind.i64.wrap 0=0:=rfl;rw[Qd F.f548l0.eq_1];cases hf:fR k RS with
   | none=>
    rw[hf]at f1 f2;have ih:=fun ρ=>IH (k+1) b q ρ (by omega) (by omega) hb hq hsp (fun x hx hx2=>by
     have:=Qcl hf x hx;exact hz x hx (by omega))
    simp only[Option.map_none]at f1 f2;generalize RS.map MI=eR at *;generalize RS.map MH=eQ at *;generalize hBB:B ++ [QH b,QH q]=BB at *;simp[-getElem?_pos,QR,List.getElem?_cons_succ,h0,h1,h6,h21,h22,hI,s1,s2,s3,f1,f2,hw1];refine ih _ ?_ ?_ ?_ ?_ ?_ <;> simp[h0,h1,h6,h21]
   | some x=>
    rw[hf]at f1 f2;simp only[Option.map_some]at f1 f2;obtain⟨hxR,hxk⟩:=Qcm hf;obtain⟨r1,r2,r3,r4,r5⟩:=hR x hxR;cases hbit:Xs b k
    ·rw[hbit]at hc;have ih:=fun ρ=>IH (k+1) b q ρ (by omega) (by omega) hb hq hsp (fun y hy hy2=>by
      rcases Nat.lt_or_ge y.1 k with h | h
      ·exact hz y hy h
      ·have:y.1=k:=by omega
       rw[this];exact hbit)
     generalize RS.map MI=eR at *;generalize RS.map MH=eQ at *;generalize hBB:B ++ [QH b,QH q]=BB at *;simp[-getElem?_pos,QR,List.getElem?_cons_succ,h0,h1,h6,h21,h22,hI,s1,s2,s3,f1,f2,hw1,hc];refine ih _ ?_ ?_ ?_ ?_ ?_ <;> simp[h0,h1,h6,h21]
    ·rw[hbit]at hc;have hl1:b.length=x.2.1.length:=by omega
     have hl2:q.length=x.2.2.length:=by omega
     have hx1:=Hy b x.2.1 false B.length (B ++ [QH b,QH q]) (Ro B _ _) hl1 (by omega);rw[Gf]at hx1;have hx2:=Hy q x.2.2 false (B.length+1) (B ++ [QH (Xh b x.2.1),QH q]) (B7 B _ _ _) hl2 (by omega);rw[Qaj]at hx2;obtain⟨idC',szC',c',vb',s1',s2',s3',s4',s5'⟩:=hS.app [QH (Xh b x.2.1),QH q];have ih:=fun ρ=>IH (k+1) (Xh b x.2.1) (Xh q x.2.2) ρ (by omega) (by omega) (by rw[Pf hl1];exact hb) (by rw[Pf hl2];exact hq) (by
      rw[QeY _ hl1,← Su];exact hsp.sum (Sp.mem (List.mem_map.2 ⟨x,hxR,rfl⟩))) (fun y hy hy2=>by
       rw[Kz hl1];rcases Nat.lt_or_ge y.1 k with h | h
       ·rw[hz y hy h,r5 y.1 (by omega)];rfl
       ·have:y.1=k:=by omega
        rw[this,hbit,← hxk,r4];rfl)
     rw[Pf hl1,Pf hl2]at ih;generalize RS.map MI=eR at *;generalize RS.map MH=eQ at *;generalize hBB:B ++ [QH b,QH q]=BB at *;generalize hBB2:B ++ [QH (Xh b x.2.1),QH q]=BB2 at *;simp[-getElem?_pos,QR,List.getElem?_cons_succ,h0,h1,h6,h21,h22,hI,s1,s2,s3,s1',s2',s3',f1,f2,hw1,hc,hx1,hx2];refine ih _ ?_ ?_ ?_ ?_ ?_ <;> simp[h0,h1,h6,h21]
  ·exact IH k b q ρ (by omega) hk hb hq hsp hz h0 h1 h6 h21 h22
theorem QbK {B:List (List AV)} {b0:Nat} {C:List Tm} {n:Nat} {RS:List VK} (hS:SY B b0 C n RS) (hR:QdC C.length n RS) (hC:C.length < 100000) (hn:n < 100000) (w:List W64) (hw:w.length=C.length / 64+1):
  QaF C.length n RS B w (call F.tb 548 [.gp (b0+2) 0,.gs B.length 0 1 w.length] (B ++ [QH w])):=by
 have h:=fun ρ=>AG hS hR hC hn w C.length 0 w (List.replicate (n / 64+1) 0) ρ (by omega) (by omega) hw (by simp) (by rw[Gl];exact .zero) (fun x _ hx=>by omega);rw[H7,List.length_replicate]at h;obtain⟨idC,szC,c,vb,s1,s2,s3,s4,s5⟩:=hS.app [QH w];obtain⟨idC',szC',c',vb',s1',s2',s3',s4',s5'⟩:=hS.app [QH w,List.replicate (n / 64+1) (.int .u64 0)];have hw1:IntKind.i64.wrap ((n:Int) / 64)=(n:Int) / 64:=Qq (by omega) (by omega);have hw2:IntKind.i64.wrap ((n:Int) / 64+1)=(n:Int) / 64+1:=Qq (by omega) (by omega);have e1:Yr .quo (.int .i64 n) (.int .i64 64)=some (.int .i64 ((n:Int) / 64)):=by simp[Yr,toI,hw1]
 have e2:Yr .add (.int .i64 ((n:Int) / 64)) (.int .i64 1)=some (.int .i64 ((n / 64+1:Nat):Int)):=by
  simp[Yr,hw2]
 have hnn:0≤((n / 64+1:Nat):Int):=by omega
 have hb8: (n / 64+1)*8≤140737488355328:=by omega
 have hbig: ((n / 64+1:Nat):Int)≤4611686018427387904:=by omega
 have htn: ((n / 64+1:Nat):Int).toNat=n / 64+1:=by omega
 have hW0:IntKind.u64.wrap 0=0:=rfl;rw[Qa F.tb_548 _ _ rfl];generalize n / 64+1=W at *;have ha:B ++ [QH w]++ [List.replicate W (AV.int .u64 0)]=B ++ [QH w,List.replicate W (AV.int .u64 0)]:=by simp
 have hlen: (B ++ [QH w]).length=B.length+1:=by simp
 generalize hB1:B ++ [QH w]=B1 at *;generalize hB2:B ++ [QH w,List.replicate W (AV.int .u64 0)]=B2 at *;simp[-getElem?_pos,QR,List.getElem?_cons_succ,-Yr,F.f548C,s1,s1',e1,e2,hnn,hb8,hbig,htn,Ll,ha,hlen];refine h _ ?_ ?_ ?_ ?_ ?_ <;> simp
end Go.Am
