/-
  Kn2, Kn3, Kn4, Kn5, Kn6, Kn7, Kn9.
-/
import Derived.Test.YtiibekjjcelboaaGreatDoorG21
set_option linter.unusedVariables false
set_option linter.unusedSimpArgs false
namespace Go.Am
set_option maxRecDepth 8000
def TAt (l:List Tm) (t:Tm) (k:Nat):Prop:=k≤l.length∧(∀(i:Nat) (p:Tm),l[i]? =some p→i < k→Qh p t < 0)∧(∀(i:Nat) (p:Tm),l[i]? =some p→k≤i→¬Qh p t < 0)
def WH (l:List Tm) (t:Tm) (k:Nat):Bool:=match l[k]? with
 | some p=>decide (Qh p t=0)
 | none=>false
def Fk (l:List Tm) (t:Tm) (B:List (List AV)) (r:Out):Prop:=∃k,TAt l t k∧r=some (.tup [.int .i64 k,.bool (WH l t k)],B)
theorem Nn {l:List Tm} {t:Tm} {k:Nat} (ha:Asc l) (h:TAt l t k):WH l t k=Q3 l t:=by
 obtain⟨h1,h2,h3⟩:=h;unfold WH Q3;cases hk:l[k]? with
 | none=>
  symm;rw[List.any_eq_false];intro x hx;obtain⟨i,hi⟩:=List.getElem?_of_mem hx;have:i < k:=by
   rcases Nat.lt_or_ge i k with h | h
   ·exact h
   ·have hl:=(List.getElem?_eq_some_iff.1 hi).1;have:k < l.length:=by omega
    rw[List.getElem?_eq_getElem this]at hk;cases hk
  have:=h2 i x hi this;simp;omega
 | some p=>
  simp only;rw[Bool.eq_iff_iff,List.any_eq_true];constructor
  ·intro h;exact⟨p,List.mem_of_getElem? hk,h⟩
  ·rintro⟨x,hx,he⟩
   have e0:Qh x t=0:=by simpa using he
   obtain⟨i,hi⟩:=List.getElem?_of_mem hx;rcases Nat.lt_trichotomy i k with h | h | h
   ·have:=h2 i x hi h;omega
   ·subst h;rw[hi]at hk;injection hk with hk;subst hk;simpa using e0
   ·obtain⟨g1,e1⟩:=List.getElem?_eq_some_iff.1 hi;obtain⟨g2,e2⟩:=List.getElem?_eq_some_iff.1 hk;have hlt:=List.pairwise_iff_getElem.1 ha k i g2 g1 h;rw[e1,e2,(Yx.1 e0)]at hlt;exact absurd hlt (h3 k p hk (Nat.le_refl _))
theorem Qbt {l:List Tm} {t:Tm} {B:List (List AV)} (hl:l.length < 100000000) (hm: ∀p∈l,p.mass < big) (ht:t.mass < big) (ha:Asc l):
  ∀(d i j:Nat) (o:Bool) (ρ:Nat→AV),j - i≤d→i≤j→j≤l.length→(∀(k:Nat) (p:Tm),l[k]? =some p→k < i→Qh p t < 0)→(∀(k:Nat) (p:Tm),l[k]? =some p→j≤k→¬Qh p t < 0)→
  ρ 0= .sl o 4 (encTs l)→ρ 4= .bx (Qb t)→ρ 2= .fn 30 []→ρ 8= .int .i64 l.length→ρ 9= .int .i64 i→ρ 10= .int .i64 j→
  Fk l t B (R F.tb (.loop F.f524l0) ρ B (Qj 0 (Qu F.tb F.f524r0 (Qx F.f524 B)))):=by
 have mono: ∀(i j:Nat) (p q:Tm),l[i]? =some p→l[j]? =some q→i≤j→Qh q t < 0→Qh p t < 0:=by
  intro i j p q hp hq hij h;rcases Nat.lt_or_ge i j with hlt | hge
  ·obtain⟨h1,rfl⟩:=List.getElem?_eq_some_iff.1 hp;obtain⟨h2,rfl⟩:=List.getElem?_eq_some_iff.1 hq;exact Z0 (List.pairwise_iff_getElem.1 ha i j h1 h2 hlt) h
  ·have:i=j:=by omega
   subst this;rw[hp]at hq;injection hq with hq;subst hq;exact h
 intro d
 induction d with
 | zero=>
  intro i j o ρ hd hij hj hlo hhi h0 h4 h2 h8 h9 h10;have:i=j:=by omega
  subst this;refine⟨i,⟨hj,hlo,hhi⟩,?_⟩;rw[Qc F.f524l0.eq_1];by_cases c1:i < l.length
  ·have hp:=List.getElem?_eq_getElem c1;have hmp:=hm _ (List.getElem_mem c1);have c1': (i:Int) < (l.length:Int):=by omega
   have hh:WH l t i=decide (Qh l[i] t=0):=by simp[WH,hp]
   rw[hh];generalize l[i]=p at *;have h3:=call_Compare p t B hmp ht;simp[-getElem?_pos,QP,F.f524r0,h0,h2,h4,h8,h9,h10,c1',hp,h3]
  ·have hh:WH l t i=false:=by simp[WH,List.getElem?_eq_none (Nat.le_of_not_lt c1)]
   have c1': ¬(i:Int) < (l.length:Int):=by omega
   simp[F.f524r0,h0,h2,h4,h8,h9,h10,c1',hh]
 | succ d IH=>
  intro i j o ρ hd hij hj hlo hhi h0 h4 h2 h8 h9 h10;by_cases hlt:i < j
  ·have hmn: (i+j) / 2 < l.length:=by omega
   have hw:=NY (i:=i) (j:=j) (by omega);have hp:=List.getElem?_eq_getElem hmn;have hmp:=hm _ (List.getElem_mem hmn);have hltI: (i:Int) < (j:Int):=by omega
   have hb1:i≤(i+j) / 2:=by omega
   have hb2: (i+j) / 2 < j:=by omega
   generalize l[(i+j) / 2]=p at *;generalize hmm: (i+j) / 2=m at *;have h3:=call_Compare p t B hmp ht;have hw1:IntKind.i64.wrap ((m:Int)+1)=((m+1:Nat):Int):=by rw[QB (by omega) (by omega)];omega
   rw[Qc F.f524l0.eq_1];by_cases cc1:Qh p t < 0
   ·have ih:=fun o ρ=>IH (m+1) j o ρ (by omega) (by omega) hj (fun k q hq hk=>mono k m q p hq hp (by omega) cc1) hhi;simp[-getElem?_pos,h0,h2,h4,h8,h9,h10,hltI,hw,hw1,hp,h3,cc1];refine ih o _ ?_ ?_ ?_ ?_ ?_ ?_ <;> simp[h0,h2,h4,h8,h10]
   ·have ih:=fun o ρ=>IH i m o ρ (by omega) (by omega) (by omega) hlo (fun k q hq hk h=>cc1 (mono m k p q hp hq hk h));simp[-getElem?_pos,h0,h2,h4,h8,h9,h10,hltI,hw,hw1,hp,h3,cc1];refine ih o _ ?_ ?_ ?_ ?_ ?_ ?_ <;> simp[h0,h2,h4,h8,h9]
  ·exact IH i j o ρ (by omega) hij hj hlo hhi h0 h4 h2 h8 h9 h10
theorem H1 {l:List Tm} {t:Tm} {B:List (List AV)} (o:Bool) (hl:l.length < 100000000) (hm: ∀p∈l,p.mass < big) (ht:t.mass < big) (ha:Asc l):
  Fk l t B (call F.tb 524 [.sl o 4 (encTs l),.agg (Qb t),.fn 30 []] B):=by
 have h:=fun ρ=>Qbt (B:=B) hl hm ht ha l.length 0 l.length false ρ (by omega) (by omega) (by omega) (fun k p _ hk=>by omega) (fun k p hp hk=>by rw[List.getElem?_eq_none hk]at hp;cases hp);rw[Qa F.tb_524 _ _ rfl];simp[-getElem?_pos,F.f524C];refine h _ ?_ ?_ ?_ ?_ ?_ ?_ <;> simp
theorem Ug (s:List Tm) (t:Tm) (o:Bool) (B:List (List AV)) (hl:s.length < 100000000) (hm: ∀p∈s,p.mass < big) (ht:t.mass < big) (ha:Asc s):
  call F.tb 530 [.sl o 4 (encTs s),.agg (Qb t)] B=some (.bool (Q3 s t),B):=by
 obtain⟨k,hk,hc⟩:=H1 (B:=B) false hl hm ht ha;rw[Nn ha hk]at hc;rw[Qa F.tb_530 _ _ rfl];simp[F.f530C,hc,Qg]
theorem Qcr {l:List Tm} {t:Tm} {k:Nat} (h:TAt l t k) (hh:WH l t k=false):Q4 t l=l.take k ++ t:: l.drop k:=by
 obtain⟨h1,h2,h3⟩:=h
 induction l generalizing k with
 | nil=>
  have:k=0:=by simpa using h1
  subst this;rfl
 | cons x l ih=>
  cases k with
  | zero=>
   have h4:=h3 0 x rfl (Nat.le_refl _);have h5: ¬Qh x t=0:=by simpa[WH]using hh
   have h6:Qh t x < 0:=by have:=Z5 t x;omega
   simp[Q4,h6]
  | succ k=>
   have h4:=h2 0 x rfl (by omega);have h5: ¬Qh t x < 0:=by have:=Z5 t x;omega
   have h6: ¬Qh t x=0:=by have:=Z5 t x;omega
   have:=ih (k:=k) (by simpa[WH]using hh) (by simpa using h1) (fun i p hp hi=>h2 (i+1) p (by simpa using hp) (by omega)) (fun i p hp hi=>h3 (i+1) p (by simpa using hp) (by omega));simp[Q4,h5,h6,this]
theorem Ay {l:List Tm} {t:Tm} (ha:Asc l) (h:Q3 l t=true):Q4 t l=l:=by
 induction l with
 | nil=>simp[Q3]at h
 | cons x l ih=>
  obtain⟨h1,h2⟩:=Yb.1 ha;by_cases c:Qh t x=0
  ·have: ¬Qh t x < 0:=by omega
   simp[Q4,c]
  ·have hx:Q3 l t=true:=by
    unfold Q3 at h ⊢;rw[List.any_cons]at h;have:decide (Qh x t=0)=false:=by
     have:=Z5 t x;simp;omega
    rw[this,Bool.false_or]at h;exact h
   have hlt: ¬Qh t x < 0:=by
    intro hl;unfold Q3 at hx;obtain⟨y,hy,he⟩:=List.any_eq_true.1 hx;have e0:y=t:=Yx.1 (by simpa using he);subst e0;have:=h1 y hy;have:=Z5 y x;omega
   simp[Q4,c,hlt,ih h2 hx]
def Qh5 (l:List Tm) (bs:List (List AV)) (r:Out):Prop:=∃o,r=some (.sl o 4 (encTs l),bs)
theorem Qc4 (s:List Tm) (t:Tm) (o:Bool) (B:List (List AV)) (hl:s.length < 1000000) (hm: ∀p∈s,p.mass < big) (ht:t.mass < big) (ha:Asc s):
  Qh5 (Q4 t s) B (call F.tb 523 [.sl o 4 (encTs s),.agg (Qb t)] B):=by
 obtain⟨k,hk,hc⟩:=H1 (B:=B) false (by omega) hm ht ha;rw[Qa F.tb_523 _ _ rfl];cases hh:WH s t k
 ·rw[hh]at hc;have hadd:=Qcr hk hh;have hkl:=hk.1;have hlen: (Q4 t s).length=s.length+1:=by rw[hadd];simp;omega
  have hk1: (s.take k).length=k:=by rw[List.length_take];omega
  have hsplit:s=s.take k ++ s.drop k:=(List.take_append_drop _ _).symm;have q1: (0:Int)≤(k:Int):=by omega
  have q2: (k:Int)≤(s.length:Int):=by omega
  have q3: (s.length+1)*56≤140737488355328:=by omega
  have q4:s.length+1≤140737488355328:=by omega
  have q5:s.length*56≤140737488355328:=by omega
  have hgp:gpfreeL (Qf (Q4 t s))=true:=ID Oo _;have hins: ∃M v2,call F.tb 525 [.sl false 4 (encTs s)] B=some (v2,B ++ M)∧∃id2 M2,call F.tb 526 [v2,.int .i64 k,.sl false 4 [Qb t]] (B ++ M)=some (.gs id2 0 4 (s.length+1),B ++ M2)∧B.length≤id2∧(B ++ M2)[id2]? =some (Qf (Q4 t s))∧v2.ok=true∧v2.strip=v2:=by
   rw[ZP F.tb_525];by_cases c:s.length=0
   ·have:s=[]:=List.eq_nil_of_length_eq_zero c;subst this;have hk0:k=0:=by simpa using hkl
    subst hk0;refine⟨[],.gs 0 0 0 0,by simp[Yc,Xp,encTs],B.length,[Qb t],?_,Nat.le_refl _,?_,rfl,rfl⟩
    ·rw[ZP F.tb_526];simp[T8,VY,RJ]
    ·simp[Q4,Qf,ZA]
   ·refine⟨[Qf s],.gs B.length 0 4 s.length,?_,B.length+1,[[],Qf (Q4 t s)],?_,by omega,by simp,rfl,rfl⟩
    ·have e1: (encTs s).flatten.map AV.strip=Qf s:=by
      have: (encTs s).flatten=Qf s:=by rw[Yd];rfl
      rw[this,Zl QL]
     have e2: (encTs s).length=s.length:=by simp[Yd]
     have e3:=encTs_gp s;have e4: ¬(s=[]):=fun e=>c (by simp[e]);simp[Yc,Xp,e1,e2,e3,e4,q5]
    ·rw[ZP F.tb_526];have hr0: (Qf s).length=s.length*4:=Q8 Qk s;have hne:Qf s≠[]:=fun e=>by rw[e]at hr0;simp at hr0;omega
     have hcs:VY k 4 s.length (Qf s) [Qb t]=Qf (Q4 t s):=by
      have h1: (Qf s).take (s.length*4)=Qf s:=by rw[← hr0,List.take_length]
      have h2:=WS (f:=Qb) (k:=4) Qk (l:=s) (pre:=s.take k) (post:=s.drop k) hsplit [];have h3:=TB (f:=Qb) (k:=4) Qk (l:=s) (pre:=s.take k) (post:=s.drop k) hsplit [];rw[hk1,List.append_nil]at h2 h3;rw[List.append_nil]at h3;unfold VY;rw[h1,h2,h3,hadd,show Qf (s.take k ++ t:: s.drop k)=Qf (s.take k)++ (Qb t ++ Qf (s.drop k)) by simp[Qf,Xj,Vu]];rw[List.map_append,List.map_append,Zl QL,Zl QL];simp[QL]
     simp only[T8];rw[if_pos ⟨trivial,by omega,by simp,q1,q2,by simpa using q3,by simpa using q4⟩,if_neg (by omega),if_pos ⟨trivial,trivial⟩,List.getElem?_concat_length];simp only[Option.bind_some];rw[if_pos ⟨hne,by omega⟩,Int.toNat_natCast,hcs,List.set_append_right _ _ (Nat.le_refl _)];simp[RJ,hgp]
  obtain⟨M,v2,c1,id2,M2,c2,g1,g2,gok,gst⟩:=hins;have hch:Q5 (Qf (Q4 t s)) 0 4 (Q4 t s).length=encTs (Q4 t s):=by
   have:=Yv (f:=Qb) (k:=4) Qk QL (Q4 t s) [];rw[List.append_nil]at this;rw[Yd];exact this
  rw[hlen]at hch;have hle: (s.length+1)*4≤(Qf (Q4 t s)).length:=by
   have: (Qf (Q4 t s)).length=(Q4 t s).length*4:=Q8 Qk _;rw[this,hlen];omega
  have hgp2:=encTs_gp (Q4 t s);refine⟨true,?_⟩;generalize Qf (Q4 t s)=RR at *;generalize encTs (Q4 t s)=EE at *;simp[-getElem?_pos,QP,List.getElem?_cons_succ,F.f523C,hc,c1,c2,gok,gst,Qg,Zg,g2,hle,hch,hgp2,Xn g1]
 ·rw[hh]at hc;have:=Ay ha (by rw[← Nn ha hk];exact hh);refine⟨false,?_⟩;rw[this];have hgp2:=encTs_gp s;simp[F.f523C,hc,Qg,hgp2]
theorem H3 (x y:Tm) (bs:List (List AV)) (hx:x.mass < big) (hy:y.mass < big):call F.tb 536 [.agg (Qb x),.agg (Qb y)] bs=some (.bool (decide (Qh x y=0)),bs):=by
 have h:=call_Compare x y bs hx hy;rw[Qa F.tb_536 _ _ rfl];simp[F.f536C,h]
theorem Qc5 (x y:Tm) (bs:List (List AV)) (hx:x.mass < big) (hy:y.mass < big):call F.tb 528 [.agg (Qb x),.agg (Qb y)] bs=some (.bool (decide (Qh x y=0)),bs):=by
 have h:=call_Compare x y bs hx hy;rw[Qa F.tb_528 _ _ rfl];simp[F.f528C,h]
theorem Qf1:EqF 528:=Qc5
theorem H2 (l:List Tm) (o:Bool) (B:List (List AV)) (hl:l.length < 1000000) (hm: ∀x∈l,x.mass < big):call F.tb 527 [.sl o 4 (encTs l)] B=some (.sl true 4 (encTs (Zs l)),B):=by
 rw[Qa F.tb_527 _ _ rfl];by_cases c:l=[]
 ·subst c;have h1:call F.tb 193 [.sl false 4 []] B=some (.gs 0 0 0 0,B):=by rw[ZP F.tb_193];simp[Yc,Xp]
  have hs:call F.tb 170 [.gs 0 0 0 0,.fn 30 []] B=some (.tup [],B):=by rw[ZP F.tb_170];simp[T0]
  have hc:=Jh 528 B;simp[F.f527C,h1,hs,hc,encTs,Zs,Wy]
 ·have h1:call F.tb 193 [.sl false 4 (encTs l)] B=some (.gs B.length 0 4 l.length,B ++ [Qf l]):=by
   rw[ZP F.tb_193];have e1: (encTs l).flatten.map AV.strip=Qf l:=by
    have: (encTs l).flatten=Qf l:=by rw[Yd];rfl
    rw[this,Zl QL]
   have e2: (encTs l).length=l.length:=by simp[Yd]
   have e3:=encTs_gp l;have q5:l.length*56≤140737488355328:=by omega
   simp[Yc,Xp,e1,e2,e3,c,q5]
  have hb: (B ++ [Qf l])[B.length]? =some (Qf l):=List.getElem?_concat_length;have hs:=TL l (B ++ [Qf l]) B.length hb (by omega) hm;have hB:=ZI hb;have hS: ((B ++ [Qf l]).set B.length (Qf (ZB l)))[B.length]? =some (Qf (ZB l)):=by rw[List.getElem?_set,if_pos rfl,if_pos hB]
  have hsne:ZB l≠[]:=by
   intro e;obtain⟨x,hx⟩:=List.exists_mem_of_ne_nil l c;have:=(Wj (l:=l)).2 hx;rw[e]at this;simp at this
  have hc:=HZ 528 Qf1 (ZB l) ((B ++ [Qf l]).set B.length (Qf (ZB l))) B.length hS hsne (by rw[XB];omega) fun x hx=>hm x (Wj.1 hx);rw[T5,XB]at hc;unfold Rn at hc;rw[List.set_set]at hc;have hg:=encTs_gp (Zs l);have htk: ((B ++ [Qf l]).set B.length []).take B.length=B:=by simp
  generalize (B ++ [Qf l]).set B.length (Qf (ZB l))=B2 at *;generalize (B ++ [Qf l]).set B.length []=B3 at *;generalize B ++ [Qf l]=B1 at *;simp[-getElem?_pos,QP,List.getElem?_cons_succ,F.f527C,h1,hs,hc,hg,htk]
theorem OU (t:Tm) (l:List Nm) (o:Bool) (bs:List (List AV)) (hl:l.length < 1000000):call F.tb 160 [.agg (Qb t),.sl o 1 (TQ l)] bs=some (.bool (decide (t.kind=3) && l.contains t.name),bs):=by
 have h:=AJ l t.name false bs hl;rw[Qa F.tb_160 _ _ rfl];by_cases hk:t.kind=3 <;> simp[F.f160C,hk,h,-List.contains_eq_mem]
theorem Vl (t:Tm) (n:Nm) (o:Bool) (bs:List (List AV)):call F.tb 160 [.agg (Qb t),.sl o 1 [[.str n]]] bs=some (.bool (isB t n),bs):=by
 have h:=OU t [n] o bs (by simp);have e: [n].contains t.name=(t.name == n):=by simp only[List.contains_cons,List.contains_nil,Bool.or_false]
 rw[e]at h;exact h
theorem OV (t:Tm) (n m:Nm) (o:Bool) (bs:List (List AV)):call F.tb 160 [.agg (Qb t),.sl o 1 [[.str n],[.str m]]] bs=some (.bool (isB t n || isB t m),bs):=by
 have h:=OU t [n,m] o bs (by simp);have e: (decide (t.kind=3) && [n,m].contains t.name)=(isB t n || isB t m):=by
  have: [n,m].contains t.name=(t.name == n || t.name == m):=by simp only[List.contains_cons,List.contains_nil,Bool.or_false]
  rw[this];unfold isB;cases decide (t.kind=3) <;> simp
 rw[e]at h;exact h
def Pj:List UInt8:=[104,97,115,104]
def MF (n:List UInt8):Bool:=n == Zf || n == ENC || n == QY || n == PK || n == Zd || n == Pj
theorem JG (n:List UInt8): [Zf,ENC,QY,PK,Zd,Pj].contains n=MF n:=by
 unfold MF;simp only[List.contains_cons,List.contains_nil,Bool.or_false,Bool.or_assoc]
def UW (s:List Tm) (u:Tm):Bool:=decide (u.kind=3) && MF u.name && u.kids.all (Q3 s)
theorem Qc7 (s:List Tm) (x:Tm) (g:Nat) (bs:List (List AV)) (hg:bs[g]? =some [.sl false 4 (encTs s)]) (hl:s.length < 100000000) (hm: ∀p∈s,p.mass < big) (hx:x.mass < big) (ha:Asc s):
  call F.tb 533 [.agg (Qb x),.gp g 0] bs=some (.bool (!Q3 s x),bs):=by
 have h:=Ug s x false bs hl hm hx ha;have hgt:=ZI hg;rw[Qa F.tb_533 _ _ rfl];simp[-getElem?_pos,QP,List.getElem?_cons_succ,F.f533C,h,hg]
theorem Qc6 (s:List Tm) (u:Tm) (o:Bool) (bs:List (List AV)) (hl:s.length < 100000000) (hm: ∀p∈s,p.mass < big) (hu:u.mass < 1000000) (ha:Asc s):
  call F.tb 532 [.sl o 4 (encTs s),.agg (Qb u)] bs=some (.bool (UW s u),bs):=by
 have hkm: ∀x∈u.kids,x.mass < big:=fun x hx=>by have:=QC hx;have:=Qp u;unfold big;omega
 have hkl:u.kids.length < 1000000:=by have:=Qp u;omega
 have hg: (bs ++ [[AV.sl false 4 (encTs s)]])[bs.length]? =some [.sl false 4 (encTs s)]:=List.getElem?_concat_length;have h1:=OU u [Zf,ENC,QY,PK,Zd,Pj] false (bs ++ [[AV.sl false 4 (encTs s)]]) (by simp);rw[JG]at h1;have h1:call F.tb 160 [.agg (Qb u),.sl false 1 [[.str [112,97,105,114]],[.str [101,110,99]],[.str [97,101,110,99]],[.str [112,107]],[.str [115,105,103,110]],[.str [104,97,115,104]]]] (bs ++ [[AV.sl false 4 (encTs s)]])=some (.bool (decide (u.kind=3) && MF u.name),bs ++ [[AV.sl false 4 (encTs s)]]):=h1;have h2:=AP u.kids 533 [.gp bs.length 0] (fun x=> !Q3 s x) false (bs ++ [[AV.sl false 4 (encTs s)]]) hkl (by simp) fun x hx=>Qc7 s x bs.length _ hg hl hm (hkm x hx) ha;have e: (u.kids.any fun x=> !Q3 s x)= !u.kids.all (Q3 s):=by rw[List.not_all_eq_any_not]
 rw[e]at h2;have htk: (bs ++ [[AV.sl false 4 (encTs s)]]).take bs.length=bs:=by simp
 rw[Qa F.tb_532 _ _ rfl];unfold UW;generalize u.kids.all (Q3 s)=q at *;cases hc: (decide (u.kind=3) && MF u.name)
 ·rw[hc]at h1;simp[-List.any_eq_false,-List.any_eq_true,F.f532C,h1]
 ·rw[hc]at h1;simp[-List.any_eq_false,-List.any_eq_true,F.f532C,h1,h2]
def Vs (t:Tm):Int:=if thV t≠0 then thV t else if isB t ENC then 0 else if isB t QY then(if isB (kid t 1) PK then 0 else 4)else 10
def VZ (t:Tm):Tm:=if Vs t≠0 then QD else if isB t ENC then kid t 1 else kid (kid t 1) 0
def JL (t:Tm):AV:= .tup [.agg (Qb (VZ t)),.int .i64 (Vs t)]
theorem Cs (t:Tm) (bs:List (List AV)) (hm:t.mass < big):call F.tb 46 [.agg (Qb t)] bs=some (.agg (Qb t),bs):=by
 rw[Qa F.tb_46 _ _ rfl];simp[F.f46,F.f46C,Qag t bs hm]
theorem YT {t:Tm} {n:List UInt8} (hg:QI t=true) (h:isB t n=true) (hn:Vx n): ∃x y,t.kids=[x,y]:=by
 have:=(gd2 hg h hn).1
 match hh:t.kids with
 | [x,y]=>exact⟨x,y,rfl⟩
 | []=>rw[hh]at this;simp at this
 | [_]=>rw[hh]at this;simp at this
 | _:: _:: _:: _=>rw[hh]at this;simp at this
theorem QaN {t:Tm} (hg:QI t=true) (h:isB t PK=true): ∃x,t.kids=[x]:=by
 obtain⟨h1,h0⟩:=W0.1 h;obtain⟨h2,h3⟩:=XW hg h1;rw[h0]at h3;have:t.kids.length=1:=by
  unfold ZF at h3;simpa[PK,Zf,ENC,QY,Zd,EXP,FST,SND,DEC,Zo,ZE,READ]using h3
 match hh:t.kids with
 | [x]=>exact⟨x,rfl⟩
 | []=>rw[hh]at this;simp at this
 | _:: _:: _=>rw[hh]at this;simp at this
theorem T6:Qb QD=[AV.int IntKind.i64 0,AV.str [],AV.int IntKind.i64 0,AV.sl false 4 []]:=by simp[QD,Qb,encTs]
theorem Qc0 (t:Tm) (bs:List (List AV)) (hg:QI t=true) (hm:t.mass < 1000000):call F.tb 418 [.agg (Qb t)] bs=some (JL t,bs):=by
 have h1:=Tt t bs (by unfold big;omega);have h2:=VB t ENC bs;have h3:=VB t QY bs;have h4:=fun x=>VB x PK bs;unfold ENC at h2;unfold QY at h3;unfold PK at h4
 have hkm: ∀x∈t.kids,x.mass < 1000000:=fun x hx=>by have:=QC hx;have:=Qp t;omega
 rw[Qa F.tb_418 _ _ rfl];unfold JL VZ Vs;by_cases v:thV t=0
 ·cases c1:isB t ENC
  ·cases c2:isB t QY
   ·unfold ENC at c1;unfold QY at c2
    simp[F.f418C,h1,h2,h3,v,c1,c2,ENC,QY,T6,Qg]
   ·obtain⟨x,y,hk⟩:=YT hg c2 (by simp[Vx]);have ey:kid t 1=y:=by simp[kid,hk]
    rw[ey];have gy:QI y=true:=Yj.1 (XA hg) y (by rw[hk];simp);have my:=hkm y (by rw[hk];simp);cases c3:isB y PK
    ·unfold ENC at c1;unfold QY at c2;unfold PK at c3
     simp[F.f418C,h1,h2,h3,h4,v,c1,c2,c3,ENC,QY,PK,T6,encTs,hk,Qg]
    ·obtain⟨z,hz⟩:=QaN gy c3;have ez:kid y 0=z:=by simp[kid,hz]
     have h5:=Cs z bs (by have:=QC (x:=z) (ks:=y.kids) (by rw[hz];simp);have:=Qp y;unfold big;omega);unfold ENC at c1;unfold QY at c2;unfold PK at c3
     simp[F.f418C,h1,h2,h3,h4,h5,v,c1,c2,c3,ENC,QY,PK,ez,encTs,hk,hz,Qg]
  ·obtain⟨x,y,hk⟩:=YT hg c1 (by simp[Vx]);have ey:kid t 1=y:=by simp[kid,hk]
   have h5:=Cs y bs (by have:=hkm y (by rw[hk];simp);unfold big;omega);unfold ENC at c1;simp[F.f418C,h1,h2,h5,v,c1,ENC,ey,encTs,hk,Qg]
 ·simp[F.f418C,h1,v,T6,Qg]
theorem Cn (l:List Tm) (g:Nat) (cs:List AV) (p:Tm→Bool) (bs:List (List AV)) (hl:l.length < 1000000) (hcs: ∀x∈cs,x.ok=true) (hp: ∀x∈l,call F.tb g (.agg (Qb x):: cs) bs=some (.bool (p x),bs)):
  ∀(post pre:List Tm) (o:Bool) (ρ:Nat→AV),l=pre ++ post→pre.any p=false→ρ 0= .sl o 4 (encTs l)→ρ 1= .fn g cs→ρ 7= .int .i64 l.length→ρ 8= .int .i64 pre.length→
  Ms (l.any p) bs (R F.tb (.loop F.f538l0) ρ bs (Qj 0 (Qu F.tb F.f538r0 (Qx F.f538 bs)))):=by
 intro post
 induction post with
 | nil=>
  intro pre o ρ hk hpp h0 h1 h7 h8;simp only[List.append_nil]at hk;rw[← hk]at h8 hpp;rw[Qc F.f538l0.eq_1];refine⟨-1,?_,by rw[hpp];simp⟩;simp[h0,h1,h7,h8,F.f538r0]
 | cons x post IH=>
  intro pre o ρ hk hpp h0 h1 h7 h8;have hgt:=Qt hk;have hll:=QE hk;have hw1:=wr1 pre.length (by omega);have hlt:=QF hk;have hcall:=hp x (by rw[hk];simp);have hcs2: (∀(x:AV),x∈cs→x.ok=true)=True:=eq_true hcs;have ih:=fun ρ hpp=>IH (pre ++ [x]) o ρ (by rw[hk];simp) hpp;rw[Qc F.f538l0.eq_1];cases ho:p x
  ·have ih2:=fun ρ=>ih ρ (by rw[List.any_append,hpp];simp[ho]);simp[h0,h1,h7,h8,hlt,hgt,hw1,hcall,hcs2,ho,-List.any_eq_false,-List.any_eq_true];apply ih2 <;> simp[h0,h1,h7]
  ·have hany:l.any p=true:=List.any_eq_true.2 ⟨x,by rw[hk];simp,ho⟩;refine⟨pre.length,?_,by rw[hany];simp⟩;simp[h0,h1,h7,h8,hlt,hgt,hcall,hcs2,ho]
theorem Ji (l:List Tm) (g:Nat) (cs:List AV) (p:Tm→Bool) (o:Bool) (bs:List (List AV)) (hl:l.length < 1000000) (hcs: ∀x∈cs,x.ok=true) (hp: ∀x∈l,call F.tb g (.agg (Qb x):: cs) bs=some (.bool (p x),bs)):
  call F.tb 537 [.sl o 4 (encTs l),.fn g cs] bs=some (.bool (l.any p),bs):=by
 have h1:=fun ρ=>Cn l g cs p bs hl hcs hp l [] false ρ rfl rfl;have hcs2: (∀(x:AV),x∈cs→x.ok=true)=True:=eq_true hcs;have h2:Ms (l.any p) bs (call F.tb 538 [.sl false 4 (encTs l),.fn g cs] bs):=by
  rw[Qa F.tb_538 _ _ rfl];simp[F.f538C,hcs2,-List.any_eq_false,-List.any_eq_true];apply h1 <;> simp
 obtain⟨i,hi,hb⟩:=h2;rw[Qa F.tb_537 _ _ rfl];simp[F.f537C,hi,hcs2,-List.any_eq_false,-List.any_eq_true];cases hx:l.any p
 ·rw[hx]at hb;simp at hb;simpa using hb
 ·rw[hx]at hb;simp at hb;simpa using hb
def Nf (s:List Tm) (u t:Tm):Bool:=
 if isB t Zf then decide (Qh (kid t 0) u=0) || decide (Qh (kid t 1) u=0)
 else if isB t Zd then decide (Qh (kid t 0) u=0)
 else if isB t ENC || isB t QY then decide (Vs t=0) && decide (Qh (kid t 0) u=0) && Q3 s (VZ t)
 else false
def Sa (s:List Tm) (u:Tm):Bool:=s.any (Nf s u)
def GS (s:List Tm):Prop:=s.length < 1000000∧∀x∈s,QI x=true∧x.mass < 1000000
theorem GS.bg {s:List Tm} (h:GS s): ∀x∈s,x.mass < big:=fun x hx=>by have:=(h.2 x hx).2;unfold big;omega
theorem Be (t:Tm): (VZ t).mass≤t.mass:=by
 unfold VZ;split
 ·have:=Qp t;simp[QD,Qp,massL];omega
 ·split
  ·exact Vq t 1
  ·exact Nat.le_trans (Vq _ 0) (Vq t 1)
theorem Ow {t:Tm} (h:t.mass < 1000000) (i:Nat): (kid t i).mass < big:=by have:=Vq t i;unfold big;omega
theorem Qc9 (s:List Tm) (u t:Tm) (gu gs:Nat) (bs:List (List AV)) (hgu:bs[gu]? =some (Qb u)) (hgs:bs[gs]? =some [.sl false 4 (encTs s)]) (hs:GS s) (ha:Asc s) (hu:u.mass < 1000000) (ht:t∈s):
  call F.tb 535 [.agg (Qb t),.gp gu 0,.gp gs 0] bs=some (.bool (Nf s u t),bs):=by
 obtain⟨hg,hm⟩:=hs.2 t ht;have hub:u.mass < big:=by unfold big;omega
 have l1:=ZI hgu;have l2:=ZI hgs;have hP:=Vl t Zf false bs;have hS:=Vl t Zd false bs;have hE:=OV t ENC QY false bs;unfold Zf at hP;unfold Zd at hS;unfold ENC QY at hE
 have h0:=fun x (hx:x.mass < big)=>H3 x u bs hx hub;rw[Qa F.tb_535 _ _ rfl];unfold Nf;cases c1:isB t Zf
 ·cases c2:isB t Zd
  ·cases c3: (isB t ENC || isB t QY)
   ·unfold Zf at c1;unfold Zd at c2;unfold ENC QY at c3
    simp[-getElem?_pos,QP,List.getElem?_cons_succ,F.f535C,hP,hS,hE,c1,c2,c3]
   ·have ⟨x,y,hk⟩: ∃x y,t.kids=[x,y]:=by
     rcases Bool.or_eq_true_iff.1 c3 with h | h
     ·exact YT hg h (by simp[Vx])
     ·exact YT hg h (by simp[Vx])
    have e0:kid t 0=x:=by simp[kid,hk]
    have hx:x.mass < big:=by rw[← e0];exact Ow hm 0
    have hx0:=h0 x hx;have hK:=Qc0 t bs hg hm;unfold JL at hK;have hH:=Ug s (VZ t) false bs (by have:=hs.1;omega) hs.bg (by have:=Be t;unfold big;omega) ha;unfold Zf at c1;unfold Zd at c2;unfold ENC QY at c3
    rw[e0];by_cases d1:Vs t=0
    ·cases d2:decide (Qh x u=0)
     ·rw[d2]at hx0;simp[-getElem?_pos,QP,List.getElem?_cons_succ,F.f535C,hP,hS,hE,c1,c2,c3,hK,hk,hgu,hgs,hx0,d1,d2,Qg,encTs]
     ·rw[d2]at hx0;simp[-getElem?_pos,QP,List.getElem?_cons_succ,F.f535C,hP,hS,hE,c1,c2,c3,hK,hk,hgu,hgs,hx0,d1,d2,hH,Qg,encTs]
    ·simp[-getElem?_pos,QP,List.getElem?_cons_succ,F.f535C,hP,hS,hE,c1,c2,c3,hK,hk,d1,Qg,encTs]
  ·obtain⟨x,y,hk⟩:=YT hg c2 (by simp[Vx]);have e0:kid t 0=x:=by simp[kid,hk]
   have hx:x.mass < big:=by rw[← e0];exact Ow hm 0
   have hx0:=h0 x hx;unfold Zf at c1;unfold Zd at c2
   rw[e0];simp[-getElem?_pos,QP,List.getElem?_cons_succ,F.f535C,hP,hS,c1,c2,hk,hgu,hx0,Qg,encTs]
 ·obtain⟨x,y,hk⟩:=YT hg c1 (by simp[Vx]);have e0:kid t 0=x:=by simp[kid,hk]
  have e1:kid t 1=y:=by simp[kid,hk]
  have hx:x.mass < big:=by rw[← e0];exact Ow hm 0
  have hy:y.mass < big:=by rw[← e1];exact Ow hm 1
  have hx0:=h0 x hx;have hy0:=h0 y hy;unfold Zf at c1;rw[e0,e1];cases d1:decide (Qh x u=0)
  ·rw[d1]at hx0;simp[-getElem?_pos,QP,List.getElem?_cons_succ,F.f535C,hP,c1,hk,hgu,hx0,hy0,d1,Qg,encTs]
  ·rw[d1]at hx0;simp[-getElem?_pos,QP,List.getElem?_cons_succ,F.f535C,hP,c1,hk,hgu,hx0,d1,Qg,encTs]
theorem Qc8 (s:List Tm) (u:Tm) (o:Bool) (bs:List (List AV)) (hs:GS s) (ha:Asc s) (hu:u.mass < 1000000):
  call F.tb 534 [.sl o 4 (encTs s),.agg (Qb u)] bs=some (.bool (Sa s u),bs):=by
 have hgs: (bs ++ [[AV.sl false 4 (encTs s)],Qb u])[bs.length]? =some [.sl false 4 (encTs s)]:=by rw[List.getElem?_append_right (Nat.le_refl _)];simp
 have hgu: (bs ++ [[AV.sl false 4 (encTs s)],Qb u])[bs.length+1]? =some (Qb u):=by rw[List.getElem?_append_right (by omega)];simp
 have h:=Ji s 535 [.gp (bs.length+1) 0,.gp bs.length 0] (Nf s u) false (bs ++ [[AV.sl false 4 (encTs s)],Qb u]) hs.1 (by simp) fun x hx=>Qc9 s u x (bs.length+1) bs.length _ hgu hgs hs ha hu hx;rw[Qa F.tb_534 _ _ rfl];unfold Sa;generalize s.any (Nf s u)=q at *;simp[F.f534C,h]
abbrev W64:=BitVec 64
def Wo (w:W64):AV:= .int .u64 w.toNat
def QO (l:List W64):List AV:=l.map Wo
def Uy (l:List W64):List (List AV):=l.map fun w=>[Wo w]
def Xq (l:List W64) (i:Nat):Bool:=(l.getD (i / 64) 0).getLsbD (i % 64)
def Vi (l:List W64) (i:Nat):List W64:=l.set (i / 64) (l.getD (i / 64) 0 ^^^ (1#64 <<< (i % 64)))
def Xe (a b:List W64):List W64:=List.zipWith (· ^^^ ·) a b
theorem Cq {l:List W64} {i:Nat} (h:i / 64 < l.length) (j:Nat):Xq (Vi l i) j=(Xq l j ^^ decide (j=i)):=by
 unfold Xq Vi;rw[List.getD_eq_getElem?_getD,List.getElem?_set];by_cases hd:i / 64=j / 64
 ·rw[if_pos hd,if_pos h];simp only[Option.getD_some,BitVec.getLsbD_xor,BitVec.getLsbD_shiftLeft,BitVec.getLsbD_one];rw[hd];congr 1;have h1:j % 64 < 64:=Nat.mod_lt _ (by omega);by_cases he:j=i
  ·subst he;simp[h1]
  ·have:j % 64≠i % 64:=by omega
   simp[he,h1];omega
 ·rw[if_neg hd];have:j≠i:=fun e=>hd (by rw[e]);simp[this,List.getD_eq_getElem?_getD]
theorem Jd {a b:List W64} (h:a.length=b.length) (j:Nat):Xq (Xe a b) j=(Xq a j ^^ Xq b j):=by
 unfold Xq Xe;simp only[List.getD_eq_getElem?_getD,List.getElem?_zipWith];by_cases hl:j / 64 < a.length
 ·have hl2:j / 64 < b.length:=by omega
  simp[List.getElem?_eq_getElem hl,List.getElem?_eq_getElem hl2]
 ·rw[List.getElem?_eq_none (Nat.le_of_not_lt hl),List.getElem?_eq_none (by omega:b.length≤j / 64)];simp
theorem R6 {a b:List W64} (h:a.length=b.length): (Xe a b).length=a.length:=by simp[Xe,h]
theorem Li (l:List W64) (i:Nat): (Vi l i).length=l.length:=by simp[Vi]
theorem Nh (l:List W64): (QO l).length=l.length:=by simp[QO]
theorem GL (l:List W64):gpfreeL (QO l)=true:=by
 induction l with
 | nil=>rfl
 | cons w l ih=>simp only[QO,List.map_cons,gpfreeL]at ih ⊢;rw[ih];rfl
theorem Ng {l:List W64} {k:Nat} (h:k < l.length): (QO l)[k]? =some (Wo (l.getD k 0)):=by
 simp[QO,h,List.getD_eq_getElem?_getD]
theorem MN (w:W64):BitVec.ofInt 64 (w.toNat:Int)=w:=by
 rw[BitVec.ofInt_natCast];simp
theorem Qcd {n:Nat} (h:n < 18446744073709551616):IntKind.u64.wrap (n:Int)=(n:Int):=by
 unfold IntKind.wrap;simp[IntKind.bits,IntKind.signed];omega
theorem K6 (a b:W64):Ym .xor (Wo a) (Wo b)=some (Wo (a ^^^ b)):=by
 simp only[Ym,Wo,if_true,Option.some.injEq,toI];rw[show BitVec.ofInt IntKind.u64.bits (a.toNat:Int)=a from MN a,show BitVec.ofInt IntKind.u64.bits (b.toNat:Int)=b from MN b];have:=(a ^^^ b).isLt;exact congrArg (AV.int IntKind.u64) (Qcd this)
theorem Ax {i:Nat} (h:i < 64):Ym .shl (.int .u64 1) (.int .i64 i)=some (Wo (1#64 <<< i)):=by
 have hm:min i 64=i:=by omega
 have hlt:2 ^ i < 18446744073709551616:=by
  have:2 ^ i < 2 ^ 64:=Nat.pow_lt_pow_right (by omega) h;simpa using this
 have e: (1*2 ^ min (i:Int).toNat IntKind.u64.bits:Int)=((2 ^ i:Nat):Int):=by
  rw[Int.toNat_natCast,show IntKind.u64.bits=64 from rfl,hm];simp
 simp only[Ym,toI];rw[if_pos (by omega),e,Qcd hlt];simp only[Wo,Option.some.injEq,AV.int.injEq,true_and];rw[BitVec.toNat_shiftLeft];have: (1#64).toNat <<< i % 2 ^ 64=2 ^ i:=by
  rw[show(1#64).toNat=1 from rfl,Nat.shiftLeft_eq,Nat.one_mul,Nat.mod_eq_of_lt (by simpa using hlt)]
 rw[this]
theorem AG (w:W64) {i:Nat} (h:i < 64): (BitVec.ofInt IntKind.u64.bits ((w.toNat:Int) / 2 ^ min i IntKind.u64.bits) &&& BitVec.ofInt IntKind.u64.bits 1).toNat=if w.getLsbD i then 1 else 0:=by
 have hm:min i 64=i:=by omega
 have e: ((w.toNat:Int) / 2 ^ min i IntKind.u64.bits)=((w >>> i).toNat:Int):=by
  rw[show IntKind.u64.bits=64 from rfl,hm,BitVec.toNat_ushiftRight,Nat.shiftRight_eq_div_pow];simp
 rw[e,show BitVec.ofInt IntKind.u64.bits ((w >>> i).toNat:Int)=w >>> i from MN _]
 show(w >>> i &&& 1#64).toNat=_;have h2: (w >>> i &&& 1#64)=if w.getLsbD i then 1#64 else 0#64:=by
  apply BitVec.eq_of_getLsbD_eq;intro j hj;rw[BitVec.getLsbD_and,BitVec.getLsbD_ushiftRight,BitVec.getLsbD_one];cases j with
  | zero=>cases hw:w.getLsbD i <;> simp[hw]
  | succ j=>cases hw:w.getLsbD i <;> simp
 rw[h2];split <;> rfl
theorem Qb5 {i n:Nat} (h:i / 64 < n) (hi:i < 1000000):IntKind.i64.wrap ((i:Int) / 64)=(i:Int) / 64∧(0:Int)≤(i:Int) / 64∧(i:Int) / 64 < (n:Int)∧((i:Int) / 64).toNat=i / 64∧(0:Int)≤(i:Int).tmod 64∧((i:Int).tmod 64).toNat=i % 64:=
 ⟨QB (by omega) (by omega),by omega,by omega,by omega,Int.natCast_nonneg (i % 64),rfl⟩
theorem H4 (l:List W64) (i id:Nat) (bs:List (List AV)) (hb:bs[id]? =some (QO l)) (hi:i / 64 < l.length) (hi2:i < 1000000):call F.tb 549 [.gs id 0 1 l.length,.int .i64 i] bs=some (.bool (Xq l i),bs):=by
 obtain⟨q1,q2,q3,q4,q5,q6⟩:=Qb5 hi hi2;have hg:=Ng hi;have hm:i % 64 < 64:=Nat.mod_lt _ (by omega);have ht:=AG (l.getD (i / 64) 0) hm;have hid:=ZI hb;have hll:=Nh l;have hi1:i / 64+1≤l.length:=hi;have hbw:Xq l i=(l.getD (i / 64) 0).getLsbD (i % 64):=rfl;rw[hbw];rw[Qa F.tb_549 _ _ rfl];generalize l.getD (i / 64) 0=w at *;generalize QO l=RW at *;unfold Wo at hg;have hW1:IntKind.u64.wrap 1=1:=rfl;have hW0:IntKind.u64.wrap 0=0:=rfl;cases hbit:w.getLsbD (i % 64)
 ·rw[hbit]at ht;simp at ht;simp[-getElem?_pos,hW0,hW1,F.f549C,q1,q2,q3,q4,q5,q6,hb,hg,hll,ht,hi1]
 ·rw[hbit]at ht;simp at ht;simp[-getElem?_pos,hW0,hW1,F.f549C,q1,q2,q3,q4,q5,q6,hb,hg,hll,ht,hi1]
theorem NM (B:List (List AV)) (id:Nat) (x:List AV) (h:gpfreeL x=true):Z7 B (B.set id x)=true:=by
 induction B generalizing id with
 | nil=>simp[Z7]
 | cons y B ih=>
  cases id with
  | zero=>
   simp only[List.set_cons_zero,Z7,h,Bool.or_true,Bool.true_and];have: ∀(B:List (List AV)),Z7 B B=true:=by
    intro B
    induction B with
    | nil=>rfl
    | cons y B ih=>simp only[Z7,eqVL_refl,Bool.true_or,Bool.true_and,ih]
   exact this B
  | succ id=>simp only[List.set_cons_succ,Z7,eqVL_refl,Bool.true_or,Bool.true_and];exact ih id
theorem IC (l:List W64) (k:Nat) (w:W64): (QO l).set k (Wo w)=QO (l.set k w):=by simp[QO,List.map_set]
theorem Qdf (l:List W64) (i id:Nat) (bs:List (List AV)) (hb:bs[id]? =some (QO l)) (hi:i / 64 < l.length) (hi2:i < 1000000):call F.tb 547 [.gs id 0 1 l.length,.int .i64 i] bs=some (.tup [],bs.set id (QO (Vi l i))):=by
 obtain⟨q1,q2,q3,q4,q5,q6⟩:=Qb5 hi hi2;have hg:=Ng hi;have hm:i % 64 < 64:=Nat.mod_lt _ (by omega);have hid:=ZI hb;have hll:=Nh l;have hi1:i / 64+1≤l.length:=hi;have hs:=Ax hm;have hx:=K6 (l.getD (i / 64) 0) (1#64 <<< (i % 64));have hset:=IC l (i / 64) (l.getD (i / 64) 0 ^^^ (1#64 <<< (i % 64)));have hfl:l.set (i / 64) (l.getD (i / 64) 0 ^^^ (1#64 <<< (i % 64)))=Vi l i:=rfl;rw[hfl]at hset;have hck:=NM bs id (QO (Vi l i)) (GL _);have htk: (bs.set id (QO (Vi l i))).take bs.length=bs.set id (QO (Vi l i)):=List.take_of_length_le (by simp);have e1:Ym .quo (.int .i64 i) (.int .i64 64)=some (.int .i64 ((i:Int) / 64)):=by simp[Ym,toI,q1]
 have e2:Ym .rem (.int .i64 i) (.int .i64 64)=some (.int .i64 ((i % 64:Nat):Int)):=by simp[Ym];rfl
 rw[Qa F.tb_547 _ _ rfl];generalize hR:QO (Vi l i)=RF at *;generalize hw:l.getD (i / 64) 0=w at *;generalize QO l=RW at *;generalize hw2: (1#64 <<< (i % 64))=w2 at *;generalize hw3:w ^^^ w2=w3 at *;have hs':Ym .shl (.int .u64 1) (.int .i64 ((i:Int) % 64))=some (Wo w2):=hs;have p3:RW.take (i / 64)++ Wo w3:: RW.drop (i / 64+1)=RW.set (i / 64) (Wo w3):=by rw[List.set_eq_take_append_cons_drop,if_pos (by omega)]
 unfold Wo at *;simp[-getElem?_pos,-Ym,F.f547C,e1,e2,hs',hx,q2,q3,q4,hb,hg,hll,hi1,p3,hset,hck,htk]
theorem IB {l:List Tm} {i:Nat} {p:Tm} {c:List AV} (h: (c.drop (i*4)).take 4=Qb p): ((c.map AV.strip).drop (i*4)).take 4=Qb p:=by
 rw[← List.map_drop,← List.map_take,h,QL]
theorem GK {l:List Tm} {i:Nat} {p:Tm} (h:l[i]? =some p) (c:List AV): ((Qf l ++ c).drop (i*4)).take 4=Qb p:=by
 obtain⟨hi,rfl⟩:=List.getElem?_eq_some_iff.1 h;have hl:l=l.take i ++ l[i]:: l.drop (i+1):=by rw[List.getElem_cons_drop,List.take_append_drop]
 have:=Xc (f:=Qb) (k:=4) Qk hl c;rw[List.length_take,Nat.min_eq_left (by omega)]at this;exact this
theorem QbJ {l:List Tm} {t:Tm} {B:List (List AV)} {id sz:Nat} {c:List AV} (hl:l.length < 100000000) (hb:l≠[]→sz=4∧B[id]? =some (Qf l ++ c)) (hm: ∀p∈l,p.mass < big) (ht:t.mass < big) (ha:Asc l):
  ∀(d i j:Nat) (ρ:Nat→AV),j - i≤d→i≤j→j≤l.length→(∀(k:Nat) (p:Tm),l[k]? =some p→k < i→Qh p t < 0)→(∀(k:Nat) (p:Tm),l[k]? =some p→j≤k→¬Qh p t < 0)→
  ρ 0= .gs id 0 sz l.length→ρ 4= .bx (Qb t)→ρ 2= .fn 30 []→ρ 8= .int .i64 l.length→ρ 9= .int .i64 i→ρ 10= .int .i64 j→
  Fk l t B (R F.tb (.loop F.f546l0) ρ B (Qj 0 (Qu F.tb F.f546r0 (Qx F.f546 B)))):=by
 have mono: ∀(i j:Nat) (p q:Tm),l[i]? =some p→l[j]? =some q→i≤j→Qh q t < 0→Qh p t < 0:=by
  intro i j p q hp hq hij h;rcases Nat.lt_or_ge i j with hlt | hge
  ·obtain⟨h1,rfl⟩:=List.getElem?_eq_some_iff.1 hp;obtain⟨h2,rfl⟩:=List.getElem?_eq_some_iff.1 hq;exact Z0 (List.pairwise_iff_getElem.1 ha i j h1 h2 hlt) h
  ·have:i=j:=by omega
   subst this;rw[hp]at hq;injection hq with hq;subst hq;exact h
 intro d
 induction d with
 | zero=>
  intro i j ρ hd hij hj hlo hhi h0 h4 h2 h8 h9 h10;have:i=j:=by omega
  subst this;refine⟨i,⟨hj,hlo,hhi⟩,?_⟩;rw[Qc F.f546l0.eq_1];by_cases c1:i < l.length
  ·have hp:=List.getElem?_eq_getElem c1;obtain⟨rfl,hbx⟩:=hb (by intro e;subst e;simp at c1);have r1:=IB (l:=l) (GK hp c);have hmp:=hm _ (List.getElem_mem c1);have hle:i*4+4≤(Qf l ++ c).length:=by rw[List.length_append,Q8 Qk];omega
   have c1': (i:Int) < (l.length:Int):=by omega
   have hh:WH l t i=decide (Qh l[i] t=0):=by simp[WH,hp]
   rw[hh];generalize l[i]=p at *;have h3:=call_Compare p t B hmp ht;generalize Qf l ++ c=cc at *;simp[F.f546r0,h0,h2,h4,h8,h9,h10,c1,c1',hbx,hle,r1,h3]
  ·have hh:WH l t i=false:=by simp[WH,List.getElem?_eq_none (Nat.le_of_not_lt c1)]
   have c1': ¬(i:Int) < (l.length:Int):=by omega
   simp[F.f546r0,h0,h2,h4,h8,h9,h10,c1,c1',hh]
 | succ d IH=>
  intro i j ρ hd hij hj hlo hhi h0 h4 h2 h8 h9 h10;by_cases hlt:i < j
  ·have hmn: (i+j) / 2 < l.length:=by omega
   have hw:=NY (i:=i) (j:=j) (by omega);have hp:=List.getElem?_eq_getElem hmn;obtain⟨rfl,hbx⟩:=hb (by intro e;subst e;simp at hmn);have r1:=IB (l:=l) (GK hp c);have hmp:=hm _ (List.getElem_mem hmn);have hle: (i+j) / 2*4+4≤(Qf l ++ c).length:=by rw[List.length_append,Q8 Qk];omega
   have hltI: (i:Int) < (j:Int):=by omega
   have hb1:i≤(i+j) / 2:=by omega
   have hb2: (i+j) / 2 < j:=by omega
   generalize l[(i+j) / 2]=p at *;generalize hmm: (i+j) / 2=m at *;have h3:=call_Compare p t B hmp ht;have hw1:IntKind.i64.wrap ((m:Int)+1)=((m+1:Nat):Int):=by rw[QB (by omega) (by omega)];omega
   have c1': (m:Int) < (l.length:Int):=by omega
   generalize hcc:Qf l ++ c=cc at *;rw[Qc F.f546l0.eq_1];by_cases cc1:Qh p t < 0
   ·have ih:=fun ρ=>IH (m+1) j ρ (by omega) (by omega) hj (fun k q hq hk=>mono k m q p hq hp (by omega) cc1) hhi;simp[-getElem?_pos,h0,h2,h4,h8,h9,h10,hltI,hw,hw1,c1',hmn,hbx,hle,r1,h3,cc1];refine ih _ ?_ ?_ ?_ ?_ ?_ ?_ <;> simp[h0,h2,h4,h8,h10]
   ·have ih:=fun ρ=>IH i m ρ (by omega) (by omega) (by omega) hlo (fun k q hq hk h=>cc1 (mono m k p q hp hq hk h));simp[-getElem?_pos,h0,h2,h4,h8,h9,h10,hltI,hw,hw1,c1',hmn,hbx,hle,r1,h3,cc1];refine ih _ ?_ ?_ ?_ ?_ ?_ ?_ <;> simp[h0,h2,h4,h8,h9]
  ·exact IH i j ρ (by omega) hij hj hlo hhi h0 h4 h2 h8 h9 h10
theorem Qde {l:List Tm} {t:Tm} {B:List (List AV)} {id sz:Nat} {c:List AV} (hl:l.length < 100000000) (hb:l≠[]→sz=4∧B[id]? =some (Qf l ++ c)) (hm: ∀p∈l,p.mass < big) (ht:t.mass < big) (ha:Asc l):
  Fk l t B (call F.tb 546 [.gs id 0 sz l.length,.agg (Qb t),.fn 30 []] B):=by
 have h:=fun ρ=>QbJ hl hb hm ht ha l.length 0 l.length ρ (by omega) (by omega) (by omega) (fun k p _ hk=>by omega) (fun k p hp hk=>by rw[List.getElem?_eq_none hk]at hp;cases hp);rw[Qa F.tb_546 _ _ rfl];simp[F.f546C];refine h _ ?_ ?_ ?_ ?_ ?_ ?_ <;> simp
def TSg (B:List (List AV)) (v:AV) (l:List Tm):Prop:=∃id sz,v= .gs id 0 sz l.length∧∃c,l≠[]→sz=4∧B[id]? =some (Qf l ++ c)
theorem QbI {l:List Tm} {t:Tm} {k:Nat} (h:WH l t k=true):l[k]? =some t:=by
 unfold WH at h;cases hk:l[k]? with
 | none=>rw[hk]at h;cases h
 | some p=>
  rw[hk]at h;have:p=t:=Yx.1 (by simpa using h);rw[this]
theorem Qdd {C:List Tm} {B:List (List AV)} {g:Nat} {vC:AV} {rest:List AV} (hg:B[g]? =some (vC:: rest)) (hv:TSg B vC C) (hC:C.length < 1000000) (hm: ∀x∈C,x.mass < big) (ha:Asc C) {y:Tm} (hy:y∈C):
  ∃k:Nat,C[k]? =some y∧call F.tb 545 [.gp g 0,.agg (Qb y)] B=some (.int .i64 k,B):=by
 obtain⟨id,sz,rfl,c,hc⟩:=hv;obtain⟨k,hk,hcall⟩:=Qde (B:=B) (id:=id) (sz:=sz) (c:=c) (l:=C) (t:=y) (by omega) hc hm (hm y hy) ha;have hh:WH C y k=true:=by rw[Nn ha hk];exact Zx.2 hy
 rw[hh]at hcall;have hgl:=ZI hg;refine⟨k,QbI hh,?_⟩;rw[Qa F.tb_545 _ _ rfl];simp[-getElem?_pos,QP,List.getElem?_cons_succ,F.f545C,hg,hcall,Qg]
theorem CJ (l:List W64): (Uy l).length=l.length:=by simp[Uy]
theorem CI {l:List W64} {k:Nat} (h:k < l.length): (Uy l)[k]? =some [Wo (l.getD k 0)]:=by
 simp[Uy,h,List.getD_eq_getElem?_getD]
def YQ (a b:List W64) (k:Nat):List W64:=(Xe (a.take k) (b.take k))++ a.drop k
theorem E5 (a b:List W64):YQ a b 0=a:=by simp[YQ,Xe]
theorem Aa {a b:List W64} (h:a.length=b.length):YQ a b a.length=Xe a b:=by
 have e:b.take a.length=b:=by rw[h,List.take_length]
 rw[YQ,List.take_length,e,List.drop_length,List.append_nil]
theorem Lz {a b:List W64} (h:a.length=b.length) (k:Nat): (YQ a b k).length=a.length:=by
 simp only[YQ,Xe,List.length_append,List.length_zipWith,List.length_take,List.length_drop];omega
theorem E3 {a b:List W64} (h:a.length=b.length) {k:Nat} (hk:k < a.length): (YQ a b k).getD k 0=a.getD k 0:=by
 have hl: (Xe (a.take k) (b.take k)).length=k:=by simp[Xe];omega
 simp only[YQ,List.getD_eq_getElem?_getD];rw[List.getElem?_append_right (by omega),hl,Nat.sub_self,List.getElem?_drop,Nat.add_zero]
theorem E4 {a b:List W64} (h:a.length=b.length) {k:Nat} (hk:k < a.length): (YQ a b k).set k (a.getD k 0 ^^^ b.getD k 0)=YQ a b (k+1):=by
 have hl: (Xe (a.take k) (b.take k)).length=k:=by simp[Xe];omega
 have hkb:k < b.length:=by omega
 simp only[YQ];rw[List.set_append_right _ _ (by omega),hl,Nat.sub_self];have e1:a.drop k=a[k]:: a.drop (k+1):=List.drop_eq_getElem_cons hk;rw[e1,List.set_cons_zero];have e2:Xe (a.take (k+1)) (b.take (k+1))=Xe (a.take k) (b.take k)++ [a[k] ^^^ b[k]]:=by
  unfold Xe;rw[List.take_succ_eq_append_getElem hk,List.take_succ_eq_append_getElem hkb,List.zipWith_append (by simp;omega)];rfl
 rw[e2];simp[List.getD_eq_getElem?_getD,hk,hkb]
theorem QbR (a b:List W64) (id:Nat) (B:List (List AV)) (hid:id < B.length) (hab:a.length=b.length) (ha:a.length < 1000000):
  ∀(n k:Nat) (o:Bool) (ρ:Nat→AV),a.length - k≤n→k≤a.length→ρ 0= .gs id 0 1 a.length→ρ 1= .sl o 1 (Uy b)→ρ 6= .int .i64 a.length→ρ 7= .int .i64 k→
  R F.tb (.loop F.f550l0) ρ (B.set id (QO (YQ a b k))) (Qj 0 (Qx F.f550 B))=some (.tup [],B.set id (QO (Xe a b))):=by
 intro n
 induction n with
 | zero=>
  intro k o ρ hn hk h0 h1 h6 h7;have:k=a.length:=by omega
  subst this;rw[Aa hab];have hck:=NM B id (QO (Xe a b)) (GL _);have htk: (B.set id (QO (Xe a b))).take B.length=B.set id (QO (Xe a b)):=List.take_of_length_le (by simp);rw[Qc F.f550l0.eq_1];simp[h6,h7,hck,htk]
 | succ n IH=>
  intro k o ρ hn hk h0 h1 h6 h7;by_cases hlt:k < a.length
  ·have hI: (k:Int) < (a.length:Int):=by omega
   have hw1:IntKind.i64.wrap ((k:Int)+1)=((k+1:Nat):Int):=by rw[QB (by omega) (by omega)];omega
   have hg:=Ng (l:=YQ a b k) (k:=k) (by rw[Lz hab];exact hlt);rw[E3 hab hlt]at hg;have hb2:=CI (l:=b) (k:=k) (by omega);have hx:=K6 (a.getD k 0) (b.getD k 0);have hset:=IC (YQ a b k) k (a.getD k 0 ^^^ b.getD k 0);rw[E4 hab hlt]at hset;have hbx: (B.set id (QO (YQ a b k)))[id]? =some (QO (YQ a b k)):=by rw[List.getElem?_set,if_pos rfl,if_pos hid]
   have hll: (QO (YQ a b k)).length=a.length:=by rw[Nh,Lz hab]
   have hss: (B.set id (QO (YQ a b k))).set id (QO (YQ a b (k+1)))=B.set id (QO (YQ a b (k+1))):=by rw[List.set_set]
   have hbl: (k:Int) < (b.length:Int):=by omega
   have hew:=CJ b;have hbk:k < b.length:=by omega
   have hk1:k+1≤a.length:=hlt;have ih:=fun o ρ=>IH (k+1) o ρ (by omega) (by omega);have hgl:=ZI hbx;generalize hR1:QO (YQ a b (k+1))=R1 at *;generalize hR0:QO (YQ a b k)=R0 at *;generalize hB1:B.set id R1=B1 at *;generalize hB0:B.set id R0=B0 at *;generalize hw3:a.getD k 0 ^^^ b.getD k 0=w3 at *;generalize a.getD k 0=w at *;generalize b.getD k 0=w2 at *;have p3:R0.take k ++ Wo w3:: R0.drop (k+1)=R1:=by rw[← hset,List.set_eq_take_append_cons_drop,if_pos (by omega)]
   unfold Wo at hg hb2 hx p3;have e0:Ym .add (.int .i64 k) (.int .i64 1)=some (.int .i64 ((k+1:Nat):Int)):=by simp[Ym,hw1]
   have e1:Ym .lss (.int .i64 k) (.int .i64 a.length)=some (.bool true):=by simp[Ym,hI]
   rw[Qc F.f550l0.eq_1];simp[-getElem?_pos,QP,List.getElem?_cons_succ,-Ym,h0,h1,h6,h7,e0,e1,hI,hbx,hg,hb2,hx,hll,hk1,hlt,hbl,hbk,hew,p3,hss];refine ih o _ ?_ ?_ ?_ ?_ <;> simp[h0,h1,h6]
  ·have hk2:k=a.length:=by omega
   exact IH k o ρ (by omega) hk h0 h1 h6 h7
theorem H5 (a b:List W64) (o:Bool) (id:Nat) (bs:List (List AV)) (hb:bs[id]? =some (QO a)) (hab:a.length=b.length) (ha:a.length < 1000000):
  call F.tb 550 [.gs id 0 1 a.length,.sl o 1 (Uy b)] bs=some (.tup [],bs.set id (QO (Xe a b))):=by
 have hid:=ZI hb;have h:=fun ρ=>QbR a b id bs hid hab ha a.length 0 false ρ (by omega) (by omega);have e:bs.set id (QO (YQ a b 0))=bs:=by
  rw[E5];obtain⟨h1,h2⟩:=List.getElem?_eq_some_iff.1 hb;rw[← h2,List.set_getElem_self]
 rw[e]at h;rw[Qa F.tb_550 _ _ rfl];simp[F.f550C];refine h _ ?_ ?_ ?_ ?_ <;> simp
def Qh1 (l:List W64) (n:Nat):Option Nat→Prop
 | none=>∀j,j < n→Xq l j=false
 | some c=>c < n∧Xq l c=true∧∀j,j < c→Xq l j=false
def frV:Option Nat→AV
 | none=> .int .i64 (-1)
 | some c=> .int .i64 (c:Int)
def HP (l:List W64) (n:Nat) (B:List (List AV)) (r:Option (AV×List (List AV))):Prop:=∃o,Qh1 l n o∧r=some (frV o,B)
theorem Ho (l:List W64) (id n:Nat) (B:List (List AV)) (hb:B[id]? =some (QO l)) (hn:n≤64*l.length) (hn2:n < 1000000):
  ∀(d k:Nat) (ρ:Nat→AV),n - k≤d→k≤n→(∀j,j < k→Xq l j=false)→ρ 0= .gs id 0 1 l.length→ρ 6= .int .i64 n→ρ 7= .int .i64 k→
  HP l n B (R F.tb (.loop F.f551l0) ρ B (Qj 0 (Qu F.tb F.f551r0 (Qx F.f551 B)))):=by
 intro d
 induction d with
 | zero=>
  intro k ρ hd hk hz h0 h6 h7;have:k=n:=by omega
  subst this;refine⟨none,hz,?_⟩;rw[Qc F.f551l0.eq_1];simp[h6,h7,F.f551r0,frV]
 | succ d IH=>
  intro k ρ hd hk hz h0 h6 h7;by_cases hlt:k < n
  ·have hI: (k:Int) < (n:Int):=by omega
   have hw1:IntKind.i64.wrap ((k:Int)+1)=((k+1:Nat):Int):=by rw[QB (by omega) (by omega)];omega
   have hc:=H4 l k id B hb (by omega) (by omega);cases hbit:Xq l k
   ·rw[hbit]at hc;have ih:=fun ρ=>IH (k+1) ρ (by omega) (by omega) (fun j hj=>by
     rcases Nat.lt_or_ge j k with h | h
     ·exact hz j h
     ·have:j=k:=by omega
      rw[this];exact hbit)
    rw[Qc F.f551l0.eq_1];simp[h0,h6,h7,hI,hc,hw1];refine ih _ ?_ ?_ ?_ <;> simp[h0,h6]
   ·rw[hbit]at hc;refine⟨some k,⟨hlt,hbit,hz⟩,?_⟩;rw[Qc F.f551l0.eq_1];simp[h0,h6,h7,hI,hc,hw1,F.f551r0,frV]
  ·exact IH k ρ (by omega) hk hz h0 h6 h7
theorem Qdh (l:List W64) (id n:Nat) (B:List (List AV)) (hb:B[id]? =some (QO l)) (hn:n≤64*l.length) (hn2:n < 1000000):HP l n B (call F.tb 551 [.gs id 0 1 l.length,.int .i64 n] B):=by
 have h:=fun ρ=>Ho l id n B hb hn hn2 n 0 ρ (by omega) (by omega) (fun j hj=>by omega);rw[Qa F.tb_551 _ _ rfl];simp[F.f551C];refine h _ ?_ ?_ ?_ <;> simp
theorem Yl {α:Type} {B:List α} {i:Nat} {x:α} (h:B[i]? =some x) (M:List α): (B ++ M)[i]? =some x:=by
 rw[List.getElem?_append_left (ZI h)];exact h
theorem Rg {α:Type} (B:List α) (x:α) (M:List α): (B ++ x:: M)[B.length]? =some x:=by simp
theorem QaM {α:Type} (B:List α) (x y:α) (M:List α): (B ++ x:: y:: M)[B.length+1]? =some y:=by
 rw[List.getElem?_append_right (by omega)];simp
theorem GQ {α:Type} (B:List α) (x y:α) (M:List α): (B ++ x:: M).set B.length y=B ++ y:: M:=by
 rw[List.set_append_right _ _ (Nat.le_refl _)];simp
theorem Qby {α:Type} (B:List α) (x y z:α) (M:List α): (B ++ x:: y:: M).set (B.length+1) z=B ++ x:: z:: M:=by
 rw[List.set_append_right _ _ (by omega)];simp
theorem TSg.app {B:List (List AV)} {v:AV} {l:List Tm} (h:TSg B v l) (M:List (List AV)):TSg (B ++ M) v l:=by
 obtain⟨id,sz,e,c,hc⟩:=h;exact⟨id,sz,e,c,fun hn=>⟨(hc hn).1,Yl (hc hn).2 M⟩⟩
def LT (C:List Tm) (w:List W64) (f:Tm→Bool):Prop:=w.length=C.length / 64+1∧∀(k:Nat) (y:Tm),C[k]? =some y→Xq w k=f y
theorem I8 {C:List Tm} (hC:Asc C) {i j:Nat} {y:Tm} (h1:C[i]? =some y) (h2:C[j]? =some y):i=j:=by
 obtain⟨a,e1⟩:=List.getElem?_eq_some_iff.1 h1;obtain⟨b,e2⟩:=List.getElem?_eq_some_iff.1 h2;have hp:=List.pairwise_iff_getElem.1 hC;rcases Nat.lt_trichotomy i j with h | h | h
 ·have:=hp i j a b h;rw[e1,e2,YS]at this;omega
 ·exact h
 ·have:=hp j i b a h;rw[e1,e2,YS]at this;omega
def Fj (C:List Tm) (f:Tm→Bool) (B:List (List AV)) (r:Option (AV×List (List AV))):Prop:=∃w,LT C w f∧r=some (.gs B.length 0 1 w.length,B ++ [QO w])
theorem C0 (l:List Tm) (x y:Tm):Q3 (l ++ [x]) y=(Q3 l y || decide (Qh x y=0)):=by
 simp[Q3,List.any_append]
theorem Qbc {C:List Tm} {B:List (List AV)} {g:Nat} {vC:AV} {rest:List AV} (hg:B[g]? =some (vC:: rest)) (hv:TSg B vC C) (hC:C.length < 1000000) (hm: ∀x∈C,x.mass < big) (ha:Asc C) (S:List Tm) (hS:Asc S) (hSC: ∀y∈S,y∈C) (hSl:S.length < 1000000):
  ∀(post pre:List Tm) (o:Bool) (w:List W64) (ρ:Nat→AV),S=pre ++ post→LT C w (Q3 pre)→ρ 0= .gp g 0→ρ 5= .gs B.length 0 1 w.length→ρ 17= .sl o 4 (encTs S)→ρ 18= .int .i64 S.length→ρ 19= .int .i64 pre.length→
  Fj C (Q3 S) B (R F.tb (.loop F.f544l0) ρ (B ++ [QO w]) (Qj 0 (Qu F.tb F.f544r0 (Qx F.f544 B)))):=by
 intro post
 induction post with
 | nil=>
  intro pre o w ρ hk hw h0 h5 h17 h18 h19;simp only[List.append_nil]at hk;subst hk;refine⟨w,hw,?_⟩;rw[Qc F.f544l0.eq_1];simp[h0,h5,h17,h18,h19,F.f544r0]
 | cons y post IH=>
  intro pre o w ρ hk hw h0 h5 h17 h18 h19;have hgp:=Qt hk;have hll:=QE hk;have hw1:=wr1 pre.length (by omega);have hlt:=QF hk;have hyS:y∈S:=by rw[hk];simp
  have hyC:=hSC y hyS;obtain⟨k,hck,hcall⟩:=Qdd (Yl hg [QO w]) (hv.app [QO w]) hC hm ha hyC;have hkl:=ZI hck;have hwl:=hw.1;have hcf:=Qdf w k B.length (B ++ [QO w]) (Rg B (QO w) []) (by omega) (by omega);rw[GQ]at hcf;have hnp:y ∉ pre:=by
   intro h;rw[hk]at hS;have:=(List.pairwise_append.1 hS).2.2 y h y (by simp);rw[YS]at this;omega
  have hrow:LT C (Vi w k) (Q3 (pre ++ [y])):=by
   refine⟨by rw[Li];exact hwl,fun j z hz=> ?_⟩;rw[Cq (by omega),hw.2 j z hz,C0];by_cases hj:j=k
   ·subst hj;rw[hck]at hz;have:y=z:=by injection hz
    subst this;have:Q3 pre y=false:=by
     cases h:Q3 pre y
     ·rfl
     ·exact absurd (Zx.1 h) hnp
    simp[this,YS]
   ·have: ¬Qh y z=0:=by
     intro e;have e:=Yx.1 e;subst e;exact hj (I8 ha hz hck)
    simp[hj,this]
  have ih:=fun o ρ=>IH (pre ++ [y]) o (Vi w k) ρ (by rw[hk];simp) hrow;rw[Li]at ih;have he:Qb y≠[]:=by intro h;have:=Qk y;rw[h]at this;simp at this
  rw[Qc F.f544l0.eq_1];simp[h0,h5,h17,h18,h19,hgp,hlt,hw1,Qg,hcall,hcf];refine ih o _ ?_ ?_ ?_ ?_ ?_ <;> simp[h0,h5,h17,h18]
theorem GI (n:Nat):QO (List.replicate n 0)=List.replicate n (.int .u64 0):=by
 simp[QO,Wo]
theorem Lh (n:Nat) (x:AV): (List.replicate n [x]).flatten=List.replicate n x:=by
 induction n with
 | zero=>rfl
 | succ n ih=>simp[List.replicate_succ,ih]
theorem AF (n j:Nat):Xq (List.replicate n 0) j=false:=by
 unfold Xq;rw[List.getD_eq_getElem?_getD,List.getElem?_replicate];split <;> simp
theorem Qdc {C:List Tm} {B:List (List AV)} {g:Nat} {vC:AV} {rest:List AV} (hg:B[g]? =some (vC:: rest)) (hv:TSg B vC C) (hC:C.length < 1000000) (hm: ∀x∈C,x.mass < big) (ha:Asc C) {x:Tm} (hx:x.mass < 1000000) (hxC: ∀y∈QV x,y∈C):
  Fj C (Q3 (QV x)) B (call F.tb 544 [.gp g 0,.agg (Qb x)] B):=by
 have hz:LT C (List.replicate (C.length / 64+1) 0) (Q3 []):=⟨by simp,fun k y _=>by rw[AF];rfl⟩;have hsl: (QV x).length < 1000000:=by
  have h1:=Vw x;have h2:=ZL x;omega
 have h:=fun o ρ=>Qbc hg hv hC hm ha (QV x) (WM x) hxC hsl (QV x) [] o _ ρ rfl hz;rw[GI,List.length_replicate]at h;obtain⟨id,sz,rfl,c,hc⟩:=hv;obtain⟨o1,hs⟩:=Vf x (B ++ [List.replicate (C.length / 64+1) (.int .u64 0)]) (by omega);have hgl:=ZI hg;have hw1:IntKind.i64.wrap ((C.length:Int) / 64)=(C.length:Int) / 64:=QB (by omega) (by omega);have hw2:IntKind.i64.wrap ((C.length:Int) / 64+1)=(C.length:Int) / 64+1:=QB (by omega) (by omega);have hn: ((C.length:Int) / 64+1).toNat=C.length / 64+1:=by omega
 have e1:Ym .quo (.int .i64 C.length) (.int .i64 64)=some (.int .i64 ((C.length:Int) / 64)):=by simp[Ym,toI,hw1]
 have e2:Ym .add (.int .i64 ((C.length:Int) / 64)) (.int .i64 1)=some (.int .i64 ((C.length / 64+1:Nat):Int)):=by
  simp[Ym,hw2]
 have hnn:0≤((C.length / 64+1:Nat):Int):=by omega
 have hb8: (C.length / 64+1)*8≤140737488355328:=by omega
 have hbig: ((C.length / 64+1:Nat):Int)≤4611686018427387904:=by omega
 have htn: ((C.length / 64+1:Nat):Int).toNat=C.length / 64+1:=by omega
 have hW0:IntKind.u64.wrap 0=0:=rfl;rw[Qa F.tb_544 _ _ rfl];generalize C.length / 64+1=W at *;simp[-getElem?_pos,QP,List.getElem?_cons_succ,-Ym,F.f544C,hg,e1,e2,hnn,hb8,hbig,htn,Lh,Qg,hs];refine h o1 _ ?_ ?_ ?_ ?_ ?_ <;> simp
abbrev Vk:=Nat×List W64×List W64
def MH (x:Vk):AV:= .agg [.int .i64 (x.1:Int),.sl false 1 (Uy x.2.1)]
def MG (x:Vk):AV:= .agg [.int .i64 (x.1:Int),.sl false 1 (Uy x.2.2)]
def fR (k:Nat) (RS:List Vk):Option Vk:=RS.find? fun x=>x.1 == k
theorem Qb7 (k:Nat): ∀RS:List Vk,Ys false (RS.map MH) (.int .i64 (k:Int))=some ((fR k RS).map fun x=> .sl false 1 (Uy x.2.1))
 | []=>by simp[Ys,Un,fR]
 | x:: RS=>by
  have ih:=Qb7 k RS;simp only[List.map_cons,MH,Ys,U1,if_true];by_cases h:x.1=k
  ·subst h;simp[fR]
  ·have h2: ((k:Int) == (x.1:Int))=false:=by simp only[beq_eq_false_iff_ne,ne_eq];omega
   have h3: (x.1 == k)=false:=by simp only[beq_eq_false_iff_ne,ne_eq];exact h
   rw[h2];simp only[fR,List.find?_cons,h3];exact ih
theorem Qb6 (k:Nat): ∀RS:List Vk,Ys false (RS.map MG) (.int .i64 (k:Int))=some ((fR k RS).map fun x=> .sl false 1 (Uy x.2.2))
 | []=>by simp[Ys,Un,fR]
 | x:: RS=>by
  have ih:=Qb6 k RS;simp only[List.map_cons,MG,Ys,U1,if_true];by_cases h:x.1=k
  ·subst h;simp[fR]
  ·have h2: ((k:Int) == (x.1:Int))=false:=by simp only[beq_eq_false_iff_ne,ne_eq];omega
   have h3: (x.1 == k)=false:=by simp only[beq_eq_false_iff_ne,ne_eq];exact h
   rw[h2];simp only[fR,List.find?_cons,h3];exact ih
theorem QdU {k:Nat} {RS:List Vk} {x:Vk} (h:fR k RS=some x):x∈RS∧x.1=k:=⟨List.mem_of_find?_eq_some h,by have:=List.find?_some h;simpa using this⟩
theorem QdT {k:Nat} {RS:List Vk} (h:fR k RS=none): ∀x∈RS,x.1≠k:=fun x hx=>by have:=List.find?_eq_none.1 h x hx;simpa using this
def SY (B:List (List AV)) (b0:Nat) (C:List Tm) (n:Nat) (RS:List Vk):Prop:=∃(idC szC:Nat) (c:List AV) (vb:AV),
 B[b0+2]? =some [.gs idC 0 szC C.length,.int .i64 (n:Int),.mp b0,.mp (b0+1),vb]∧B[b0]? =some (.undef:: RS.map MH)∧B[b0+1]? =some (.undef:: RS.map MG)∧
 (C≠[]→szC=4∧b0+2 < idC∧B[idC]? =some (Qf C ++ c))∧
 (vb= .gs 0 0 0 0∨∃(idb:Nat) (ks:List AV),vb= .gs idb 0 1 ks.length∧ks≠[]∧b0+2 < idb∧(C≠[]→idC < idb)∧B[idb]? =some ks∧ks.length≤RS.length)
theorem SY.app {B:List (List AV)} {b0:Nat} {C:List Tm} {n:Nat} {RS:List Vk} (h:SY B b0 C n RS) (M:List (List AV)):SY (B ++ M) b0 C n RS:=by
 obtain⟨idC,szC,c,vb,h1,h2,h3,h4,h5⟩:=h;refine⟨idC,szC,c,vb,Yl h1 M,Yl h2 M,Yl h3 M,fun hn=>⟨(h4 hn).1,(h4 hn).2.1,Yl (h4 hn).2.2 M⟩,?_⟩;rcases h5 with h5 | ⟨idb,ks,q1,q2,q3,q4,q5,q6⟩
 ·exact .inl h5
 ·exact .inr ⟨idb,ks,q1,q2,q3,q4,Yl q5 M,q6⟩
def vN (N:Nat) (w:List W64):Nat→Bool:=fun j=>decide (j < N) && Xq w j
theorem Qg2 (N:Nat) {a b:List W64} (h:a.length=b.length):vN N (Xe a b)=xv (vN N a) (vN N b):=by
 funext j;simp only[vN,xv,Jd h];cases decide (j < N) <;> simp
def QfM (N n:Nat) (RS:List Vk):Prop:=∀x∈RS,x.1 < N∧x.2.1.length=N / 64+1∧x.2.2.length=n / 64+1∧Xq x.2.1 x.1=true∧∀j,j < x.1→Xq x.2.1 j=false
def Qb4 (N n:Nat) (RS:List Vk) (B:List (List AV)) (b0:List W64) (r:Option (AV×List (List AV))):Prop:=∃b q,b.length=N / 64+1∧q.length=n / 64+1∧
 Sp (RS.map fun x=>vN N x.2.1) (xv (vN N b0) (vN N b))∧(∀x∈RS,Xq b x.1=false)∧r=some (.tup [.gs B.length 0 1 b.length,.gs (B.length+1) 0 1 q.length],B ++ [QO b,QO q])
theorem Qa7 {B:List (List AV)} {b0:Nat} {C:List Tm} {n:Nat} {RS:List Vk} (hS:SY B b0 C n RS) (hR:QfM C.length n RS) (hC:C.length < 100000) (hn:n < 100000) (w:List W64):
  ∀(d k:Nat) (b q:List W64) (ρ:Nat→AV),C.length - k≤d→k≤C.length→b.length=C.length / 64+1→q.length=n / 64+1→Sp (RS.map fun x=>vN C.length x.2.1) (xv (vN C.length w) (vN C.length b))→(∀x∈RS,x.1 < k→Xq b x.1=false)→
  ρ 0= .gp (b0+2) 0→ρ 1= .gs B.length 0 1 b.length→ρ 6= .gs (B.length+1) 0 1 q.length→ρ 21= .int .i64 C.length→ρ 22= .int .i64 k→
  Qb4 C.length n RS B w (R F.tb (.loop F.f548l0) ρ (B ++ [QO b,QO q]) (Qj 0 (Qu F.tb F.f548r0 (Qx F.f548 (B ++ [QO w]))))):=by
 intro d
 induction d with
 | zero=>
  intro k b q ρ hd hk hb hq hsp hz h0 h1 h6 h21 h22;have:k=C.length:=by omega
  subst this;refine⟨b,q,hb,hq,hsp,fun x hx=>hz x hx (hR x hx).1,?_⟩;rw[Qc F.f548l0.eq_1];simp[h0,h1,h6,h21,h22,F.f548r0]
 | succ d IH=>
  intro k b q ρ hd hk hb hq hsp hz h0 h1 h6 h21 h22;by_cases hlt:k < C.length
  ·have hI: (k:Int) < (C.length:Int):=by omega
   have hw1:IntKind.i64.wrap ((k:Int)+1)=((k+1:Nat):Int):=by rw[QB (by omega) (by omega)];omega
   have hkb:k / 64 < b.length:=by omega
   have hc:=H4 b k B.length (B ++ [QO b,QO q]) (Rg B _ _) hkb (by omega);obtain⟨idC,szC,c,vb,s1,s2,s3,s4,s5⟩:=hS.app [QO b,QO q];have f1:=Qb7 k RS;have f2:=Qb6 k RS;have hw0:IntKind.i64.wrap 0=0:=rfl;rw[Qc F.f548l0.eq_1];cases hf:fR k RS with
   | none=>
    rw[hf]at f1 f2;have ih:=fun ρ=>IH (k+1) b q ρ (by omega) (by omega) hb hq hsp (fun x hx hx2=>by
     have:=QdT hf x hx;exact hz x hx (by omega))
    simp only[Option.map_none]at f1 f2;generalize RS.map MH=eR at *;generalize RS.map MG=eQ at *;generalize hBB:B ++ [QO b,QO q]=BB at *;simp[-getElem?_pos,QP,List.getElem?_cons_succ,h0,h1,h6,h21,h22,hI,s1,s2,s3,f1,f2,hw1];refine ih _ ?_ ?_ ?_ ?_ ?_ <;> simp[h0,h1,h6,h21]
   | some x=>
    rw[hf]at f1 f2;simp only[Option.map_some]at f1 f2;obtain⟨hxR,hxk⟩:=QdU hf;obtain⟨r1,r2,r3,r4,r5⟩:=hR x hxR;cases hbit:Xq b k
    ·rw[hbit]at hc;have ih:=fun ρ=>IH (k+1) b q ρ (by omega) (by omega) hb hq hsp (fun y hy hy2=>by
      rcases Nat.lt_or_ge y.1 k with h | h
      ·exact hz y hy h
      ·have:y.1=k:=by omega
       rw[this];exact hbit)
     generalize RS.map MH=eR at *;generalize RS.map MG=eQ at *;generalize hBB:B ++ [QO b,QO q]=BB at *;simp[-getElem?_pos,QP,List.getElem?_cons_succ,h0,h1,h6,h21,h22,hI,s1,s2,s3,f1,f2,hw1,hc];refine ih _ ?_ ?_ ?_ ?_ ?_ <;> simp[h0,h1,h6,h21]
    ·rw[hbit]at hc;have hl1:b.length=x.2.1.length:=by omega
     have hl2:q.length=x.2.2.length:=by omega
     have hx1:=H5 b x.2.1 false B.length (B ++ [QO b,QO q]) (Rg B _ _) hl1 (by omega);rw[GQ]at hx1;have hx2:=H5 q x.2.2 false (B.length+1) (B ++ [QO (Xe b x.2.1),QO q]) (QaM B _ _ _) hl2 (by omega);rw[Qby]at hx2;obtain⟨idC',szC',c',vb',s1',s2',s3',s4',s5'⟩:=hS.app [QO (Xe b x.2.1),QO q];have ih:=fun ρ=>IH (k+1) (Xe b x.2.1) (Xe q x.2.2) ρ (by omega) (by omega) (by rw[R6 hl1];exact hb) (by rw[R6 hl2];exact hq) (by
      rw[Qg2 _ hl1,← TI];exact hsp.sum (Sp.mem (List.mem_map.2 ⟨x,hxR,rfl⟩))) (fun y hy hy2=>by
       rw[Jd hl1];rcases Nat.lt_or_ge y.1 k with h | h
       ·rw[hz y hy h,r5 y.1 (by omega)];rfl
       ·have:y.1=k:=by omega
        rw[this,hbit,← hxk,r4];rfl)
     rw[R6 hl1,R6 hl2]at ih;generalize RS.map MH=eR at *;generalize RS.map MG=eQ at *;generalize hBB:B ++ [QO b,QO q]=BB at *;generalize hBB2:B ++ [QO (Xe b x.2.1),QO q]=BB2 at *;simp[-getElem?_pos,QP,List.getElem?_cons_succ,h0,h1,h6,h21,h22,hI,s1,s2,s3,s1',s2',s3',f1,f2,hw1,hc,hx1,hx2];refine ih _ ?_ ?_ ?_ ?_ ?_ <;> simp[h0,h1,h6,h21]
  ·exact IH k b q ρ (by omega) hk hb hq hsp hz h0 h1 h6 h21 h22
theorem Qdg {B:List (List AV)} {b0:Nat} {C:List Tm} {n:Nat} {RS:List Vk} (hS:SY B b0 C n RS) (hR:QfM C.length n RS) (hC:C.length < 100000) (hn:n < 100000) (w:List W64) (hw:w.length=C.length / 64+1):
  Qb4 C.length n RS B w (call F.tb 548 [.gp (b0+2) 0,.gs B.length 0 1 w.length] (B ++ [QO w])):=by
 have h:=fun ρ=>Qa7 hS hR hC hn w C.length 0 w (List.replicate (n / 64+1) 0) ρ (by omega) (by omega) hw (by simp) (by rw[GW];exact .zero) (fun x _ hx=>by omega);rw[GI,List.length_replicate]at h;obtain⟨idC,szC,c,vb,s1,s2,s3,s4,s5⟩:=hS.app [QO w];obtain⟨idC',szC',c',vb',s1',s2',s3',s4',s5'⟩:=hS.app [QO w,List.replicate (n / 64+1) (.int .u64 0)];have hw1:IntKind.i64.wrap ((n:Int) / 64)=(n:Int) / 64:=QB (by omega) (by omega);have hw2:IntKind.i64.wrap ((n:Int) / 64+1)=(n:Int) / 64+1:=QB (by omega) (by omega);have e1:Ym .quo (.int .i64 n) (.int .i64 64)=some (.int .i64 ((n:Int) / 64)):=by simp[Ym,toI,hw1]
 have e2:Ym .add (.int .i64 ((n:Int) / 64)) (.int .i64 1)=some (.int .i64 ((n / 64+1:Nat):Int)):=by
  simp[Ym,hw2]
 have hnn:0≤((n / 64+1:Nat):Int):=by omega
 have hb8: (n / 64+1)*8≤140737488355328:=by omega
 have hbig: ((n / 64+1:Nat):Int)≤4611686018427387904:=by omega
 have htn: ((n / 64+1:Nat):Int).toNat=n / 64+1:=by omega
 have hW0:IntKind.u64.wrap 0=0:=rfl;rw[Qa F.tb_548 _ _ rfl];generalize n / 64+1=W at *;have ha:B ++ [QO w]++ [List.replicate W (AV.int .u64 0)]=B ++ [QO w,List.replicate W (AV.int .u64 0)]:=by simp
 have hlen: (B ++ [QO w]).length=B.length+1:=by simp
 generalize hB1:B ++ [QO w]=B1 at *;generalize hB2:B ++ [QO w,List.replicate W (AV.int .u64 0)]=B2 at *;simp[-getElem?_pos,QP,List.getElem?_cons_succ,-Ym,F.f548C,s1,s1',e1,e2,hnn,hb8,hbig,htn,Lh,ha,hlen];refine h _ ?_ ?_ ?_ ?_ ?_ <;> simp
end Go.Am
