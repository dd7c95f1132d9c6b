/-
  En32, En33, En34, En35, En36, En37, En38, En39, En40.
-/
import Derived.Test.YtmlbijpbecpjoaaGreatDoorG20
set_option linter.all false
open Go.Am.F
namespace Go.Am
set_option maxRecDepth 20000
set_option maxHeartbeats 1000000
def f6B (d:Ded):Bool:=(decide (0<=Xg d.r) && !decide ((d.a.length:Int)=Xg d.r)) || (decide (Xg d.r= -2) && decide (d.a.length=0)) || !decide ((d.c.length:Int)=So d)
def fNB (d:Ded):Bool:=decide (d.n < 0) || decide (1000000 < d.n) || (!decide (d.n=0) && !decide (d.r=1))
def Td (d:Ded) (i:Int):Int:=if rOk d.r=false then 1 else if f6B d then 6 else if d.a.any (VD i)then 7 else if fNB d then 7 else if d.c.any Yi then 7 else 0
def Qhu (d:Ded) (i:Int) (bs:Qa) (ha:d.a.length < 1000000) (hc:d.c.length < 1000000):call tb 352 [.agg (QK d),.int .i64 i] bs=some (.int .i64 (Td d i),bs):=by
 have c353:=fun b=>CZ d.r b;have c354:=fun b=>Qhv d b ha;have hg: (bs ++ [[AV.int .i64 i]])[bs.length]? =some [.int .i64 i]:=YZ;have c356:=J8 355 [.gp bs.length 0] (VD i) d.a false (bs ++ [[.int .i64 i]]) (fun a _=>Qhw a i bs.length _ hg) ha (by simp[AV.ok]);have c356b:=J8 358 [] Yi d.c false (bs ++ [[.int .i64 i]]) (fun c _=>Qhx c _) hc (by simp);rw[zcc 352 rfl rfl];unfold Td f6B fNB;cases h1:rOk d.r
 ·rw[h1]at c353;simp[f352C,c353]
 ·rw[h1]at c353;generalize hA:d.a.any (VD i)=A at *;generalize hC:d.c.any Yi=C at *;have lz: (d.a.length:Int)=0↔d.a.length=0:=by omega
  by_cases c1:0<=Xg d.r
  ·have c3: ¬Xg d.r= -2:=by omega
   by_cases c2: (d.a.length:Int)=Xg d.r
   ·by_cases c5: (d.c.length:Int)=So d
    ·cases A
     ·by_cases n1:d.n < 0
      ·simp[f352C,c353,c354,c356,c356b,c1,c2,c3,c5,n1]
      ·by_cases n2:1000000 < d.n
       ·simp[f352C,c353,c354,c356,c356b,c1,c2,c3,c5,n1,n2]
       ·by_cases n3:d.n=0
        ·cases C <;> simp[f352C,c353,c354,c356,c356b,c1,c2,c3,c5,n3]
        ·by_cases n4:d.r=1
         ·simp only[n4]at c353 c1 c2 c3 c5 ⊢;cases C <;> simp[f352C,c353,c354,c356,c356b,c1,c2,c3,c5,n1,n2,n3,n4]
         ·simp[f352C,c353,c354,c356,c356b,c1,c2,c3,c5,n1,n2,n3,n4]
     ·simp[f352C,c353,c354,c356,c356b,c1,c2,c3,c5]
    ·simp[f352C,c353,c354,c356,c356b,c1,c2,c3,c5]
   ·simp[f352C,c353,c354,c356,c356b,c1,c2,c3]
  ·by_cases c4:Xg d.r= -2/\d.a.length=0
   ·obtain⟨c3,c4⟩:=c4;simp[f352C,c353,c354,c356,c356b,c1,c3,c4,lz]
   ·by_cases c5: (d.c.length:Int)=So d
    ·cases A
     ·by_cases c3:Xg d.r= -2
      ·have c4': ¬d.a.length=0:=fun e=>c4 ⟨c3,e⟩;by_cases n1:d.n < 0
       ·simp[f352C,c353,c354,c356,c356b,c1,c3,c4',lz,c5,n1]
       ·by_cases n2:1000000 < d.n
        ·simp[f352C,c353,c354,c356,c356b,c1,c3,c4',lz,c5,n1,n2]
        ·by_cases n3:d.n=0
         ·cases C <;> simp[f352C,c353,c354,c356,c356b,c1,c3,c4',lz,c5,n3]
         ·by_cases n4:d.r=1
          ·simp only[n4]at c353 c1 c3 c5 ⊢;cases C <;> simp[f352C,c353,c354,c356,c356b,c1,c3,c4',lz,c5,n1,n2,n3,n4]
          ·simp[f352C,c353,c354,c356,c356b,c1,c3,c4',lz,c5,n1,n2,n3,n4]
      ·by_cases n1:d.n < 0
       ·simp[f352C,c353,c354,c356,c356b,c1,c3,c5,n1]
       ·by_cases n2:1000000 < d.n
        ·simp[f352C,c353,c354,c356,c356b,c1,c3,c5,n1,n2]
        ·by_cases n3:d.n=0
         ·cases C <;> simp[f352C,c353,c354,c356,c356b,c1,c3,c5,n3]
         ·by_cases n4:d.r=1
          ·simp only[n4]at c353 c1 c3 c5 ⊢;cases C <;> simp[f352C,c353,c354,c356,c356b,c1,c3,c5,n1,n2,n3,n4]
          ·simp[f352C,c353,c354,c356,c356b,c1,c3,c5,n1,n2,n3,n4]
     ·by_cases c3:Xg d.r= -2
      ·have c4': ¬d.a.length=0:=fun e=>c4 ⟨c3,e⟩;simp[f352C,c353,c354,c356,c356b,c1,c3,c4',lz,c5]
      ·simp[f352C,c353,c354,c356,c356b,c1,c3,c5]
    ·by_cases c3:Xg d.r= -2
     ·have c4': ¬d.a.length=0:=fun e=>c4 ⟨c3,e⟩;simp[f352C,c353,c354,c356,c356b,c1,c3,c4',lz,c5]
     ·simp[f352C,c353,c354,c356,c356b,c1,c3,c5]
def QoT (d:Ded) (bs:Qa) (hc:d.c.length < 1000000):
  ∀(post pre:QJ) (ρ:Ql),d.c=pre ++ post->ρ 2= .bx (QK d)->ρ 8= .int .i64 pre.length->
  R tb (.loop f385l1) ρ bs (Qq 2 (QH tb f385r0 (QP f385 bs)))=some (.int .i64 (if post.any Yi then 7 else 0),bs):=by
 intro post
 induction post with
 | nil=>
  intro pre ρ hk h2 h8;simp only[QN]at hk;rw[<- hk]at h8;rw[Qg f385l1.eq_1];simp[h2,h8,f385r0]
 | cons x post IH=>
  intro pre ρ hk h2 h8;have hgt:=Qx hk;have hll:=QL hk;have hw1:=wr1 pre.length (by omega);have hlt:=QO hk;have ih:=fun ρ=>IH (pre ++ [x]) ρ (by rw[hk];simp);rw[Qg f385l1.eq_1];by_cases c1:x < -35184372088832
  ·have e: (x:: post).any Yi=true:=by simp[Yi,c1]
   rw[e];simp[h2,h8,hlt,hgt,c1]
  ·by_cases c2:35184372088832 < x
   ·have e: (x:: post).any Yi=true:=by simp[Yi,c2]
    rw[e];simp[h2,h8,hlt,hgt,c1,c2]
   ·have e: (x:: post).any Yi=post.any Yi:=by simp[Yi,c1,c2]
    rw[e];generalize post.any Yi=X at *;simp[h2,h8,hlt,hgt,c1,c2,hw1];apply ih <;> simp[h2]
def QoU (d:Ded) (bs:Qa) (hc:d.c.length < 1000000) (ρ:Ql) (h2:ρ 2= .bx (QK d)):
  R tb f385r1 ρ bs (QP f385 bs)=some (.int .i64 (if fNB d then 7 else if d.c.any Yi then 7 else 0),bs):=by
 have h:=fun ρ=>QoT d bs hc d.c [] ρ rfl;unfold fNB;generalize d.c.any Yi=X at *;by_cases n1:d.n < 0
 ·simp[f385r1,h2,n1]
 ·by_cases n2:1000000 < d.n
  ·simp[f385r1,h2,n1,n2]
  ·by_cases n3:d.n=0
   ·simp[f385r1,h2,n3];apply h <;> simp[h2]
   ·by_cases n4:d.r=1
    ·simp[f385r1,h2,n1,n2,n3,n4];apply h <;> simp[h2]
    ·simp[f385r1,h2,n1,n2,n3,n4]
def QoS (d:Ded) (i:Int) (bs:Qa) (ha:d.a.length < 1000000) (hc:d.c.length < 1000000):
  ∀(post pre:QJ) (ρ:Ql),d.a=pre ++ post->ρ 1= .int .i64 i->ρ 2= .bx (QK d)->ρ 7= .int .i64 pre.length->
  R tb (.loop f385l0) ρ bs (Qq 0 (QH tb f385r1 (QP f385 bs)))=some (.int .i64 (if post.any (VD i)then 7 else if fNB d then 7 else if d.c.any Yi then 7 else 0),bs):=by
 intro post
 induction post with
 | nil=>
  intro pre ρ hk h1 h2 h7;simp only[QN]at hk;rw[<- hk]at h7;have h:=fun ρ h2=>QoU d bs hc ρ h2;rw[Qg f385l0.eq_1];simp[h1,h2,h7];rw[h] <;> simp[h2]
 | cons x post IH=>
  intro pre ρ hk h1 h2 h7;have hgt:=Qx hk;have hll:=QL hk;have hw1:=wr1 pre.length (by omega);have hlt:=QO hk;have ih:=fun ρ=>IH (pre ++ [x]) ρ (by rw[hk];simp);rw[Qg f385l0.eq_1];by_cases c1:x < 0
  ·have e: (x:: post).any (VD i)=true:=by simp[VD,c1]
   rw[e];simp[h1,h2,h7,hlt,hgt,c1]
  ·by_cases c2:i<=x
   ·have e: (x:: post).any (VD i)=true:=by simp[VD,c2]
    rw[e];simp[h1,h2,h7,hlt,hgt,c1,c2]
   ·have e: (x:: post).any (VD i)=post.any (VD i):=by simp[VD,c1,c2]
    rw[e];generalize post.any (VD i)=X at *;generalize d.c.any Yi=Y at *;simp[h1,h2,h7,hlt,hgt,c1,c2,hw1];apply ih <;> simp[h1,h2]
def Hi (r:Int):XP r=[]↔rOk r=false:=by
 cases h:rOk r
 ·simp[XP,h]
 ·rcases Ru h with rfl | rfl | rfl | rfl | rfl | rfl | rfl | rfl | rfl | rfl | rfl | rfl | rfl | rfl | rfl | rfl <;> simp[XP,rOk,JJ]
def QhI (d:Ded) (i:Int) (bs:Qa) (ha:d.a.length < 1000000) (hc:d.c.length < 1000000):call tb 385 [.agg (QK d),.int .i64 i] bs=some (.int .i64 (Td d i),bs):=by
 have c386:=QhJ d.r bs;have c387:=QhK d bs ha;have h:=fun ρ=>QoS d i bs ha hc d.a [] ρ rfl;rw[zcc 385 rfl rfl];unfold Td f6B;cases h1:rOk d.r
 ·have ew:=(Hi d.r).2 h1;rw[ew]at c386;simp[f385C,c386]
 ·have ew: ¬XP d.r=[]:=fun e=>by rw[(Hi d.r).1 e]at h1;cases h1
  have ewe: (XP d.r).isEmpty=false:=by
   cases h:XP d.r with
   | nil=>exact absurd h ew
   | cons a b=>rfl
  generalize XP d.r=w at *;generalize d.a.any (VD i)=A at *;generalize d.c.any Yi=C at *;have lz: (d.a.length:Int)=0↔d.a.length=0:=by omega
  by_cases c1:0<=Xg d.r
  ·have c3: ¬Xg d.r= -2:=by omega
   by_cases c2: (d.a.length:Int)=Xg d.r
   ·by_cases c5: (d.c.length:Int)=So d
    ·simp[f385C,c386,c387,ewe,c1,c2,c3,c5];apply h <;> simp
    ·simp[f385C,c386,c387,ewe,c1,c2,c3,c5]
   ·simp[f385C,c386,c387,ewe,c1,c2,c3]
  ·by_cases c3:Xg d.r= -2
   ·by_cases c4:d.a.length=0
    ·simp[f385C,c386,c387,ewe,c1,c3,c4,lz]
    ·by_cases c5: (d.c.length:Int)=So d
     ·simp[f385C,c386,c387,ewe,c1,c3,c4,lz,c5];apply h <;> simp
     ·simp[f385C,c386,c387,ewe,c1,c3,c4,lz,c5]
   ·by_cases c5: (d.c.length:Int)=So d
    ·simp[f385C,c386,c387,ewe,c1,c3,c5];apply h <;> simp
    ·simp[f385C,c386,c387,ewe,c1,c3,c5]
def Ln (t:Tm) (n:Qu) (ks:Qe) (o:Bool) (bs:Qa) (ht:t.mass < big) (hk: (Tm.mk 3 n 0 ks).mass < big) (hl:ks.length < 1000000):
  call tb 389 [.agg (Qf t),.str n,.sl o 4 (Qb ks)] bs=some (.bool (decide (Qp t (.mk 3 n 0 ks)=0)),bs):=by
 have h1:=fun o=>Uy n ks o bs (by omega);have h2:=Y3 t (.mk 3 n 0 ks) bs ht hk;rw[zcc 389 rfl rfl];simp[f389C,h1,h2]
def J6 (t:Tm) (n:Qu) (i:Nat) (u:Tm) (bs:Qa) (hm:t.mass < big) (hu:u.mass < big) (hi:i < 10):
  call tb 337 [.agg (Qf t),.str n,.int .i64 i,.agg (Qf u)] bs=some (.bool (WJ t n i u),bs):=by
 have h1:=Py t n bs;have e1:=Zr t;rw[zcc 337 rfl rfl];unfold WJ;cases c:isN t n
 ·have c':isB t n=_:=c;rw[c']at h1;simp only[e1]at h1 ⊢;simp[f337C,h1]
 ·have c':isB t n=_:=c;rw[c']at h1;simp only[e1]at h1 ⊢;by_cases hil:i < t.kids.length
  ·have hil': (i:Int) < (t.kids.length:Int):=by omega
   have hk:t.kids[i]? =some t.kids[i]:=Zv hil;have hkm:t.kids[i].mass < big:=NC hm (Pk _);have h2:=Y3 t.kids[i] u bs hkm hu;rw[hk];generalize t.kids[i]=k at *;simp[-getElem?_pos,Zf,Zt,ZI,f337C,h1,h2,e1,hk,hil']
  ·have hil': ¬(i:Int) < (t.kids.length:Int):=by omega
   have hk:t.kids[i]? =none:=Q3 (by omega);rw[hk];simp[-getElem?_pos,Zf,Zt,ZI,f337C,h1,e1,hil']
def ZA (l:List Qj):Qa:=l.map fun g=>[AV.sl false 5 (QE g)]
@[simp] def QoK (l:List Qj): (ZA l).length=l.length:=by simp[ZA]
@[simp] def QoJ (l:List Qj) (i:Nat): (ZA l)[i]? =(l[i]?).map fun g=>[AV.sl false 5 (QE g)]:=by simp[ZA]
@[simp] def QcS: ∀l:List Qj,Zw (ZA l)=true
 | []=>rfl
 | p:: l=>by
  have:=QcS l;simp only[ZA]at this ⊢;simp[Zw,QY,AV.gpfree,this]
def Ji (a b:List Qj):ZA a ++ ZA b=ZA (a ++ b):=by simp[ZA]
def RG (g:Qj): [[AV.sl false 5 (QE g)]]=ZA [g]:=rfl
def Vn (g:Qj):Bool:=decide (ZY g≠0)
def SmP (g:Qj):Prop:=g.length < 1000000/\∀q∈g,q.1.mass < 1000000
def SmP.big {g:Qj} (h:SmP g): ∀q∈g,q.1.mass < big:=fun q hq=>by have:=h.2 q hq;unfold Go.Am.big;omega
def QhD (g:Qj) (o:Bool) (bs:Qa) (h:SmP g):call tb 369 [.sl o 5 (QE g)] bs=some (.bool (Vn g),bs):=by
 have h1:=fun o=>OO g o bs (by have:=h.1;omega) h.big;rw[zcc 369 rfl rfl];simp[f369C,h1,Vn]
def Qfr (l:List Qj) (bs:Qa) (hc: ∀g∈l,SmP g) (hl:l.length < 1000000):
  ∀(post pre:List Qj) (o:Bool) (ρ:Ql),l=pre ++ post->pre.any Vn=false->ρ 0= .sl o 1 (ZA l)->ρ 1= .fn 369 []->ρ 7= .int .i64 l.length->ρ 8= .int .i64 pre.length->
  N5 (l.any Vn) bs (R tb (.loop f371l0) ρ bs (Qq 0 (QH tb f371r0 (QP f371 bs)))):=by
 intro post
 induction post with
 | nil=>
  intro pre o ρ hk hp h0 h1 h7 h8;simp only[QN]at hk;rw[<- hk]at h8 hp;rw[Qg f371l0.eq_1];refine⟨-1,?_,by rw[hp];simp⟩;simp[h0,h1,h7,h8,f371r0]
 | cons x post IH=>
  intro pre o ρ hk hp h0 h1 h7 h8;have hgt:=Qx hk;have hll:=QL hk;have hw1:=wr1 pre.length (by omega);have hlt:=QO hk;have hcall:=QhD x false bs (hc x (by rw[hk];simp));have ih:=fun ρ hpp=>IH (pre ++ [x]) o ρ (by rw[hk];simp) hpp;rw[Qg f371l0.eq_1];cases ho:Vn x
  ·rw[ho]at hcall;have ih2:=fun ρ=>ih ρ (by rw[Pn,hp];simp[ho]);simp[h0,h1,h7,h8,hlt,hgt,hw1,hcall,-List.any_eq_false,-List.any_eq_true];apply ih2 <;> simp[h0,h1,h7]
  ·rw[ho]at hcall;have hany:l.any Vn=true:=Rn.2 ⟨x,by rw[hk];simp,ho⟩;refine⟨pre.length,?_,by rw[hany];simp⟩;simp[h0,h1,h7,h8,hlt,hgt,hcall]
def QhE (l:List Qj) (o:Bool) (bs:Qa) (hc: ∀g∈l,SmP g) (hl:l.length < 1000000):
  call tb 370 [.sl o 1 (ZA l),.fn 369 []] bs=some (.bool (l.any Vn),bs):=by
 have h1:=fun ρ=>Qfr l bs hc hl l [] false ρ rfl rfl;have h2:N5 (l.any Vn) bs (call tb 371 [.sl false 1 (ZA l),.fn 369 []] bs):=by
  rw[zcc 371 rfl rfl];simp[f371C,-List.any_eq_false,-List.any_eq_true];apply h1 <;> simp
 obtain⟨i,hi,hb⟩:=h2;rw[zcc 370 rfl rfl];simp[f370C,hi,-List.any_eq_false,-List.any_eq_true];cases hx:l.any Vn
 ·rw[hx]at hb;simp at hb;simpa using hb
 ·rw[hx]at hb;simp at hb;simpa using hb
def Qgc {l:Qe} {t:Tm} {B:Qa} (hl:l.length < 100000000) (hm: ∀p∈l,p.mass < big) (ht:t.mass < big) (ha:Asc l) {n:Nat} (hn:l[n]? =some t):
  ∀(d i j:Nat) (o:Bool) (ρ:Ql),j - i<=d->i<=n->n<=j->j<=l.length->
  ρ 0= .sl o 4 (Qb l)->ρ 4= .bx (Qf t)->ρ 2= .fn 30 []->ρ 8= .int .i64 l.length->ρ 9= .int .i64 i->ρ 10= .int .i64 j->
  R tb (.loop f378l0) ρ B (Qq 0 (QH tb f378r0 (QP f378 B)))=some (.tup [.int .i64 n,.bool true],B):=by
 have hnl:n < l.length:=(V4.1 hn).1;have ord: ∀(i j:Nat) (p q:Tm),l[i]? =some p->l[j]? =some q->i < j->Qp p q < 0:=by
  intro i j p q hp hq hij;obtain⟨h1,rfl⟩:=V4.1 hp;obtain⟨h2,rfl⟩:=V4.1 hq;exact KD.1 ha i j h1 h2 hij
 have base: ∀(o:Bool) (ρ:Ql),ρ 0= .sl o 4 (Qb l)->ρ 4= .bx (Qf t)->ρ 2= .fn 30 []->ρ 8= .int .i64 l.length->ρ 9= .int .i64 n->ρ 10= .int .i64 n->
   R tb (.loop f378l0) ρ B (Qq 0 (QH tb f378r0 (QP f378 B)))=some (.tup [.int .i64 n,.bool true],B):=by
  intro o ρ h0 h4 h2 h8 h9 h10;have c1: (n:Int) < (l.length:Int):=by omega
  have h3:=call_Compare t t B ht ht;have e0:Qp t t=0:=(XR).2 rfl;rw[e0]at h3;rw[Qg f378l0.eq_1];simp[-getElem?_pos,f378r0,h0,h2,h4,h8,h9,h10,c1,hn,h3]
 intro d
 induction d with
 | zero=>
  intro i j o ρ hd hin hnj hj h0 h4 h2 h8 h9 h10;have e1:i=n:=by omega
  have e2:j=n:=by omega
  subst e1 e2;exact base o ρ h0 h4 h2 h8 h9 h10
 | succ d IH=>
  intro i j o ρ hd hin hnj hj h0 h4 h2 h8 h9 h10;by_cases hlt:i < j
  ·have hmn: (i+j) / 2 < l.length:=by omega
   have hw:=Qdc (i:=i) (j:=j) (by omega);have hp:=Zv hmn;have hmp:=hm _ (Pk hmn);have hltI: (i:Int) < (j:Int):=by omega
   have hb1:i<=(i+j) / 2:=by omega
   have hb2: (i+j) / 2 < j:=by omega
   generalize l[(i+j) / 2]=p at *;generalize hmm: (i+j) / 2=m at *;have h3:=call_Compare p t B hmp ht;have hw1:IntKind.i64.wrap ((m:Int)+1)=((m+1:Nat):Int):=by rw[Zb (by omega) (by omega)];omega
   rw[Qg f378l0.eq_1];by_cases cc1:Qp p t < 0
   ·have hmn2:m+1<=n:=by
     rcases FP m n with h | h | h
     ·omega
     ·subst h;rw[hp]at hn;injection hn with hn;subst hn
      have:Qp p p=0:=(XR).2 rfl;omega
     ·exact absurd (Xw cc1 (ord n m t p hn hp h)) (by have:Qp p p=0:=(XR).2 rfl;omega)
    have ih:=fun o ρ=>IH (m+1) j o ρ (by omega) hmn2 hnj hj;simp[-getElem?_pos,h0,h2,h4,h8,h9,h10,hltI,hw,hw1,hp,h3,cc1];refine ih o _ ?_ ?_ ?_ ?_ ?_ ?_ <;> simp[h0,h2,h4,h8,h10]
   ·have hmn2:n<=m:=by
     rcases QR m n with h | h
     ·exact absurd (ord m n p t hp hn h) cc1
     ·exact h
    have ih:=fun o ρ=>IH i m o ρ (by omega) hin hmn2 (by omega);simp[-getElem?_pos,h0,h2,h4,h8,h9,h10,hltI,hw,hw1,hp,h3,cc1];refine ih o _ ?_ ?_ ?_ ?_ ?_ ?_ <;> simp[h0,h2,h4,h8,h9]
  ·have e1:i=n:=by omega
   have e2:j=n:=by omega
   subst e1 e2;exact base o ρ h0 h4 h2 h8 h9 h10
def C5 {l:Qe} {t:Tm} {B:Qa} (o:Bool) (hl:l.length < 100000000) (hm: ∀p∈l,p.mass < big) (ht:t.mass < big) (ha:Asc l) {n:Nat} (hn:l[n]? =some t):
  call tb 378 [.sl o 4 (Qb l),.agg (Qf t),.fn 30 []] B=some (.tup [.int .i64 n,.bool true],B):=by
 have hnl:n < l.length:=(V4.1 hn).1;have h:=fun ρ=>Qgc (B:=B) hl hm ht ha hn l.length 0 l.length false ρ (by omega) (by omega) (by omega) (by omega);rw[zcc 378 rfl rfl];simp[-getElem?_pos,f378C];refine h _ ?_ ?_ ?_ ?_ ?_ ?_ <;> simp
def VA (l:List Qj):Qe:=(l.map ZU).flatten
def Xo (l:List Qj):Qe:=Vf (VA l)
def Mz (g:Qj) (a:List Qj):VA (g:: a)=ZU g ++ VA a:=by simp[VA]
def Qfu {l:List Qj} {g:Qj} {q:Pw} (hg:g∈l) (hq:q∈g):q.1∈VA l:=by
 simp only[VA,FR,W8];exact⟨ZU g,⟨g,hg,rfl⟩,W8.2 ⟨q,hq,rfl⟩⟩
def Qew {l:List Qj} {t:Tm} (h:t∈VA l): ∃g∈l,∃q∈g,q.1=t:=by
 simp only[VA,FR,W8]at h;obtain⟨ks,⟨g,hg,rfl⟩,ht⟩:=h;obtain⟨q,hq,rfl⟩:=W8.1 ht;exact⟨g,hg,q,hq,rfl⟩
def QhG (x y:Tm) (bs:Qa) (hx:x.mass < big) (hy:y.mass < big):call tb 375 [.agg (Qf x),.agg (Qf y)] bs=some (.bool (decide (Qp x y=0)),bs):=by
 have h:=call_Compare x y bs hx hy;rw[zcc 375 rfl rfl];simp[f375C,h]
def QmZ:EqF 375:=fun x y bs hx hy=>QhG x y bs hx hy
def Qos {B0 B:Qa} {v:AV} {l:Qe} (h:TS B0 B v l) (hl:l.length < 1000000) (hm: ∀x∈l,x.mass < 1000000) (ρ:Ql) (h3:ρ 3=v):
  R tb f373r1 ρ B (QP f373 B0)=some (.sl true 4 (Qb (Vf l)),B0):=by
 obtain⟨M,id,sz,rfl,rfl,hc⟩:=h;have hg:=XT (Vf l);rcases hc with⟨rfl,rfl,rfl⟩ | ⟨rfl,hid,hne,hb⟩
 ·have hs:call tb 170 [.gs 0 0 0 0,.fn 30 []] (B0 ++ M)=some (.tup [],B0 ++ M):=by rw[Wx tb_170];simp[NN]
  have hc:=QeF 375 (B0 ++ M);have e:Vf []=([]:Qe):=rfl;simp[f373r1,h3,hs,hc,Qb,e,Yy]
 ·have hmb: ∀x∈l,x.mass < big:=fun x hx=>by have:=hm x hx;unfold big;omega
  have hs:=IC l (B0 ++ M) id hb (by omega) hmb;have hB:=WQ hb;have hS: ((B0 ++ M).set id (Qy (Y6 l)))[id]? =some (Qy (Y6 l)):=by rw[Y8,Qn rfl,Qn hB]
  have hsne:Y6 l≠[]:=by
   intro e;obtain⟨x,hx⟩:=QcA l hne;have:=(Rt (l:=l)).2 hx;rw[e]at this;simp at this
  have hc:=QhN 375 QmZ (Y6 l) ((B0 ++ M).set id (Qy (Y6 l))) id hS hsne (by rw[U4];omega) fun x hx=>hmb x (Rt.1 hx);rw[LD,U4]at hc;unfold Ll at hc;rw[OM]at hc;simp only[Wj hid]at hs hc;simp[-getElem?_pos,f373r1,h3,hs,hc,hg,Yy]
def Qoq (g:Qj) (B0:Qa) (hg:SmP g) (c:AC) (K:Kn) (X:Out):
  ∀(post pre:Qj) (acc:Qe) (B:Qa) (v:AV) (o:Bool) (ρ:Ql),g=pre ++ post->TS B0 B v acc->acc.length+post.length < 500000->
   ρ 3=v->ρ 14= .sl o 5 (QE g)->ρ 15= .int .i64 g.length->ρ 16= .int .i64 pre.length->
   (∀(ρ':Ql) (v':AV) (B':Qa),TS B0 B' v' (acc ++ ZU post)->ρ' 3=v'->ρ' 8=ρ 8->ρ' 9=ρ 9->ρ' 10=ρ 10->R tb c ρ' B' K=X)->
  R tb (.loop f373l0) ρ B (Qq 2 (Qq 1 (QH tb c K)))=X:=by
 intro post
 induction post with
 | nil=>
  intro pre acc B v o ρ hk hts hal h3 h14 h15 h16 H;simp only[QN]at hk;rw[<- hk]at h16;obtain⟨id,sz,rfl⟩:=HS hts;rw[Qg f373l0.eq_1];simp[h3,h14,h15,h16];refine H _ _ _ (by simpa[ZU]using hts) ?_ ?_ ?_ ?_ <;> simp[h3]
 | cons q post IH=>
  intro pre acc B v o ρ hk hts hal h3 h14 h15 h16 H;have hgt:=Qx hk;have hll:=QL hk;have hw1:IntKind.i64.wrap ((pre.length:Int)+1)=(pre.length:Int)+1:=Zb (by have:=hg.1;omega) (by have:=hg.1;omega);have hlt:=QO hk;simp only[ZL]at hal;obtain⟨v2,B2,q1,q2,q3⟩:=QjE q.1 false hts (by omega);have ih:=fun ρ=>IH (pre ++ [q]) (acc ++ [q.1]) B2 v2 o ρ (by rw[hk];simp) q2 (by simp;omega);obtain⟨id,sz,rfl⟩:=HS hts;obtain⟨id2,sz2,rfl⟩:=HS q2;rw[Qg f373l0.eq_1];simp[-List.append_assoc,h3,h14,h15,h16,hlt,hgt,hw1,q1];refine ih _ ?_ ?_ ?_ ?_ ?_
  ·simp
  ·simp[h14]
  ·simp[h15]
  ·simp
  ·intro ρ' v' B' g1 g3 g8 g9 g10;refine H ρ' v' B' (by simpa[ZU]using g1) g3 ?_ ?_ ?_
   ·rw[g8];simp
   ·rw[g9];simp
   ·rw[g10];simp
def Qor (l:List Qj) (B0:Qa) (hl:l.length < 1000) (hs: ∀g∈l,SmP g/\g.length<=200):
  ∀(post pre:List Qj) (acc:Qe) (B:Qa) (v:AV) (o:Bool) (ρ:Ql),l=pre ++ post->TS B0 B v acc->acc.length+200*post.length<=200*l.length->(∀x∈acc,x.mass < 1000000)->
   ρ 3=v->ρ 8= .sl o 1 (ZA l)->ρ 9= .int .i64 l.length->ρ 10= .int .i64 pre.length->
  R tb (.loop f373l1) ρ B (Qq 0 (QH tb f373r1 (QP f373 B0)))=some (.sl true 4 (Qb (Vf (acc ++ VA post))),B0):=by
 intro post
 induction post with
 | nil=>
  intro pre acc B v o ρ hk hts hal ham h3 h8 h9 h10;simp only[QN]at hk;rw[<- hk]at h10;have h:=fun ρ h3=>Qos hts (by simp at hal;omega) ham ρ h3;have e:acc ++ VA []=acc:=by simp[VA]
  rw[Qg f373l1.eq_1,e];simp[h3,h8,h9,h10];apply h;simp[h3]
 | cons g post IH=>
  intro pre acc B v o ρ hk hts hal ham h3 h8 h9 h10;have hgt:=Qx hk;have hll:=QL hk;have hw1:=wr1 pre.length (by omega);have hlt:=QO hk;obtain⟨hsg,hg2⟩:=hs g (by rw[hk];simp);simp only[ZL]at hal;have hpl: (ZU g).length=g.length:=by simp[ZU]
  have ih:=fun B v ρ hts=>IH (pre ++ [g]) (acc ++ ZU g) B v o ρ (by rw[hk];simp) hts (by rw[Zo,hpl];omega) (fun x hx=>by
   rcases Wc.1 hx with hx | hx
   ·exact ham x hx
   ·obtain⟨q,hq,rfl⟩:=W8.1 hx;exact hsg.2 q hq)
  have e:acc ++ VA (g:: post)=(acc ++ ZU g)++ VA post:=by rw[Mz,ZR]
  have h:=fun o ρ c K X=>Qoq g B0 hsg c K X g [] acc B v o ρ rfl hts (by omega);rw[e,Qg f373l1.eq_1];simp[-List.append_assoc,h3,h8,h9,h10,hlt,hgt];refine h false _ _ _ _ ?_ ?_ ?_ ?_ ?_
  ·simp[h3]
  ·simp
  ·simp
  ·simp
  ·intro ρ' v' B' g1 g3 g8 g9 g10;obtain⟨id2,sz2,rfl⟩:=HS g1;simp[-List.append_assoc,f373r0,g10,h10,hw1];refine ih B' _ _ g1 ?_ ?_ ?_ ?_
   ·simp[g3]
   ·simp[g8,h8]
   ·simp[g9,h9]
   ·simp
def QhF (l:List Qj) (o:Bool) (B0:Qa) (hl:l.length < 1000) (hs: ∀g∈l,SmP g/\g.length<=200):
  call tb 373 [.sl o 1 (ZA l)] B0=some (.sl true 4 (Qb (Xo l)),B0):=by
 have h:=fun o ρ=>Qor l B0 hl hs l [] [] B0 (.gs 0 0 0 0) o ρ rfl (QnT B0) (by simp) (by simp);rw[zcc 373 rfl rfl];simp only[X3]at h;unfold Xo;generalize Qb (Vf (VA l))=E1 at *;simp[f373C];refine h false _ ?_ ?_ ?_ ?_ <;> simp
def pwT:Qj->Tm->Int
 | [],_=>0
 | q:: g,t=>if Qp q.1 t=0 then q.2 else pwT g t
def Qdy: ∀{g:Qj} {q:Pw} {t:Tm},Qp q.1 t≠0->pwT (g ++ [q]) t=pwT g t
 | [],q,t,h=>by simp[pwT,h]
 | p:: g,q,t,h=>by simp only[WV,pwT,Qdy h]
def Qdx: ∀{g:Qj} {q:Pw},(∀p∈g,Qp p.1 q.1≠0)->pwT (g ++ [q]) q.1=q.2
 | [],q,_=>by simp[pwT,XR.2 rfl]
 | p:: g,q,h=>by
  have h1:=h p (by simp);have h2:=Qdx (g:=g) (q:=q) fun x hx=>h x (by simp[hx]);simp only[WV,pwT,Qm h1,h2]
def Q2 (l:QJ):Qh:=l.map fun i=>AV.int .i64 i
@[simp] def TO (l:QJ): (Q2 l).length=l.length:=by simp[Q2]
@[simp] def Dw (l:QJ) (i:Nat): (Q2 l)[i]? =(l[i]?).map fun i=>AV.int .i64 i:=by simp[Q2]
@[simp] def Qpa (l:QJ): (Q2 l).map AV.strip=Q2 l:=by
 simp only[Q2,Mw];exact Pi fun i _=>rfl
def Kp (l:QJ) {n:Nat} (v:Int) (h:n < l.length): (Q2 l).take n ++ AV.int .i64 v:: (Q2 l).drop (n+1)=Q2 (l.set n v):=by
 rw[List.set_eq_take_append_cons_drop,Qn h];simp[Q2]
def QdC (l:QJ):Q2 l=YG (fun i:Int=>[AV.int .i64 i]) l:=by
 induction l with
 | nil=>rfl
 | cons a l ih=>
  rw[TQ,<- ih];rfl
def Cu (l:QJ):ZX (Q2 l) 0 1 l.length=Q7 l:=by
 have h:=Wh (f:=fun i:Int=>[AV.int .i64 i]) (k:=1) (fun _=>rfl) (fun _=>rfl) l [];rw[QN,<- QdC]at h;exact h
def Dx (n:Nat) (l:Qe) (h:l.length=n):List.replicate n (AV.int .i64 0)=Q2 (l.map (pwT [])):=by
 subst h;simp only[Q2,Mw]
 induction l with
 | nil=>rfl
 | cons a l ih=>simp only[ZL,OG,Yf,ih];rfl
def BI {cols:Qe} {pre:Qj} {q:Pw} {n:Nat} (ha:Asc cols) (hn:cols[n]? =some q.1) (hp: ∀p∈pre,Qp p.1 q.1≠0):
  (cols.map (pwT pre)).set n q.2=cols.map (pwT (pre ++ [q])):=by
 apply UQ;intro i;rw[Y8,Wb,Wb];have hnl:n < cols.length:=(V4.1 hn).1;by_cases c:n=i
 ·subst c;rw[Qn rfl,Qn (by simpa using hnl),hn];simp[Qdx hp]
 ·rw[Qm c];cases hi:cols[i]? with
  | none=>rfl
  | some t=>
   have hne:Qp q.1 t≠0:=by
    intro e;have e2:=(XR).1 e;obtain⟨h1,rfl⟩:=V4.1 hi;obtain⟨h2,e3⟩:=V4.1 hn;rw[<- e3]at e2;rcases QR n i with h | h
    ·have:=KD.1 ha n i h2 h1 h;rw[e2,XR.2 rfl]at this;omega
    ·have:=KD.1 ha i n h1 h2 (by omega);rw[e2,XR.2 rfl]at this;omega
   simp[Qdy hne]
def QcH {pre post:Qj} {q:Pw} (h:Asc (ZU (pre ++ q:: post))): ∀p∈pre,Qp p.1 q.1≠0:=by
 intro p hp;simp only[ZU,UI,Yf]at h;have:=(List.pairwise_append.1 h).2.2 p.1 (W8.2 ⟨p,hp,rfl⟩) q.1 (by simp);omega
def Qmw (l:QJ) (bs:Qa) (r:Out):Prop:=∃o,r=some (.sl o 1 (Q7 l),bs)
def KJ:=@List.set_append_right
def Qo2 (cols:Qe) (g:Qj) (B0:Qa) (hcl:cols.length < 1000000) (hcm: ∀t∈cols,t.mass < 1000000) (ha:Asc cols) (hg:SmP g) (hga:Asc (ZU g)) (hin: ∀q∈g,q.1∈cols):
  ∀(post pre:Qj) (o o2:Bool) (ρ:Ql),g=pre ++ post->ρ 0= .sl o 4 (Qb cols)->ρ 5= .gs B0.length 0 1 cols.length->ρ 13= .sl o2 5 (QE g)->ρ 14= .int .i64 g.length->ρ 15= .int .i64 pre.length->
  Qmw (cols.map (pwT g)) B0 (R tb (.loop f377l0) ρ (B0 ++ [Q2 (cols.map (pwT pre))]) (Qq 0 (QH tb f377r0 (QP f377 B0)))):=by
 intro post
 induction post with
 | nil=>
  intro pre o o2 ρ hk h0 h5 h13 h14 h15;simp only[QN]at hk;subst hk;have hch:=Cu (cols.map (pwT g));rw[Vv]at hch;by_cases c:cols.length=0
  ·have:cols=[]:=YE c;subst this;refine⟨false,?_⟩;rw[Qg f377l0.eq_1];simp at h5;simp[h0,h5,h13,h14,h15,f377r0,Yk,Q7]
  ·refine⟨true,?_⟩;have hgp:=OS (cols.map (pwT g));have hB: (B0 ++ [Q2 (cols.map (pwT g))])[B0.length]? =some (Q2 (cols.map (pwT g))):=YZ;have hrl: (Q2 (cols.map (pwT g))).length=cols.length:=by simp
   generalize Q2 (cols.map (pwT g))=RR at *;generalize Q7 (cols.map (pwT g))=EE at *;rw[Qg f377l0.eq_1];simp[-getElem?_pos,h0,h5,h13,h14,h15,f377r0,Yk,c,hB,hrl,hch,hgp]
 | cons q post IH=>
  intro pre o o2 ρ hk h0 h5 h13 h14 h15;have hgt:=Qx hk;have hll:=QL hk;have hgl:=hg.1;have hw1:=wr1 pre.length (by omega);have hlt:=QO hk;have hq:q∈g:=by rw[hk];simp
  obtain⟨n,hn⟩:=Sk (hin q hq);have hnl:n < cols.length:=(V4.1 hn).1;have hbs:=fun o B=>C5 (l:=cols) (t:=q.1) (B:=B) o (by omega) (fun p hp=>by have:=hcm p hp;unfold big;omega) (hg.big q hq) ha hn;have hst:=BI ha hn (QcH (by rw[<- hk];exact hga));have hput:=Kp (cols.map (pwT pre)) q.2 (n:=n) (by simpa using hnl);rw[hst]at hput;have hB: (B0 ++ [Q2 (cols.map (pwT pre))])[B0.length]? =some (Q2 (cols.map (pwT pre))):=YZ;have hrl: (Q2 (cols.map (pwT pre))).length=cols.length:=by simp
  have hset: ∀x,(B0 ++ [Q2 (cols.map (pwT pre))]).set B0.length x=B0 ++ [x]:=fun x=>by rw[KJ _ _ (ZJ _)];simp
  have ih:=fun ρ=>IH (pre ++ [q]) o o2 ρ (by rw[hk];simp);generalize Q2 (cols.map (pwT pre))=RR at *;generalize Q2 (cols.map (pwT (pre ++ [q])))=R2 at *;have hn1:n+1<=cols.length:=hnl;have hnI: (n:Int) < (cols.length:Int):=by omega
  rw[Qg f377l0.eq_1];simp[-getElem?_pos,Zf,Zt,ZI,h0,h5,h13,h14,h15,hlt,hgt,hw1,hbs,hnl,hn1,hnI,hB,hrl,hput,hset];apply ih <;> simp[h0,h5,h13,h14]
def QhH (cols:Qe) (g:Qj) (o o2:Bool) (B0:Qa) (hcl:cols.length < 1000000) (hcm: ∀t∈cols,t.mass < 1000000) (ha:Asc cols) (hg:SmP g) (hga:Asc (ZU g)) (hin: ∀q∈g,q.1∈cols):
  Qmw (cols.map (pwT g)) B0 (call tb 377 [.sl o 4 (Qb cols),.sl o2 5 (QE g)] B0):=by
 have h:=fun ρ=>Qo2 cols g B0 hcl hcm ha hg hga hin g [] false false ρ rfl;have hr:=Dx cols.length cols rfl;have e8:cols.length*8<=140737488355328:=by omega
 have e4: (cols.length:Int)<=4611686018427387904:=by omega
 rw[zcc 377 rfl rfl];rw[<- hr]at h;generalize cols.map (pwT g)=EE at *;simp[f377C,e8,e4];apply h <;> simp
def QnK (cols:Qe) (g:Qj) (B0:Qa) (hcl:cols.length < 1000000) (hcm: ∀t∈cols,t.mass < 1000000) (ha:Asc cols) (hg:SmP g) (hga:Asc (ZU g)) (hin: ∀q∈g,q.1∈cols):
  ∀(post pre:Qj) (o o2:Bool) (ρ:Ql),g=pre ++ post->ρ 0= .sl o 4 (Qb cols)->ρ 5= .gs B0.length 0 1 cols.length->ρ 13= .sl o2 5 (QE g)->ρ 14= .int .i64 g.length->ρ 15= .int .i64 pre.length->
  R tb (.loop f563l0) ρ (B0 ++ [Q2 (cols.map (pwT pre))]) (Qq 0 (QH tb f563r0 (QP f563 B0)))=some (.gs B0.length 0 1 cols.length,B0 ++ [Q2 (cols.map (pwT g))]):=by
 intro post
 induction post with
 | nil=>
  intro pre o o2 ρ hk h0 h5 h13 h14 h15;simp only[QN]at hk;subst hk;rw[Qg f563l0.eq_1];simp[h0,h5,h13,h14,h15,f563r0]
 | cons q post IH=>
  intro pre o o2 ρ hk h0 h5 h13 h14 h15;have hgt:=Qx hk;have hll:=QL hk;have hgl:=hg.1;have hw1:=wr1 pre.length (by omega);have hlt:=QO hk;have hq:q∈g:=by rw[hk];simp
  obtain⟨n,hn⟩:=Sk (hin q hq);have hnl:n < cols.length:=(V4.1 hn).1;have hbs:=fun o B=>C5 (l:=cols) (t:=q.1) (B:=B) o (by omega) (fun p hp=>by have:=hcm p hp;unfold big;omega) (hg.big q hq) ha hn;have hst:=BI ha hn (QcH (by rw[<- hk];exact hga));have hput:=Kp (cols.map (pwT pre)) q.2 (n:=n) (by simpa using hnl);rw[hst]at hput;have hB: (B0 ++ [Q2 (cols.map (pwT pre))])[B0.length]? =some (Q2 (cols.map (pwT pre))):=YZ;have hrl: (Q2 (cols.map (pwT pre))).length=cols.length:=by simp
  have hset: ∀x,(B0 ++ [Q2 (cols.map (pwT pre))]).set B0.length x=B0 ++ [x]:=fun x=>by rw[KJ _ _ (ZJ _)];simp
  have ih:=fun ρ=>IH (pre ++ [q]) o o2 ρ (by rw[hk];simp);generalize Q2 (cols.map (pwT pre))=RR at *;generalize Q2 (cols.map (pwT (pre ++ [q])))=R2 at *;generalize Q2 (cols.map (pwT g))=R3 at *;have hn1:n+1<=cols.length:=hnl;have hnI: (n:Int) < (cols.length:Int):=by omega
  rw[Qg f563l0.eq_1];simp[-getElem?_pos,Zf,Zt,ZI,h0,h5,h13,h14,h15,hlt,hgt,hw1,hbs,hnl,hn1,hnI,hB,hrl,hput,hset];apply ih <;> simp[h0,h5,h13,h14]
def QhO (cols:Qe) (g:Qj) (o o2:Bool) (B0:Qa) (hcl:cols.length < 1000000) (hcm: ∀t∈cols,t.mass < 1000000) (ha:Asc cols) (hg:SmP g) (hga:Asc (ZU g)) (hin: ∀q∈g,q.1∈cols):
  call tb 563 [.sl o 4 (Qb cols),.sl o2 5 (QE g)] B0=some (.gs B0.length 0 1 cols.length,B0 ++ [Q2 (cols.map (pwT g))]):=by
 have h:=fun ρ=>QnK cols g B0 hcl hcm ha hg hga hin g [] false false ρ rfl;have hr:=Dx cols.length cols rfl;have e8:cols.length*8<=140737488355328:=by omega
 have e4: (cols.length:Int)<=4611686018427387904:=by omega
 rw[zcc 563 rfl rfl];rw[<- hr]at h;generalize Q2 (cols.map (pwT g))=EE at *;simp[f563C,e8,e4];apply h <;> simp
def nz (i:Int):Bool:= !decide (i=0)
def QhQ (i:Int) (bs:Qa):call tb 598 [.int .i64 i] bs=some (.bool (nz i),bs):=by
 rw[zcc 598 rfl rfl];unfold nz;by_cases h:i=0
 ·simp[f598C,h]
 ·simp[f598C,h]
def Qfs (l:QJ) (id:Nat) (B:Qa) (hB:B[id]? =some (Q2 l)) (hl:l.length < 1000000):
  ∀(post pre:QJ) (ρ:Ql),l=pre ++ post->pre.any nz=false->ρ 0= .gs id 0 1 l.length->ρ 1= .fn 598 []->ρ 7= .int .i64 l.length->ρ 8= .int .i64 pre.length->
  N5 (l.any nz) B (R tb (.loop f600l0) ρ B (Qq 0 (QH tb f600r0 (QP f600 B)))):=by
 intro post
 induction post with
 | nil=>
  intro pre ρ hk hp h0 h1 h7 h8;simp only[QN]at hk;rw[<- hk]at h8 hp;rw[Qg f600l0.eq_1];refine⟨-1,?_,by rw[hp];simp⟩;simp[h0,h1,h7,h8,f600r0]
 | cons x post IH=>
  intro pre ρ hk hp h0 h1 h7 h8;have hgt:=Qx hk;have hll:=QL hk;have hw1:=wr1 pre.length (by omega);have hlt:=QO hk;have hltN:pre.length < l.length:=by omega
  have hlt1:pre.length+1<=l.length:=by omega
  have hcall:=QhQ x B;have hrd: (Q2 l)[pre.length]? =some (.int .i64 x):=by rw[Dw,hgt];rfl
  have hrl:=TO l;have ih:=fun ρ hpp=>IH (pre ++ [x]) ρ (by rw[hk];simp) hpp;generalize Q2 l=RR at *;rw[Qg f600l0.eq_1];cases ho:nz x
  ·rw[ho]at hcall;have ih2:=fun ρ=>ih ρ (by rw[Pn,hp];simp[ho]);simp[-getElem?_pos,Zf,h0,h1,h7,h8,hlt,hltN,hlt1,hB,hrd,hrl,hw1,hcall,-List.any_eq_false,-List.any_eq_true];apply ih2 <;> simp[h0,h1,h7]
  ·rw[ho]at hcall;have hany:l.any nz=true:=Rn.2 ⟨x,by rw[hk];simp,ho⟩;refine⟨pre.length,?_,by rw[hany];simp⟩;simp[-getElem?_pos,Zf,h0,h1,h7,h8,hlt,hltN,hlt1,hB,hrd,hrl,hcall]
def QhR (l:QJ) (id:Nat) (B:Qa) (hB:B[id]? =some (Q2 l)) (hl:l.length < 1000000):
  call tb 599 [.gs id 0 1 l.length,.fn 598 []] B=some (.bool (l.any nz),B):=by
 have h1:=fun ρ=>Qfs l id B hB hl l [] ρ rfl rfl;have h2:N5 (l.any nz) B (call tb 600 [.gs id 0 1 l.length,.fn 598 []] B):=by
  rw[zcc 600 rfl rfl];simp[f600C,-List.any_eq_false,-List.any_eq_true];apply h1 <;> simp
 obtain⟨i,hi,hb⟩:=h2;rw[zcc 599 rfl rfl];simp[f599C,hi,-List.any_eq_false,-List.any_eq_true];cases hx:l.any nz
 ·rw[hx]at hb;simp at hb;simpa using hb
 ·rw[hx]at hb;simp at hb;simpa using hb
def Yc:QJ->List Qj->Tm->Int
 | c:: cs,g:: gs,t=>c*pwT g t+Yc cs gs t
 | _,_,_=>0
def MN: ∀{cs:QJ} {gs:List Qj} (c:Int) (g:Qj) (t:Tm),cs.length=gs.length->Yc (cs ++ [c]) (gs ++ [g]) t=Yc cs gs t+c*pwT g t
 | [],[],c,g,t,_=>by simp[Yc]
 | a:: cs,b:: gs,c,g,t,h=>by
  have:=MN (cs:=cs) (gs:=gs) c g t (by simpa using h);simp only[WV,Yc,this];omega
def Dg {c p:Int} (hc:c.natAbs<=35184372088832) (hp:p.natAbs<=1000): (c*p).natAbs<=35184372088832000:=by
 rw[Int.natAbs_mul];exact Uu (FW hc hp) (by decide)
def okG (g:Qj):Prop:=ZY g=0/\SmP g
def okG.asc {g:Qj} (h:okG g):Asc (ZU g):=(Ur h.1 h.2.big).1.asc
def okG.bd {g:Qj} (h:okG g): ∀q∈g,-1000<=q.2/\q.2<=1000:=fun q hq=>by
 have h1:=h.1;unfold ZY at h1;split at h1
 ·cases h1
 ·exact⟨((JR g none h1).1 q hq).2.2.2.1,((JR g none h1).1 q hq).2.2.2.2⟩
def okG.len {g:Qj} (h:okG g):g.length<=200:=(Ur h.1 h.2.big).2.1
def JF: ∀{g:Qj} {t:Tm},(∀q∈g,-1000<=q.2/\q.2<=1000)->(pwT g t).natAbs<=1000
 | [],t,_=>by simp[pwT]
 | q:: g,t,h=>by
  have h1:=h q (by simp);have h2:=JF (g:=g) (t:=t) fun x hx=>h x (by simp[hx]);simp only[pwT];split
  ·omega
  ·exact h2
def Im {c:Int} (h:Yi c=false):c.natAbs<=35184372088832:=by
 simp[Yi]at h;omega
def EH: ∀{cs:QJ} {gs:List Qj} {t:Tm},(∀c∈cs,Yi c=false)->(∀g∈gs,okG g)->(Yc cs gs t).natAbs<=gs.length*35184372088832000
 | [],gs,t,_,_=>by cases gs <;> simp[Yc]
 | c:: cs,[],t,_,_=>by simp[Yc]
 | c:: cs,g:: gs,t,h1,h2=>by
  have a:=EH (cs:=cs) (gs:=gs) (t:=t) (fun x hx=>h1 x (by simp[hx])) (fun x hx=>h2 x (by simp[hx]));have b:=Dg (Im (h1 c (by simp))) (JF (t:=t) (h2 g (by simp)).bd);simp only[Yc,ZL,Vw];omega
def Qoo (cols:Qe) (g:Qj) (ci:Int) (cs:QJ) (i:Nat) (B0:Qa) (f:Tm->Int) (hcl:cols.length < 1000000) (hc:cs[i]? =some ci) (hm: ∀t,IntKind.i64.wrap (ci*pwT g t)=ci*pwT g t) (hs: ∀t,IntKind.i64.wrap (f t - ci*pwT g t)=f t - ci*pwT g t) (c:AC) (K:Kn) (X:Out):
  ∀(post pre:Qe) (o o2:Bool) (ρ:Ql),cols=pre ++ post->ρ 2= .sl o 1 (Q7 cs)->ρ 8= .gs B0.length 0 1 cols.length->ρ 9= .int .i64 i->ρ 54= .sl o2 1 (Q7 (cols.map (pwT g)))->ρ 55= .int .i64 cols.length->ρ 56= .int .i64 pre.length->
   (∀ρ':Ql,(∀j,j < 11->ρ' j=ρ j)->ρ' 45=ρ 45->ρ' 46=ρ 46->ρ' 47=ρ 47->R tb c ρ' (B0 ++ [Q2 (cols.map fun t=>f t - ci*pwT g t)]) K=X)->
  R tb (.loop f367l0) ρ (B0 ++ [Q2 ((pre.map fun t=>f t - ci*pwT g t)++ post.map f)]) (Qq 2 (Qq 1 (QH tb c K)))=X:=by
 intro post
 induction post with
 | nil=>
  intro pre o o2 ρ hk h2 h8 h9 h54 h55 h56 H;simp only[QN]at hk;subst hk;simp only[Wr,QN];generalize Q2 (cols.map fun t=>f t - ci*pwT g t)=RR at *;rw[Qg f367l0.eq_1];simp[h2,h8,h9,h54,h55,h56];refine H _ ?_ ?_ ?_ ?_
  ·intro j hj;have:j≠57:=by omega
   simp[this]
  ·simp
  ·simp
  ·simp
 | cons t post IH=>
  intro pre o o2 ρ hk h2 h8 h9 h54 h55 h56 H;have hgt:=Qx hk;have hll:=QL hk;have hw1:=wr1 pre.length (by omega);have hlt:=QO hk;have hltN:pre.length < cols.length:=by omega
  have hlt1:pre.length+1<=cols.length:=by omega
  have hm':=hm t;have hs':=hs t;have hrl: (Q2 ((pre.map fun t=>f t - ci*pwT g t)++ (t:: post).map f)).length=cols.length:=by simp;omega
  have hrd: (Q2 ((pre.map fun t=>f t - ci*pwT g t)++ (t:: post).map f))[pre.length]? =some (.int .i64 (f t)):=by
   rw[Dw,YS (by simp)];simp
  have hput:=Kp ((pre.map fun t=>f t - ci*pwT g t)++ (t:: post).map f) (n:=pre.length) (f t - ci*pwT g t) (by simp);have hst: ((pre.map fun t=>f t - ci*pwT g t)++ (t:: post).map f).set pre.length (f t - ci*pwT g t)=((pre ++ [t]).map fun t=>f t - ci*pwT g t)++ post.map f:=by
   rw[KJ _ _ (by simp)];simp
  rw[hst]at hput;have hB: ∀x:Qh,(B0 ++ [x])[B0.length]? =some x:=fun x=>YZ;have hset: ∀x y:Qh,(B0 ++ [x]).set B0.length y=B0 ++ [y]:=fun x y=>by rw[KJ _ _ (ZJ _)];simp
  have ih:=fun ρ=>IH (pre ++ [t]) o o2 ρ (by rw[hk];simp);generalize Q2 ((pre.map fun t=>f t - ci*pwT g t)++ (t:: post).map f)=RR at *;generalize Q2 (((pre ++ [t]).map fun t=>f t - ci*pwT g t)++ post.map f)=R2 at *;generalize Q2 (cols.map fun t=>f t - ci*pwT g t)=R3 at *;generalize f t=ft at *;have hgm: (cols.map (pwT g))[pre.length]? =some (pwT g t):=by rw[Wb,hgt];rfl
  generalize cols.map (pwT g)=PP at *;generalize pwT g t=pt at *;rw[Qg f367l0.eq_1];simp[-getElem?_pos,Zf,Zt,ZI,h2,h8,h9,h54,h55,h56,hlt,hltN,hlt1,hw1,hgm,hc,hB,hrl,hrd,hm',hs',hput,hset];refine ih _ ?_ ?_ ?_ ?_ ?_ ?_ ?_
  ·simp[h2]
  ·simp[h8]
  ·simp[h9]
  ·simp[h54]
  ·simp[h55]
  ·simp
  ·intro ρ' gj g45 g46 g47;refine H ρ' (fun j hj=> ?_) ?_ ?_ ?_
   ·rw[gj j hj];have e1:j≠11:=by omega
    have e2:j≠12:=by omega
    have e3: ¬(56<=j):=by omega
    simp[e1,e2,show j≠56 by omega,show j≠57 by omega,show j≠58 by omega,show j≠59 by omega,show j≠60 by omega,show j≠61 by omega,show j≠62 by omega,show j≠63 by omega,show j≠64 by omega,show j≠65 by omega,show j≠66 by omega,show j≠67 by omega,show j≠68 by omega,show j≠69 by omega,show j≠70 by omega,show j≠71 by omega,show j≠72 by omega,show j≠73 by omega]
   ·rw[g45];simp
   ·rw[g46];simp
   ·rw[g47];simp
def JI {cols:Qe} {f g:Tm->Int} (h: ∀t,f t=g t):Q2 (cols.map f)=Q2 (cols.map g):=by rw[Pi fun t _=>h t]
def Qop (l:List Qj) (m:Qj) (cs:QJ) (cols:Qe) (B0:Qa) (hl:l.length<=200) (hlc:cs.length=l.length) (hcs: ∀c∈cs,Yi c=false) (hg: ∀g∈l,okG g) (hm:okG m)
  (hcl:cols.length < 1000000) (hcm: ∀t∈cols,t.mass < 1000000) (ha:Asc cols) (hin: ∀g∈l,∀q∈g,q.1∈cols):
  ∀(post pre:List Qj) (cpost cpre:QJ) (o o2:Bool) (ρ:Ql),l=pre ++ post->cs=cpre ++ cpost->cpre.length=pre.length->
   ρ 2= .sl o 1 (Q7 cs)->ρ 7= .sl true 4 (Qb cols)->ρ 8= .gs B0.length 0 1 cols.length->ρ 45= .sl o2 1 (ZA l)->ρ 46= .int .i64 l.length->ρ 47= .int .i64 pre.length->
  R tb (.loop f367l1) ρ (B0 ++ [Q2 (cols.map fun t=>pwT m t - Yc cpre pre t)]) (Qq 0 (QH tb f367r1 (QP f367 B0)))=some (.bool (!(cols.map fun t=>pwT m t - Yc cs l t).any nz),B0):=by
 intro post
 induction post with
 | nil=>
  intro pre cpost cpre o o2 ρ hk hc hcl2 h2 h7 h8 h45 h46 h47;simp only[QN]at hk;subst hk;have:cpost=[]:=by
   have:=Wu List.length hc;simp at this;exact YE (by omega)
  subst this;simp only[QN]at hc;subst hc;have hB: ∀x:Qh,(B0 ++ [x])[B0.length]? =some x:=fun x=>YZ;have h599:=QhR (cols.map fun t=>pwT m t - Yc cs l t) B0.length (B0 ++ [Q2 (cols.map fun t=>pwT m t - Yc cs l t)]) (hB _) (by simp;omega);rw[Vv]at h599;generalize (cols.map fun t=>pwT m t - Yc cs l t).any nz=X at *;generalize Q2 (cols.map fun t=>pwT m t - Yc cs l t)=RR at *;rw[Qg f367l1.eq_1];simp[h2,h7,h8,h45,h46,h47,f367r1,h599]
 | cons g post IH=>
  intro pre cpost cpre o o2 ρ hk hc hcl2 h2 h7 h8 h45 h46 h47;have hgt:=Qx hk;have hll:=QL hk;have hw1:=wr1 pre.length (by omega);have hlt:=QO hk;cases cpost with
  | nil=>have:=Wu List.length hc;simp at this;omega
  | cons ci cpost=>
   have hci:cs[pre.length]? =some ci:=by rw[hc,<- hcl2];simp
   have okg:=hg g (by rw[hk];simp);have hco:Yi ci=false:=hcs ci (by rw[hc];simp);have b1: ∀t,(ci*pwT g t).natAbs<=35184372088832000:=fun t=>Dg (Im hco) (JF okg.bd);have b2: ∀t,(Yc cpre pre t).natAbs<=pre.length*35184372088832000:=fun t=>EH (fun c h=>hcs c (by rw[hc];simp[h])) (fun x h=>hg x (by rw[hk];simp[h]));have b3: ∀t,(pwT m t).natAbs<=1000:=fun t=>JF hm.bd;have hm1: ∀t,IntKind.i64.wrap (ci*pwT g t)=ci*pwT g t:=fun t=>Zb (by have:=b1 t;omega) (by have:=b1 t;omega);have hs1: ∀t,IntKind.i64.wrap (pwT m t - Yc cpre pre t - ci*pwT g t)=pwT m t - Yc cpre pre t - ci*pwT g t:=fun t=>by
    have h1:=b1 t;have h2:=b2 t;have h3:=b3 t;have h4:pre.length<=199:=by omega
    have h5:pre.length*35184372088832000<=199*35184372088832000:=Z5 _ h4;exact Zb (by omega) (by omega)
   have h:=fun o o2 ρ c K X=>Qoo cols g ci cs pre.length B0 (fun t=>pwT m t - Yc cpre pre t) hcl hci hm1 hs1 c K X cols [] o o2 ρ rfl;have hrow:Q2 (cols.map fun t=>pwT m t - Yc cpre pre t - ci*pwT g t)=Q2 (cols.map fun t=>pwT m t - Yc (cpre ++ [ci]) (pre ++ [g]) t):=JI fun t=>by rw[MN ci g t hcl2];omega
   have ih:=fun ρ=>IH (pre ++ [g]) cpost (cpre ++ [ci]) o o2 ρ (by rw[hk];simp) (by rw[hc];simp) (by simp[hcl2]);obtain⟨o3,hpo⟩:=QhH cols g false false (B0 ++ [Q2 (cols.map fun t=>pwT m t - Yc cpre pre t)]) hcl hcm ha okg.2 okg.asc (hin g (by rw[hk];simp));rw[hrow]at h;simp only[Wr,X3]at h;generalize Q2 (cols.map fun t=>pwT m t - Yc cpre pre t)=R1 at *;generalize Q2 (cols.map fun t=>pwT m t - Yc (cpre ++ [ci]) (pre ++ [g]) t)=R2 at *;generalize (cols.map fun t=>pwT m t - Yc cs l t).any nz=X at *;have hpl: (cols.map (pwT g)).length=cols.length:=by simp
   generalize cols.map (pwT g)=PP at *;rw[Qg f367l1.eq_1];simp[h2,h7,h8,h45,h46,h47,hlt,hgt,hpo,hpl];refine h o o3 _ _ _ _ ?_ ?_ ?_ ?_ ?_ ?_ ?_
   ·simp[h2]
   ·simp[h8]
   ·simp
   ·simp
   ·simp
   ·simp
   ·intro ρ' gj g45 g46 g47;simp[f367r0,g47,h47,hw1];have e2:=gj 2 (by omega);have e7:=gj 7 (by omega);have e8:=gj 8 (by omega);refine ih _ ?_ ?_ ?_ ?_ ?_ ?_
    ·simp[e2,h2]
    ·simp[e7,h7]
    ·simp[e8,h8]
    ·simp[g45,h45]
    ·simp[g46,h46]
    ·simp
def Ry (l:List Qj) (m:Qj) (cs:QJ):Bool:=
 !(decide (200 < l.length) || !decide (cs.length=l.length) || cs.any Yi || decide (ZY m≠0) || l.any Vn) && (Xo (l ++ [m])).all (fun t=>decide (Yc cs l t=pwT m t))
def QmD {cols:Qe} {m:Qj} {cs:QJ} {l:List Qj}: (!(cols.map fun t=>pwT m t - Yc cs l t).any nz)=cols.all (fun t=>decide (Yc cs l t=pwT m t)):=by
 rw[List.any_map,List.not_any_eq_all_not];congr 1;funext t;simp only[nz,Function.comp_apply,Bool.not_not];exact decide_eq_decide.2 (by omega)
def Jf {l:List Qj} (hl:l.length<=1000) (hg: ∀g∈l,okG g): (Xo l).length < 1000000/\(∀t∈Xo l,t.mass < 1000000)/\Asc (Xo l)/\∀g∈l,∀q∈g,q.1∈Xo l:=by
 refine⟨?_,?_,F4 _,fun g hg2 q hq=>PH.2 (Qfu hg2 hq)⟩
 ·have h1: ∀(l:List Qj),(∀g∈l,okG g)->(VA l).length<=200*l.length:=by
   intro l
   induction l with
   | nil=>intro _;simp[VA]
   | cons g l ih=>
    intro h;have a:=(h g (by simp)).len;have b:=ih fun x hx=>h x (by simp[hx]);rw[Mz,Zo,ZL];have: (ZU g).length=g.length:=by simp[ZU]
    omega
  have h2:=h1 l hg;have h3:=DI (VA l);unfold Xo;omega
 ·intro t ht;obtain⟨g,hg2,q,hq,rfl⟩:=Qew (PH.1 ht);exact(hg g hg2).2.2 q hq
def Sf:=@List.any_eq_false
def CP {l:List Qj} (h:l.any Vn=false) (hs: ∀g∈l,SmP g): ∀g∈l,okG g:=fun g hg=>by
 have:=Sf.1 h g hg;exact⟨by simpa[Vn]using this,hs g hg⟩
def QhB (l:List Qj) (m:Qj) (cs:QJ) (o o2 o3:Bool) (B0:Qa) (hl:l.length < 1000000) (hs: ∀g∈l,SmP g) (hm:SmP m) (hc:cs.length < 1000000):
  call tb 367 [.sl o 1 (ZA l),.sl o2 5 (QE m),.sl o3 1 (Q7 cs)] B0=some (.bool (Ry l m cs),B0):=by
 have c356:=fun o=>J8 368 [] Yi cs o B0 (fun c _=>QhC c _) hc (by simp);have c197:=fun o=>OO m o B0 (by have:=hm.1;omega) hm.big;have c370:=fun o=>QhE l o B0 hs hl;rw[zcc 367 rfl rfl];unfold Ry;by_cases k1:200 < l.length
 ·have k1': (200:Int) < (l.length:Int):=by omega
  simp[f367C,k1,k1']
 ·have k1': ¬(200:Int) < (l.length:Int):=by omega
  by_cases k2:cs.length=l.length
  ·have k2': (cs.length:Int)=(l.length:Int):=by omega
   cases k3:cs.any Yi
   ·rw[k3]at c356;by_cases k4:ZY m=0
    ·cases k5:l.any Vn
     ·rw[k5]at c370;have okm:okG m:=⟨k4,hm⟩;have okl:=CP k5 hs;have oka: ∀g∈l ++ [m],okG g:=fun g hg=>by
       rcases Wc.1 hg with h | h
       ·exact okl g h
       ·simp at h;subst h;exact okm
      obtain⟨f1,f2,f3,f4⟩:=Jf (l:=l ++ [m]) (by simp;omega) oka;have c372: ∀o,call tb 372 [.sl o 1 (ZA l)] B0=some (.sl true 1 (ZA l),B0):=fun o=>by
       have e24:l.length*24<=140737488355328:=by omega
       rw[Wx tb_372];simp[XC,TA,e24]
      have e24: (l.length+1)*24<=140737488355328:=by omega
      have c373:=fun o=>QhF (l ++ [m]) o B0 (by simp;omega) fun g hg=>⟨(oka g hg).2,(oka g hg).len⟩;have c563:=fun o o2=>QhO (Xo (l ++ [m])) m o o2 B0 f1 f2 f3 okm.2 okm.asc (f4 m (by simp));have h:=fun o o2 ρ=>Qop l m cs (Xo (l ++ [m])) B0 (by omega) k2 (fun c hc=>by simpa using Sf.1 k3 c hc) okl okm f1 f2 f3 (fun g hg=>f4 g (by simp[hg])) l [] cs [] o o2 ρ rfl rfl rfl;have hrow:Q2 ((Xo (l ++ [m])).map fun t=>pwT m t - Yc [] [] t)=Q2 ((Xo (l ++ [m])).map (pwT m)):=JI fun t=>by simp[Yc]
      rw[hrow,QmD]at h;generalize (Xo (l ++ [m])).all (fun t=>decide (Yc cs l t=pwT m t))=X at *;generalize Q2 ((Xo (l ++ [m])).map (pwT m))=R1 at *;generalize Xo (l ++ [m])=CC at *;have happ:=Ji l [m];have hone:=RG m;simp[f367C,k1,k1',k2,k2',k4,c356,c197,c370,c372,e24,hone,happ,c373,c563];refine h false false _ ?_ ?_ ?_ ?_ ?_ ?_ <;> simp
     ·rw[k5]at c370;simp[f367C,k1,k1',k2,k2',k4,c356,c197,c370]
    ·simp[f367C,k1,k1',k2,k2',k4,c356,c197]
   ·rw[k3]at c356;simp[f367C,k1,k1',k2,k2',c356]
  ·have k2': ¬(cs.length:Int)=(l.length:Int):=by omega
   simp[f367C,k1,k1',k2,k2']
def QfJ (g:Qj) (t:Tm) (bs:Qa) (hg:SmP g) (ht:t.mass < 1000000):
  ∀(post pre:Qj) (o:Bool) (ρ:Ql),g=pre ++ post->ρ 0= .sl o 5 (QE g)->ρ 3= .bx (Qf t)->ρ 5= .int .i64 pre.length->
  R tb (.loop f326l0) ρ bs (Qq 0 (QH tb f326r0 (QP f326 bs)))=some (.int .i64 (pwT post t),bs):=by
 intro post
 induction post with
 | nil=>
  intro pre o ρ hk h0 h3 h5;simp only[QN]at hk;rw[<- hk]at h5;rw[Qg f326l0.eq_1];simp[h0,h3,h5,pwT,f326r0]
 | cons q post IH=>
  intro pre o ρ hk h0 h3 h5;have hgt:=Qx hk;have hll:=QL hk;have hgl:=hg.1;have hw1:=wr1 pre.length (by omega);have hlt:=QO hk;have hc:=Y3 q.1 t bs (hg.big q (by rw[hk];simp)) (by unfold big;omega);have ih:=fun ρ=>IH (pre ++ [q]) o ρ (by rw[hk];simp);rw[Qg f326l0.eq_1];by_cases c:Qp q.1 t=0
  ·simp only[pwT,Qn c];simp[-getElem?_pos,Zf,Zt,ZI,h0,h3,h5,hlt,hgt,hc,c]
  ·simp only[pwT,Qm c];generalize pwT post t=X at *;simp[-getElem?_pos,Zf,Zt,ZI,h0,h3,h5,hlt,hgt,hc,c,hw1];apply ih <;> simp[h0,h3]
def CY (g:Qj) (t:Tm) (o:Bool) (bs:Qa) (hg:SmP g) (ht:t.mass < 1000000):call tb 326 [.sl o 5 (QE g),.agg (Qf t)] bs=some (.int .i64 (pwT g t),bs):=by
 have h:=fun ρ=>QfJ g t bs hg ht g [] false ρ rfl;rw[zcc 326 rfl rfl];generalize pwT g t=X at *;simp[f326C];apply h <;> simp
def QoP (l:List Qj) (g:Qj) (i:Nat) (bs:Qa) (hi:l[i]? =some g) (hg:SmP g) (c:AC) (K:Kn) (X:Out):
  ∀(post pre:Qj) (acc:Qe) (o o2:Bool) (ρ:Ql),g=pre ++ post->acc.length+post.length < 500000->(∀x∈acc,x.mass < 1000000)->
   ρ 0= .sl o 1 (ZA l)->ρ 3= .sl o2 4 (Qb acc)->ρ 4= .int .i64 i->ρ 5= .int .i64 pre.length->
   (∀(ρ':Ql) (o2:Bool),ρ' 0=ρ 0->ρ' 3= .sl o2 4 (Qb (YM acc (ZU post)))->ρ' 4=ρ 4->R tb c ρ' bs K=X)->
  R tb (.loop f324l0) ρ bs (Qq 2 (Qq 1 (QH tb c K)))=X:=by
 intro post
 induction post with
 | nil=>
  intro pre acc o o2 ρ hk hal ham h0 h3 h4 h5 H;simp only[QN]at hk;rw[<- hk]at h5;rw[Qg f324l0.eq_1];simp[-getElem?_pos,Zf,Zt,ZI,h0,h3,h4,h5,hi];refine H _ o2 ?_ ?_ ?_ <;> simp[h0,h3,YM,ZU]
 | cons q post IH=>
  intro pre acc o o2 ρ hk hal ham h0 h3 h4 h5 H;have hgt:=Qx hk;have hll:=QL hk;have hgl:=hg.1;have hw1:=wr1 pre.length (by omega);have hlt:=QO hk;simp only[ZL]at hal;have hqm:=hg.2 q (by rw[hk];simp);have hc:=fun o=>L5 acc q.1 o bs (by omega) (fun x hx=>by have:=ham x hx;unfold big;omega) (by unfold big;omega);have hlen:=Pt q.1 acc;have ih:=fun ρ=>IH (pre ++ [q]) (Xn q.1 acc) o false ρ (by rw[hk];simp) (by omega) (fun x hx=>by
   rcases SZ.1 hx with rfl | hx
   ·exact hqm
   ·exact ham x hx)
  rw[Qg f324l0.eq_1];simp[-getElem?_pos,Zf,Zt,ZI,h0,h3,h4,h5,hi,hlt,hgt,hw1,hc];refine ih _ ?_ ?_ ?_ ?_ ?_
  ·simp[h0]
  ·simp
  ·simp[h4]
  ·simp
  ·intro ρ' o3 g0 g3 g4;refine H ρ' o3 ?_ (by simpa[ZU,YM]using g3) ?_
   ·rw[g0];simp
   ·rw[g4];simp
def D0 (acc l:Qe): (YM acc l).length<=acc.length+l.length:=O7 l acc
def QoQ (l:List Qj) (bs:Qa) (hl:l.length < 1000) (hs: ∀g∈l,SmP g/\g.length<=200):
  ∀(post pre:List Qj) (acc:Qe) (o o2:Bool) (ρ:Ql),l=pre ++ post->acc.length+200*post.length<=200*l.length->(∀x∈acc,x.mass < 1000000)->
   ρ 0= .sl o 1 (ZA l)->ρ 3= .sl o2 4 (Qb acc)->ρ 4= .int .i64 pre.length->
  R tb (.loop f324l1) ρ bs (Qq 0 (QH tb f324r1 (QP f324 bs)))=some (.sl false 4 (Qb (YM acc (VA post))),bs):=by
 intro post
 induction post with
 | nil=>
  intro pre acc o o2 ρ hk hal ham h0 h3 h4;simp only[QN]at hk;rw[<- hk]at h4;rw[Qg f324l1.eq_1];simp[h0,h3,h4,f324r1,VA,YM]
 | cons g post IH=>
  intro pre acc o o2 ρ hk hal ham h0 h3 h4;have hgt:=Qx hk;have hll:=QL hk;have hw1:=wr1 pre.length (by omega);have hlt:=QO hk;obtain⟨hsg,hg2⟩:=hs g (by rw[hk];simp);simp only[ZL]at hal;have hpl: (ZU g).length=g.length:=by simp[ZU]
  have hal2:=D0 acc (ZU g);have ih:=fun o2 ρ=>IH (pre ++ [g]) (YM acc (ZU g)) o o2 ρ (by rw[hk];simp) (by omega) (fun x hx=>by
   rcases ND.1 hx with hx | hx
   ·exact ham x hx
   ·obtain⟨q,hq,rfl⟩:=W8.1 hx;exact hsg.2 q hq)
  have e:YM acc (VA (g:: post))=YM (YM acc (ZU g)) (VA post):=by rw[Mz,Al]
  have h:=fun o o2 ρ c K X=>QoP l g pre.length bs hgt hsg c K X g [] acc o o2 ρ rfl (by omega) ham;rw[e,Qg f324l1.eq_1];simp[h0,h3,h4,hlt];refine h o o2 _ _ _ _ ?_ ?_ ?_ ?_ ?_
  ·simp[h0]
  ·simp[h3]
  ·simp[h4]
  ·simp
  ·intro ρ' o3 g0 g3 g4;simp[f324r0,g4,h4,hw1];refine ih o3 _ ?_ ?_ ?_
   ·simp[g0,h0]
   ·simp[g3]
   ·simp
def Qhq (l:List Qj) (o:Bool) (bs:Qa) (hl:l.length < 1000) (hs: ∀g∈l,SmP g/\g.length<=200):
  call tb 324 [.sl o 1 (ZA l)] bs=some (.sl false 4 (Qb (Xo l)),bs):=by
 have h:=fun o ρ=>QoQ l bs hl hs l [] [] o true ρ rfl (by simp) (by simp);rw[zcc 324 rfl rfl];have e:Qb (YM [] (VA l))=Qb (Xo l):=rfl;rw[e]at h;generalize Qb (Xo l)=E1 at *;simp[f324C];refine h false _ ?_ ?_ ?_ <;> simp[Qb]
def Qo4 (l:List Qj) (cs:QJ) (cols:Qe) (k:Nat) (t:Tm) (bs:Qa) (hl:l.length<=200) (hlc:cs.length=l.length) (hcs: ∀c∈cs,Yi c=false) (hg: ∀g∈l,okG g) (hk:cols[k]? =some t) (ht:t.mass < 1000000) (c:AC) (K:Kn) (X:Out):
  ∀(post pre:List Qj) (cpost cpre:QJ) (o o2 o3:Bool) (ρ:Ql),l=pre ++ post->cs=cpre ++ cpost->cpre.length=pre.length->
   ρ 0= .sl o 1 (ZA l)->ρ 2= .sl o2 1 (Q7 cs)->ρ 8= .sl o3 4 (Qb cols)->ρ 9= .int .i64 k->ρ 10= .int .i64 (Yc cpre pre t)->ρ 11= .int .i64 pre.length->
   (∀ρ':Ql,(∀j,j < 10->ρ' j=ρ j)->ρ' 10= .int .i64 (Yc cs l t)->R tb c ρ' bs K=X)->
  R tb (.loop f392l1) ρ bs (Qq 4 (QH tb c K))=X:=by
 intro post
 induction post with
 | nil=>
  intro pre cpost cpre o o2 o3 ρ hkk hc hcl2 h0 h2 h8 h9 h10 h11 H;simp only[QN]at hkk;subst hkk;have:cpost=[]:=by
   have:=Wu List.length hc;simp at this;exact YE (by omega)
  subst this;simp only[QN]at hc;subst hc;generalize Yc cs l t=D at *;rw[Qg f392l1.eq_1];simp[h0,h2,h8,h9,h10,h11];refine H _ (fun j hj=> ?_) ?_
  ·simp[show j≠66 by omega,show j≠67 by omega,show j≠68 by omega,show j≠69 by omega]
  ·simp[h10]
 | cons g post IH=>
  intro pre cpost cpre o o2 o3 ρ hkk hc hcl2 h0 h2 h8 h9 h10 h11 H;have hgt:=Qx hkk;have hll:l.length=pre.length+ (post.length+1):=by rw[hkk];simp
  have hw1:=wr1 pre.length (by omega);have hlt: (pre.length:Int) < (l.length:Int):=by omega
  cases cpost with
  | nil=>have:=Wu List.length hc;simp at this;omega
  | cons ci cpost=>
   have hci:cs[pre.length]? =some ci:=by rw[hc,<- hcl2];simp
   have okg:=hg g (by rw[hkk];simp);have hco:Yi ci=false:=hcs ci (by rw[hc];simp);have b1: (ci*pwT g t).natAbs<=35184372088832000:=Dg (Im hco) (JF okg.bd);have b2: (Yc cpre pre t).natAbs<=pre.length*35184372088832000:=EH (fun c h=>hcs c (by rw[hc];simp[h])) (fun x h=>hg x (by rw[hkk];simp[h]));have hm1:IntKind.i64.wrap (ci*pwT g t)=ci*pwT g t:=Zb (by omega) (by omega);have hd:=MN (cs:=cpre) (gs:=pre) ci g t hcl2;have hs1:IntKind.i64.wrap (Yc cpre pre t+ci*pwT g t)=Yc (cpre ++ [ci]) (pre ++ [g]) t:=by
    rw[hd];have h5:pre.length*35184372088832000<=199*35184372088832000:=Z5 _ (by omega);exact Zb (by omega) (by omega)
   have ih:=fun ρ=>IH (pre ++ [g]) cpost (cpre ++ [ci]) o o2 o3 ρ (by rw[hkk];simp) (by rw[hc];simp) (by simp[hcl2]);have h326:=CY g t false bs okg.2 ht;generalize Yc cpre pre t=D1 at *;generalize Yc (cpre ++ [ci]) (pre ++ [g]) t=D2 at *;generalize Yc cs l t=D3 at *;generalize pwT g t=pt at *;rw[Qg f392l1.eq_1];simp[-getElem?_pos,Zf,Zt,ZI,h0,h2,h8,h9,h10,h11,hlt,hgt,hci,hk,h326,hm1,hs1,hw1];refine ih _ ?_ ?_ ?_ ?_ ?_ ?_ ?_
   ·simp[h0]
   ·simp[h2]
   ·simp[h8]
   ·simp[h9]
   ·simp
   ·simp
   ·intro ρ' gj g10;refine H ρ' (fun j hj=> ?_) g10;rw[gj j hj];simp[show j≠10 by omega,show j≠11 by omega,show j≠66 by omega,show j≠67 by omega,show j≠68 by omega,show j≠69 by omega,show j≠70 by omega,show j≠71 by omega,show j≠72 by omega,show j≠73 by omega,show j≠74 by omega,show j≠75 by omega,show j≠76 by omega,show j≠77 by omega,show j≠78 by omega,show j≠79 by omega,show j≠80 by omega,show j≠81 by omega,show j≠82 by omega,show j≠83 by omega,show j≠84 by omega,show j≠85 by omega,show j≠86 by omega,show j≠87 by omega]
def Qo5 (l:List Qj) (m:Qj) (cs:QJ) (cols:Qe) (bs:Qa) (hl:l.length<=200) (hlc:cs.length=l.length) (hcs: ∀c∈cs,Yi c=false) (hg: ∀g∈l,okG g) (hm:okG m) (hcl:cols.length < 1000000) (hcm: ∀t∈cols,t.mass < 1000000):
  ∀(post pre:Qe) (o o1 o2 o3:Bool) (ρ:Ql),cols=pre ++ post->
   ρ 0= .sl o 1 (ZA l)->ρ 1= .sl o1 5 (QE m)->ρ 2= .sl o2 1 (Q7 cs)->ρ 8= .sl o3 4 (Qb cols)->ρ 9= .int .i64 pre.length->
  R tb (.loop f392l2) ρ bs (Qq 2 (QH tb f392r2 (QP f392 bs)))=some (.bool (post.all fun t=>decide (Yc cs l t=pwT m t)),bs):=by
 intro post
 induction post with
 | nil=>
  intro pre o o1 o2 o3 ρ hk h0 h1 h2 h8 h9;simp only[QN]at hk;rw[<- hk]at h9;rw[Qg f392l2.eq_1];simp[h0,h1,h2,h8,h9,f392r2]
 | cons t post IH=>
  intro pre o o1 o2 o3 ρ hk h0 h1 h2 h8 h9;have hgt:=Qx hk;have hll:=QL hk;have hw1:=wr1 pre.length (by omega);have hlt:=QO hk;have htm:=hcm t (by rw[hk];simp);have h:=fun o o2 o3 ρ c K X=>Qo4 l cs cols pre.length t bs hl hlc hcs hg hgt htm c K X l [] cs [] o o2 o3 ρ rfl rfl rfl;have h326:=fun o=>CY m t o bs hm.2 htm;have ih:=fun ρ=>IH (pre ++ [t]) o o1 o2 o3 ρ (by rw[hk];simp);simp only[Sh];rw[Qg f392l2.eq_1];simp only[Yc]at h;generalize post.all (fun t=>decide (Yc cs l t=pwT m t))=X at *;generalize Yc cs l t=D at *;generalize pwT m t=pt at *;simp[h0,h1,h2,h8,h9,hlt];refine h o o2 o3 _ _ _ _ ?_ ?_ ?_ ?_ ?_ ?_ ?_
  ·simp[h0]
  ·simp[h2]
  ·simp[h8]
  ·simp[h9]
  ·simp
  ·simp
  ·intro ρ' gj g10;have e0:=gj 0 (by omega);have e1:=gj 1 (by omega);have e2:=gj 2 (by omega);have e8:=gj 8 (by omega);have e9:=gj 9 (by omega);simp[h0]at e0;simp[h1]at e1;simp[h2]at e2;simp[h8]at e8;simp[h9]at e9;by_cases c:D=pt
   ·simp[-getElem?_pos,Zf,f392r0,f392r1,g10,e0,e1,e2,e8,e9,hgt,h326,c,hw1];apply ih <;> simp[e0,e1,e2,e8]
   ·simp[-getElem?_pos,Zf,f392r0,f392r1,g10,e0,e1,e2,e8,e9,hgt,h326,c]
def Qo6 (l:List Qj) (m:Qj) (cs:QJ) (bs:Qa) (hl:l.length<=200) (hlc:cs.length=l.length) (hcs: ∀c∈cs,Yi c=false) (hg: ∀g∈l,okG g) (hm:okG m) (o o1 o2:Bool) (ρ:Ql)
  (h0:ρ 0= .sl o 1 (ZA l)) (h1:ρ 1= .sl o1 5 (QE m)) (h2:ρ 2= .sl o2 1 (Q7 cs)):
  R tb f392r3 ρ bs (QP f392 bs)=some (.bool ((Xo (l ++ [m])).all fun t=>decide (Yc cs l t=pwT m t)),bs):=by
 have oka: ∀g∈l ++ [m],okG g:=fun g hg2=>by
  rcases Wc.1 hg2 with h | h
  ·exact hg g h
  ·simp at h;subst h;exact hm
 obtain⟨f1,f2,f3,f4⟩:=Jf (l:=l ++ [m]) (by simp;omega) oka;have c324:=fun o=>Qhq (l ++ [m]) o bs (by simp;omega) fun g hg=>⟨(oka g hg).2,(oka g hg).len⟩;have h:=fun o o1 o2 o3 ρ=>Qo5 l m cs (Xo (l ++ [m])) bs hl hlc hcs hg hm f1 f2 (Xo (l ++ [m])) [] o o1 o2 o3 ρ rfl;generalize (Xo (l ++ [m])).all (fun t=>decide (Yc cs l t=pwT m t))=X at *;generalize Xo (l ++ [m])=CC at *;have happ:=Ji l [m];have hone:=RG m;have e24:l.length*24<=140737488355328:=by omega
 have e25: (l.length+1)*24<=140737488355328:=by omega
 simp[f392r3,h0,h1,h2,e24,e25,hone,happ,c324];refine h o o1 o2 false _ ?_ ?_ ?_ ?_ ?_ <;> simp[h0,h1,h2]
def Qo3 (l:List Qj) (m:Qj) (cs:QJ) (bs:Qa) (hl:l.length<=200) (hlc:cs.length=l.length) (hs: ∀g∈l,SmP g) (hm:okG m):
  ∀(post pre:List Qj) (cpost cpre:QJ) (o o1 o2:Bool) (ρ:Ql),l=pre ++ post->cs=cpre ++ cpost->cpre.length=pre.length->pre.any Vn=false->cpre.any Yi=false->
   ρ 0= .sl o 1 (ZA l)->ρ 1= .sl o1 5 (QE m)->ρ 2= .sl o2 1 (Q7 cs)->ρ 7= .int .i64 pre.length->
  R tb (.loop f392l0) ρ bs (Qq 0 (QH tb f392r3 (QP f392 bs)))=some (.bool (!(post.any Vn || cpost.any Yi) && (Xo (l ++ [m])).all fun t=>decide (Yc cs l t=pwT m t)),bs):=by
 intro post
 induction post with
 | nil=>
  intro pre cpost cpre o o1 o2 ρ hk hc hcl2 hb1 hb2 h0 h1 h2 h7;simp only[QN]at hk;subst hk;have:cpost=[]:=by
   have:=Wu List.length hc;simp at this;exact YE (by omega)
  subst this;simp only[QN]at hc;subst hc;have h:=fun ρ=>Qo6 l m cs bs hl hlc (fun c hc=>by simpa using Sf.1 hb2 c hc) (CP hb1 hs) hm o o1 o2 ρ;generalize (Xo (l ++ [m])).all (fun t=>decide (Yc cs l t=pwT m t))=X at *;rw[Qg f392l0.eq_1];simp[h0,h1,h2,h7];apply h <;> simp[h0,h1,h2]
 | cons g post IH=>
  intro pre cpost cpre o o1 o2 ρ hk hc hcl2 hb1 hb2 h0 h1 h2 h7;have hgt:=Qx hk;have hll:=QL hk;have hw1:=wr1 pre.length (by omega);have hlt:=QO hk;cases cpost with
  | nil=>have:=Wu List.length hc;simp at this;omega
  | cons ci cpost=>
   have hci:cs[pre.length]? =some ci:=by rw[hc,<- hcl2];simp
   have hsg:=hs g (by rw[hk];simp);have c259:=fun o=>OP g o bs (by have:=hsg.1;omega) hsg.big;have ih:=fun ρ b1 b2=>IH (pre ++ [g]) cpost (cpre ++ [ci]) o o1 o2 ρ (by rw[hk];simp) (by rw[hc];simp) (by simp[hcl2]) (by rw[Pn,hb1];simpa using b1) (by rw[Pn,hb2];simpa using b2);simp only[List.any_cons];rw[Qg f392l0.eq_1];generalize (Xo (l ++ [m])).all (fun t=>decide (Yc cs l t=pwT m t))=X at *;generalize post.any Vn=P1 at *;generalize cpost.any Yi=P2 at *;by_cases c1:ZY g=0
   ·have eb:Vn g=false:=by simp[Vn,c1]
    by_cases c2:ci < -35184372088832
    ·have eo:Yi ci=true:=by simp[Yi,c2]
     simp[-getElem?_pos,Zf,h0,h1,h2,h7,hlt,hgt,hci,c259,c1,c2,eb,eo]
    ·by_cases c3:35184372088832 < ci
     ·have eo:Yi ci=true:=by simp[Yi,c3]
      simp[-getElem?_pos,Zf,h0,h1,h2,h7,hlt,hgt,hci,c259,c1,c2,c3,eb,eo]
     ·have eo:Yi ci=false:=by simp[Yi,c2,c3]
      have ih2:=fun ρ=>ih ρ eb eo;simp[-getElem?_pos,Zf,h0,h1,h2,h7,hlt,hgt,hci,c259,c1,c2,c3,eb,eo,hw1];simp only[Bool.not_or]at ih2;apply ih2 <;> simp[h0,h1,h2]
   ·have eb:Vn g=true:=by simp[Vn,c1]
    simp[-getElem?_pos,Zf,h0,h1,h2,h7,hlt,hgt,hci,c259,c1,eb]
def C8 (l:List Qj) (m:Qj) (cs:QJ) (o o2 o3:Bool) (bs:Qa) (hl:l.length < 1000000) (hs: ∀g∈l,SmP g) (hm:SmP m) (hc:cs.length < 1000000):
  call tb 392 [.sl o 1 (ZA l),.sl o2 5 (QE m),.sl o3 1 (Q7 cs)] bs=some (.bool (Ry l m cs),bs):=by
 have c259:=fun o=>OP m o bs (by have:=hm.1;omega) hm.big;rw[zcc 392 rfl rfl];unfold Ry;by_cases k4:ZY m=0
 ·by_cases k2:cs.length=l.length
  ·have k2': (cs.length:Int)=(l.length:Int):=by omega
   by_cases k1:200 < l.length
   ·have k1': (200:Int) < (l.length:Int):=by omega
    simp[f392C,k1,k1',k2,k2',k4,c259]
   ·have k1': ¬(200:Int) < (l.length:Int):=by omega
    have h:=fun o o1 o2 ρ=>Qo3 l m cs bs (by omega) k2 hs ⟨k4,hm⟩ l [] cs [] o o1 o2 ρ rfl rfl rfl rfl rfl;have e: (!(decide (200 < l.length) || !decide (cs.length=l.length) || cs.any Yi || decide (ZY m≠0) || l.any Vn))= !(l.any Vn || cs.any Yi):=by
     simp only[k1,k2,k4,Mu,ON,OL,Bool.or_false,K4,ne_eq,KX];rw[Bool.or_comm]
    rw[e];generalize (!(l.any Vn || cs.any Yi) && (Xo (l ++ [m])).all fun t=>decide (Yc cs l t=pwT m t))=X at *;simp[f392C,k1,k1',k2,k2',k4,c259];refine h false false false _ ?_ ?_ ?_ ?_ <;> simp
  ·have k2': ¬(cs.length:Int)=(l.length:Int):=by omega
   simp[f392C,k2,k2',k4,c259]
 ·simp[f392C,k4,c259]
end Go.Am
