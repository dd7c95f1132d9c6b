/-
  En45, En46, En47, En48, Kn1, Kn2, Kn3, Kn4, Kn22, Kn23, Kn24, Kn8, Kn5, Kn6, Kn7, Kn9, Kn10, Kn11, Kn12, Kn13, Kn14, Kn15, Kn16, Kn17, Kn18, Kn20, Kn25, Kn26, Kn27, Kn28, Kn29, Kn30, Kn31, Kn32, Kn33, Kn34, Kn35, Kn50, Kn51, Pf1.
-/
import Derived.Test.YtjkjecpalfmohaaGreatDoorG22
import Derived.Test.YtjkjecpalfmohaaGreatDoorG21
set_option linter.all false
open Go.Am.F
namespace Go.Am
set_option maxRecDepth 20000
def W0 (l:QL) (d:Ded):Qc:=d.a.map fun n=>((l[n.toNat]?).map Ded.t).getD QM
def NC {d:Ded} {i:Int} (h:TE d i=0):rOk d.r=true/\f6B d=false/\(∀n∈d.a,0<=n/\n < i)/\fNB d=false/\∀c∈d.c,Yu c=false:=by
 unfold TE at h;cases h1:rOk d.r
 ·rw[h1]at h;simp at h
 ·cases h2:f6B d
  ·cases h3:d.a.any (Xj i)
   ·cases h4:fNB d
    ·cases h5:d.c.any Yu
     ·refine⟨rfl,rfl,fun n hn=> ?_,rfl,fun c hc=>by simpa using TU.1 h5 c hc⟩;have:=TU.1 h3 n hn;simp[Xj]at this;omega
     ·rw[h1,h2,h3,h4,h5]at h;simp at h
    ·rw[h1,h2,h3,h4]at h;simp at h
   ·rw[h1,h2,h3]at h;simp at h
  ·rw[h1,h2]at h;simp at h
def H6 {M:Nat}: ∀{a:Qc},(∀x∈a,x.mass<=M)->Qv a<=a.length*M
 | [],_=>by simp[Qv]
 | x:: a,h=>by
  have h1:=h x (by simp);have h2:=H6 (a:=a) fun y hy=>h y (by simp[hy]);simp only[Qv,ZQ,VH];omega
def EY:=@Bool.not_eq_false'
def QdU {d:Ded} {l:QL} {i:Nat} (h:TE d i=0) (hi:i<=l.length) (hpre: ∀j x,j < i->l[j]? =some x->Zc x.t=0) (htd:Zc d.t=0) (ha:d.a.length<=1000) (hc:d.c.length<=1000):AOk d (W0 l d):=by
 obtain⟨h1,h2,h3,h4,h5⟩:=NC h;have hlen: (W0 l d).length=d.a.length:=by simp[W0]
 have hg: ∀x∈W0 l d,Zc x=0:=by
  intro x hx;obtain⟨n,hn,rfl⟩:=Wf.1 hx;obtain⟨n0,n1⟩:=h3 n hn;have hlt:n.toNat < l.length:=by omega
  rw[Zq hlt];exact hpre n.toNat _ (by omega) (Zq hlt)
 unfold f6B at h2;simp only[Nl,EN,TC,EY,Qy]at h2;obtain⟨⟨k1,k2⟩,k3⟩:=h2;simp only[fNB,Nl,TC]at h4;refine⟨h1,by omega,by omega,fun h0=> ?_,fun e=> ?_,by omega,?_,hg,htd,by omega⟩
 ·rcases k1 with k | k
  ·exact absurd h0 k
  ·rw[hlen];exact k
 ·have:Xv d.r= -2:=by rw[e];rfl
  intro e2;rw[e2]at hlen;rcases k2 with k | k
  ·exact k this
  ·simp at hlen;omega
 ·have:=H6 (M:=13200) (a:=W0 l d) fun x hx=>(Po (hg x hx)).2;have: (W0 l d).length*13200<=1000*13200:=Yg _ (by omega);omega
def Qrh (ks:Qc) (l:QL) (d:Ded) (bs:Qa) (h:AOk d (W0 l d)) (hks: ∀x∈ks,x.mass < 1000000) (hkl:ks.length < 1000000) (hal:d.a.length<=1000) (hin: ∀n∈d.a,0<=n/\n.toNat < l.length):
  ∀(post pre:QO) (o o1 o2:Bool) (ρ:Ql),d.a=pre ++ post->ρ 0= .sl o 4 (Qb ks)->ρ 1= .sl o1 8 (QD l)->ρ 7= .bx (Za d)->ρ 8= .sl true 4 (Qb (pre.map fun n=>((l[n.toNat]?).map Ded.t).getD QM))->
   ρ 23= .sl o2 1 (ZF d.a)->ρ 24= .int .i64 d.a.length->ρ 25= .int .i64 pre.length->
  R tb (.loop f351l0) ρ bs (Qo 0 (QB tb f351r0 (QN f351 bs)))=some (.bool (rtB ks d (W0 l d)),bs):=by
 intro post
 induction post with
 | nil=>
  intro pre o o1 o2 ρ hk h0 h1 h7 h8 h23 h24 h25;simp only[QH]at hk;rw[<- hk]at h25 h8;have hr:=fun ρ=>Qri ks d (W0 l d) bs h hks hkl o ρ;change ρ 8= .sl true 4 (Qb (W0 l d))at h8;generalize rtB ks d (W0 l d)=X at *;generalize Qb (W0 l d)=E1 at *;rw[Qe f351l0.eq_1];simp[h0,h1,h7,h8,h23,h24,h25];apply hr <;> simp[h0,h7,h8]
 | cons n post IH=>
  intro pre o o1 o2 ρ hk h0 h1 h7 h8 h23 h24 h25;have hgt:=Qw hk;have hll:=QE hk;have hw1:=wr1 pre.length (by omega);have hlt:=QI hk;obtain⟨n0,nl⟩:=hin n (by rw[hk];simp);have hx:=Zq nl;have hb: ((pre.map fun n=>((l[n.toNat]?).map Ded.t).getD QM).length+1)*56<=140737488355328:=WV (by simp;omega);have ih:=fun ρ=>IH (pre ++ [n]) o o1 o2 ρ (by rw[hk];simp);have e: (pre ++ [n]).map (fun n=>((l[n.toNat]?).map Ded.t).getD QM)=pre.map (fun n=>((l[n.toNat]?).map Ded.t).getD QM)++ [(l[n.toNat]'nl).t]:=by simp[hx]
  rw[e]at ih;generalize l[n.toNat]'nl=x at *;generalize pre.map (fun n=>((l[n.toNat]?).map Ded.t).getD QM)=acc at *;generalize rtB ks d (W0 l d)=X at *;rw[Qe f351l0.eq_1];simp[-getElem?_pos,Zb,Ze,Zv,h0,h1,h7,h8,h23,h24,h25,hlt,hgt,hw1,n0,hx,hb,Qk,Z4,ZL];apply ih <;> simp[h0,h1,h7,h23,h24]
def Qi6 (ks:Qc) (l:QL) (i:Nat) (d:Ded) (o o1:Bool) (bs:Qa) (hi:l[i]? =some d) (hpre: ∀j x,j < i->l[j]? =some x->Zc x.t=0) (htd:Zc d.t=0) (ha:d.a.length<=1000) (hc:d.c.length<=1000)
  (hks: ∀x∈ks,x.mass < 1000000) (hkl:ks.length < 1000000):
  call tb 351 [.sl o 4 (Qb ks),.sl o1 8 (QD l),.int .i64 i] bs=some (.bool (decide (TE d i=0) && rtB ks d (W0 l d)),bs):=by
 have hil:=(WN.1 hi).1;have c352:=Qi7 d i bs (by omega) (by omega);rw[zcc 351 rfl rfl];by_cases c:TE d i=0
 ·have haok:=QdU c (Nat.le_of_lt hil) hpre htd ha hc;obtain⟨_,_,h3,_,_⟩:=NC c;have h:=fun o o1 o2 ρ=>Qrh ks l d bs haok hks hkl ha (fun n hn=>⟨(h3 n hn).1,by have:=h3 n hn;omega⟩) d.a [] o o1 o2 ρ rfl;simp only[c,Nu,VZ];generalize rtB ks d (W0 l d)=X at *;simp[-getElem?_pos,Zb,Ze,Zv,f351C,hi,c352,c];refine h false false false _ ?_ ?_ ?_ ?_ ?_ ?_ ?_ <;> simp[Qb]
 ·simp[-getElem?_pos,Zb,Ze,Zv,f351C,hi,c352,c]
def Qjp (ks:Qc) (d:Ded) (a:Qc) (o o1:Bool) (bs:Qa) (h:AOk d a) (hks: ∀x∈ks,x.mass < 1000000) (hkl:ks.length < 1000000):
  call tb 388 [.sl o 4 (Qb ks),.agg (Za d),.sl o1 4 (Qb a)] bs=some (.bool (rtB ks d a),bs):=by
 have htm:=h.tm;have htb:d.t.mass < big:=by unfold big;omega
 have gd:=h.gd;have hml:=h.ml;have hal:=h.al;rw[zcc 388 rfl rfl];unfold rtB;have one: ∀(w:Qu) (x:Tm),w.length<=7->a=[x]->∀o,call tb 389 [.agg (Qf d.t),.str w,.sl o 4 [Qf x]] bs=some (.bool (decide (Qq d.t (.mk 3 w 0 a)=0)),bs):=by
  intro w x hw e o;subst e;exact Kd d.t w [x] o bs htb (by rw[QK];simp only[Zz,Ya];unfold big;omega) (by simp)
 have two: ∀(w:Qu) (x y:Tm),w.length<=7->a=[x,y]->∀o,call tb 389 [.agg (Qf d.t),.str w,.sl o 4 [Qf x,Qf y]] bs=some (.bool (decide (Qq d.t (.mk 3 w 0 a)=0)),bs):=by
  intro w x y hw e o;subst e;exact Kd d.t w [x,y] o bs htb (by rw[QK];simp only[Zz,Ya];unfold big;omega) (by simp)
 by_cases r1:d.r=1
 ·simp only[r1,Zj];have hn:=h.n0;cases hk:ks[d.n.toNat]? with
  | none=>
   have hle:ks.length<=d.n.toNat:=by
    rcases QT d.n.toNat ks.length with h | h
    ·rw[Zq h]at hk;cases hk
    ·exact h
   have hlt: ¬d.n < (ks.length:Int):=by omega
   simp[-getElem?_pos,Zb,f388C,r1,hlt,Qk]
  | some k=>
   have hlt2:=(WN.1 hk).1;have hlt:d.n < (ks.length:Int):=by omega
   have h2:=Xs k d.t bs (by have:=hks k (XN hk);unfold big;omega) htb;simp[-getElem?_pos,Zb,f388C,r1,hlt,hn,hk,h2,Qk]
 ·by_cases r2:d.r=2
  ·have h2:=QiO d.t bs htm;simp[f388C,r2,h2,Qk]
  ·by_cases r3:d.r=3
   ·obtain⟨x,y,e⟩:=h.two (by rw[r3];rfl);have h2:=two [112,97,105,114] x y (by decide) e;have ew:X0 d.r=[112,97,105,114]:=by rw[r3];rfl
    have c6:d.r=3\/d.r=6\/d.r=8\/d.r=10\/d.r=11\/d.r=13:= .inl r3;rw[Qm r1,Qm r2,Qn c6,ew];have ea:Qb a=[Qf x,Qf y]:=by rw[e];simp[Qb]
    generalize decide (Qq d.t (.mk 3 [112,97,105,114] 0 a)=0)=X at *;simp[f388C,ea,r3,h2,Qk]
   ·by_cases r6:d.r=6
    ·obtain⟨x,y,e⟩:=h.two (by rw[r6];rfl);have h2:=two [101,110,99] x y (by decide) e;have ew:X0 d.r=[101,110,99]:=by rw[r6];rfl
     have c6:d.r=3\/d.r=6\/d.r=8\/d.r=10\/d.r=11\/d.r=13:= .inr (.inl r6);rw[Qm r1,Qm r2,Qn c6,ew];have ea:Qb a=[Qf x,Qf y]:=by rw[e];simp[Qb]
     generalize decide (Qq d.t (.mk 3 [101,110,99] 0 a)=0)=X at *;simp[f388C,ea,r6,h2,Qk]
    ·by_cases r8:d.r=8
     ·obtain⟨x,y,e⟩:=h.two (by rw[r8];rfl);have h2:=two [97,101,110,99] x y (by decide) e;have ew:X0 d.r=[97,101,110,99]:=by rw[r8];rfl
      have c6:d.r=3\/d.r=6\/d.r=8\/d.r=10\/d.r=11\/d.r=13:= .inr (.inr (.inl r8));rw[Qm r1,Qm r2,Qn c6,ew];have ea:Qb a=[Qf x,Qf y]:=by rw[e];simp[Qb]
      generalize decide (Qq d.t (.mk 3 [97,101,110,99] 0 a)=0)=X at *;simp[f388C,ea,r8,h2,Qk]
     ·by_cases r10:d.r=10
      ·obtain⟨x,e⟩:=h.one (by rw[r10];rfl);have h2:=one [112,107] x (by decide) e;have ew:X0 d.r=[112,107]:=by rw[r10];rfl
       have c6:d.r=3\/d.r=6\/d.r=8\/d.r=10\/d.r=11\/d.r=13:= .inr (.inr (.inr (.inl r10)));rw[Qm r1,Qm r2,Qn c6,ew];have ea:Qb a=[Qf x]:=by rw[e];simp[Qb]
       generalize decide (Qq d.t (.mk 3 [112,107] 0 a)=0)=X at *;simp[f388C,ea,r10,h2,Qk]
      ·by_cases r11:d.r=11
       ·obtain⟨x,y,e⟩:=h.two (by rw[r11];rfl);have h2:=two [115,105,103,110] x y (by decide) e;have ew:X0 d.r=[115,105,103,110]:=by rw[r11];rfl
        have c6:d.r=3\/d.r=6\/d.r=8\/d.r=10\/d.r=11\/d.r=13:= .inr (.inr (.inr (.inr (.inl r11))));rw[Qm r1,Qm r2,Qn c6,ew];have ea:Qb a=[Qf x,Qf y]:=by rw[e];simp[Qb]
        generalize decide (Qq d.t (.mk 3 [115,105,103,110] 0 a)=0)=X at *;simp[f388C,ea,r11,h2,Qk]
       ·by_cases r13:d.r=13
        ·obtain⟨x,e⟩:=h.one (by rw[r13];rfl);have h2:=one [104,97,115,104] x (by decide) e;have ew:X0 d.r=[104,97,115,104]:=by rw[r13];rfl
         have c6:d.r=3\/d.r=6\/d.r=8\/d.r=10\/d.r=11\/d.r=13:= .inr (.inr (.inr (.inr (.inr r13))));rw[Qm r1,Qm r2,Qn c6,ew];have ea:Qb a=[Qf x]:=by rw[e];simp[Qb]
         generalize decide (Qq d.t (.mk 3 [104,97,115,104] 0 a)=0)=X at *;simp[f388C,ea,r13,h2,Qk]
        ·simp only[r1,r2,r3,r6,r8,r10,r11,r13,or_self,Zi];clear one two;by_cases r4:d.r=4
         ·obtain⟨x,rfl⟩:=h.one (by rw[r4];rfl);obtain⟨g1,g2⟩:=gd x (by simp);have h2:=I7 x YE 0 d.t bs (by unfold big;omega) htb (by omega);rw[show((0:Nat):Int)=0 from rfl]at h2;unfold YE at h2 ⊢;simp[f388C,r4,h2,Qb,Qk]
         ·by_cases r5:d.r=5
          ·obtain⟨x,rfl⟩:=h.one (by rw[r5];rfl);obtain⟨g1,g2⟩:=gd x (by simp);have h2:=I7 x YE 1 d.t bs (by unfold big;omega) htb (by omega);rw[show((1:Nat):Int)=1 from rfl]at h2;unfold YE at h2 ⊢;simp[f388C,r5,h2,Qb,Qk]
          ·by_cases r12:d.r=12
           ·obtain⟨x,rfl⟩:=h.one (by rw[r12];rfl);obtain⟨g1,g2⟩:=gd x (by simp);have h2:=I7 x YZ 0 d.t bs (by unfold big;omega) htb (by omega);rw[show((0:Nat):Int)=0 from rfl]at h2;unfold YZ at h2 ⊢;simp[f388C,r12,h2,Qb,Qk]
           ·by_cases r7:d.r=7
            ·obtain⟨x,y,rfl⟩:=h.two (by rw[r7];rfl);obtain⟨g1,g2⟩:=gd x (by simp);obtain⟨g3,g4⟩:=gd y (by simp);have h2:=fun o=>Kd x ENC [d.t,y] o bs (by unfold big;omega) (by rw[QK];simp only[Zz,Ya,Qv,ZQ,Xd,ENC];unfold big;omega) (by simp);rw[Ax g1 (.inr (.inl rfl))]at h2;rw[Qm r4,Qm r5,Qm r12,Qn r7,show([x,y]:Qc).headD QM=x from rfl,show([x,y]:Qc).getD 1 QM=y from rfl];generalize (WW x ENC 0 d.t && decide (Qq (kid x 1) y=0))=X at *;unfold ENC at h2;simp only[Qb]at h2;simp[f388C,r7,h2,Qb,Qk]
            ·by_cases r9:d.r=9
             ·obtain⟨x,y,rfl⟩:=h.two (by rw[r9];rfl);obtain⟨g1,g2⟩:=gd x (by simp);obtain⟨g3,g4⟩:=gd y (by simp);have h3:=fun o=>U1 PK [y] o bs (by simp);have h2:=fun o=>Kd x Xw [d.t,.mk 3 PK 0 [y]] o bs (by unfold big;omega) (by simp only[Tm.mass,Qv,ZQ,Xd,Xw,PK];unfold big;omega) (by simp);rw[Ax g1 (.inr (.inr (.inl rfl))),QoP (Oc g1 1)]at h2;rw[Qm r4,Qm r5,Qm r12,Qm r7,Qn r9,show([x,y]:Qc).headD QM=x from rfl,show([x,y]:Qc).getD 1 QM=y from rfl];obtain⟨T2,hT2⟩: ∃T2,T2=Tm.mk 3 PK 0 [y]:=⟨_,rfl⟩;rw[<- hT2]at h2 h3;generalize (WW x Xw 0 d.t && WW (kid x 1) PK 0 y)=X at *;unfold Xw at h2;simp only[Qb]at h2 h3;unfold PK at h3;simp[f388C,r9,h2,h3,Qb,Qk]
             ·have rr:d.r=14\/d.r=15\/d.r=16:=by
               rcases R4 h.ok with e | e | e | e | e | e | e | e | e | e | e | e | e | e | e | e <;> simp_all
              have h2:=Qjq d a false bs rr htm (fun x hx=>(gd x hx).2) h.al h.ml h.cl h.p15 (fun hb=>(gd2 (Po h.td).1 hb (.inr (.inr (.inr (.inr rfl))))).1) (fun x hx hb=>(gd2 (gd x hx).1 hb (.inr (.inr (.inr (.inr rfl))))).1);simp only[r4,r5,r12,r7,r9,Zi];simp[f388C,r1,r2,r3,r6,r8,r10,r11,r13,r4,r5,r12,r7,r9,h2,Qk]
def I8 (t:Tm) (bs:Qa) (hm:t.mass < 1000000):call tb 349 [.agg (Qf t)] bs=some (.bool (decide (Zc t=0)),bs):=by
 have hb:t.mass < big:=by unfold big;omega
 have h1:=P9 t bs hb;have h2:=HD t bs (by omega);have h3:=B4 t bs hb;have hlen: (Qb (WX t)).length=(WX t).length:=by simp[YU]
 rw[zcc 349 rfl rfl];unfold Zc;by_cases c:thV t=0
 ·rw[c]at h1;by_cases c2:WX t=[]
  ·rw[c2]at h2;simp only[Qb]at h2;cases c3:Uw t
   ·rw[c3]at h3;simp[f349C,h1,h2,h3,c,c2,Qk]
   ·rw[c3]at h3;simp[f349C,h1,h2,h3,c,c2,Qk]
  ·have c4: ¬((WX t).length:Int)=0:=fun e=>c2 (YX (by omega));simp[f349C,h1,h2,hlen,c,c2,c4,Qk]
 ·simp[f349C,h1,c,Qk]
def stB (ks:Qc) (l:QL) (i:Nat) (d:Ded):Bool:=decide (Zc d.t=0) && (decide (TE d i=0) && rtB ks d (W0 l d))
def W9 (ks:Qc) (l:QL):Nat->QL->Bool
 | _,[]=>true
 | i,d:: r=>stB ks l i d && W9 ks l (i+1) r
def VK (l:QL) (t:Tm):Bool:=match l.getLast? with | some d=>decide (Qq d.t t=0) | none=>false
def Pa (ks:Qc) (l:QL) (t:Tm):Bool:=
 !(decide (l.length=0) || decide (400 < l.length) || decide (200 < ks.length) || !decide (Zc t=0) || !VK l t) && (ks.all (fun x=>decide (Zc x=0)) && W9 ks l 0 l)
structure OV (ks:List Tm) (l:List Ded):Prop where
 km: ∀x∈ks,x.mass < 1000000
 kl:ks.length < 1000000
 tm: ∀d∈l,d.t.mass < 1000000
 al: ∀d∈l,d.a.length<=1000
 cl: ∀d∈l,d.c.length<=1000
 ll:l.length < 1000000
def Qqq (ks:Qc) (l:QL) (bs:Qa) (h:OV ks l):
  ∀(post pre:QL) (o o1 o2:Bool) (ρ:Ql),l=pre ++ post->(∀d∈pre,Zc d.t=0)->ρ 0= .sl o 4 (Qb ks)->ρ 1= .sl o1 8 (QD l)->ρ 51= .sl o2 8 (QD l)->ρ 52= .int .i64 l.length->ρ 53= .int .i64 pre.length->
  R tb (.loop f348l1) ρ bs (Qo 2 (QB tb f348r0 (QN f348 bs)))=some (.bool (W9 ks l pre.length post),bs):=by
 intro post
 induction post with
 | nil=>
  intro pre o o1 o2 ρ hk hp h0 h1 h51 h52 h53;simp only[QH]at hk;rw[<- hk]at h53;rw[Qe f348l1.eq_1];simp[h0,h1,h51,h52,h53,W9,f348r0]
 | cons d post IH=>
  intro pre o o1 o2 ρ hk hp h0 h1 h51 h52 h53;have hgt:=Qw hk;have hll:=QE hk;have hl2:=h.ll;have hw1:=wr1 pre.length (by omega);have hlt:=QI hk;have hd:d∈l:=by rw[hk];simp
  have c349:=I8 d.t bs (h.tm d hd);simp only[W9,stB];by_cases c:Zc d.t=0
  ·have c351:=fun o o1=>Qi6 ks l pre.length d o o1 bs hgt (fun j x hj hx=>by
    rw[hk,ZH hj]at hx;exact hp x (XN hx)) c (h.al d hd) (h.cl d hd) h.km h.kl
   have ih:=fun ρ=>IH (pre ++ [d]) o o1 o2 ρ (by rw[hk];simp) (fun x hx=>by
    rcases Xe.1 hx with hx | hx
    ·exact hp x hx
    ·simp at hx;subst hx;exact c)
   rw[Zk,RA]at ih;generalize W9 ks l (pre.length+1) post=Y at *;generalize (decide (TE d ↑pre.length=0) && rtB ks d (W0 l d))=X at *;rw[Qe f348l1.eq_1];cases X
   ·simp[h0,h1,h51,h52,h53,hlt,hgt,c349,c351,c]
   ·simp[h0,h1,h51,h52,h53,hlt,hgt,hw1,c349,c351,c];apply ih <;> simp[h0,h1,h51,h52]
  ·rw[Qe f348l1.eq_1];simp[h0,h1,h51,h52,h53,hlt,hgt,c349,c]
def Qqp (ks:Qc) (l:QL) (bs:Qa) (h:OV ks l):
  ∀(post pre:Qc) (o o1 o2:Bool) (ρ:Ql),ks=pre ++ post->ρ 0= .sl o 4 (Qb ks)->ρ 1= .sl o1 8 (QD l)->ρ 41= .sl o2 4 (Qb ks)->ρ 42= .int .i64 ks.length->ρ 43= .int .i64 pre.length->
  R tb (.loop f348l0) ρ bs (Qo 0 (QB tb f348r1 (QN f348 bs)))=some (.bool (post.all (fun x=>decide (Zc x=0)) && W9 ks l 0 l),bs):=by
 intro post
 induction post with
 | nil=>
  intro pre o o1 o2 ρ hk h0 h1 h41 h42 h43;simp only[QH]at hk;rw[<- hk]at h43;have hh:=fun o o1 o2 ρ=>Qqq ks l bs h l [] o o1 o2 ρ rfl (by simp);simp only[Xd]at hh;generalize W9 ks l 0 l=X at *;rw[Qe f348l0.eq_1];simp[h0,h1,h41,h42,h43,f348r1];refine hh o o1 false _ ?_ ?_ ?_ ?_ ?_ <;> simp[h0,h1]
 | cons x post IH=>
  intro pre o o1 o2 ρ hk h0 h1 h41 h42 h43;have hgt:=Qw hk;have hll:=QE hk;have hkl:=h.kl;have hw1:=wr1 pre.length (by omega);have hlt:=QI hk;have c349:=I8 x bs (h.km x (by rw[hk];simp));have ih:=fun ρ=>IH (pre ++ [x]) o o1 o2 ρ (by rw[hk];simp);simp only[SL];generalize W9 ks l 0 l=X at *;generalize post.all (fun x=>decide (Zc x=0))=Y at *;rw[Qe f348l0.eq_1];by_cases c:Zc x=0
  ·simp[h0,h1,h41,h42,h43,hlt,hgt,hw1,c349,c,Qk];apply ih <;> simp[h0,h1,h41,h42]
  ·simp[h0,h1,h41,h42,h43,hlt,hgt,c349,c,Qk]
def Og {l:QL} (h:l≠[]): ∃d,l.getLast?=some d/\l[l.length - 1]? =some d/\d∈l:=by
 rcases EO l with e | ⟨pre,d,rfl⟩
 ·exact absurd e h
 ·simp only[EP];exact⟨d,by simp,by simp,by simp⟩
def Ad (ks:Qc) (l:QL) (t:Tm) (o o1:Bool) (bs:Qa) (h:OV ks l) (ht:t.mass < 1000000):
  call tb 348 [.sl o 4 (Qb ks),.sl o1 8 (QD l),.agg (Qf t)] bs=some (.bool (Pa ks l t),bs):=by
 have c349:=I8 t bs ht;rw[zcc 348 rfl rfl];unfold Pa;by_cases k0:l.length=0
 ·have:l=[]:=YX k0;subst this;simp[f348C,QD]
 ·have k0': ¬l=[]:=fun e=>k0 (by simp[e]);obtain⟨d,e1,e2,hd⟩:=Og (l:=l) k0';have el:VK l t=decide (Qq d.t t=0):=by unfold VK;rw[e1]
  rw[el];by_cases k1:400 < l.length
  ·have k1': (400:Int) < (l.length:Int):=by omega
   simp[f348C,k0,k0',k1,k1']
  ·have k1': ¬(400:Int) < (l.length:Int):=by omega
   by_cases k2:200 < ks.length
   ·have k2': (200:Int) < (ks.length:Int):=by omega
    simp[f348C,k0,k0',k1,k1',k2,k2']
   ·have k2': ¬(200:Int) < (ks.length:Int):=by omega
    by_cases k3:Zc t=0
    ·have c350:=Sj d.t t bs (by have:=h.tm d hd;unfold big;omega) (by unfold big;omega);have hw:IntKind.i64.wrap ((l.length:Int) - 1)=(l.length:Int) - 1:=Zf (by have:=h.ll;omega) (by have:=h.ll;omega);have hn: ((l.length:Int) - 1).toNat=l.length - 1:=by omega
     have hn0: (0:Int)<=(l.length:Int) - 1:=by omega
     have hn1: (1:Int)<=(l.length:Int):=by omega
     by_cases k4:Qq d.t t=0
     ·have hh:=fun o o1 o2 ρ=>Qqp ks l bs h ks [] o o1 o2 ρ rfl;simp only[k0,k1,k2,k3,k4,Lh,Nu,JN,Nt,Bool.not_false,VZ];generalize (ks.all (fun x=>decide (Zc x=0)) && W9 ks l 0 l)=X at *;simp[-getElem?_pos,Zb,f348C,k0',k1',k2',c349,c350,hw,hn,hn0,hn1,e2,k3,k4,Qk];refine hh false false false _ ?_ ?_ ?_ ?_ ?_ <;> simp
     ·simp[-getElem?_pos,Zb,f348C,k0,k1,k2,k0',k1',k2',c349,c350,hw,hn,hn0,hn1,e2,k3,k4,Qk]
    ·simp[f348C,k0,k0',k1,k1',k2,k2',c349,k3,Qk]
def Qrd (l:QL) (i:Nat) (d:Ded) (bs:Qa) (hi:l[i]? =some d) (hal:d.a.length<=1000) (hin: ∀n∈d.a,0<=n/\n.toNat < l.length) (c:AC) (K:Kn) (X:Out):
  ∀(post pre:QO) (o1:Bool) (ρ:Ql),d.a=pre ++ post->ρ 1= .sl o1 8 (QD l)->ρ 8= .int .i64 i->ρ 9= .sl true 4 (Qb (pre.map fun n=>((l[n.toNat]?).map Ded.t).getD QM))->ρ 10= .int .i64 pre.length->
   (∀ρ':Ql,(∀j,j < 9->ρ' j=ρ j)->ρ' 9= .sl true 4 (Qb (W0 l d))->R tb c ρ' bs K=X)->
  R tb (.loop f384l1) ρ bs (Qo 4 (QB tb c K))=X:=by
 intro post
 induction post with
 | nil=>
  intro pre o1 ρ hk h1 h8 h9 h10 H;simp only[QH]at hk;rw[<- hk]at h10 h9;change ρ 9= .sl true 4 (Qb (W0 l d))at h9;generalize Qb (W0 l d)=E1 at *;rw[Qe f384l1.eq_1];simp[-getElem?_pos,Zb,Ze,Zv,h1,h8,h9,h10,hi];refine H _ (fun j hj=> ?_) ?_
  ·simp[show j≠63 by omega,show j≠64 by omega,show j≠65 by omega,show j≠66 by omega,show j≠67 by omega,show j≠68 by omega,show j≠69 by omega,show j≠70 by omega]
  ·simp[h9]
 | cons n post IH=>
  intro pre o1 ρ hk h1 h8 h9 h10 H;have hgt:=Qw hk;have hll:=QE hk;have hw1:=wr1 pre.length (by omega);have hlt:=QI hk;obtain⟨n0,nl⟩:=hin n (by rw[hk];simp);have hx:=Zq nl;have hb: ((pre.map fun n=>((l[n.toNat]?).map Ded.t).getD QM).length+1)*56<=140737488355328:=WV (by simp;omega);have ih:=fun ρ=>IH (pre ++ [n]) o1 ρ (by rw[hk];simp);have e: (pre ++ [n]).map (fun n=>((l[n.toNat]?).map Ded.t).getD QM)=pre.map (fun n=>((l[n.toNat]?).map Ded.t).getD QM)++ [(l[n.toNat]'nl).t]:=by simp[hx]
  rw[e]at ih;generalize l[n.toNat]'nl=x at *;generalize pre.map (fun n=>((l[n.toNat]?).map Ded.t).getD QM)=acc at *;generalize Qb (W0 l d)=E1 at *;rw[Qe f384l1.eq_1];simp[-getElem?_pos,Zb,Ze,Zv,h1,h8,h9,h10,hi,hlt,hgt,hw1,n0,hx,hb,Qk,Z4,ZL];refine ih _ ?_ ?_ ?_ ?_ ?_
  ·simp[h1]
  ·simp[h8]
  ·simp
  ·simp
  ·intro ρ' gj g9;refine H ρ' (fun j hj=> ?_) g9;rw[gj j hj];simp[show j≠9 by omega,show j≠10 by omega,show j≠63 by omega,show j≠64 by omega,show j≠65 by omega,show j≠66 by omega,show j≠67 by omega,show j≠68 by omega,show j≠69 by omega,show j≠70 by omega,show j≠71 by omega,show j≠72 by omega,show j≠73 by omega,show j≠74 by omega,show j≠75 by omega,show j≠76 by omega,show j≠77 by omega,show j≠78 by omega,show j≠79 by omega,show j≠80 by omega,show j≠81 by omega,show j≠82 by omega,show j≠83 by omega,show j≠84 by omega,show j≠85 by omega,show j≠86 by omega,show j≠87 by omega]
def Qre (ks:Qc) (l:QL) (t:Tm) (bs:Qa) (h:OV ks l) (ht:t.mass < 1000000) (hne:l≠[]):
  ∀(post pre:QL) (o o1:Bool) (ρ:Ql),l=pre ++ post->(∀d∈pre,Zc d.t=0)->ρ 0= .sl o 4 (Qb ks)->ρ 1= .sl o1 8 (QD l)->ρ 5= .bx (Qf t)->ρ 8= .int .i64 pre.length->
  R tb (.loop f384l2) ρ bs (Qo 2 (QB tb f384r2 (QN f384 bs)))=some (.bool (W9 ks l pre.length post && VK l t),bs):=by
 intro post
 induction post with
 | nil=>
  intro pre o o1 ρ hk hp h0 h1 h5 h8;simp only[QH]at hk;rw[<- hk]at h8;obtain⟨d,e1,e2,hd⟩:=Og hne;have el:VK l t=decide (Qq d.t t=0):=by unfold VK;rw[e1]
  have c89:=Xs d.t t bs (by have:=h.tm d hd;unfold big;omega) (by unfold big;omega);have hl0:0 < l.length:=Tk.2 hne;have hw:IntKind.i64.wrap ((l.length:Int) - 1)=(l.length:Int) - 1:=Zf (by have:=h.ll;omega) (by have:=h.ll;omega);have hn: ((l.length:Int) - 1).toNat=l.length - 1:=by omega
  have hn0: (0:Int)<=(l.length:Int) - 1:=by omega
  have hn1: (1:Int)<=(l.length:Int):=by omega
  rw[Qe f384l2.eq_1,el];simp[-getElem?_pos,Zb,h0,h1,h5,h8,W9,f384r2,hw,hn,hn0,hn1,e2,c89,Qk]
 | cons d post IH=>
  intro pre o o1 ρ hk hp h0 h1 h5 h8;have hgt:=Qw hk;have hll:=QE hk;have hl2:=h.ll;have hw1:=wr1 pre.length (by omega);have hlt:=QI hk;have hd:d∈l:=by rw[hk];simp
  have hda:=h.al d hd;have hdc:=h.cl d hd;have c233:=I6 d.t bs (h.tm d hd);have c385:=Qjm d pre.length bs (by omega) (by omega);simp only[W9,stB];by_cases c1:TE d pre.length=0
  ·by_cases c:Zc d.t=0
   ·have hpre: ∀j x,j < pre.length->l[j]? =some x->Zc x.t=0:=fun j x hj hx=>by
     rw[hk,ZH hj]at hx;exact hp x (XN hx)
    have haok:=QdU c1 (by omega) hpre c hda hdc;obtain⟨_,_,h3,_,_⟩:=NC c1;have c388:=fun o o1=>Qjp ks d (W0 l d) o o1 bs haok h.km h.kl;have hin:=fun o1 ρ c K X=>Qrd l pre.length d bs hgt hda (fun n hn=>⟨(h3 n hn).1,by have:=h3 n hn;omega⟩) c K X d.a [] o1 ρ rfl;have ih:=fun ρ=>IH (pre ++ [d]) o o1 ρ (by rw[hk];simp) (fun x hx=>by
     rcases Xe.1 hx with hx | hx
     ·exact hp x hx
     ·simp at hx;subst hx;exact c)
    rw[Zk,RA]at ih;generalize W9 ks l (pre.length+1) post=Y at *;generalize VK l t=Z at *;generalize rtB ks d (W0 l d)=X at *;rw[Qe f384l2.eq_1];simp[-getElem?_pos,Zb,Ze,Zv,h0,h1,h5,h8,hlt,hgt,c385,c233,c1,c,Qk];refine hin o1 _ _ _ _ ?_ ?_ ?_ ?_ ?_
    ·simp[h1]
    ·simp[h8]
    ·simp[Qb]
    ·simp
    ·intro ρ' gj g9;have e0:=gj 0 (by omega);have e1:=gj 1 (by omega);have e5:=gj 5 (by omega);have e8:=gj 8 (by omega);simp[h0]at e0;simp[h1]at e1;simp[h5]at e5;simp[h8]at e8;cases X
     ·simp[-getElem?_pos,Zb,f384r0,f384r1,g9,e0,e1,e5,e8,hgt,c388]
     ·simp[-getElem?_pos,Zb,f384r0,f384r1,g9,e0,e1,e5,e8,hgt,c388,hw1];apply ih <;> simp[e0,e1,e5]
   ·rw[Qe f384l2.eq_1];simp[-getElem?_pos,Zb,Ze,Zv,h0,h1,h5,h8,hlt,hgt,c385,c233,c1,c,Qk]
  ·rw[Qe f384l2.eq_1];simp[-getElem?_pos,Zb,Ze,Zv,h0,h1,h5,h8,hlt,hgt,c385,c1,Qk]
def Qrc (ks:Qc) (l:QL) (t:Tm) (bs:Qa) (h:OV ks l) (ht:t.mass < 1000000) (hne:l≠[]):
  ∀(post pre:Qc) (o o1:Bool) (ρ:Ql),ks=pre ++ post->ρ 0= .sl o 4 (Qb ks)->ρ 1= .sl o1 8 (QD l)->ρ 5= .bx (Qf t)->ρ 7= .int .i64 pre.length->
  R tb (.loop f384l0) ρ bs (Qo 0 (QB tb f384r3 (QN f384 bs)))=some (.bool (post.all (fun x=>decide (Zc x=0)) && (W9 ks l 0 l && VK l t)),bs):=by
 intro post
 induction post with
 | nil=>
  intro pre o o1 ρ hk h0 h1 h5 h7;simp only[QH]at hk;rw[<- hk]at h7;have hh:=fun o o1 ρ=>Qre ks l t bs h ht hne l [] o o1 ρ rfl (by simp);simp only[Xd]at hh;generalize (W9 ks l 0 l && VK l t)=X at *;rw[Qe f384l0.eq_1];simp[h0,h1,h5,h7,f384r3];refine hh o o1 _ ?_ ?_ ?_ ?_ <;> simp[h0,h1,h5]
 | cons x post IH=>
  intro pre o o1 ρ hk h0 h1 h5 h7;have hgt:=Qw hk;have hll:=QE hk;have hkl:=h.kl;have hw1:=wr1 pre.length (by omega);have hlt:=QI hk;have c233:=I6 x bs (h.km x (by rw[hk];simp));have ih:=fun ρ=>IH (pre ++ [x]) o o1 ρ (by rw[hk];simp);simp only[SL];generalize (W9 ks l 0 l && VK l t)=X at *;generalize post.all (fun x=>decide (Zc x=0))=Y at *;rw[Qe f384l0.eq_1];by_cases c:Zc x=0
  ·simp[h0,h1,h5,h7,hlt,hgt,hw1,c233,c,Qk];apply ih <;> simp[h0,h1,h5]
  ·simp[h0,h1,h5,h7,hlt,hgt,c233,c,Qk]
def Qjl (ks:Qc) (l:QL) (t:Tm) (o o1:Bool) (bs:Qa) (h:OV ks l) (ht:t.mass < 1000000):
  call tb 384 [.sl o 4 (Qb ks),.sl o1 8 (QD l),.agg (Qf t)] bs=some (.bool (Pa ks l t),bs):=by
 have c233:=I6 t bs ht;rw[zcc 384 rfl rfl];unfold Pa;by_cases k2:200 < ks.length
 ·have k2': (200:Int) < (ks.length:Int):=by omega
  simp[f384C,k2,k2']
 ·have k2': ¬(200:Int) < (ks.length:Int):=by omega
  by_cases k0:l=[]
  ·subst k0;simp[f384C,QD,k2,k2']
  ·have k0': ¬l.length=0:=fun e=>k0 (YX e);by_cases k1:400 < l.length
   ·have k1': (400:Int) < (l.length:Int):=by omega
    simp[f384C,k0,k1,k1',k2,k2']
   ·have k1': ¬(400:Int) < (l.length:Int):=by omega
    by_cases k3:Zc t=0
    ·have hh:=fun o o1 ρ=>Qrc ks l t bs h ht k0 ks [] o o1 ρ rfl;have e: (!(decide (l.length=0) || decide (400 < l.length) || decide (200 < ks.length) || !decide (Zc t=0) || !VK l t) && (ks.all (fun x=>decide (Zc x=0)) && W9 ks l 0 l))=(ks.all (fun x=>decide (Zc x=0)) && (W9 ks l 0 l && VK l t)):=by
      simp only[k0',k1,k2,k3,Lh,Nu,Lf,Nt,Bool.not_not];cases VK l t <;> cases ks.all (fun x=>decide (Zc x=0)) <;> cases W9 ks l 0 l <;> rfl
     rw[e];generalize (ks.all (fun x=>decide (Zc x=0)) && (W9 ks l 0 l && VK l t))=X at *;simp[f384C,k0,k1',k2',c233,k3,Qk];refine hh false false _ ?_ ?_ ?_ ?_ <;> simp
    ·simp[f384C,k0,k1,k1',k2,k2',c233,k3,Qk]
section
variable {α:Type}
def xv (a b:α->Bool):α->Bool:=fun t=>a t ^^ b t
def zv0:α->Bool:=fun _=>false
def QlA (a:α->Bool):xv a zv0=a:=by funext t;simp[xv,zv0]
def Qai (a:α->Bool):xv zv0 a=a:=by funext t;simp[xv,zv0]
def Qlz (a:α->Bool):xv a a=zv0:=by funext t;simp[xv,zv0]
def Qly (a b:α->Bool):xv a b=xv b a:=by funext t;simp[xv,Bool.xor_comm]
def Mz (a b c:α->Bool):xv (xv a b) c=xv a (xv b c):=by funext t;simp[xv]
def QfC (a b:α->Bool):xv a (xv a b)=b:=by rw[<- Mz,Qlz,Qai]
inductive Sp (L:List (α->Bool)): (α->Bool)->Prop
 | zero:Sp L zv0
 | add {v w:α->Bool}:v∈L->Sp L w->Sp L (xv v w)
def Sp.mem {L:List (α->Bool)} {v:α->Bool} (h:v∈L):Sp L v:=by
 have:=Sp.add h Sp.zero;rwa[QlA]at this
def Sp.sum {L:List (α->Bool)} {v w:α->Bool} (h:Sp L v) (h2:Sp L w):Sp L (xv v w):=by
 induction h with
 | zero=>rwa[Qai]
 | add hm _ ih=>rw[Mz];exact .add hm ih
def Sp.sub {L M:List (α->Bool)} {v:α->Bool} (h: ∀x∈L,Sp M x) (hv:Sp L v):Sp M v:=by
 induction hv with
 | zero=>exact .zero
 | add hm _ ih=>exact(h _ hm).sum ih
def Sp.mono {L M:List (α->Bool)} {v:α->Bool} (h: ∀x∈L,x∈M) (hv:Sp L v):Sp M v:=hv.sub fun x hx=> .mem (h x hx)
def Sp.cons {r:α->Bool} {L:List (α->Bool)} {v:α->Bool} (h:Sp (r:: L) v):Sp L v\/Sp L (xv r v):=by
 induction h with
 | zero=>exact .inl .zero
 | @add x w hm _ ih=>
  rcases ZE.1 hm with rfl | hm
  ·rcases ih with ih | ih
   ·exact .inr (by rwa[QfC])
   ·exact .inl ih
  ·rcases ih with ih | ih
   ·exact .inl (.add hm ih)
   ·exact .inr (by
     have:=Sp.add hm ih;rwa[<- Mz,Qly x r,Mz]at this)
end
end Go.Am
namespace Go.Am
set_option maxRecDepth 20000
def TAt (l:Qc) (t:Tm) (k:Nat):Prop:=k<=l.length/\(∀(i:Nat) (p:Tm),l[i]? =some p->i < k->Qq p t < 0)/\(∀(i:Nat) (p:Tm),l[i]? =some p->k<=i->¬Qq p t < 0)
def Ow (l:Qc) (t:Tm) (k:Nat):Bool:=match l[k]? with
 | some p=>decide (Qq p t=0)
 | none=>false
def Qou (l:Qc) (t:Tm) (B:Qa) (r:Out):Prop:=∃k,TAt l t k/\r=some (.tup [.int .i64 k,.bool (Ow l t k)],B)
def QhN {l:Qc} {t:Tm} {k:Nat} (ha:Asc l) (h:TAt l t k):Ow l t k=WK l t:=by
 obtain⟨h1,h2,h3⟩:=h;unfold Ow WK;cases hk:l[k]? with
 | none=>
  symm;rw[TU];intro x hx;obtain⟨i,hi⟩:=UG hx;have:i < k:=by
   rcases QT i k with h | h
   ·exact h
   ·have hl:=(WN.1 hi).1;have:k < l.length:=by omega
    rw[Zq this]at hk;cases hk
  have:=h2 i x hi this;simp;omega
 | some p=>
  simp only;rw[JP,UX];constructor
  ·intro h;exact⟨p,XN hk,h⟩
  ·rintro⟨x,hx,he⟩
   have e0:Qq x t=0:=by simpa using he
   obtain⟨i,hi⟩:=UG hx;rcases JM i k with h | h | h
   ·have:=h2 i x hi h;omega
   ·subst h;rw[hi]at hk;injection hk with hk;subst hk;simpa using e0
   ·obtain⟨g1,e1⟩:=WN.1 hi;obtain⟨g2,e2⟩:=WN.1 hk;have hlt:=Nb.1 ha k i g2 g1 h;rw[e1,e2,(Wt.1 e0)]at hlt;exact absurd hlt (h3 k p hk (Zm _))
def QhB {l:Qc} {t:Tm} {B:Qa} (hl:l.length < 100000000) (hm: ∀p∈l,p.mass < big) (ht:t.mass < big) (ha:Asc l):
  ∀(d i j:Nat) (o:Bool) (ρ:Ql),j - i<=d->i<=j->j<=l.length->(∀(k:Nat) (p:Tm),l[k]? =some p->k < i->Qq p t < 0)->(∀(k:Nat) (p:Tm),l[k]? =some p->j<=k->¬Qq p t < 0)->
  ρ 0= .sl o 4 (Qb l)->ρ 4= .bx (Qf t)->ρ 2= .fn 30 []->ρ 8= .int .i64 l.length->ρ 9= .int .i64 i->ρ 10= .int .i64 j->
  Qou l t B (R tb (.loop f524l0) ρ B (Qo 0 (QB tb f524r0 (QN f524 B)))):=by
 have mono: ∀(i j:Nat) (p q:Tm),l[i]? =some p->l[j]? =some q->i<=j->Qq q t < 0->Qq p t < 0:=by
  intro i j p q hp hq hij h;rcases QT i j with hlt | hge
  ·obtain⟨h1,rfl⟩:=WN.1 hp;obtain⟨h2,rfl⟩:=WN.1 hq;exact Xy (Nb.1 ha i j h1 h2 hlt) h
  ·have:i=j:=by omega
   subst this;rw[hp]at hq;injection hq with hq;subst hq;exact h
 intro d
 induction d with
 | zero=>
  intro i j o ρ hd hij hj hlo hhi h0 h4 h2 h8 h9 h10;have:i=j:=by omega
  subst this;refine⟨i,⟨hj,hlo,hhi⟩,?_⟩;rw[Qe f524l0.eq_1];by_cases c1:i < l.length
  ·have hp:=Zq c1;have hmp:=hm _ (SI c1);have c1': (i:Int) < (l.length:Int):=by omega
   have hh:Ow l t i=decide (Qq l[i] t=0):=by simp[Ow,hp]
   rw[hh];generalize l[i]=p at *;have h3:=call_Compare p t B hmp ht;simp[-getElem?_pos,Zb,f524r0,h0,h2,h4,h8,h9,h10,c1',hp,h3]
  ·have hh:Ow l t i=false:=by simp[Ow,Q2 (Nat.le_of_not_lt c1)]
   have c1': ¬(i:Int) < (l.length:Int):=by omega
   simp[f524r0,h0,h2,h4,h8,h9,h10,c1',hh]
 | succ d IH=>
  intro i j o ρ hd hij hj hlo hhi h0 h4 h2 h8 h9 h10;by_cases hlt:i < j
  ·have hmn: (i+j) / 2 < l.length:=by omega
   have hw:=DZ (i:=i) (j:=j) (by omega);have hp:=Zq hmn;have hmp:=hm _ (SI hmn);have hltI: (i:Int) < (j:Int):=by omega
   have hb1:i<=(i+j) / 2:=by omega
   have hb2: (i+j) / 2 < j:=by omega
   generalize l[(i+j) / 2]=p at *;generalize hmm: (i+j) / 2=m at *;have h3:=call_Compare p t B hmp ht;have hw1:IntKind.i64.wrap ((m:Int)+1)=((m+1:Nat):Int):=by rw[Zf (by omega) (by omega)];omega
   rw[Qe f524l0.eq_1];by_cases cc1:Qq p t < 0
   ·have ih:=fun o ρ=>IH (m+1) j o ρ (by omega) (by omega) hj (fun k q hq hk=>mono k m q p hq hp (by omega) cc1) hhi;simp[-getElem?_pos,h0,h2,h4,h8,h9,h10,hltI,hw,hw1,hp,h3,cc1];refine ih o _ ?_ ?_ ?_ ?_ ?_ ?_ <;> simp[h0,h2,h4,h8,h10]
   ·have ih:=fun o ρ=>IH i m o ρ (by omega) (by omega) (by omega) hlo (fun k q hq hk h=>cc1 (mono m k p q hp hq hk h));simp[-getElem?_pos,h0,h2,h4,h8,h9,h10,hltI,hw,hw1,hp,h3,cc1];refine ih o _ ?_ ?_ ?_ ?_ ?_ ?_ <;> simp[h0,h2,h4,h8,h9]
  ·exact IH i j o ρ (by omega) hij hj hlo hhi h0 h4 h2 h8 h9 h10
def Qjz {l:Qc} {t:Tm} {B:Qa} (o:Bool) (hl:l.length < 100000000) (hm: ∀p∈l,p.mass < big) (ht:t.mass < big) (ha:Asc l):
  Qou l t B (call tb 524 [.sl o 4 (Qb l),.agg (Qf t),.fn 30 []] B):=by
 have h:=fun ρ=>QhB (B:=B) hl hm ht ha l.length 0 l.length false ρ (by omega) (by omega) (by omega) (fun k p _ hk=>by omega) (fun k p hp hk=>by rw[Q2 hk]at hp;cases hp);rw[zcc 524 rfl rfl];simp[-getElem?_pos,f524C];refine h _ ?_ ?_ ?_ ?_ ?_ ?_ <;> simp
def Qiu {l:Qc} {t:Tm} {k:Nat} (h:TAt l t k) (hh:Ow l t k=false):ZZ t l=l.take k ++ t:: l.drop k:=by
 obtain⟨h1,h2,h3⟩:=h
 induction l generalizing k with
 | nil=>
  have:k=0:=by simpa using h1
  subst this;rfl
 | cons x l ih=>
  cases k with
  | zero=>
   have h4:=h3 0 x rfl (Zm _);have h5: ¬Qq x t=0:=by simpa[Ow]using hh
   have h6:Qq t x < 0:=by have:=Xn t x;omega
   simp[ZZ,h6]
  | succ k=>
   have h4:=h2 0 x rfl (by omega);have h5: ¬Qq t x < 0:=by have:=Xn t x;omega
   have h6: ¬Qq t x=0:=by have:=Xn t x;omega
   have:=ih (k:=k) (by simpa[Ow]using hh) (by simpa using h1) (fun i p hp hi=>h2 (i+1) p (by simpa using hp) (by omega)) (fun i p hp hi=>h3 (i+1) p (by simpa using hp) (by omega));simp[ZZ,h5,h6,this]
def QfV {l:Qc} {t:Tm} (ha:Asc l) (h:WK l t=true):ZZ t l=l:=by
 induction l with
 | nil=>simp[WK]at h
 | cons x l ih=>
  obtain⟨h1,h2⟩:=X1.1 ha;by_cases c:Qq t x=0
  ·have: ¬Qq t x < 0:=by omega
   simp[ZZ,c]
  ·have hx:WK l t=true:=by
    unfold WK at h ⊢;rw[List.any_cons]at h;have:decide (Qq x t=0)=false:=by
     have:=Xn t x;simp;omega
    rw[this,Lf]at h;exact h
   have hlt: ¬Qq t x < 0:=by
    intro hl;unfold WK at hx;obtain⟨y,hy,he⟩:=UX.1 hx;have e0:y=t:=Wt.1 (by simpa using he);subst e0;have:=h1 y hy;have:=Xn y x;omega
   simp[ZZ,c,hlt,ih h2 hx]
def QrJ (l:Qc) (bs:Qa) (r:Out):Prop:=∃o,r=some (.sl o 4 (Qb l),bs)
def Qjy (s:Qc) (t:Tm) (o:Bool) (B:Qa) (hl:s.length < 1000000) (hm: ∀p∈s,p.mass < big) (ht:t.mass < big) (ha:Asc s):
  QrJ (ZZ t s) B (call tb 523 [.sl o 4 (Qb s),.agg (Qf t)] B):=by
 obtain⟨k,hk,hc⟩:=Qjz (B:=B) false (by omega) hm ht ha;rw[zcc 523 rfl rfl];cases hh:Ow s t k
 ·rw[hh]at hc;have hadd:=Qiu hk hh;have hkl:=hk.1;have hlen: (ZZ t s).length=s.length+1:=by rw[hadd];simp;omega
  have hk1: (s.take k).length=k:=by rw[Xr];omega
  have hsplit:s=s.take k ++ s.drop k:=(M3 _ _).symm;have q1: (0:Int)<=(k:Int):=by omega
  have q2: (k:Int)<=(s.length:Int):=by omega
  have q3: (s.length+1)*56<=140737488355328:=by omega
  have q4:s.length+1<=140737488355328:=by omega
  have q5:s.length*56<=140737488355328:=by omega
  have hgp:QY (Qr (ZZ t s))=true:=CD Nz _;have hins: ∃M v2,call tb 525 [.sl false 4 (Qb s)] B=some (v2,B ++ M)/\∃id2 M2,call tb 526 [v2,.int .i64 k,.sl false 4 [Qf t]] (B ++ M)=some (.gs id2 0 4 (s.length+1),B ++ M2)/\B.length<=id2/\(B ++ M2)[id2]? =some (Qr (ZZ t s))/\v2.ok=true/\v2.strip=v2:=by
   rw[Ws tb_525];by_cases c:s.length=0
   ·have:s=[]:=YX c;subst this;have hk0:k=0:=by simpa using hkl
    subst hk0;refine⟨[],.gs 0 0 0 0,by simp[W3,TZ,Qb],B.length,[Qf t],?_,Zm _,?_,rfl,rfl⟩
    ·rw[Ws tb_526];simp[O3,SX,Mb]
    ·simp[ZZ,Qr,YI]
   ·refine⟨[Qr s],.gs B.length 0 4 s.length,?_,B.length+1,[[],Qr (ZZ t s)],?_,by omega,by simp,rfl,rfl⟩
    ·have e1: (Qb s).flatten.map AV.strip=Qr s:=by
      have: (Qb s).flatten=Qr s:=by rw[YU];rfl
      rw[this,YV ZI]
     have e2: (Qb s).length=s.length:=by simp[YU]
     have e3:=Xh s;have e4: ¬(s=[]):=fun e=>c (by simp[e]);simp[W3,TZ,e1,e2,e3,e4,q5]
    ·rw[Ws tb_526];have hr0: (Qr s).length=s.length*4:=YC QR s;have hne:Qr s≠[]:=fun e=>by rw[e]at hr0;simp at hr0;omega
     have hcs:SX k 4 s.length (Qr s) [Qf t]=Qr (ZZ t s):=by
      have h1: (Qr s).take (s.length*4)=Qr s:=by rw[<- hr0,List.take_length]
      have h2:=Rv (f:=Qf) (k:=4) QR (l:=s) (pre:=s.take k) (post:=s.drop k) hsplit [];have h3:=Mr (f:=Qf) (k:=4) QR (l:=s) (pre:=s.take k) (post:=s.drop k) hsplit [];rw[hk1,QH]at h2 h3;rw[QH]at h3;unfold SX;rw[h1,h2,h3,hadd,show Qr (s.take k ++ t:: s.drop k)=Qr (s.take k)++ (Qf t ++ Qr (s.drop k)) by simp[Qr,Vx,Tw]];rw[Uk,Uk,YV ZI,YV ZI];simp[ZI]
     simp only[O3];rw[Qn ⟨trivial,by omega,by simp,q1,q2,by simpa using q3,by simpa using q4⟩,Qm (by omega),Qn ⟨trivial,trivial⟩,Ye];simp only[QC];rw[Qn ⟨hne,by omega⟩,PO,hcs,Ni _ _ (Zm _)];simp[Mb,hgp]
  obtain⟨M,v2,c1,id2,M2,c2,g1,g2,gok,gst⟩:=hins;have hch:Z3 (Qr (ZZ t s)) 0 4 (ZZ t s).length=Qb (ZZ t s):=by
   have:=XZ (f:=Qf) (k:=4) QR ZI (ZZ t s) [];rw[QH]at this;rw[YU];exact this
  rw[hlen]at hch;have hle: (s.length+1)*4<=(Qr (ZZ t s)).length:=by
   have: (Qr (ZZ t s)).length=(ZZ t s).length*4:=YC QR _;rw[this,hlen];omega
  have hgp2:=Xh (ZZ t s);refine⟨true,?_⟩;generalize Qr (ZZ t s)=RR at *;generalize Qb (ZZ t s)=EE at *;simp[-getElem?_pos,Zb,Zv,f523C,hc,c1,c2,gok,gst,Qk,Yr,g2,hle,hch,hgp2,X7 g1]
 ·rw[hh]at hc;have:=QfV ha (by rw[<- QhN ha hk];exact hh);refine⟨false,?_⟩;rw[this];have hgp2:=Xh s;simp[f523C,hc,Qk,hgp2]
end Go.Am
namespace Go.Am
set_option maxRecDepth 20000
def De (t:Tm) (l:List Nm) (o:Bool) (bs:Qa) (hl:l.length < 1000000):call tb 160 [.agg (Qf t),.sl o 1 (OH l)] bs=some (.bool (decide (t.kind=3) && l.contains t.name),bs):=by
 have h:=Qf6 l t.name false bs hl;rw[zcc 160 rfl rfl];by_cases hk:t.kind=3 <;> simp[f160C,hk,h,-List.contains_eq_mem]
def Qf5 (t:Tm) (n:Nm) (o:Bool) (bs:Qa):call tb 160 [.agg (Qf t),.sl o 1 [[.str n]]] bs=some (.bool (isB t n),bs):=by
 have h:=De t [n] o bs (by simp);have e: [n].contains t.name=(t.name == n):=by simp only[List.contains_cons,List.contains_nil,JN]
 rw[e]at h;exact h
def Df (t:Tm) (n m:Nm) (o:Bool) (bs:Qa):call tb 160 [.agg (Qf t),.sl o 1 [[.str n],[.str m]]] bs=some (.bool (isB t n || isB t m),bs):=by
 have h:=De t [n,m] o bs (by simp);have e: (decide (t.kind=3) && [n,m].contains t.name)=(isB t n || isB t m):=by
  have: [n,m].contains t.name=(t.name == n || t.name == m):=by simp only[List.contains_cons,List.contains_nil,JN]
  rw[this];unfold isB;cases decide (t.kind=3) <;> simp
 rw[e]at h;exact h
def Qev {t:Tm} {n:Qu} (hg:Zh t=true) (h:isB t n=true) (hn:CY n): ∃x y,t.kids=[x,y]:=by
 have:=(gd2 hg h hn).1
 match hh:t.kids with
 | [x,y]=>exact⟨x,y,rfl⟩
 | []=>rw[hh]at this;simp at this
 | [_]=>rw[hh]at this;simp at this
 | _:: _:: _:: _=>rw[hh]at this;simp at this
end Go.Am
namespace Go.Am
set_option maxRecDepth 20000
end Go.Am
namespace Go.Am
abbrev Wj:=List (List Int)
def rwE (rs:Wj) (i:Nat):QO:=rs.getD i []
def ceE (rs:Wj) (i c:Nat):Int:=(rwE rs i).getD c 0
abbrev ZT:=List Bool
def acE (rs:Wj) (us:ZT) (c i:Nat):Bool:= !(us.getD i true) && !decide (ceE rs i c=0)
def QsB (a p:QO) (q:Int):QO:=List.zipWith (fun x y=>x - q*y) a p
def okE (a:QO):Bool:=a.all fun x=>decide (x.natAbs<=1099511627776)
def scE (rs:Wj) (us:ZT) (c:Nat):Nat->YW×Nat
 | 0=>(none,0)
 | k+1=>if acE rs us c k then(match (scE rs us c k).1 with
   | none=>(some k,(scE rs us c k).2+1)
   | some j=>(if(ceE rs k c).natAbs < (ceE rs j c).natAbs then some k else some j,(scE rs us c k).2+1))else scE rs us c k
def nwE (rs:Wj) (c b k:Nat):QO:=QsB (rwE rs k) (rwE rs b) ((ceE rs k c).tdiv (ceE rs b c))
def rnE (rs:Wj) (us:ZT) (c b:Nat):Nat->Wj
 | 0=>rs
 | k+1=>if !decide (k=b) && acE rs us c k then(rnE rs us c b k).set k (nwE rs c b k)else rnE rs us c b k
def orE (rs:Wj) (us:ZT) (c b:Nat):Nat->Bool
 | 0=>true
 | k+1=>orE rs us c b k && (!(!decide (k=b) && acE rs us c k) || okE (nwE rs c b k))
def coE (c:Nat):Nat->Wj->ZT->Option (Wj×ZT×Int)
 | 0,_,_=>none
 | f+1,rs,us=>match scE rs us c rs.length with
  | (none,_)=>some (rs,us,-1)
  | (some b,n)=>if n=1 then some (rs,us.set b true,(b:Int))else if orE rs us c b rs.length then coE c f (rnE rs us c b rs.length) us else none
def msE (rs:Wj) (us:ZT) (c:Nat):ZP
 | 0=>0
 | k+1=>msE rs us c k+if acE rs us c k then(ceE rs k c).natAbs else 0
def elE (rs:Wj):Nat->Option (Wj×ZT×QO)
 | 0=>some (rs,List.replicate rs.length false,[])
 | c+1=>(elE rs c).bind fun s=>(coE c (msE s.1 s.2.1 c s.1.length+1) s.1 s.2.1).map fun x=>(x.1,x.2.1,s.2.2 ++ [x.2.2])
def NG (rs:Wj) (us:ZT) (c b:Nat): ∀k,(rnE rs us c b k).length=rs.length
 | 0=>rfl
 | k+1=>by
  simp only[rnE];split
  ·rw[La,NG rs us c b k]
  ·exact NG rs us c b k
def Qk7 (rs:Wj) (k j:Nat) (x:QO) (hk:k < rs.length):rwE (rs.set k x) j=if j=k then x else rwE rs j:=by
 simp only[rwE,Vm,Xq];by_cases h:k=j
 ·subst h;simp[hk]
 ·have: ¬j=k:=fun e=>h e.symm;simp[h,this]
def A7 (rs:Wj) (us:ZT) (c b:Nat): ∀k,k<=rs.length->∀j,rwE (rnE rs us c b k) j=if j < k/\j≠b/\acE rs us c j=true then nwE rs c b j else rwE rs j
 | 0,_,j=>by simp[rnE]
 | k+1,hk,j=>by
  have ih:=A7 rs us c b k (by omega);simp only[rnE];by_cases h: (!decide (k=b) && acE rs us c k)=true
  ·rw[Qn h,Qk7 _ _ _ _ (by rw[NG];omega)];simp only[Qp,UV,TC]at h;by_cases hj:j=k
   ·subst hj;rw[Qn rfl,Qn ⟨by omega,h.1,h.2⟩]
   ·rw[Qm hj,ih j];by_cases h2:j < k
    ·have:j < k+1:=by omega
     simp[h2,this]
    ·have: ¬j < k+1:=by omega
     simp[h2,this]
  ·rw[Qm h,ih j];simp only[Qp,UV,TC]at h;by_cases hj:j=k
   ·subst hj;have h2: ¬(j < j+1/\j≠b/\acE rs us c j=true):=fun⟨_,x,y⟩=>h ⟨x,y⟩;rw[Qm h2,Qm (by omega)]
   ·by_cases h2:j < k
    ·have:j < k+1:=by omega
     simp[h2,this]
    ·have: ¬j < k+1:=by omega
     simp[h2,this]
structure ScI (rs:List (List Int)) (us:List Bool) (c k:Nat):Prop where
 nn: (scE rs us c k).1=none->(scE rs us c k).2=0/\∀j,j < k->acE rs us c j=false
 sm: ∀b,(scE rs us c k).1=some b->b < k/\acE rs us c b=true/\0 < (scE rs us c k).2/\∀j,j < k->acE rs us c j=true->(ceE rs b c).natAbs<=(ceE rs j c).natAbs
 tw: ∀b,(scE rs us c k).1=some b->2<=(scE rs us c k).2->∃j,j < k/\j≠b/\acE rs us c j=true
 on: ∀b,(scE rs us c k).1=some b->(scE rs us c k).2=1->∀j,j < k->acE rs us c j=true->j=b
def PM:=@Nat.lt_succ_iff_lt_or_eq
def scI (rs:Wj) (us:ZT) (c:Nat): ∀k,ScI rs us c k
 | 0=>⟨fun _=>⟨rfl,fun j hj=>by omega⟩,fun b hb=>by simp[scE]at hb,fun b hb=>by simp[scE]at hb,fun b hb=>by simp[scE]at hb⟩
 | k+1=>by
  have ih:=scI rs us c k;cases ha:acE rs us c k
  ·have e:scE rs us c (k+1)=scE rs us c k:=by simp[scE,ha]
   refine⟨?_,?_,?_,?_⟩ <;> rw[e]
   ·intro h;refine⟨(ih.nn h).1,fun j hj=> ?_⟩;rcases PM.1 hj with h2 | h2
    ·exact(ih.nn h).2 j h2
    ·subst h2;exact ha
   ·intro b hb;obtain⟨h1,h2,h3,h4⟩:=ih.sm b hb;refine⟨by omega,h2,h3,fun j hj haj=> ?_⟩;rcases PM.1 hj with h5 | h5
    ·exact h4 j h5 haj
    ·subst h5;rw[ha]at haj;cases haj
   ·intro b hb hn;obtain⟨j,h1,h2,h3⟩:=ih.tw b hb hn;exact⟨j,by omega,h2,h3⟩
   ·intro b hb hn j hj haj;rcases PM.1 hj with h5 | h5
    ·exact ih.on b hb hn j h5 haj
    ·subst h5;rw[ha]at haj;cases haj
  ·cases hs: (scE rs us c k).1 with
   | none=>
    obtain⟨h0,hno⟩:=ih.nn hs;have e:scE rs us c (k+1)=(.some k,1):=by simp[scE,ha,hs,h0]
    refine⟨?_,?_,?_,?_⟩ <;> rw[e]
    ·intro h;cases h
    ·intro b hb;injection hb with hb
     subst hb;refine⟨by omega,ha,by simp,fun j hj haj=> ?_⟩;rcases PM.1 hj with h5 | h5
     ·rw[hno j h5]at haj;cases haj
     ·subst h5;exact Zm _
    ·intro b hb hn;simp at hn
    ·intro b hb hn j hj haj;injection hb with hb
     rcases PM.1 hj with h5 | h5
     ·rw[hno j h5]at haj;cases haj
     ·omega
   | some d=>
    obtain⟨h1,h2,h3,h4⟩:=ih.sm d hs;by_cases hlt: (ceE rs k c).natAbs < (ceE rs d c).natAbs
    ·have e:scE rs us c (k+1)=(.some k,(scE rs us c k).2+1):=by simp[scE,ha,hs,hlt]
     refine⟨?_,?_,?_,?_⟩ <;> rw[e]
     ·intro h;cases h
     ·intro b hb;injection hb with hb
      subst hb;refine⟨by omega,ha,by simp,fun j hj haj=> ?_⟩;rcases PM.1 hj with h5 | h5
      ·have:=h4 j h5 haj;omega
      ·subst h5;exact Zm _
     ·intro b hb hn;injection hb with hb
      subst hb;exact⟨d,by omega,by omega,h2⟩
     ·intro b hb hn;simp only at hn;omega
    ·have e:scE rs us c (k+1)=(.some d,(scE rs us c k).2+1):=by simp[scE,ha,hs,hlt]
     refine⟨?_,?_,?_,?_⟩ <;> rw[e]
     ·intro h;cases h
     ·intro b hb;injection hb with hb
      subst hb;refine⟨by omega,h2,by simp,fun j hj haj=> ?_⟩;rcases PM.1 hj with h5 | h5
      ·exact h4 j h5 haj
      ·subst h5;omega
     ·intro b hb hn;injection hb with hb
      subst hb;exact⟨k,by omega,by omega,ha⟩
     ·intro b hb hn;simp only at hn;omega
end Go.Am
namespace Go.Am
set_option maxRecDepth 20000
def QeZ {l:QO} {k:Nat} (h:k < l.length): (QJ l)[k]? =some (.int .i64 (l.getD k 0)):=by
 simp[QJ,h,Vm]
end Go.Am
namespace Go.Am
set_option maxRecDepth 20000
end Go.Am
namespace Go.Am
set_option maxRecDepth 20000
end Go.Am
namespace Go.Am
set_option maxRecDepth 20000
abbrev W64:=BitVec 64
def Qsf (w:W64):AV:= .int .u64 w.toNat
def Qic (l:List W64):Qa:=l.map fun w=>[Qsf w]
end Go.Am
namespace Go.Am
set_option maxRecDepth 20000
def TSg (B:Qa) (v:AV) (l:Qc):Prop:=∃id sz,v= .gs id 0 sz l.length/\∃c,l≠[]->sz=4/\B[id]? =some (Qr l ++ c)
end Go.Am
namespace Go.Am
set_option maxRecDepth 20000
def Wy {α:Type} {B:List α} {i:Nat} {x:α} (h:B[i]? =some x) (M:List α): (B ++ M)[i]? =some x:=by
 rw[ZH (YT h)];exact h
def Qkx {α:Type} (B:List α) (x:α) (M:List α): (B ++ x:: M)[B.length]? =some x:=by simp
def TSg.app {B:Qa} {v:AV} {l:Qc} (h:TSg B v l) (M:Qa):TSg (B ++ M) v l:=by
 obtain⟨id,sz,e,c,hc⟩:=h;exact⟨id,sz,e,c,fun hn=>⟨(hc hn).1,Wy (hc hn).2 M⟩⟩
end Go.Am
namespace Go.Am
set_option maxRecDepth 20000
abbrev QaG:=Nat×List W64×List W64
def Qsh (x:QaG):AV:= .agg [.int .i64 (x.1:Int),.sl false 1 (Qic x.2.1)]
def Qsg (x:QaG):AV:= .agg [.int .i64 (x.1:Int),.sl false 1 (Qic x.2.2)]
def SY (B:Qa) (b0:Nat) (C:Qc) (n:Nat) (RS:List QaG):Prop:=∃(idC szC:Nat) (c:Qh) (vb:AV),
 B[b0+2]? =some [.gs idC 0 szC C.length,.int .i64 (n:Int),.mp b0,.mp (b0+1),vb]/\B[b0]? =some (.undef:: RS.map Qsh)/\B[b0+1]? =some (.undef:: RS.map Qsg)/\
 (C≠[]->szC=4/\b0+2 < idC/\B[idC]? =some (Qr C ++ c))/\
 (vb= .gs 0 0 0 0\/∃(idb:Nat) (ks:Qh),vb= .gs idb 0 1 ks.length/\ks≠[]/\b0+2 < idb/\(C≠[]->idC < idb)/\B[idb]? =some ks/\ks.length<=RS.length)
def SY.app {B:Qa} {b0:Nat} {C:Qc} {n:Nat} {RS:List QaG} (h:SY B b0 C n RS) (M:Qa):SY (B ++ M) b0 C n RS:=by
 obtain⟨idC,szC,c,vb,h1,h2,h3,h4,h5⟩:=h;refine⟨idC,szC,c,vb,Wy h1 M,Wy h2 M,Wy h3 M,fun hn=>⟨(h4 hn).1,(h4 hn).2.1,Wy (h4 hn).2.2 M⟩,?_⟩;rcases h5 with h5 | ⟨idb,ks,q1,q2,q3,q4,q5,q6⟩
 ·exact .inl h5
 ·exact .inr ⟨idb,ks,q1,q2,q3,q4,Wy q5 M,q6⟩
end Go.Am
namespace Go.Am
set_option maxRecDepth 20000
def QoA:Qc->Qc
 | []=>[]
 | x:: r=>ZG x ++ QoA r
end Go.Am
namespace Go.Am
set_option maxRecDepth 20000
def Th (B0 B:Qa):Prop:=∃M,B=B0 ++ M
def Th.app {B0 B:Qa} (h:Th B0 B) (M:Qa):Th B0 (B ++ M):=by
 obtain⟨M0,rfl⟩:=h;exact⟨M0 ++ M,by simp⟩
def Th.set {B0 B:Qa} (h:Th B0 B) {i:Nat} (hi:B0.length<=i) (x:Qh):Th B0 (B.set i x):=by
 obtain⟨M0,rfl⟩:=h;exact⟨_,X7 hi x⟩
end Go.Am
namespace Go.Am
set_option maxRecDepth 20000
end Go.Am
namespace Go.Am
set_option maxRecDepth 20000
end Go.Am
namespace Go.Am
set_option maxRecDepth 20000
end Go.Am
namespace Go.Am
set_option maxRecDepth 20000
def QeV (l:Qc) (t:Tm):Int:=if 200 < l.length then 3 else V5 (l ++ [t])
end Go.Am
namespace Go.Am
set_option maxRecDepth 20000
def Db {N:Nat}: ∀(l:QO) (a:Int),l.Pairwise (· < ·)->(∀x∈l,a<=x/\x < a+N)->l.length<=N
 | [],_,_,_=>by simp
 | x:: xs,a,h,hb=>by
  obtain⟨h1,h2⟩:=VY.1 h;obtain⟨b1,b2⟩:=hb x (by simp);have hN: (0:Int) < N:=by omega
  have ih:=Db (N:=N - 1) xs (a+1) h2 (fun y hy=>by
   have c1:=h1 y hy;have c2:=hb y (by simp[hy]);omega)
  simp only[ZQ];omega
end Go.Am
namespace Go.Am
set_option maxRecDepth 20000
def IV (N:Nat) (l:QO):Prop:=l.Pairwise (· < ·)/\∀x∈l,(0:Int)<=x/\x < N
def IV.len {N:Nat} {l:QO} (h:IV N l):l.length<=N:=Db l 0 h.1 (by simpa using h.2)
end Go.Am
namespace Go.Am
set_option maxRecDepth 20000
end Go.Am
namespace Go.Am
set_option maxRecDepth 20000
def Qsn (s:Qc) (u:Tm):Qc:=ZG u ++ QoA (s.filter fun t=>isB t XOR)
def Qsq (m:Qc) (t:Tm):Bool:=isB t XOR || WK m t
def QpM (s:Qc) (u:Tm):Qc:=s.filter (Qsq (Qsn s u))
structure SH (s:List Tm) (u:Tm):Prop where
 len:s.length<=200
 nod:Qx s+u.nodes < 90000
 mass: ∀x∈s,x.mass < 1000000
 um:u.mass < 1000000
 v: ∀x∈s,Q4 x=0
 uv:Q4 u=0
 ne: ∀x∈s,isB x XOR=true->ZG x≠[]
 une:ZG u≠[]
def DN: ∀{l:Qc},(∀x∈l,Q4 x=0)->V5 l=0
 | [],_=>rfl
 | x:: r,h=>by simp only[V5,h x (by simp),ne_eq,JL,Zi];exact DN fun y hy=>h y (by simp[hy])
def SH.right {s:Qc} {u:Tm} (h:SH s u):QeV (QpM s u) u=0:=by
 have hl: (QpM s u).length<=s.length:=RO _ _;have:=h.len;rw[QeV,Qm (by omega)];refine DN fun x hx=> ?_;rcases Xe.1 hx with hx | hx
 ·exact h.v x (PV.1 hx).1
 ·simp at hx;subst hx;exact h.uv
end Go.Am
namespace Go.Am
set_option maxRecDepth 20000
def bs2 (B:Qa) (ia1 ia2 x0:Nat) (c0 c1 c2:AV) (A1 A2:QO) (lg:Bool):Qa:=((B.set ia1 (QJ A1)).set ia2 (QJ A2)).set x0 [c0,c1,c2,.bool lg]
end Go.Am
namespace Go.Am
set_option maxRecDepth 20000
structure ES (B:List (List AV)) (x0 n:Nat) (cols:AV) (rs:List (List Int)) (us:List Bool) (piv:List Int) (lg:Bool):Prop where
 x:B[x0]? =some [cols,.gs (if rs.length=0 then 0 else x0+4*rs.length) 0 (if rs.length=0 then 0 else 1) rs.length,.gs (if n=0 then 0 else x0+4*rs.length+n) 0 (if n=0 then 0 else 1) n,.bool lg]
 rl:rs.length≠0->B[x0+4*rs.length]? =some ((List.range rs.length).map fun i=> .gp (x0+4*i+3) 0)
 pl:n≠0->B[x0+4*rs.length+n]? =some (QJ piv)
 pn:piv.length=n
 row: ∀i,i < rs.length->B[x0+4*i+3]? =some [.gs (x0+4*i+1) 0 1 n,.gs (x0+4*i+2) 0 1 rs.length,.bool (us.getD i true)]/\B[x0+4*i+1]? =some (QJ ((rwE rs i).take n))/\B[x0+4*i+2]? =some (QJ ((rwE rs i).drop n))
 ul:us.length=rs.length
 wl: ∀i,i < rs.length->(rwE rs i).length=n+rs.length
 bd:lg=false->∀i,i < rs.length->okE (rwE rs i)=true
end Go.Am
namespace Go.Am
set_option maxRecDepth 20000
end Go.Am
namespace Go.Am
set_option maxRecDepth 20000
def DV {us:ZT} {b j:Nat} {v:Bool} (hb:b < us.length): (us.set b v).getD j true=if j=b then v else us.getD j true:=by
 simp only[Vm,Xq];by_cases h:b=j
 ·subst h;simp[hb]
 ·have: ¬j=b:=fun e=>h e.symm;simp[h,this]
end Go.Am
namespace Go.Am
def Aw (c:Nat): ∀(f:Nat) (rs:Wj) (us:ZT) (rs':Wj) (us':ZT) (p:Int),us.length=rs.length->coE c f rs us=some (rs',us',p)->
  rs'.length=rs.length/\us'.length=us.length/\(∀j,us.getD j true=true->rwE rs' j=rwE rs j/\us'.getD j true=true)/\(p= -1\/∃b:Nat,p=(b:Int)/\b < rs.length/\us'.getD b true=true/\ceE rs' b c≠0)
 | 0,_,_,_,_,_,_,h=>by simp[coE]at h
 | f+1,rs,us,rs',us',p,hul,h=>by
  have sc:=scI rs us c rs.length;cases hs: (scE rs us c rs.length).1 with
  | none=>
   have he:scE rs us c rs.length=(none,(scE rs us c rs.length).2):=by rw[<- hs]
   rw[coE,he]at h;simp only[QG,QW]at h;obtain⟨rfl,rfl,rfl⟩:=h;exact⟨rfl,rfl,fun j hj=>⟨rfl,hj⟩,.inl rfl⟩
  | some b=>
   obtain⟨s1,s2,s3,s4⟩:=sc.sm b hs;have he:scE rs us c rs.length=(some b,(scE rs us c rs.length).2):=by rw[<- hs]
   rw[coE,he]at h;simp only at h;have hbn:ceE rs b c≠0:=by
    intro e;simp[acE,e]at s2
   by_cases hone: (scE rs us c rs.length).2=1
   ·rw[Qn hone]at h;simp only[QG,QW]at h;obtain⟨rfl,rfl,rfl⟩:=h;refine⟨rfl,by simp,fun j hj=>⟨rfl,?_⟩,.inr ⟨b,rfl,s1,?_,hbn⟩⟩
    ·rw[DV (by omega)];split
     ·rfl
     ·exact hj
    ·rw[DV (by omega),Qn rfl]
   ·rw[Qm hone]at h;split at h
    ·obtain⟨i1,i2,i3,i4⟩:=Aw c f _ us rs' us' p (by rw[NG];exact hul) h;rw[NG]at i1 i4;refine⟨i1,i2,fun j hj=> ?_,i4⟩;obtain⟨k1,k2⟩:=i3 j hj;refine⟨?_,k2⟩;rw[k1];rw[A7 _ _ _ _ _ (Zm _)];have:acE rs us c j=false:=by simp only[acE,hj];rfl
     simp[this]
    ·cases h
def PvI (rs:Wj) (us:ZT) (pv:QO):Prop:=∀c,c < pv.length->pv.getD c (-1)= -1\/∃b:Nat,pv.getD c (-1)=(b:Int)/\b < rs.length/\us.getD b true=true/\ceE rs b c≠0
def Ay {rs:Wj}: ∀(c:Nat) (s:Wj×ZT×QO),elE rs c=some s->s.1.length=rs.length/\s.2.1.length=rs.length/\s.2.2.length=c/\PvI s.1 s.2.1 s.2.2
 | 0,s,h=>by
  simp only[elE,QG]at h;subst h;exact⟨rfl,by simp,rfl,fun c hc=>by simp at hc⟩
 | c+1,s,h=>by
  simp only[elE]at h;cases hs:elE rs c with
  | none=>rw[hs]at h;simp at h
  | some s0=>
   rw[hs]at h;simp only[QC]at h;obtain⟨h1,h2,h3,h4⟩:=Ay c s0 hs;cases hc:coE c (msE s0.1 s0.2.1 c s0.1.length+1) s0.1 s0.2.1 with
   | none=>rw[hc]at h;simp at h
   | some x=>
    rw[hc]at h;simp only[QS,QG]at h;subst h;obtain⟨i1,i2,i3,i4⟩:=Aw c _ s0.1 s0.2.1 x.1 x.2.1 x.2.2 (by omega) hc;refine⟨by simp only;omega,by simp only;omega,by simp[h3],?_⟩;intro d hd;simp only[Zk,RA]at hd;simp only;by_cases hdc:d=c
    ·subst hdc;have e: (s0.2.2 ++ [x.2.2]).getD d (-1)=x.2.2:=by
      rw[Vm,YQ (by omega),h3];simp
     rw[e];rcases i4 with i4 | ⟨b,b1,b2,b3,b4⟩
     ·exact .inl i4
     ·exact .inr ⟨b,b1,by omega,b3,b4⟩
    ·have e: (s0.2.2 ++ [x.2.2]).getD d (-1)=s0.2.2.getD d (-1):=by
      rw[Vm,Vm,ZH (by omega)]
     rw[e];rcases h4 d (by omega)with h4 | ⟨b,b1,b2,b3,b4⟩
     ·exact .inl h4
     ·obtain⟨k1,k2⟩:=i3 b b3;refine .inr ⟨b,b1,by omega,k2,?_⟩;unfold ceE at *;rw[k1];exact b4
end Go.Am
namespace Go.Am
set_option maxRecDepth 20000
end Go.Am
namespace Go.Am
set_option maxRecDepth 20000
end Go.Am
namespace Go.Am
set_option maxRecDepth 20000
def NJ (B:Qa) (x0 n:Nat) (cols:AV) (rs:Wj) (c:Nat):Prop:=match elE rs c with
 | some s=>ES B x0 n cols s.1 s.2.1 (s.2.2 ++ List.replicate (n - c) (-1)) false
 | none=>∃rs' us' pv',rs'.length=rs.length/\ES B x0 n cols rs' us' pv' true
end Go.Am
namespace Go.Am
set_option maxRecDepth 20000
def ES.app {B:Qa} {x0 n:Nat} {cols:AV} {rs:Wj} {us:ZT} {piv:QO} {lg:Bool} (h:ES B x0 n cols rs us piv lg) (M:Qa):ES (B ++ M) x0 n cols rs us piv lg:=
 ⟨Wy h.x M,fun hz=>Wy (h.rl hz) M,fun hz=>Wy (h.pl hz) M,h.pn,fun i hi=>⟨Wy (h.row i hi).1 M,Wy (h.row i hi).2.1 M,Wy (h.row i hi).2.2 M⟩,h.ul,h.wl,h.bd⟩
def ES.lt {B:Qa} {x0 n:Nat} {cols:AV} {rs:Wj} {us:ZT} {piv:QO} {lg:Bool} (h:ES B x0 n cols rs us piv lg):x0+4*rs.length+n < B.length:=by
 by_cases hn:n=0
 ·by_cases hm:rs.length=0
  ·have:=YT h.x;omega
  ·have:=YT (h.rl hm);omega
 ·have:=YT (h.pl hn);omega
def NJ.app {B:Qa} {x0 n:Nat} {cols:AV} {rs:Wj} {c:Nat} (h:NJ B x0 n cols rs c) (M:Qa):NJ (B ++ M) x0 n cols rs c:=by
 unfold NJ at *;cases he:elE rs c with
 | some s=>rw[he]at h;exact ES.app h M
 | none=>
  rw[he]at h;obtain⟨rs',us',pv',e1,e2⟩:=h;exact⟨rs',us',pv',e1,e2.app M⟩
def NJ.lt {B:Qa} {x0 n:Nat} {cols:AV} {rs:Wj} {c:Nat} (h:NJ B x0 n cols rs c):x0+4*rs.length+n < B.length:=by
 unfold NJ at h;cases he:elE rs c with
 | some s=>
  rw[he]at h;have:=ES.lt h;rw[(Ay c s he).1]at this;exact this
 | none=>
  rw[he]at h;obtain⟨rs',us',pv',e1,e2⟩:=h;have:=e2.lt;rw[e1]at this;exact this
end Go.Am
namespace Go.Am
set_option maxRecDepth 20000
end Go.Am
namespace Go.Am
set_option maxRecDepth 20000
end Go.Am
namespace Go.Am
set_option maxRecDepth 20000
end Go.Am
namespace Go.Am
set_option maxRecDepth 20000
def IS (B0 B:Qa) (v:AV) (xs:QO):Prop:=Th B0 B/\((xs=[]/\v= .gs 0 0 0 0)\/∃id,v= .gs id 0 1 xs.length/\xs≠[]/\B0.length<=id/\B[id]? =some (QJ xs))
end Go.Am
namespace Go.Am
set_option maxRecDepth 20000
def NY (n:Int):QL->Int
 | []=>n
 | d:: l=>NY (IntKind.i64.wrap (IntKind.i64.wrap (n+d.a.length)+d.c.length)) l
def LH (l:QL):Bool:=decide (NY 0 l<=1000) && few (l.map Ded.t) 410 3000
def Qkt (l:QL) (o:Bool) (bs:Qa) (hl:l.length<=1172812402961):
  ∀(post pre:QL) (n:Int) (ρ:Ql),l=pre ++ post->ρ 0= .sl o 8 (QD l)->ρ 3= .int .i64 n->ρ 4= .sl true 4 (Qb (pre.map Ded.t))->ρ 5= .int .i64 pre.length->
  R tb (.loop f696l0) ρ bs (Qo 0 (QB tb f696r0 (QN f696 bs)))=some (.bool (decide (NY n post<=1000) && few (l.map Ded.t) 410 3000),bs):=by
 intro post
 induction post with
 | nil=>
  intro pre n ρ hk h0 h3 h4 h5;simp only[QH]at hk;subst hk;rw[Qe f696l0.eq_1];have hf:call tb 101 [.sl false 4 (Qb (l.map Ded.t)),.int .i64 410,.int .i64 3000] bs=some (.bool (few (l.map Ded.t) 410 3000),bs):=Ds (l.map Ded.t) false 410 3000 bs (by omega) (by omega) (by omega);by_cases c:n<=1000
  ·simp[h0,h3,h4,h5,f696r0,NY,c,hf]
  ·simp[h0,h3,h4,h5,f696r0,NY,c,hf]
 | cons d post IH=>
  intro pre n ρ hk h0 h3 h4 h5;have hg: (QD l)[pre.length]? =some (Za d):=by rw[Zr,Qw hk];rfl
  have hll:=QE hk;have hw1:=wr1 pre.length (by omega);have hlt:=QI hk;have hcap: (pre.length+1)*56<=140737488355328:=by omega
  have hd:=RC d;have hm:Qb (pre.map Ded.t)++ [Qf d.t]=Qb ((pre ++ [d]).map Ded.t):=by simp[YU]
  rw[Qe f696l0.eq_1];simp[h0,h3,h4,h5,hg,hw1,hlt,hcap];rw[IH (pre ++ [d])] <;> first | rfl | (simp[h0,hk,NY,YU];done)
def QjI (l:QL) (o:Bool) (bs:Qa) (hl:l.length<=1172812402961):call tb 696 [.sl o 8 (QD l)] bs=some (.bool (LH l),bs):=by
 rw[zcc 696 rfl rfl];simp[f696C];rw[Qkt l false bs hl l []] <;> first | rfl | (simp[LH,Qb];done)
def Qku {l:QL} (h:LH l=true):l.length<=410:=by
 simp only[LH,few,Qp,Qy]at h;have:=h.2.1;simpa using this
end Go.Am
