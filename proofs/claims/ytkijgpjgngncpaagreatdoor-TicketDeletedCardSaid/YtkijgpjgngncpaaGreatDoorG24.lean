/-
  Gt9, PuAwake, Gt10, Gt11, Gt12, Gt13, Gt14, Gt15, Gt16, Gt17, Gt18, Gt19, Gt20, Gt21, Gt22, Gt23, Gt24, Gt25, Gt26, Gt27, Gt28, Gt29, GtL, Gt30, Gt31, Gt32, Gt33.
-/
import Derived.Test.YtkijgpjgngncpaaGreatDoorG23
import Derived.Test.YtkijgpjgngncpaaGreatDoorG15
import Derived.KernelRfl
set_option linter.all false
namespace Go.Am
set_option maxRecDepth 8000
def Rt (s:Srv):Bool:=decide (1≤s.keys.length) && decide (s.keys.length≤8) && decide ((s.keys.getLast?.map Ep.n)=some s.epoch) && decide (0≤s.epoch - s.keys.length+1) && decide ((s.keys.getLast?.map Ep.e)=some 0) && YQ s 0 none s.keys
theorem MA (s:Srv) (bs:List (List AV)) (hn:s.name.length < 1000000) (hep:0≤s.epoch∧s.epoch≤10000) (hm: ∀k∈s.keys,k.key.mass < big) (hkl:s.keys.length < 4611686018427387904):
  call F.tb 110 [.agg (Qo s)] bs=some (.bool (Rt s),bs):=by
 rw[Qa F.tb_110 _ _ rfl];have e1: ((s.keys.length:Int) < 1)=¬(1≤s.keys.length):=by rw[eq_iff_iff];omega
 have e2: ((8:Int) < s.keys.length)=¬(s.keys.length≤8):=by rw[eq_iff_iff];omega
 have hw1:IntKind.i64.wrap ((s.keys.length:Int) - 1)=(s.keys.length:Int) - 1:=Qq (by omega) (by omega);have hw3:IntKind.i64.wrap (s.epoch - (s.keys.length:Int))=s.epoch - (s.keys.length:Int):=Qq (by omega) (by omega);have hw4:IntKind.i64.wrap (s.epoch - (s.keys.length:Int)+1)=s.epoch - (s.keys.length:Int)+1:=Qq (by omega) (by omega);by_cases c1: ¬1≤s.keys.length
 ·have c1': (1≤s.keys.length)=False:=eq_false c1;have c2': (s.keys.length≤8)=True:=eq_true (by omega);simp only[Rt,c1',decide_false,Bool.false_and];simp[F.f110C,Qo,e1,e2,c1',c2']
 replace c1:=Decidable.not_not.1 c1
 have c1': (1≤s.keys.length)=True:=eq_true c1;by_cases c2: ¬s.keys.length≤8
 ·have c2': (s.keys.length≤8)=False:=eq_false c2;simp only[Rt,c1',c2',decide_false,Bool.false_and,Bool.and_false];simp[F.f110C,Qo,e1,e2,c1',c2']
 replace c2:=Decidable.not_not.1 c2
 have c2': (s.keys.length≤8)=True:=eq_true c2;obtain⟨l,hl⟩: ∃l,s.keys.getLast?=some l:=by
  cases h:s.keys.getLast? with
  | none=>rw[List.getLast?_eq_none_iff]at h;rw[h]at c1;simp at c1
  | some l=>exact⟨l,rfl⟩
 have q3:s.keys[s.keys.length - 1]? =some l:=by rw[← hl,List.getLast?_eq_getElem?]
 have q4: ((s.keys.length:Int) - 1).toNat=s.keys.length - 1:=by omega
 have q5: (0≤(s.keys.length:Int) - 1)=True:=eq_true (by omega);have q7: ((1:Int)≤(s.keys.length:Int))=True:=eq_true (by omega);have e3: (s.epoch - (s.keys.length:Int)+1 < 0)=¬(0≤s.epoch - (s.keys.length:Int)+1):=by rw[eq_iff_iff];omega
 simp only[Rt,c1',c2',hl,Option.map_some,decide_true,Bool.true_and,Option.some.injEq];by_cases c3:l.n=s.epoch <;> by_cases c4:0≤s.epoch - (s.keys.length:Int)+1 <;> by_cases c5:l.e=0 <;>
  simp[F.f110C,Qo,Q8,e1,e2,e3,c1',c2',hw1,hw3,hw4,q3,q4,q5,q7,c3,c4,c5]
 rw[FA s bs hn hep c2 c4 hm s.keys [] none] <;> simp[Qo,WK]
theorem P6 (s:Srv): ∀(ks:List Ep) (i:Nat) (pv:Option Ep),ks≠[]→
  Yt s i pv ks=(YQ s i pv ks && decide (0≤s.epoch - s.keys.length+1+i) && decide (ks.getLast?.map Ep.e=some 0))
 | [],_,_,h=>absurd rfl h
 | [k],i,pv,_=>by
  by_cases c1:k.n=s.epoch - s.keys.length+1+i <;> by_cases c2:0≤s.epoch - s.keys.length+1+i <;> by_cases c3:k.e=0 <;>
   simp[Yt,YQ,Vw,Sf,c1,c2,c3]
  ·cases pv <;> simp <;> omega
 | k:: k':: ks,i,pv,_=>by
  have ih:=P6 s (k':: ks) (i+1) (some k) (by simp);have hR:YQ s i pv (k:: k':: ks)=(Sf s i (k':: ks).isEmpty pv k && YQ s (i+1) (some k) (k':: ks)):=rfl;have hP:Yt s i pv (k:: k':: ks)=(Vw s i (k':: ks).isEmpty pv k && Yt s (i+1) (some k) (k':: ks)):=rfl;rw[hP,ih,hR];simp only[List.getLast?_cons_cons];have c: ((i+1:Nat):Int)=(i:Int)+1:=by omega
  rw[c];generalize YQ s (i+1) (some k) (k':: ks)=r;generalize decide ((k':: ks).getLast?.map Ep.e=some 0)=q;have hk:Vw s i (k':: ks).isEmpty pv k=(Sf s i (k':: ks).isEmpty pv k && decide (0≤s.epoch - s.keys.length+1+i)):=by
   by_cases c1:k.n=s.epoch - s.keys.length+1+i <;> by_cases c2:0≤s.epoch - s.keys.length+1+i <;> by_cases c3:k.e < 1 <;>
    simp[Vw,Sf,c1,c2,c3]
   ·intros;omega
   ·have h1: ¬k.e=0:=by omega
    have h2: ¬k.e < 0:=by omega
    have h3: ¬s.epoch - s.keys.length+1+i < 0:=by omega
    have h4:0≤k.e:=by omega
    cases pv <;> simp[h1,h2,h3]
  rw[hk];by_cases c2:0≤s.epoch - s.keys.length+1+i
  ·have c3:0≤s.epoch - s.keys.length+1+ ((i:Int)+1):=by omega
   simp[c2,c3,Bool.and_assoc]
  ·simp[c2]
theorem OS (s:Srv): ∀(ks:List Ep) (i:Nat) (pv:Option Ep),YQ s i pv ks=true→ks=[]∨ks.getLast?.map Ep.n=some (s.epoch - s.keys.length+i+ks.length)
 | [],_,_,_=> .inl rfl
 | [k],i,pv,h=>by
  right;simp[YQ,Sf]at h;simp[h.1];omega
 | k:: k':: ks,i,pv,h=>by
  right;rw[YQ,Bool.and_eq_true]at h;rcases OS s (k':: ks) (i+1) (some k) h.2 with h1 | h1
  ·cases h1
  ·rw[List.getLast?_cons_cons,h1];simp;omega
theorem AH (s:Srv):Rt s=Ur s:=by
 unfold Rt Ur;by_cases c1:1≤s.keys.length
 ·have hne:s.keys≠[]:=fun h=>by rw[h]at c1;simp at c1
  rw[P6 s s.keys 0 none hne];have hl:=OS s s.keys 0 none;cases hr:YQ s 0 none s.keys
  ·simp
  ·rcases hl hr with h1 | h1
   ·exact absurd h1 hne
   ·rw[h1];have h2:s.epoch - s.keys.length+ ((0:Nat):Int)+s.keys.length=s.epoch:=by omega
    simp only[h2,c1];simp;generalize decide (0≤s.epoch - s.keys.length+1)=a;cases a <;> simp[Bool.and_comm]
 ·simp[c1]
theorem FE (s:Srv) (bs:List (List AV)) (hul:s.used.length < 4611686018427387904):
  ∀(post pre:List Us) (pv:Option Us) (ρ:Nat→AV),s.used=pre ++ post→WK pre pv→ρ 1= .bx (Qo s)→ρ 3= .int .i64 pre.length→
  R F.tb (.loop F.f109l0) ρ bs (Qi 0 (Qu F.tb F.f109r0 (Qy F.f109 bs)))=some (.int .i64 (if Ym s.next pv post then 0 else 1),bs):=by
 intro post
 induction post with
 | nil=>
  intro pre pv ρ hk hpv h1 h3;rw[Qd F.f109l0.eq_1];simp at hk;rw[← hk]at h3;simp[h1,h3,Qo,F.f109r0,Ym]
 | cons x post IH=>
  intro pre pv ρ hk hpv h1 h3;have hg:=QB hk;have hl:=QM hk;have hw1:=wr1 pre.length (by omega);have hw6:IntKind.i64.wrap ((pre.length:Int) - 1)=(pre.length:Int) - 1:=Qq (by omega) (by omega);have hlt:=QO hk;have hnext:WK (pre ++ [x]) (some x):= .inr ⟨pre,x,rfl,rfl⟩;have hih:=fun ρ=>IH (pre ++ [x]) (some x) ρ (by simp[hk]) hnext;rw[Qd F.f109l0.eq_1];rcases hpv with⟨hpe,rfl⟩ | ⟨pre',p,hpe,rfl⟩
  ·have q1: (0 < (pre.length:Int))=False:=eq_false (by rw[hpe];simp);have q2: (pre=[])=True:=eq_true hpe;have q6: (0 < pre.length)=False:=eq_false (by rw[hpe];simp);by_cases c1:x.n < 0 <;> by_cases c2:s.next≤x.n <;> by_cases c3:x.e < 0 <;>
   simp[h1,h3,Qo,XM,hg,hw1,hlt,c1,c2,c3,Ym,usP,q1,q2,q6];rw[hih] <;> simp[h1,Qo]
  ·have hpl:pre.length=pre'.length+1:=by rw[hpe];simp
   have q1: (0 < (pre.length:Int))=True:=eq_true (by omega);have q2: (pre=[])=False:=eq_false (by intro h;rw[h]at hpl;simp at hpl);have q3:s.used[pre.length - 1]? =some p:=by
    rw[hpl,hk,hpe];simp
   have q4: ((pre.length:Int) - 1).toNat=pre.length - 1:=by omega
   have q6: (0 < pre.length)=True:=eq_true (by omega);have q7: ((1:Int)≤(pre.length:Int))=True:=eq_true (by omega);have q5: (0≤(pre.length:Int) - 1)=True:=eq_true (by omega);by_cases c1:x.n < 0 <;> by_cases c2:s.next≤x.n <;> by_cases c3:x.e < 0 <;> by_cases c4:x.n≤p.n <;>
   simp[h1,h3,Qo,XM,hg,hw1,hw6,hlt,c1,c2,c3,c4,Ym,usP,q1,q2,q3,q4,q5,q6,q7];rw[hih] <;> simp[h1,Qo]
theorem Py (s:Srv) (bs:List (List AV)) (hn:s.name.length < 1000000) (hul:s.used.length < 4611686018427387904) (hm: ∀k∈s.keys,k.key.mass < big) (hkl:s.keys.length < 4611686018427387904):
  call F.tb 109 [.agg (Qo s)] bs=some (.int .i64 (if Xq s then 0 else 1),bs):=by
 rw[Qa F.tb_109 _ _ rfl];have g0:=Rj s.name bs hn;have g2:=MA s bs hn;have e9: ((200:Int) < s.used.length)=¬(s.used.length≤200):=by rw[eq_iff_iff];omega
 have hloop:=FE s bs hul s.used [] none;rw[AH]at g2;unfold Qo at g2;unfold Xq;cases c1:XR s.name
 ·simp[F.f109C,Qo,g0,c1]
 by_cases d1:s.window < 1
 ·have d1': ¬1≤s.window:=by omega
  simp[F.f109C,Qo,g0,c1,d1,d1']
 by_cases d2:1000 < s.window
 ·have d2': ¬s.window≤1000:=by omega
  simp[F.f109C,Qo,g0,c1,d1,d2,d2']
 by_cases d3:s.epoch < 0
 ·have d3': ¬0≤s.epoch:=by omega
  simp[F.f109C,Qo,g0,c1,d1,d2,d3,d3']
 by_cases d4:10000 < s.epoch
 ·have d4': ¬s.epoch≤10000:=by omega
  simp[F.f109C,Qo,g0,c1,d1,d2,d3,d4,d4']
 by_cases d5:s.next < 0
 ·have d5': ¬0≤s.next:=by omega
  simp[F.f109C,Qo,g0,c1,d1,d2,d3,d4,d5,d5']
 by_cases d6:10000 < s.next
 ·have d6': ¬s.next≤10000:=by omega
  simp[F.f109C,Qo,g0,c1,d1,d2,d3,d4,d5,d6,d6']
 by_cases d7:s.now < 0
 ·have d7': ¬0≤s.now:=by omega
  simp[F.f109C,Qo,g0,c1,d1,d2,d3,d4,d5,d6,d7,d7']
 by_cases d8:100000 < s.now
 ·have d8': ¬s.now≤100000:=by omega
  simp[F.f109C,Qo,g0,c1,d1,d2,d3,d4,d5,d6,d7,d8,d8']
 by_cases d9:s.used.length≤200
 ·have g2':=g2 (by omega) hm hkl;have h1: (decide (1≤s.window) && decide (s.window≤1000))=true:=by simp;omega
  have h2: (decide (0≤s.epoch) && decide (s.epoch≤10000))=true:=by simp;omega
  have h3: (decide (0≤s.next) && decide (s.next≤10000))=true:=by simp;omega
  have h4: (decide (0≤s.now) && decide (s.now≤100000))=true:=by simp;omega
  simp only[h1,h2,h3,h4,Bool.true_and,d9,decide_true,Bool.and_true];cases hk:Ur s
  ·simp[F.f109C,Qo,g0,c1,d1,d2,d3,d4,d5,d6,d7,d8,d9,e9,g2',hk]
  ·simp[F.f109C,Qo,g0,c1,d1,d2,d3,d4,d5,d6,d7,d8,d9,e9,g2',hk];rw[hloop] <;> simp[Qo,WK]
 ·simp[F.f109C,Qo,g0,c1,d1,d2,d3,d4,d5,d6,d7,d8,d9,e9]
theorem QdJ:ZL F.tb 100 1 [] []=some (.bool true,[]):=by kernel_rfl
theorem NE:call F.tb 1 [] []=some (.bool true,[]):=W8.2 ⟨100,QdJ⟩
def ZT:Srv:=⟨[],0,[],0,[],0,0⟩
def Oa (n:List UInt8) (w:Int):Srv×Int:=if XR n=false then(ZT,2)else if(decide (1≤w) && decide (w≤1000))=false then(ZT,7)else(⟨n,0,[⟨0,0,Qt n 0⟩],0,[],w,0⟩,0)
theorem Ez (n:List UInt8) (w:Int) (bs:List (List AV)) (hn:n.length < 1000000):call F.tb 103 [.str n,.int .i64 w] bs=some (.tup [.agg (Qo (Oa n w).1),.int .i64 (Oa n w).2],bs):=by
 rw[Qa F.tb_103 _ _ rfl];have g0:=Rj n bs hn;have g2:call F.tb 105 [.str n,.int .i64 0] bs=_:=UM n 0 bs hn (by omega);cases c1:XR n
 ·simp[F.f103,F.f103C,g0,c1,Oa,ZT,Qo]
 by_cases d1:w < 1
 ·have d1': ¬1≤w:=by omega
  simp[F.f103,F.f103C,g0,c1,d1,d1',Oa,ZT,Qo]
 by_cases d2:1000 < w
 ·have d2': ¬w≤1000:=by omega
  simp[F.f103,F.f103C,g0,c1,d1,d2,d2',Oa,ZT,Qo]
 have d1':1≤w:=by omega
 have d2':w≤1000:=by omega
 simp[F.f103,F.f103C,g0,g2,c1,d1,d2,d1',d2',Oa,ZT,Qo,Q8]
theorem Gr (s:Srv) (bs:List (List AV)) (hk:s.keys.length*72≤140737488355328):
  ∀(post pre:List Ep) (ρ:Nat→AV),s.keys=pre ++ post→ρ 10= .sl false 6 (s.keys.map Q8)→ρ 11= .int .i64 s.keys.length→ρ 3= .sl true 4 (encTs (pre.map Ep.key))→ρ 12= .int .i64 pre.length→
  R F.tb (.loop F.f99l0) ρ bs (Qi 0 (Qu F.tb F.f99r0 (Qy F.f99 bs)))=some (.sl false 4 (encTs (s.keys.map Ep.key)),bs):=by
 intro post
 induction post with
 | nil=>
  intro pre ρ hkk h10 h11 h3 h12;rw[Qd F.f99l0.eq_1];simp at hkk;rw[← hkk]at h3 h12;simp[h3,h10,h11,h12,F.f99r0]
 | cons x post IH=>
  intro pre ρ hkk h10 h11 h3 h12;have hg:=QB hkk;have hl:s.keys.length=pre.length+ (post.length+1):=by rw[hkk];simp
  have hw1:=wr1 pre.length (by omega);have hlt: (pre.length:Int) < (s.keys.length:Int):=by omega
  have ha: (pre.length+1)*56≤140737488355328:=by omega
  rw[Qd F.f99l0.eq_1];simp[h10,h11,h12,h3,hg,hw1,hlt,ha,Q8,XC,Yg];rw[IH (pre ++ [x])] <;> simp[h10,h11,hkk]
def Z0 (s:Srv):List Tm:=if Xq s then s.keys.map Ep.key else []
theorem GE (s:Srv) (bs:List (List AV)) (hn:s.name.length < 1000000) (hul:s.used.length < 4611686018427387904) (hm: ∀k∈s.keys,k.key.mass < big) (hk:s.keys.length*72≤140737488355328):
  call F.tb 99 [.agg (Qo s)] bs=some (.sl (!Xq s) 4 (encTs (Z0 s)),bs):=by
 rw[Qa F.tb_99 _ _ rfl];have hv:=Iy s bs hn hul hm;have hloop:=Gr s bs hk s.keys [];unfold Z0;unfold Qo at *;cases c:Xq s
 ·simp[F.f99C,hv,c,encTs]
 ·simp[F.f99C,hv,c];rw[hloop] <;> simp[encTs]
def W3 (a b:Tm):Tm:= .mk 3 QK 0 [a,b]
@[simp] theorem Ot (ks:List Ep):gpfreeE (ks.map Q8)=true:=by
 induction ks with
 | nil=>rfl
 | cons k ks ih=>simp[gpfreeE,Q8,gpfreeL,AV.gpfree,V4,ih]
@[simp] theorem QgA (us:List Us):gpfreeE (us.map XM)=true:=by
 induction us with
 | nil=>rfl
 | cons k ks ih=>simp[gpfreeE,XM,gpfreeL,AV.gpfree,ih]
structure Srv.cl (s:Srv):Prop where
 k:s.keys.length*72≤140737488355328
 u:s.used.length*16≤140737488355328
def TM (s:Srv) (now:Int):Bool:=decide (s.now≤now) && decide (now≤100000)
def Y2 (s:Srv) (now:Int):Int:=if Xq s=false then 1 else if TM s now=false then 7 else 0
theorem Uj (s:Srv) (now:Int) (bs:List (List AV)) (hn:s.name.length < 1000000) (hul:s.used.length < 4611686018427387904) (hm: ∀k∈s.keys,k.key.mass < big) (hkl:s.keys.length < 4611686018427387904):
  call F.tb 116 [.agg (Qo s),.int .i64 now] bs=some (.int .i64 (Y2 s now),bs):=by
 rw[Qa F.tb_116 _ _ rfl];have h1:=Py s bs hn hul hm hkl;unfold Qo at *;cases hv:Xq s
 ·simp[F.f116,F.f116C,h1,hv,Y2]
 ·by_cases ha:now < s.now
  ·have hl:TM s now=false:=by simp[TM];omega
   simp[F.f116,F.f116C,h1,hv,Y2,ha,hl]
  ·by_cases hb:100000 < now
   ·have hl:TM s now=false:=by simp[TM];omega
    simp[F.f116,F.f116C,h1,hv,Y2,ha,hb,hl]
   ·have hl:TM s now=true:=by simp[TM];omega
    simp[F.f116,F.f116C,h1,hv,Y2,ha,hb,hl]
theorem Ni {n:Nat} (h:n < 1000000):QP ([110,35]++ ZN n)=true:=
 Tc (by decide) (SC n) (by have:=Um 5 n h;simp;omega)
theorem Lw {s:List UInt8} {n:Nat} (hs:XR s=true) (h:n < 1000000):QP (s ++ [95]++ ZN n)=true:=by
 simp only[XR,Bool.and_eq_true,decide_eq_true_eq]at hs;rw[List.append_assoc];exact Tc hs.1.1.1 (by rw[List.all_append,SC];decide) (by have:=Um 5 n h;have:=hs.1.1.2;simp;omega)
def Ui (ag:List UInt8) (key:Tm) (n ex:Int):Tm:=W3 (.mk 2 ag 1 []) (W3 key (W3 (Y1 n) (Y1 ex)))
def YC (ag:List UInt8) (key:Tm) (n ex:Int) (k:Tm):Tm:= .mk 3 ENC 0 [Ui ag key n ex,k]
theorem SJ {n:Nat} (h:n < 1000000): (ZN n).length≤6:=Um 5 n h
def Tt (s:Srv):Tm:=(s.keys.getLast?.map Ep.key).getD Qs
def Zy (s:Srv) (ag:List UInt8) (now:Int):Srv×Tm×Tm×Int:=
 if Y2 s now≠0 then(ZT,Qs,Qs,Y2 s now)else if QP ag=false then(ZT,Qs,Qs,2)else if s.next=10000 then(ZT,Qs,Qs,3)
 else({s with now:=now,next:=s.next+1},YC ag (QG s.name s.next) s.next (now+s.window) (Tt s),QG s.name s.next,0)
structure Srv.ok (s:Srv):Prop where
 name:XR s.name=true
 w:1≤s.window∧s.window≤1000
 ep:0≤s.epoch∧s.epoch≤10000
 nx:0≤s.next∧s.next≤10000
 nw:0≤s.now∧s.now≤100000
 ks:Ur s=true
 us:Ym s.next none s.used=true
 ul:s.used.length≤200
theorem Cy {s:Srv} (h:Xq s=true):s.ok:=by
 simp only[Xq,Bool.and_eq_true,decide_eq_true_eq]at h;obtain⟨⟨⟨⟨⟨⟨h1,h2⟩,h3⟩,h4⟩,h5⟩,h6⟩,h7,h8⟩:=h;exact⟨h1,h2,h3,h4,h5,h6,h7,h8⟩
theorem Srv.ok.last {s:Srv} (h:s.ok): ∃i k,s.keys=i ++ [k]∧i.length < 8:=by
 have:=h.ks;simp only[Ur,Bool.and_eq_true,decide_eq_true_eq]at this;rcases List.eq_nil_or_concat s.keys with e | ⟨i,k,e⟩
 ·rw[e]at this;simp at this
 ·refine⟨i,k,by simpa using e,?_⟩;rw[e]at this;simp at this;omega
theorem Tr {s:Srv} {now:Int} (h:Y2 s now=0):s.ok∧s.now≤now∧now≤100000:=by
 unfold Y2 at h;split at h
 ·simp at h
 ·split at h
  ·simp at h
  ·rename_i h1 h2;simp[TM]at h1 h2;exact⟨Cy h1,h2⟩
theorem KQ (ag:List UInt8) (key k:Tm) (n ex:Nat) (bs:List (List AV)) (hn:n < 1000000) (he:ex < 1000000):
  call F.tb 118 [.agg ([.str ag]++ Qb key ++ [.int .i64 n,.int .i64 ex]),.agg (Qb k)] bs=some (.agg (Qb (YC ag key n ex k)),bs):=by
 rw[Qa F.tb_118 _ _ rfl];have t2:=Px n bs (by omega);have t3:=Px ex bs (by omega);have t4:=TJ ag 1 bs;have a1:=Sx QK [Y1 n,Y1 ex] false bs (by simp);have a2:=Sx QK [key,W3 (Y1 n) (Y1 ex)] false bs (by simp);have a3:=Sx QK [.mk 2 ag 1 [],W3 key (W3 (Y1 n) (Y1 ex))] false bs (by simp);have a4:=Sx ENC [Ui ag key n ex,k] false bs (by simp);simp only[W3,Ui,QK,ENC,encTs]at a1 a2 a3 a4;rw[Qz key,Qz k]at *;simp[F.f118C,t2,t3,t4,a1,a2,a3,a4,YC,Ui,W3,QK,ENC]
theorem Iw (s:Srv) (ag:List UInt8) (now:Int) (bs:List (List AV)) (hn:s.name.length < 1000000) (hcl:s.cl) (hm: ∀k∈s.keys,k.key.mass < big) (hag:ag.length≤1000):
  call F.tb 115 [.agg (Qo s),.str ag,.int .i64 now] bs=some (.tup [.agg (Qo (Zy s ag now).1),.agg (Qb (Zy s ag now).2.1),.agg (Qb (Zy s ag now).2.2.1),.int .i64 (Zy s ag now).2.2.2],bs):=by
 have hul:s.used.length < 4611686018427387904:=by have:=hcl.u;omega
 have hkl0:s.keys.length < 4611686018427387904:=by have:=hcl.k;omega
 rw[Qa F.tb_115 _ _ rfl];have h1:=Uj s now bs hn hul hm hkl0;have h2:=Sa ag bs (by omega);by_cases hc:Y2 s now=0
 ·obtain⟨hok,hnow⟩:=Tr hc;cases hag2:QP ag
  ·unfold Qo at *;simp[F.f115C,h1,h2,hc,hag2,Zy,ZT,Qs,Qb,encTs]
  ·by_cases hnx:s.next=10000
   ·simp[Zy,hc,hag2,hnx];unfold Qo at *;simp only[hnx]at h1 ⊢;simp[F.f115C,h1,h2,hc,hag2,hnx,Zy,ZT,Qs,Qb,encTs]
   ·obtain⟨n,hn1⟩: ∃n:Nat,s.next=n:=⟨s.next.toNat,by have:=hok.nx;omega⟩;obtain⟨ex,he1⟩: ∃e:Nat,now+s.window=e:=⟨(now+s.window).toNat,by have:=hok.nw;have:=hok.w;omega⟩;obtain⟨i,k,hk,hi⟩:=hok.last;have hnb:=hok.nx;have hwb:=hok.w;have hexb:ex < 1000000:=by have:=hok.nw;have:=hok.w;omega
    have he2:=he1;have hwn:IntKind.i64.wrap ((n:Int)+1)=(n:Int)+1:=Qq (by omega) (by omega);have hwi:IntKind.i64.wrap (i.length:Int)=(i.length:Int):=Qq (by omega) (by omega);have hlk:Tt s=k.key:=by simp[Tt,hk]
    have t1:=ND s.name n bs hn (by omega);have t2:=KQ ag (QG s.name n) k.key n ex bs (by omega) hexb;have hg: (s.keys.map Q8)[i.length]? =some (Q8 k):=by rw[hk];simp
    have hkl:s.keys.length=i.length+1:=by rw[hk];simp
    simp[Zy,hc,hag2,hnx];unfold Qo at *;simp only[hn1]at *;have hwx:IntKind.i64.wrap (now+s.window)=(ex:Int):=by rw[he2];exact Qq (by omega) (by omega)
    simp only[he1];have hLg:=Ot s.keys;have hLl: (s.keys.map Q8).length=i.length+1:=by simp[hkl]
    generalize s.keys.map Q8=L at *;have hg2: ∀h:i.length < L.length,L[i.length]'h=Q8 k:=fun h=>by
     rw[List.getElem?_eq_getElem h]at hg;exact Option.some.inj hg
    have e4:=Qz (QG s.name n);generalize QG s.name n=tk at *;simp only[e4,List.cons_append,List.nil_append]at t1 t2;simp[e4,F.f115C,h1,h2,hc,hag2,hnx,t1,t2,hg,hg2,hLl,hlk,Q8,hkl,hwx,hwn,hwi,hLg]
 ·unfold Qo at *;simp[F.f115C,h1,h2,hc,Zy,ZT,Qs,Qb,encTs]
def XN (ks:List Ep):List AV:=ks.flatMap Q8
theorem NO (k:Ep): (Q8 k).map AV.strip=Q8 k:=by simp[Q8,QJ]
theorem O8 (k:Ep): (Q8 k).length=6:=by simp[Q8,Zw]
theorem Qcn (ks:List Ep): (ks.map Q8).flatten.map AV.strip=XN ks:=by
 induction ks with
 | nil=>rfl
 | cons k ks ih=>simp only[List.map_cons,List.flatten_cons,List.map_append,ih,NO,XN,List.flatMap_cons]
theorem Nb (ks:List Ep): (XN ks).length=ks.length*6:=by
 induction ks with
 | nil=>rfl
 | cons k ks ih=>simp only[XN,List.flatMap_cons,List.length_append,O8]at *;rw[ih];simp;omega
theorem Jo (a b:List Ep):XN (a ++ b)=XN a ++ XN b:=by simp[XN]
theorem PW (a:Ep) (b:List Ep):XN (a:: b)=Q8 a ++ XN b:=by simp[XN]
theorem MK (a b:List AV):gpfreeL (a ++ b)=(gpfreeL a && gpfreeL b):=by
 induction a with
 | nil=>simp[gpfreeL]
 | cons x a ih=>simp[gpfreeL,ih,Bool.and_assoc]
theorem Rp (a b:List (List AV)):gpfreeE (a ++ b)=(gpfreeE a && gpfreeE b):=by
 induction a with
 | nil=>simp[gpfreeE]
 | cons x a ih=>simp[gpfreeE,ih,Bool.and_assoc]
theorem Qco (ks:List Ep):gpfreeL (XN ks)=true:=by
 induction ks with
 | nil=>rfl
 | cons k ks ih=>simp[PW,Q8,gpfreeL,AV.gpfree,ih,MK,V4]
theorem IF (ks:List Ep): ∀(pre:List AV) (n:Nat),pre.length=n→QY (pre ++ XN ks) n 6 ks.length=ks.map Q8:=by
 induction ks with
 | nil=>intro pre n h;rfl
 | cons k ks ih=>
  intro pre n h;have h1:=ih (pre ++ Q8 k) (n+6) (by simp[O8,h]);unfold QY at *;rw[List.length_cons,List.range_succ_eq_map,List.map_cons,List.map_map,List.map_cons,← h1];refine List.cons_eq_cons.2 ⟨?_,List.map_congr_left fun j _=> ?_⟩
  ·rw[PW];simp[← h,NO,List.take_append,O8]
  ·simp only[Function.comp_apply,PW,List.append_assoc];rw[show n+6+j*6=n+ (j+1)*6 by omega]
theorem K2 (ks:List Ep):QY (XN ks) 0 6 ks.length=ks.map Q8:=IF ks [] 0 rfl
theorem QfB (i:List Ep) (k:Ep) (e:Int):put (XN (i ++ [k])) (i.length*6+1) [.int .i64 e]=XN (i ++ [{k with e:=e}]):=by
 have h1:=Nb i;have h2: ∀k,XN [k]=Q8 k:=fun k=>by simp[XN]
 rw[Jo,Jo,h2,h2];generalize XN i=A at *;simp only[put,← h1,Q8];simp[List.take_append,List.drop_append];rw[List.take_of_length_le (by omega),List.drop_eq_nil_of_le (by omega),show A.length+1+1 - A.length=2 by omega];simp
def MT (s:Srv) (e:Int):List Ep:=s.keys.dropLast ++ (s.keys.getLast?.toList.map fun k=>{k with e:=e})
def Yb (s:Srv) (now:Int):Srv×Int:=
 if Y2 s now≠0 then(ZT,Y2 s now)else if s.keys.length=8∨s.epoch=10000 then(ZT,3)
 else({s with now:=now,epoch:=s.epoch+1,keys:=MT s (now+s.window)++ [⟨s.epoch+1,0,Qt s.name (s.epoch+1)⟩]},0)
theorem le3 {n:Nat} (h:n < 8): (n+1)*72≤140737488355328:=by omega
theorem le2 {n:Nat} (h:n < 8): (n+1+1)*72≤140737488355328:=by omega
theorem KL (s:Srv) (now:Int) (bs:List (List AV)) (hn:s.name.length < 1000000) (hcl:s.cl) (hm: ∀k∈s.keys,k.key.mass < big):
  call F.tb 121 [.agg (Qo s),.int .i64 now] bs=some (.tup [.agg (Qo (Yb s now).1),.int .i64 (Yb s now).2],bs):=by
 have hul:s.used.length < 4611686018427387904:=by have:=hcl.u;omega
 rw[Qa F.tb_121 _ _ rfl];have h1:=Uj s now bs hn hul hm (by have:=hcl.k;omega);by_cases hc:Y2 s now=0
 ·obtain⟨hok,hnow⟩:=Tr hc;by_cases hk8:s.keys.length=8
  ·unfold Qo at *;simp[F.f121C,h1,hc,hk8,Yb,ZT]
  ·by_cases hep:s.epoch=10000
   ·simp[Yb,hc,hep];unfold Qo at *;simp only[hep]at h1 ⊢;simp[F.f121C,h1,hc,hk8,hep,ZT]
   ·obtain⟨i,k,hk,hi⟩:=hok.last;have hkl:s.keys.length=i.length+1:=by rw[hk];simp
    have hi8: ¬((i.length:Int)+1=8):=by omega
    have hle: (i.length+1)*6≤i.length*6+6:=by omega
    have hlt: (i.length:Int) < (i.length:Int)+1:=Int.lt_add_one_of_le (Int.le_refl _);obtain⟨n,hn1⟩: ∃n:Nat,s.epoch=n:=⟨s.epoch.toNat,by have:=hok.ep;omega⟩;have hnb:=hok.ep;have hwb:=hok.w;have hnwb:=hok.nw;have hne:=Qcn (i ++ [k]);have hgp3:=Ot (i ++ [k]);have t2:=fun bs=>UM s.name (n+1) bs hn (by omega);have hwx:IntKind.i64.wrap (now+s.window)=now+s.window:=Qq (by omega) (by omega);have hwn:IntKind.i64.wrap ((n:Int)+1)=(n:Int)+1:=Qq (by omega) (by omega);have hwi:IntKind.i64.wrap (i.length:Int)=(i.length:Int):=Qq (by omega) (by omega);have hp:=QfB i k (now+s.window);simp only[put,List.length_singleton,List.append_assoc,List.singleton_append]at hp;simp only[Int.natCast_add,Int.natCast_one]at t2;have hch:=K2 (i ++ [{k with e:=now+s.window}]);have hfl: (XN (i ++ [k])).length=i.length*6+6:=by rw[Nb];simp;omega
    have hfl2: (XN (i ++ [{k with e:=now+s.window}])).length=i.length*6+6:=by rw[Nb];simp;omega
    have hgp1:=Qco (i ++ [k]);have hgp2:=Ot (i ++ [{k with e:=now+s.window}]);have hle3:=le3 hi;have hle2:=le2 hi;simp[Yb,MT,hc,hk8,hep];unfold Qo at *;simp only[hn1,hk]at *;have hLl: ((i ++ [k]).map Q8).length=i.length+1:=by simp
    generalize (i ++ [k]).map Q8=L at *;generalize XN (i ++ [k])=fl at *;generalize XN (i ++ [{k with e:=now+s.window}])=fl2 at *;simp at hch hgp2;simp[F.f121C,h1,hc,hi8,hlt,hle,hle2,Zb,hep,hLl,hne,hgp3,hle3,t2,hp,hch,hwx,hwn,hwi,hfl,hfl2,hgp1,hgp2];refine⟨?_,by simp[Q8]⟩;rw[Rp,Ot];simp[gpfreeE,Q8,gpfreeL,AV.gpfree,V4]
 ·unfold Qo at *;simp[F.f121C,h1,hc,Yb,ZT]
def X6 (now:Int) (k:Ep):Bool:=decide (k.e=0) || decide (now≤k.e)
def Vk (now:Int) (u:Us):Bool:=decide (now≤u.e)
def XF (s:Srv) (now:Int):Srv:=
 if Y2 s now≠0 then s else {s with keys:=s.keys.filter (X6 now),used:=s.used.filter (Vk now),now:=now}
theorem Gt (s:Srv) (now:Int) (ks:List Ep) (bs:List (List AV)) (hcl:s.cl):
  ∀(post pre:List Us) (ρ:Nat→AV),s.used=pre ++ post→ρ 1= .int .i64 now→ρ 2= .bx (Qo s)→ρ 4= .bx [.str [],.int .i64 0,.sl true 6 [],.int .i64 0,.sl true 2 [],.int .i64 0,.int .i64 0]→
   ρ 5= .sl true 6 (ks.map Q8)→ρ 7= .sl true 2 ((pre.filter (Vk now)).map XM)→ρ 8= .int .i64 pre.length→
  R F.tb (.loop F.f122l1) ρ bs (Qi 2 (Qu F.tb F.f122r0 (Qy F.f122 bs)))=
   some (.agg (Qo {s with keys:=ks,used:=(pre ++ post).filter (Vk now),now:=now}),bs):=by
 have hcu:=hcl.u;intro post
 induction post with
 | nil=>
  intro pre ρ hk h1 h2 h4 h5 h7 h8;rw[Qd F.f122l1.eq_1];simp only[List.append_nil]at hk ⊢;subst hk;unfold Qo at *;simp[h1,h2,h4,h5,h7,h8,F.f122r0]
 | cons x post IH=>
  intro pre ρ hk h1 h2 h4 h5 h7 h8;have hl:=QM hk;have hg:s.used[pre.length]? =some x:=by rw[hk];simp
  have hw1:=wr1 pre.length (by omega);have hlt:=QO hk;have hf:=List.length_filter_le (Vk now) pre;have hb: ((pre.filter (Vk now)).length+1)*16≤140737488355328:=by omega
  have e:pre ++ x:: post=(pre ++ [x])++ post:=by simp
  rw[Qd F.f122l1.eq_1];have h2':=h2;unfold Qo at h2;rw[e];have hr:=IH (pre ++ [x]);by_cases hx:now≤x.e
  ·have hkx:Vk now x=true:=by simp[Vk,hx]
   simp only[List.filter_append,List.filter_cons,hkx,List.filter_nil,if_true]at hr;simp[h1,h2,h4,h5,h7,h8,hg,hw1,hlt,XM,hx,hb];rw[hr] <;> simp[h1,h2',h4,h5,hk,XM,List.filter_cons,hkx]
  ·have hkx:Vk now x=false:=by simp[Vk,hx]
   simp only[List.filter_append,List.filter_cons,hkx,List.filter_nil,if_false,List.append_nil]at hr;simp[h1,h2,h4,h5,h7,h8,hg,hw1,hlt,XM,hx,hb];rw[hr] <;> simp[h1,h2',h4,h5,hk,h7,List.filter_cons,hkx]
theorem Gu (s:Srv) (now:Int) (ks:List Ep) (bs:List (List AV)) (hcl:s.cl) (ρ:Nat→AV) (h1:ρ 1= .int .i64 now) (h2:ρ 2= .bx (Qo s))
  (h4:ρ 4= .bx [.str [],.int .i64 0,.sl true 6 [],.int .i64 0,.sl true 2 [],.int .i64 0,.int .i64 0]) (h5:ρ 5= .sl true 6 (ks.map Q8)):
  R F.tb F.f122r1 ρ bs (Qy F.f122 bs)=
   some (.agg (Qo {s with keys:=ks,used:=s.used.filter (Vk now),now:=now}),bs):=by
 simp[F.f122r1];have:=fun ρ=>Gt s now ks bs hcl s.used [] ρ rfl;simp only[List.nil_append]at this;rw[this] <;> simp[h1,h2,h4,h5]
theorem Gs (s:Srv) (now:Int) (bs:List (List AV)) (hcl:s.cl):
  ∀(post pre:List Ep) (ρ:Nat→AV),s.keys=pre ++ post→ρ 1= .int .i64 now→ρ 2= .bx (Qo s)→ρ 4= .bx [.str [],.int .i64 0,.sl true 6 [],.int .i64 0,.sl true 2 [],.int .i64 0,.int .i64 0]→
   ρ 5= .sl true 6 ((pre.filter (X6 now)).map Q8)→ρ 6= .int .i64 pre.length→
  R F.tb (.loop F.f122l0) ρ bs (Qi 0 (Qu F.tb F.f122r1 (Qy F.f122 bs)))=
   some (.agg (Qo {s with keys:=(pre ++ post).filter (X6 now),used:=s.used.filter (Vk now),now:=now}),bs):=by
 have hck:=hcl.k;intro post
 induction post with
 | nil=>
  intro pre ρ hk h1 h2 h4 h5 h6;rw[Qd F.f122l0.eq_1];simp only[List.append_nil]at hk ⊢;subst hk;have h2':=h2;unfold Qo at h2;simp[h1,h2,h4,h5,h6];rw[Gu s now _ bs hcl] <;> simp[h1,h2',h4,h5]
 | cons x post IH=>
  intro pre ρ hk h1 h2 h4 h5 h6;have hl:=QM hk;have hg:s.keys[pre.length]? =some x:=by rw[hk];simp
  have hw1:=wr1 pre.length (by omega);have hlt:=QO hk;have hf:=List.length_filter_le (X6 now) pre;have hb: ((pre.filter (X6 now)).length+1)*72≤140737488355328:=by omega
  have e:pre ++ x:: post=(pre ++ [x])++ post:=by simp
  rw[Qd F.f122l0.eq_1];have h2':=h2;unfold Qo at h2;rw[e];have hr:=IH (pre ++ [x]);by_cases h0:x.e=0
  ·have hkx:X6 now x=true:=by simp[X6,h0]
   simp only[List.filter_append,List.filter_cons,hkx,List.filter_nil,if_true]at hr;simp[h1,h2,h4,h5,h6,hg,hw1,hlt,Q8,h0,hb];rw[hr] <;> simp[h1,h2',h4,h5,hk,Q8,List.filter_cons,hkx,h0]
  ·have b0: (x.e == 0)=false:=by simp[h0]
   by_cases hx:now≤x.e
   ·have hkx:X6 now x=true:=by simp[X6,hx]
    simp only[List.filter_append,List.filter_cons,hkx,List.filter_nil,if_true]at hr;simp[h1,h2,h4,h5,h6,hg,hw1,hlt,Q8,h0,b0,hx,hb];rw[hr] <;> simp[h1,h2',h4,h5,hk,Q8,List.filter_cons,hkx]
   ·have hkx:X6 now x=false:=by simp[X6,hx,h0]
    simp only[List.filter_append,List.filter_cons,hkx,List.filter_nil,if_false,List.append_nil]at hr;simp[h1,h2,h4,h5,h6,hg,hw1,hlt,Q8,h0,b0,hx,hb];rw[hr] <;> simp[h1,h2',h4,h5,hk,List.filter_cons,hkx]
theorem KI (s:Srv) (now:Int) (bs:List (List AV)) (hn:s.name.length < 1000000) (hcl:s.cl) (hm: ∀k∈s.keys,k.key.mass < big):
  call F.tb 122 [.agg (Qo s),.int .i64 now] bs=some (.agg (Qo (XF s now)),bs):=by
 have hul:s.used.length < 4611686018427387904:=by have:=hcl.u;omega
 have h1:=Uj s now bs hn hul hm (by have:=hcl.k;omega);have h2:=fun ρ=>Gs s now bs hcl s.keys [] ρ rfl;simp only[List.nil_append]at h2;rw[Qa F.tb_122 _ _ rfl];by_cases hc:Y2 s now=0
 ·simp only[XF,hc,ne_eq,not_true_eq_false,if_false];generalize Qo {s with keys:=s.keys.filter (X6 now),used:=s.used.filter (Vk now),now:=now}=r at *;unfold Qo at *;simp[F.f122C,h1,hc];rw[h2] <;> simp
 ·simp only[XF,hc,ne_eq,not_false_eq_true,if_true];unfold Qo at *;simp[F.f122C,h1,hc]
def U0 (t:Tm):Nat:=Wq 0 (t.name.drop 2)
def WT (t:Tm):Bool:=decide (U0 t≤1000000) && decide (Qh t (Y1 (U0 t))=0)
theorem UZ {t:Tm}:WT t=true↔U0 t≤1000000∧t=Y1 (U0 t):=by
 simp only[WT,Bool.and_eq_true,decide_eq_true_eq,ZW]
theorem V9 (n:Nat):U0 (Y1 n)=n:=by
 simp only[U0,Y1,Zk,Wj];exact(RI n).1
theorem I0 (t:Tm) (bs:List (List AV)) (hn:t.name.length < 1000000):
  ∀(post pre:List UInt8) (acc:Nat) (ρ:Nat→AV),t.name=pre ++ post→acc≤1000000→2≤t.name.length→ρ 1= .bx (Qb t)→ρ 3= .int .i64 acc→ρ 4= .int .i64 pre.length→
  R F.tb (.loop F.f134l0) ρ bs (Qi 0 (Qu F.tb F.f134r0 (Qy F.f134 bs)))=
   some (.int .i64 (if post.all Y3=true∧Wq acc post≤1000000∧ZN (Wq acc post)=t.name.drop 2 then Wq acc post else -1),bs):=by
 intro post
 induction post with
 | nil=>
  intro pre acc ρ hk ha h2 h1 h3 h4;have hd:=U6 acc bs (by omega);rw[Qd F.f134l0.eq_1];simp at hk;have h2': (2:Int)≤t.name.length:=by omega
  by_cases c:ZN acc=t.name.drop 2
  ·have cb: (ZN acc == t.name.drop 2)=true:=by simp[c]
   simp[h1,h3,h4,← hk,hd,h2',c,cb,Pd,ha,F.f134r0]
  ·have cb: (ZN acc == t.name.drop 2)=false:=by simp[c]
   simp[h1,h3,h4,← hk,hd,h2',c,cb,Pd,F.f134r0]
 | cons x post IH=>
  intro pre acc ρ hk ha h2 h1 h3 h4;obtain⟨hg,hw,hlt,_⟩:=Tq hk (by omega);rw[Qd F.f134l0.eq_1];have hx:=x.toNat_lt;have e1: ((x.toNat:Int) < 48)=(x.toNat < 48):=by rw[eq_iff_iff];omega
  have e2: ((57:Int) < x.toNat)=(57 < x.toNat):=by rw[eq_iff_iff];omega
  by_cases c1:x.toNat < 48
  ·have hd:Y3 x=false:=by simp[Y3];omega
   simp[h1,h3,h4,hg,hw,hlt,e1,c1,hd]
  by_cases c2:57 < x.toNat
  ·have hd:Y3 x=false:=by simp[Y3];omega
   simp[h1,h3,h4,hg,hw,hlt,e1,e2,c1,c2,hd]
  have hd:Y3 x=true:=by simp[Y3];omega
  have w1:IntKind.u8.wrap ((x.toNat:Int) - 48)=((x.toNat - 48:Nat):Int):=by rw[QeZ (by omega)];omega
  have w2:IntKind.i64.wrap (10* (acc:Int))=10* (acc:Int):=Qq (by omega) (by omega);have w3:IntKind.i64.wrap (((x.toNat - 48:Nat):Int))=((x.toNat - 48:Nat):Int):=Qq (by omega) (by omega);have w4:IntKind.i64.wrap (10* (acc:Int)+ ((x.toNat - 48:Nat):Int))=((acc*10+ (x.toNat - 48):Nat):Int):=by rw[Qq (by omega) (by omega)];omega
  have hv:=Gj post (acc*10+ (x.toNat - 48));have e3: ((1000000:Int) < ((acc*10+ (x.toNat - 48):Nat):Int))=(1000000 < acc*10+ (x.toNat - 48)):=by rw[eq_iff_iff];omega
  generalize hac:acc*10+ (x.toNat - 48)=acc' at *;by_cases c3:1000000 < acc'
  ·have: ¬Wq acc' post≤1000000:=by omega
   simp[h1,h3,h4,hg,hw,hlt,e1,e2,c1,c2,hd,w1,w2,w3,w4,e3,c3,TA,hac,this]
  ·simp[h1,h3,h4,hg,hw,hlt,e1,e2,c1,c2,hd,w1,w2,w3,w4,e3,c3,TA,hac];rw[IH (pre ++ [x]) acc'] <;> first | omega | simp[h1,hk]
theorem Rh (t:Tm) (bs:List (List AV)) (hn:t.name.length < 1000000) (hk:t.kind=2→t.kids=[]):
  call F.tb 134 [.agg (Qb t)] bs=some (.int .i64 (if WT t=true then(U0 t:Int)else -1),bs):=by
 rw[Qa F.tb_134 _ _ rfl];by_cases hk2: ¬t.kind=2
 ·have hq: ¬WT t=true:=fun h=>hk2 (by rw[(UZ.1 h).2];rfl);rw[if_neg hq];simp[F.f134C,hk2]
 replace hk:=hk (Decidable.not_not.1 hk2)
 clear hk2;obtain⟨k,n,s,ks⟩:=t;simp at hn hk;subst hk;have hb:WT (.mk k n s [])=true↔k=2∧s=4∧3≤n.length∧n.take 2=[110,35]∧(n.drop 2).all Y3=true∧Wq 0 (n.drop 2)≤1000000∧ZN (Wq 0 (n.drop 2))=n.drop 2:=by
  rw[UZ];simp only[U0,Zk,Y1,Wj,Tm.mk.injEq];constructor
  ·rintro⟨a,rfl,b,rfl,_⟩
   have e:n.drop 2=ZN (Wq 0 (n.drop 2)):=by
    have:=congrArg (List.drop 2) b;simpa using this
   obtain⟨h1,h2,h3⟩:=RI (Wq 0 (n.drop 2));refine⟨rfl,rfl,?_,?_,?_,a,e.symm⟩
   ·have h4:0 < (ZN (Wq 0 (n.drop 2))).length:=List.length_pos_iff.2 h3;rw[← e]at h4;simp at h4;omega
   ·have:=congrArg (List.take 2) b;simpa using this
   ·rw[e];exact h2
  ·rintro⟨rfl,rfl,_,h2,_,h4,h5⟩
   refine⟨h4,rfl,?_,rfl,trivial⟩;rw[h5,← h2,List.take_append_drop]
 have e3: ((n.length:Int) < 3)=¬(3≤n.length):=by rw[eq_iff_iff];omega
 by_cases c1:k=2
 ·by_cases c2:s=4
  ·by_cases c3:3≤n.length
   ·have h2: (2:Int)≤n.length:=by omega
    by_cases c4:n.take 2=[110,35]
    ·have hl:=I0 (.mk k n s []) bs hn (n.drop 2) (n.take 2) 0;have hlen: (n.take 2).length=2:=by rw[c4];rfl
     subst c1 c2;simp[F.f134C,Qb,e3,c3,c4,h2];rw[hl] <;> (try simp[Qb,c3]) <;> (try omega)
     ·by_cases hq:WT (.mk 2 n 4 [])=true
      ·have:=hb.1 hq;simp only[U0,Zk,hq,if_true];rw[if_pos ⟨by simpa using this.2.2.2.2.1,this.2.2.2.2.2.1,this.2.2.2.2.2.2⟩]
      ·rw[if_neg hq,if_neg];intro ⟨a,b,c⟩;exact hq (hb.2 ⟨rfl,rfl,c3,c4,by simpa using a,b,c⟩)
    ·have cb: (n.take 2 == [110,35])=false:=by simp[c4]
     have hq: ¬WT (.mk k n s [])=true:=fun h=>c4 (hb.1 h).2.2.2.1;rw[if_neg hq];subst c1 c2;simp[F.f134C,Qb,e3,c3,cb,h2]
   ·have hq: ¬WT (.mk k n s [])=true:=fun h=>c3 (hb.1 h).2.2.1;rw[if_neg hq];subst c1 c2;simp[F.f134C,Qb,e3,c3]
  ·have hq: ¬WT (.mk k n s [])=true:=fun h=>c2 (hb.1 h).2.1;rw[if_neg hq];subst c1;simp[F.f134C,Qb,c2]
 ·have hq: ¬WT (.mk k n s [])=true:=fun h=>c1 (hb.1 h).1;rw[if_neg hq];simp[F.f134C,Qb,c1]
def Wo:Tm→List Tm
 | .mk k n s [a,b]=>if k=3∧n=QK then a:: Wo b else [.mk k n s [a,b]]
 | t=>[t]
theorem SS (t a b:Tm) (h:isB t QK=true) (hk:t.kids=[a,b]):Wo t=a:: Wo b:=by
 obtain⟨k,n,s,ks⟩:=t;simp at hk;subst hk;have h:=XX.1 h;simp only[Xm,Zk]at h;rw[Wo,if_pos h]
theorem TT (t:Tm) (h: ¬(isB t QK=true∧t.kids.length=2)):Wo t=[t]:=by
 obtain⟨k,n,s,ks⟩:=t;simp only[XX,Xm,Zk,QX]at h
 match ks with
 | []=>simp[Wo]
 | [a]=>simp[Wo]
 | [a,b]=>
  have: ¬(k=3∧n=QK):=fun h1=>h ⟨h1,rfl⟩;simp[Wo,this]
 | a:: b:: c:: r=>simp[Wo]
theorem TP (t:Tm): (∃a b,isB t QK=true∧t.kids=[a,b])∨¬(isB t QK=true∧t.kids.length=2):=by
 by_cases h:isB t QK=true∧t.kids.length=2
 ·obtain⟨h1,h2⟩:=h
  match hk:t.kids,h2 with
  | [a,b],_=>exact .inl ⟨a,b,h1,rfl⟩
 ·exact .inr h
theorem Ig: ∀(n:Nat) (t:Tm),t.nodes≤n→(Wo t).length≤t.nodes
 | 0,t,h=>by have:=ZJ t;omega
 | n+1,t,h=>by
  rcases TP t with⟨a,b,hb,hk⟩ | hb
  ·have hnn:=ZJ t;rw[hk]at hnn;simp only[nodesL]at hnn;rw[SS t a b hb hk];have:=Ig n b (by omega);have:=ZJ a;simp only[List.length_cons];omega
  ·rw[TT t hb];have:=ZJ t;simp;omega
theorem LQ (bs:List (List AV)): ∀(n:Nat) (t:Tm),t.nodes≤n→t.mass < big→call F.tb 133 [.agg (Qb t)] bs=some (.sl true 4 (encTs (Wo t)),bs):=by
 intro n
 induction n with
 | zero=>intro t hn;have:=ZJ t;omega
 | succ n IH=>
  intro t hn hm;have hi:call F.tb 132 [.agg (Qb t),.str [112,97,105,114]] bs=some (.bool (isB t QK),bs):=KJ t QK bs;rw[Qa F.tb_133 _ _ rfl];rcases TP t with⟨a,b,hb,hk⟩ | hb
  ·have hnn:=ZJ t;rw[hk]at hnn;simp only[nodesL]at hnn;have hma:a.mass < big:=Sg hm (by rw[hk];simp);have hmb:b.mass < big:=Sg hm (by rw[hk];simp);have hca:=IH b (by have:=ZJ a;omega) hmb;have hle:=Ig b.nodes b (Nat.le_refl _);have hnm:=YA b;have hap: (1+ (Wo b).length)*56≤140737488355328:=by unfold big at hmb;omega
   rw[hb]at hi;rw[SS t a b hb hk];simp[F.f133C,hi,hca,hap,hk,encTs]
  ·rw[TT t hb];have h2: (isB t QK && decide (t.kids.length=2))=false:=by
    rw[← Bool.not_eq_true,Bool.and_eq_true,decide_eq_true_eq];exact hb
   cases hb1:isB t QK
   ·rw[hb1]at hi;simp[F.f133C,hi,encTs]
   ·rw[hb1]at hi h2;have h3': ¬t.kids.length=2:=by simpa using h2
    have h4: ¬((t.kids.length:Int)=2):=by omega
    simp[F.f133C,hi,h3',h4,encTs]
def XQ (t:Tm):Option ((List UInt8×Tm×Int×Int)×Tm):=
 if thV t=0∧isB t ENC=true then match t.kids with
  | [b,k]=>match Wo b with
   | [a,ky,x,y]=>if(a.kind=2∧a.sort=1∧ky.kind=2∧ky.sort=3)∧WT x=true∧WT y=true then some ((a.name,ky,U0 x,U0 y),k)else none
   | _=>none
  | _=>none
 else none
def Wd:Option (List UInt8×Tm×Int×Int)→List AV
 | none=>[.str [],.int .i64 0,.str [],.int .i64 0,.sl false 4 [],.int .i64 0,.int .i64 0]
 | some (a,k,n,e)=> .str a:: Qb k ++ [.int .i64 n,.int .i64 e]
theorem BP {t:Tm} (h:thV t=0) (h2:isB t ENC=true): ∃b k,t.kids=[b,k]:=by
 have hv:QD t=0:=by unfold thV at h;split at h <;> simp_all
 have hc:Z5 t=0:=by unfold thV at h;split at h <;> simp_all
 obtain⟨k,n,s,ks⟩:=t;obtain⟨h3,h4⟩:=XX.1 h2;simp only[Xm,Zk]at h3 h4;subst h3 h4;have hf:Q4 ENC Z6=some ⟨ENC,2,2,1⟩:=by simp[Q4,Z6,ENC]
 simp only[Z5,hf,ne_eq,not_true,if_false]at hc;by_cases hl: (ks.length:Int) < 2∨2 < (ks.length:Int)
 ·rw[if_pos hl]at hc;simp at hc
 ·have:ks.length=2:=by omega
  match ks,this with
  | [b,k],_=>exact⟨b,k,rfl⟩
theorem Tz: ∀(n:Nat) (t:Tm),t.nodes≤n→∀x∈Wo t,x.mass≤t.mass
 | 0,t,h=>by have:=ZJ t;omega
 | n+1,t,h=>by
  intro x hx;rcases TP t with⟨a,b,hb,hk⟩ | hb
  ·have hnn:=ZJ t;have hmm:=Qr t;rw[hk]at hnn hmm;simp only[nodesL,massL]at hnn hmm;rw[SS t a b hb hk]at hx;rcases List.mem_cons.1 hx with rfl | hx
   ·omega
   ·have:=Tz n b (by omega) x hx;omega
  ·rw[TT t hb]at hx;simp at hx;subst hx;omega
theorem Jj {x:Tm}: ∀{ks:List Tm},errL ks=0→x∈ks→ZI x=0
 | [],_,h=>by cases h
 | t:: ts,h,hx=>by
  simp only[errL]at h;split at h
  ·rename_i hne;exact absurd h hne
  ·rename_i hne;rcases List.mem_cons.1 hx with rfl | hx
   ·simpa using hne
   ·exact Jj h hx
theorem PV {t x:Tm} (h:ZI t=0) (hx:x∈t.kids):ZI x=0:=by
 obtain⟨k,n,s,ks⟩:=t;simp only[ZI]at h;split at h
 ·rename_i hne;exact absurd h hne
 ·exact Jj h hx
theorem Li {t:Tm} (h:ZI t=0) (hk:t.kind=2):t.kids=[]:=by
 obtain⟨k,n,s,ks⟩:=t;simp at hk;subst hk;simp only[ZI]at h;split at h
 ·rename_i hne;exact absurd h hne
 ·rename_i hne;have hne:=Decidable.not_not.1 hne;simp only[W2,Xm,QX,Vl,Zk]at hne;cases ks with
  | nil=>rfl
  | cons a b=>simp at hne
theorem Nv: ∀(n:Nat) (t:Tm),t.nodes≤n→ZI t=0→∀x∈Wo t,ZI x=0
 | 0,t,h=>by have:=ZJ t;omega
 | n+1,t,h=>by
  intro he x hx;rcases TP t with⟨a,b,hb,hk⟩ | hb
  ·have hnn:=ZJ t;rw[hk]at hnn;simp only[nodesL]at hnn;rw[SS t a b hb hk]at hx;rcases List.mem_cons.1 hx with rfl | hx
   ·exact PV he (by rw[hk];simp)
   ·exact Nv n b (by omega) (PV he (by rw[hk];simp)) x hx
  ·rw[TT t hb]at hx;simp at hx;subst hx;exact he
theorem Qfx {α:Type} (l:List α): (∃a b c d,l=[a,b,c,d])∨l.length≠4:=by
 match l with
 | [a,b,c,d]=>exact .inl ⟨a,b,c,d,rfl⟩
 | []=>exact .inr (by simp)
 | [a]=>exact .inr (by simp)
 | [a,b]=>exact .inr (by simp)
 | [a,b,c]=>exact .inr (by simp)
 | a:: b:: c:: d:: e:: r=>exact .inr (by simp)
theorem Fq {t b k:Tm} (hk:t.kids=[b,k]) (h: (Wo b).length≠4):XQ t=none:=by
 unfold XQ;split
 ·rw[hk];simp only;split
  ·rename_i h2;rw[h2]at h;simp at h
  ·rfl
 ·rfl
def Yo (s:Srv) (t:Tm):Option (List UInt8×Tm×Int×Int)×Int:=
 if Xq s=false then(none,1)else match XQ t with
  | none=>(none,10)
  | some (q,k)=>if(s.keys.any fun x=>decide (Qh x.key k=0))=true then(some q,0)else(none,4)
theorem Ed (s:Srv) (k:Tm) (bs:List (List AV)) (hl:s.keys.length < 4611686018427387904) (hx: ∀x∈s.keys,x.key.mass < big) (hk:k.mass < big):
  ∀(post pre:List Ep) (ρ:Nat→AV),s.keys=pre ++ post→ρ 2= .bx (Qo s)→ρ 3= .bx (Qb k)→ρ 5= .int .i64 pre.length→
  R F.tb (.loop F.f135l0) ρ bs (Qi 0 (Qu F.tb F.f135r0 (Qy F.f135 bs)))=
   some (.bool (post.any fun x=>decide (Qh x.key k=0)),bs):=by
 intro post
 induction post with
 | nil=>
  intro pre ρ hkk h2 h3 h5;rw[Qd F.f135l0.eq_1];simp at hkk;simp[h2,h3,h5,Qo,← hkk,F.f135r0]
 | cons x post IH=>
  intro pre ρ hkk h2 h3 h5;obtain⟨hgx,hw,hlt,hmem⟩:=Tq hkk hl;have hc:=RC x.key k bs (hx x hmem) hk;rw[Qd F.f135l0.eq_1];by_cases c:Qh x.key k=0
  ·simp[h2,h3,h5,Qo,hgx,Q8,hw,hlt,hc,c]
  ·simp[h2,h3,h5,Qo,hgx,Q8,hw,hlt,hc,c];rw[IH (pre ++ [x])] <;> simp[h2,h3,hkk,Qo]
theorem EA (s:Srv) (k:Tm) (bs:List (List AV)) (hl:s.keys.length < 4611686018427387904) (hx: ∀x∈s.keys,x.key.mass < big) (hk:k.mass < big):
  call F.tb 135 [.agg (Qo s),.agg (Qb k)] bs=some (.bool (s.keys.any fun x=>decide (Qh x.key k=0)),bs):=by
 have h:=Ed s k bs hl hx hk s.keys [];rw[Qa F.tb_135 _ _ rfl];unfold Qo at *;simp[F.f135C];rw[h] <;> simp
theorem GF (s:Srv) (t:Tm) (bs:List (List AV)) (hn:s.name.length < 1000000) (hul:s.used.length < 4611686018427387904) (hkl:s.keys.length < 4611686018427387904) (hm: ∀k∈s.keys,k.key.mass < big) (ht:t.mass < 1000000):
  call F.tb 125 [.agg (Qo s),.agg (Qb t)] bs=some (.tup [.agg (Wd (Yo s t).1),.int .i64 (Yo s t).2],bs):=by
 have h1:=Py s bs hn hul hm hkl;have hmb:t.mass < big:=by unfold big;omega
 have hv2:=KH t bs hmb;have hi:call F.tb 132 [.agg (Qb t),.str [101,110,99]] bs=some (.bool (isB t ENC),bs):=KJ t ENC bs;have hh:=fun k hk=>EA s k bs hkl hm hk;rw[Qa F.tb_125 _ _ rfl];unfold Qo at *;cases hv:Xq s
 ·simp[F.f125C,h1,hv,Yo,Wd]
 ·by_cases c1: ¬thV t=0
  ·have hp:XQ t=none:=by unfold XQ;rw[if_neg (fun h=>c1 h.1)]
   simp[F.f125C,h1,hv,hv2,c1,hp,Yo,Wd]
  ·replace c1:=Decidable.not_not.1 c1
   cases c2:isB t ENC
   ·have hp:XQ t=none:=by unfold XQ;rw[if_neg (fun h=>by rw[c2]at h;cases h.2)]
    rw[c2]at hi;simp[F.f125C,h1,hv,hv2,hi,c1,hp,Yo,Wd]
   ·rw[c2]at hi;obtain⟨b,k,hk⟩:=BP c1 c2;have hmb2:b.mass < 1000000:=by have:=Qr t;rw[hk]at this;simp[massL]at this;omega
    have hmk:k.mass < big:=Sg hmb (by rw[hk];simp);have hu:=LQ bs b.nodes b (Nat.le_refl _) (by unfold big;omega);have heb:ZI b=0:=PV (t:=t) (by
     have hvt:QD t=0:=by unfold thV at c1;split at c1 <;> simp_all
     unfold QD at hvt;split at hvt <;> simp_all) (by rw[hk];simp)
    have hh':=hh k hmk;rcases Qfx (Wo b)with⟨a,ky,x,y,hl⟩ | hl
    ·have hx:x.mass < 1000000:=by have:=Tz b.nodes b (Nat.le_refl _) x (by rw[hl];simp);omega
     have hy:y.mass < 1000000:=by have:=Tz b.nodes b (Nat.le_refl _) y (by rw[hl];simp);omega
     have rx:=Rh x bs (by have:=Qr x;omega) (fun h=>Li (Nv b.nodes b (Nat.le_refl _) heb x (by rw[hl];simp)) h);have ry:=Rh y bs (by have:=Qr y;omega) (fun h=>Li (Nv b.nodes b (Nat.le_refl _) heb y (by rw[hl];simp)) h);rw[hl]at hu;have hp:XQ t=if(a.kind=2∧a.sort=1∧ky.kind=2∧ky.sort=3)∧WT x=true∧WT y=true then some ((a.name,ky,(U0 x:Int),(U0 y:Int)),k)else none:=by
      unfold XQ;rw[if_pos ⟨c1,c2⟩,hk];simp only[hl]
     by_cases d1:a.kind=2∧a.sort=1∧ky.kind=2∧ky.sort=3
     ·have hpx: ∀n:Nat,¬(n:Int) < 0:=fun n=>by omega
      cases hbx:WT x
      ·rw[hbx]at rx hp;simp at rx hp;obtain⟨d1,d2,d3,d4⟩:=d1;simp[F.f125C,h1,hv,hv2,hi,c1,hk,encTs,hu,d1,d2,d3,d4,rx,hp,Yo,Wd]
      ·cases hby:WT y
       ·rw[hbx]at rx;rw[hby]at ry hp;simp at rx ry hp;obtain⟨d1,d2,d3,d4⟩:=d1;simp[F.f125C,h1,hv,hv2,hi,c1,hk,encTs,hu,d1,d2,d3,d4,rx,ry,hpx,hp,Yo,Wd]
       ·rw[hbx]at rx;rw[hby]at ry;simp at rx ry;rw[if_pos ⟨d1,hbx,hby⟩]at hp;obtain⟨d1,d2,d3,d4⟩:=d1;rcases Bool.eq_false_or_eq_true (s.keys.any fun x=>decide (Qh x.key k=0))with hA | hA <;> rw[hA]at hh' <;>
        simp[F.f125C,h1,hv,hv2,hi,c1,hk,encTs,hu,d1,d2,d3,d4,rx,ry,hpx,hp,hA,hh',Yo,Wd,Qz ky]
     ·have hp:XQ t=none:=by rw[hp,if_neg (fun h=>d1 h.1)]
      by_cases d1':a.kind=2 <;> by_cases d2:a.sort=1 <;> by_cases d3:ky.kind=2 <;> by_cases d4:ky.sort=3 <;>
       first
       | (simp[F.f125C,h1,hv,hv2,hi,c1,hk,encTs,hu,d1',d2,d3,d4,hp,Yo,Wd];done)
       | exact absurd ⟨d1',d2,d3,d4⟩ d1
    ·have hl': ¬((Wo b).length:Int)=4:=by omega
     have hp:=Fq hk hl;simp[F.f125C,h1,hv,hv2,hi,c1,hk,encTs,hu,hl',hp,Yo,Wd]
section
variable {T:Nat→Option AFn} {sz:Nat} {L:List (List AV)} {tgt:AV} {g:Nat} {caps:List AV} {cmp:Nat→Int} {bs:List (List AV)}
end
end Go.Am
namespace Go.Am
set_option maxRecDepth 8000
def Va (x:Us):List Us→List Us
 | []=>[x]
 | u:: r=>if x.n < u.n then x:: u:: r else u:: Va x r
theorem Ng (x:Us): ∀us,(Va x us).length=us.length+1
 | []=>rfl
 | u:: r=>by simp only[Va];split <;> simp[Ng x r]
def VP (n:Int) (us:List Us):Bool:=us.any fun u=>decide (u.n=n)
def R7 (s:Srv) (now:Int) (ky:Tm) (n ex:Int):Srv×Tm×Int:=
 if VP n s.used=true then(ZT,Qs,21)else if s.used.length=200 then(ZT,Qs,3)else({s with used:=Va ⟨n,ex⟩ s.used,now:=now},ky,0)
def Ya (s:Srv) (t:Tm) (now:Int):Srv×Tm×Int:=
 if Y2 s now≠0 then(ZT,Qs,Y2 s now)else match (Yo s t).1 with
  | none=>(ZT,Qs,(Yo s t).2)
  | some (_,ky,n,ex)=>if s.next≤n then(ZT,Qs,22)else if ex < now then(ZT,Qs,20)else R7 s now ky n ex
theorem SN {s:Srv} {t:Tm}: (Yo s t).1=none↔(Yo s t).2≠0:=by
 unfold Yo;split
 ·simp
 ·split
  ·simp
  ·split <;> simp
def Nn (s:Srv) (now:Int) (ky:Tm) (b:Bool) (l:List Us):AV:=
 if b=true then .tup [.agg (Qo ZT),.agg (Qb Qs),.int .i64 21]else
  if 200 < l.length then .tup [.agg (Qo ZT),.agg (Qb Qs),.int .i64 3]else .tup [.agg (Qo {s with used:=l,now:=now}),.agg (Qb ky),.int .i64 0]
set_option maxHeartbeats 2000000 in
theorem Ko (s:Srv) (now:Int) (bs:List (List AV)) (a:List UInt8) (ky:Tm) (n ex:Int) (hul:s.used.length < 1000000):
  ∀(post pre acc:List Us) (dn:Bool) (ρ:Nat→AV),s.used=pre ++ post→acc.length≤pre.length+ (if dn then 1 else 0)→ρ 2= .int .i64 now→ρ 3= .bx (Qo s)→ρ 6= .bx [.str [],.int .i64 0,.sl true 6 [],.int .i64 0,.sl true 2 [],.int .i64 0,.int .i64 0]→ρ 7= .bx [.int .i64 0,.str [],.int .i64 0,.sl true 4 []]→
   ρ 10= .bx (Wd (some (a,ky,n,ex)))→ρ 12= .sl true 2 (acc.map XM)→ρ 13= .bool dn→ρ 14= .int .i64 pre.length→
  R F.tb (.loop F.f124l0) ρ bs (Qi 0 (Qu F.tb F.f124r0 (Qy F.f124 bs)))=
   some (Nn s now ky (VP n post) (acc ++ (if dn then post else Va ⟨n,ex⟩ post)),bs):=by
 intro post
 induction post with
 | nil=>
  intro pre acc dn ρ hk hacc h2 h3 h6 h7 h10 h12 h13 h14;rw[Qd F.f124l0.eq_1];simp at hk;rw[← hk]at h14;have hap: (acc.length+1)*16≤140737488355328:=by rw[hk]at hul;split at hacc <;> omega
  have hsn:VP n []=false:=rfl;rw[hsn];have hacc2:acc.length≤pre.length+1:=by split at hacc <;> omega
  have e1: ((200:Int) < (acc.length:Int))=(200 < acc.length):=by rw[eq_iff_iff];omega
  have e2: ((200:Int) < (acc.length:Int)+1)=(200 < acc.length+1):=by rw[eq_iff_iff];omega
  cases dn
  ·by_cases c:200 < acc.length+1 <;>
   simp[h2,h3,h6,h7,h10,h12,h13,h14,Nn,Qo,Wd,Qz ky,Qs,Qb,ZT,hap,Va,XM,encTs,Rp,gpfreeE,gpfreeL,AV.gpfree,e2,c,F.f124r0]
  ·by_cases c:200 < acc.length <;>
   simp[h2,h3,h6,h7,h10,h12,h13,h14,Nn,Qo,Wd,Qz ky,Qs,Qb,ZT,encTs,e1,c,F.f124r0]
 | cons x post IH=>
  intro pre acc dn ρ hk hacc h2 h3 h6 h7 h10 h12 h13 h14;obtain⟨hg,hw,hlt,hx⟩:=Tq hk (by omega);have hl:=QM hk;have hacc2:acc.length≤pre.length+1:=by split at hacc <;> omega
  have hap: (acc.length+1)*16≤140737488355328:=by omega
  have hap2: (acc.length+1+1)*16≤140737488355328:=by omega
  by_cases c:x.n=n
  ·have hsn:VP n (x:: post)=true:=by simp[VP,c]
   rw[hsn,Qd F.f124l0.eq_1];simp[h2,h3,h6,h7,h10,h12,h13,h14,hg,hw,hlt,Qo,XM,Wd,Qz ky,c,Nn,Qs,Qb,ZT,encTs]
  ·have hsn:VP n (x:: post)=VP n post:=by simp[VP,c]
   rw[hsn,Qd F.f124l0.eq_1];cases dn
   ·by_cases c2:n < x.n
    ·have hi:Va ⟨n,ex⟩ (x:: post)=⟨n,ex⟩:: x:: post:=by simp[Va,c2]
     simp[h2,h3,h6,h7,h10,h12,h13,h14,hg,hw,hlt,Qo,XM,Wd,Qz ky,c,c2,hap,hap2];refine(IH (pre ++ [x]) (acc ++ [⟨n,ex⟩]++ [x]) true _ (by simp[hk]) (by simp at hacc ⊢;omega) ?_ ?_ ?_ ?_ ?_ ?_ ?_ ?_).trans ?_ <;> first | (simp[h2,h3,h6,h7,h10,Qo,XM,Wd,Qz ky];done) | skip
     rw[hi];simp
    ·have hi:Va ⟨n,ex⟩ (x:: post)=x:: Va ⟨n,ex⟩ post:=by simp[Va,c2]
     simp[h2,h3,h6,h7,h10,h12,h13,h14,hg,hw,hlt,Qo,XM,Wd,Qz ky,c,c2,hap,hap2];refine(IH (pre ++ [x]) (acc ++ [x]) false _ (by simp[hk]) (by simp at hacc ⊢;omega) ?_ ?_ ?_ ?_ ?_ ?_ ?_ ?_).trans ?_ <;> first | (simp[h2,h3,h6,h7,h10,h13,Qo,XM,Wd,Qz ky];done) | skip
     rw[hi];simp
   ·simp[h2,h3,h6,h7,h10,h12,h13,h14,hg,hw,hlt,Qo,XM,Wd,Qz ky,c,hap,hap2];refine(IH (pre ++ [x]) (acc ++ [x]) true _ (by simp[hk]) (by simp at hacc ⊢;omega) ?_ ?_ ?_ ?_ ?_ ?_ ?_ ?_).trans ?_ <;> first | (simp[h2,h3,h6,h7,h10,h13,Qo,XM,Wd,Qz ky];done) | skip
end Go.Am
namespace Go.Am
set_option maxRecDepth 8000
theorem KK (s:Srv) (t:Tm) (now:Int) (bs:List (List AV)) (hn:s.name.length < 1000000) (hul:s.used.length < 1000000) (hkl:s.keys.length < 1000000) (hm: ∀k∈s.keys,k.key.mass < big) (ht:t.mass < 1000000):
  call F.tb 124 [.agg (Qo s),.agg (Qb t),.int .i64 now] bs=some (.tup [.agg (Qo (Ya s t now).1),.agg (Qb (Ya s t now).2.1),.int .i64 (Ya s t now).2.2],bs):=by
 have h1:=Uj s now bs hn (by omega) hm (by omega);have h2:=GF s t bs hn (by omega) (by omega) hm ht;have hl:=fun a ky n ex=>Ko s now bs a ky n ex hul s.used [] [] false;rw[Qa F.tb_124 _ _ rfl];unfold Qo at h1 h2;by_cases c1:Y2 s now=0
 ·rw[c1]at h1;have hr0:=SN (s:=s) (t:=t);unfold Ya;rw[if_neg (by simp[c1])];cases hr: (Yo s t).1 with
  | none=>
   have hne:=hr0.1 hr;rw[hr]at h2;simp[F.f124C,Qo,h1,h2,hne,Wd,ZT,Qs,Qb,encTs]
  | some q=>
   obtain⟨a,ky,n,ex⟩:=q;have he: (Yo s t).2=0:=by
    rcases Decidable.em ((Yo s t).2=0)with h | h
    ·exact h
    ·have:=hr0.2 h;rw[hr]at this;cases this
   rw[hr,he]at h2;have hl:=hl a ky n ex;have e4:=Qz ky;simp only[Wd,List.cons_append]at h2 hl;simp only;by_cases c2:s.next≤n
   ·rw[if_pos c2];simp[F.f124C,Qo,h1,h2,e4,c2,ZT,Qs,Qb,encTs]
   ·rw[if_neg c2];by_cases c3:ex < now
    ·rw[if_pos c3];simp[F.f124C,Qo,h1,h2,e4,c2,c3,ZT,Qs,Qb,encTs]
    ·rw[if_neg c3];have hvl:s.used.length≤200:=(Tr c1).1.ul;have hil:=Ng ⟨n,ex⟩ s.used;have hres:Nn s now ky (VP n s.used) ([]++ (if false=true then s.used else Va ⟨n,ex⟩ s.used))= .tup [.agg (Qo (R7 s now ky n ex).1),.agg (Qb (R7 s now ky n ex).2.1),.int .i64 (R7 s now ky n ex).2.2]:=by
      unfold Nn R7;cases VP n s.used
      ·by_cases c5:s.used.length=200
       ·simp[c5,hil]
       ·have: ¬200 < s.used.length+1:=by omega
        simp[c5,hil,this]
      ·simp
     rw[← hres];have h2':call F.tb 125 [.agg (Qo s),.agg (Qb t)] bs=_:=h2;have h1':call F.tb 116 [.agg (Qo s),.int .i64 now] bs=_:=h1;generalize Nn s now ky (VP n s.used) ([]++ (if false=true then s.used else Va ⟨n,ex⟩ s.used))=RR at *;clear hres h1 h2;simp[F.f124C,Qo,e4,c2,c3]at h1' h2' ⊢;simp[h1',h2',c2,c3];apply hl <;> simp[e4,Qo]
 ·unfold Ya;rw[if_pos c1];simp[F.f124C,Qo,h1,c1,ZT,Qs,Qb,encTs]
end Go.Am
namespace Go.Am
set_option maxRecDepth 8000
theorem Ii {next:Int}: ∀{us:List Us} {pv:Option Us},Ym next pv us=true→(∀u∈us,0≤u.n∧u.n < next∧0≤u.e)∧us.Pairwise (fun a b=>a.n < b.n)∧∀p,pv=some p→∀u∈us,p.n < u.n
 | [],_,_=>by simp
 | x:: us,pv,h=>by
  simp only[Ym,usP,Bool.and_eq_true,Bool.not_eq_true',decide_eq_false_iff_not]at h;obtain⟨⟨⟨⟨h1,h2⟩,h3⟩,h4⟩,h5⟩:=h;obtain⟨i1,i2,i3⟩:=Ii h5;refine⟨fun u hu=> ?_,List.pairwise_cons.2 ⟨fun u hu=>i3 x rfl u hu,i2⟩,fun p hp u hu=> ?_⟩
  ·rcases List.mem_cons.1 hu with rfl | hu
   ·omega
   ·exact i1 u hu
  ·subst hp;simp at h4;rcases List.mem_cons.1 hu with rfl | hu
   ·omega
   ·have:=i3 x rfl u hu;omega
end Go.Am
namespace Go.Am
set_option maxRecDepth 8000
theorem L3 {t:Tm} {a:List UInt8} {ky k:Tm} {n ex:Int} (h:XQ t=some ((a,ky,n,ex),k)): (0≤n∧n≤1000000)∧(0≤ex∧ex≤1000000)∧ky.mass≤t.mass∧a.length≤t.mass:=by
 unfold XQ at h;split at h
 ·split at h
  ·rename_i b k2 hk;split at h
   ·rename_i a2 ky2 x y hl;split at h
    ·rename_i hc;simp only[Option.some.injEq,Prod.mk.injEq]at h;obtain⟨⟨rfl,rfl,rfl,rfl⟩,rfl⟩:=h;have hx:=(UZ.1 hc.2.1).1;have hy:=(UZ.1 hc.2.2).1;have hb:b.mass≤t.mass:=by have:=Qr t;rw[hk]at this;simp only[massL]at this;omega
     have h1:=Tz b.nodes b (Nat.le_refl _) ky2 (by rw[hl];simp);have h2:=Tz b.nodes b (Nat.le_refl _) a2 (by rw[hl];simp);have h3:=Qr a2;exact⟨by omega,by omega,by omega,by omega⟩
    ·cases h
   ·cases h
  ·cases h
 ·cases h
theorem Fw {s:Srv} {t:Tm} {a:List UInt8} {ky:Tm} {n ex:Int} (h: (Yo s t).1=some (a,ky,n,ex)):Xq s=true∧∃k,XQ t=some ((a,ky,n,ex),k):=by
 unfold Yo at h;split at h
 ·cases h
 ·rename_i hv;split at h
  ·cases h
  ·rename_i q k hp;split at h
   ·injection h with h
    subst h;exact⟨by simpa using hv,k,hp⟩
   ·cases h
end Go.Am
