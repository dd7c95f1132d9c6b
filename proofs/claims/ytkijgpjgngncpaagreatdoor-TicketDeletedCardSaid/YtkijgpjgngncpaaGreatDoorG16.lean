/-
  Ge12, Ge26, Ge27, Ge28, Ge15, Rc1, Rc2, Rc3, Rc4, Rc5.
-/
import Derived.Test.YtkijgpjgngncpaaGreatDoorG15
set_option linter.all false
namespace Go.Am
set_option maxRecDepth 8000
def Vm (k:Tm):Bool:=k.kind == 3 || k.sort != 1
mutual
def Z5:Tm→Int
 | .mk k n _ ks=>if k≠3 then 0 else match Q4 n Z6 with
  | none=>10
  | some y=>if(ks.length:Int) < y.l∨y.m < ks.length then 6 else if(n=[115,107]∨n=[115,104,107])∧ks.any Vm then 10
   else if n=[110,101,119]∧ks.head?.map Tm.kind≠some 2 then 10 else chkL ks
def chkL:List Tm→Int
 | []=>0
 | t:: ts=>if Z5 t≠0 then Z5 t else chkL ts
end
theorem Bw (t:Tm) (bs:List (List AV)) (hm:t.mass < big) (ih: ∀x∈t.kids,∀bs,call F.tb 42 [.agg (Qb x)] bs=some (.int .i64 (Z5 x),bs)):
  ∀(post pre:List Tm) (ρ:Nat→AV),t.kids=pre ++ post→ρ 62= .sl false 4 (encTs t.kids)→ρ 63= .int .i64 t.kids.length→ρ 64= .int .i64 pre.length→
  R F.tb (.loop F.f42l1) ρ bs (Qi 3 (Qu F.tb F.f42r0 (Qy F.f42 bs)))=some (.int .i64 (chkL post),bs):=by
 have hm2:=Qr t;unfold big at hm;intro post
 induction post with
 | nil=>
  intro pre ρ hk h1 h2 h3;rw[Qd F.f42l1.eq_1];simp at hk;rw[← hk]at h3;simp[h1,h2,h3,F.f42r0,chkL]
 | cons x post IH=>
  intro pre ρ hk h1 h2 h3;have hg:=QB hk;have hl:=QM hk;have hw1:=wr1 pre.length (by omega);have hlt:=QO hk;rw[Qd F.f42l1.eq_1];by_cases hc:Z5 x=0
  ·simp[h1,h2,h3,hg,hw1,hlt,ih x (by rw[hk];simp),hc,chkL];rw[IH (pre ++ [x])] <;> simp[h1,h2,hk]
  ·simp[h1,h2,h3,hg,hw1,hlt,ih x (by rw[hk];simp),hc,chkL]
theorem KX (t:Tm) (bs:List (List AV)) (hm:t.mass < big) (ih: ∀x∈t.kids,∀bs,call F.tb 42 [.agg (Qb x)] bs=some (.int .i64 (Z5 x),bs)) (ρ:Nat→AV) (h1:ρ 1= .bx (Qb t)):
  R F.tb F.f42r1 ρ bs (Qy F.f42 bs)=some (.int .i64 (chkL t.kids),bs):=by
 simp[F.f42r1,h1,Qz];refine Bw t bs hm ih t.kids [] _ rfl ?_ ?_ ?_ <;> simp
theorem Bv (t:Tm) (bs:List (List AV)) (hm:t.mass < big) (ih: ∀x∈t.kids,∀bs,call F.tb 42 [.agg (Qb x)] bs=some (.int .i64 (Z5 x),bs)):
  ∀(post pre:List Tm) (ρ:Nat→AV),t.kids=pre ++ post→ρ 1= .bx (Qb t)→ρ 38= .sl false 4 (encTs t.kids)→ρ 39= .int .i64 t.kids.length→ρ 40= .int .i64 pre.length→
  R F.tb (.loop F.f42l0) ρ bs (Qi 1 (Qi 0 (Qu F.tb F.f42r1 (Qy F.f42 bs))))=some (.int .i64 (if post.any Vm then 10 else chkL t.kids),bs):=by
 have hm2:=Qr t;have hm0:=hm;unfold big at hm;intro post
 induction post with
 | nil=>
  intro pre ρ hk h0 h1 h2 h3;rw[Qd F.f42l0.eq_1];simp at hk;rw[← hk]at h3;simp[h0,h1,h2,h3];rw[KX t bs hm0 ih] <;> simp[h0]
 | cons x post IH=>
  intro pre ρ hk h0 h1 h2 h3;have hg:=QB hk;have hl:=QM hk;have hw1:=wr1 pre.length (by omega);have hlt:=QO hk;rw[Qd F.f42l0.eq_1];by_cases h3':x.kind=3
  ·simp[h0,h1,h2,h3,hg,hw1,hlt,Qz,h3',Vm]
  ·by_cases h4:x.sort=1
   ·have hb:Vm x=false:=by simp[Vm,h3',h4]
    have hb3: (x.kind == 3)=false:=by simp[h3']
    simp[h0,h1,h2,h3,hg,hw1,hlt,Qz x,h3',h4,hb,hb3];rw[IH (pre ++ [x])] <;> simp[h0,h1,h2,hk,hb]
   ·have hb:Vm x=true:=by simp[Vm,h4]
    have hb3: (x.kind == 3)=false:=by simp[h3']
    have hb4: (x.sort != 1)=true:=by simp[h4]
    simp[h0,h1,h2,h3,hg,hw1,hlt,Qz x,h3',h4,hb,hb3,hb4]
theorem RT {n:List UInt8} {y:Sy}: ∀{l:List Sy},Q4 n l=some y→y∈l∧y.n=n
 | [],h=>by simp[Q4]at h
 | s:: ss,h=>by
  simp only[Q4]at h;split at h
  ·rename_i e;injection h with h;subst h;exact⟨by simp,e⟩
  ·have:=RT h;exact⟨List.mem_cons_of_mem _ this.1,this.2⟩
theorem Cv {y:Sy} (h:y∈Z6):y.k≠0∧(y.n=[110,101,119]→y.l=1):=by
 have:Z6.all (fun y=>y.k≠0∧(y.n=[110,101,119]→y.l=1))=true:=by decide
 have:=List.all_eq_true.1 this y h;simpa only[decide_eq_true_eq]using this
theorem KT: ∀(t:Tm) (bs:List (List AV)),t.mass < big→call F.tb 42 [.agg (Qb t)] bs=some (.int .i64 (Z5 t),bs):=by
 refine ZU ?_;intro k n s ks ih bs hm;have hmk:=Qr (.mk k n s ks);have ih': ∀x∈(Tm.mk k n s ks).kids,∀bs,call F.tb 42 [.agg (Qb x)] bs=some (.int .i64 (Z5 x),bs):=fun x hx bs=>ih x hx bs (by
  have:=QN hx;simp at *;omega)
 have r1:=fun ρ h=>KX (.mk k n s ks) bs hm ih' ρ h;have l0:=fun ρ h0 h1 h2 h3=>Bv (.mk k n s ks) bs hm ih' ks [] ρ rfl h0 h1 h2 h3;simp only[Qb,QX,List.length_nil]at r1 l0;rw[Qa F.tb_42 _ _ rfl];by_cases hk:k=3
 ·subst hk;cases hy:Q4 n Z6 with
  | none=>simp[F.f42C,Qb,Xb,hy,Z5]
  | some y=>
   obtain⟨hy1,hy2⟩:=RT hy;obtain⟨hy3,hy4⟩:=Cv hy1;by_cases ha: (ks.length:Int) < y.l
   ·simp[F.f42C,Qb,Xb,hy,hy3,ha,XW,Z5]
   ·by_cases hb:y.m < (ks.length:Int)
    ·simp[F.f42C,Qb,Xb,hy,hy3,ha,hb,XW,Z5]
    ·by_cases h1:n=[115,107]
     ·subst h1;simp[F.f42C,Qb,Xb,hy,hy3,ha,hb,XW,Z5];rw[l0] <;> simp
     ·by_cases h2:n=[115,104,107]
      ·subst h2;simp[F.f42C,Qb,Xb,hy,hy3,ha,hb,XW,Z5];rw[l0] <;> simp
      ·have b1: (n == [115,107])=false:=by simp[h1]
       have b2: (n == [115,104,107])=false:=by simp[h2]
       by_cases h3:n=[110,101,119]
       ·subst h3;have hl:=hy4 hy2;cases ks with
        | nil=>simp at ha;omega
        | cons x xs=>
         have ha': ¬((xs.length:Int)+1 < y.l):=by simpa using ha
         have hb': ¬(y.m < (xs.length:Int)+1):=by simpa using hb
         by_cases hx:x.kind=2
         ·simp[F.f42C,Qb,encTs,Qz x,Xb,hy,hy3,ha',hb',XW,Z5,hx]at *;refine(r1 _ ?_).trans ?_ <;> simp[encTs,Qz x]
         ·simp[F.f42C,Qb,encTs,Qz x,Xb,hy,hy3,ha',hb',XW,Z5,hx]
       ·have b3: (n == [110,101,119])=false:=by simp[h3]
        simp[F.f42C,Qb,Xb,hy,hy3,ha,hb,XW,Z5,h1,h2,h3,b1,b2,b3];rw[r1] <;> simp
 ·simp[F.f42C,Qb,hk,Z5]
def thV (t:Tm):Int:=if QD t≠0 then QD t else Z5 t
theorem Sb (t:Tm) (bs:List (List AV)) (hm:t.mass < big):call F.tb 41 [.agg (Qb t)] bs=some (.int .i64 (thV t),bs):=by
 rw[Qa F.tb_41 _ _ rfl];have h1:=XZ t bs hm;have h2:=KT t bs hm;rw[Qz]at *;by_cases h:QD t=0
 ·simp[F.f41C,h1,h2,h,thV]
 ·simp[F.f41C,h1,h,thV]
theorem Tq {α:Type} {l pre post:List α} {x:α} (h:l=pre ++ x:: post) (hb:l.length < 4611686018427387904):
  l[pre.length]? =some x∧IntKind.i64.wrap ((pre.length:Int)+1)=(pre.length:Int)+1∧(pre.length:Int) < (l.length:Int)∧x∈l:=by
 have hl:l.length=pre.length+ (post.length+1):=by rw[h];simp
 exact⟨QB h,Qq (by omega) (by omega),by omega,by rw[h];simp⟩
theorem P7 {t:Tm} (h:t.mass < big):t.kids.length < 4611686018427387904:=by
 have:=Qr t;unfold big at h;omega
theorem Sg {t x:Tm} (h:t.mass < big) (hx:x∈t.kids):x.mass < big:=by
 have:=QN hx;have:=Qr t;omega
theorem GG (t:Tm) (bs:List (List AV)) (hm:t.mass < big):call F.tb 56 [.agg (Qb t)] bs=some (.int .i64 (W2 t),bs):=by
 rw[Qa F.tb_56 _ _ rfl];have hn:=Sa t.name bs (by have:=Qr t;unfold big at hm;omega);have hks: ((8:Int) < t.kids.length)=(8 < t.kids.length):=by rw[eq_iff_iff];omega
 obtain⟨k,n,s,ks⟩:=t;simp at hn hks;unfold W2;simp only[Xm,Vl,Zk,QX];by_cases k1:k=1
 ·subst k1;simp[F.f56C,Qb,hn,hks];rcases Bool.eq_false_or_eq_true (QP n)with c4 | c4 <;> by_cases c1:s < 0 <;> by_cases c2:5 < s <;> by_cases c3:0 < ks.length <;> simp[c1,c2,c3,c4] <;> omega
 by_cases k2:k=2
 ·subst k2;simp[F.f56C,Qb,hn,hks];rcases Bool.eq_false_or_eq_true (QP n)with c4 | c4 <;> by_cases c1:s < 0 <;> by_cases c2:5 < s <;> by_cases c3:0 < ks.length <;> simp[c1,c2,c3,c4] <;> omega
 by_cases k3:k=3
 ·subst k3;simp[F.f56C,Qb,hn,hks];rcases Bool.eq_false_or_eq_true (QP n)with c4 | c4 <;> by_cases c1:s < 0 <;> by_cases c2:5 < s <;> by_cases c3:s=0 <;> simp[c1,c2,c3,c4] <;> omega
 ·simp[F.f56C,Qb,hn,hks,k1,k2,k3]
theorem Io (t:Tm) (bs:List (List AV)) (hm:t.mass < big) (ih: ∀x∈t.kids,∀bs,call F.tb 55 [.agg (Qb x)] bs=some (.int .i64 (ZI x),bs)):
  ∀(post pre:List Tm) (ρ:Nat→AV),t.kids=pre ++ post→ρ 1= .bx (Qb t)→ρ 4= .int .i64 pre.length→
  R F.tb (.loop F.f55l0) ρ bs (Qi 0 (Qu F.tb F.f55r0 (Qy F.f55 bs)))=some (.int .i64 (errL post),bs):=by
 intro post
 induction post with
 | nil=>
  intro pre ρ hk h1 h4;rw[Qd F.f55l0.eq_1];simp at hk;simp[h1,h4,← hk,F.f55r0,errL]
 | cons x post IH=>
  intro pre ρ hk h1 h4;obtain⟨hg,hw,hlt,hx⟩:=Tq hk (P7 hm);have hh:=ih x hx bs;rw[Qd F.f55l0.eq_1];by_cases he:ZI x=0
  ·simp[h1,h4,hg,hw,hlt,hh,he,errL];rw[IH (pre ++ [x])] <;> simp[h1,hk]
  ·simp[h1,h4,hg,hw,hlt,hh,he,errL]
theorem Ix: ∀(t:Tm) (bs:List (List AV)),t.mass < big→call F.tb 55 [.agg (Qb t)] bs=some (.int .i64 (ZI t),bs):=by
 refine ZU ?_;intro k n s ks ih bs hm;have hl:=Io (.mk k n s ks) bs hm (fun x hx bs=>ih x hx bs (Sg hm hx)) ks [];have hn:=GG (.mk k n s ks) bs hm;rw[Qa F.tb_55 _ _ rfl];by_cases he:W2 (.mk k n s ks)=0
 ·simp[F.f55C,hn,he,ZI];rw[hl] <;> simp
 ·simp[F.f55C,hn,he,ZI]
theorem KN (t:Tm) (bs:List (List AV)) (hm:t.mass < big):call F.tb 54 [.agg (Qb t)] bs=some (.int .i64 (QD t),bs):=by
 have h1:=Ix t bs hm;have h2:=RD t bs hm;have h3:=Iv t bs hm;rw[Qa F.tb_54 _ _ rfl];have e1: (400 < (t.nodes:Int))=(400 < t.nodes):=by rw[eq_iff_iff];omega
 have e2: (40 < (t.depth:Int))=(40 < t.depth):=by rw[eq_iff_iff];omega
 simp[F.f54C,h1,h2,h3,e1,e2,QD];by_cases he:ZI t=0 <;> by_cases c1:400 < t.nodes <;> by_cases c2:40 < t.depth <;> simp[he,c1,c2]
theorem Pg (bs:List (List AV)):call F.tb 129 [] bs=some (.sl true 4 (Xu Z6),bs):=by
 rw[Qa F.tb_129 _ _ rfl];simp[F.f129,F.f129C,Z6,Xu,XW]
theorem Ea (n:List UInt8) (bs:List (List AV)) (l:List Sy) (hl:l.length < 1000): ∀(post pre:List Sy) (ρ:Nat→AV),l=pre ++ post→ρ 0= .str n→(∃o,ρ 3= .sl o 4 (Xu l))→ρ 4= .int .i64 pre.length→
  R F.tb (.loop F.f128l0) ρ bs (Qi 0 (Qu F.tb F.f128r0 (Qy F.f128 bs)))=some (.int .i64 (match Q4 n post with | some y=>y.k | none=>0),bs):=by
 intro post
 induction post with
 | nil=>
  intro pre ρ hk h0 ⟨o,h3⟩ h4;rw[Qd F.f128l0.eq_1];simp at hk;rw[← hk]at h4;simp[h0,h3,h4,F.f128r0,Q4]
 | cons x post IH=>
  intro pre ρ hk h0 ⟨o,h3⟩ h4;have hg:=PR hk;obtain⟨_,hw,hlt,_⟩:=Tq hk (by omega);rw[Qd F.f128l0.eq_1];by_cases hx:x.n=n
  ·simp[h0,h3,h4,hg,hw,hlt,XW,hx,Q4]
  ·have hxb: (x.n == n)=false:=by simp[hx]
   simp[h0,h3,h4,hg,hw,hlt,XW,hx,hxb,Q4];rw[IH (pre ++ [x])] <;> simp[h0,h3,hk]
theorem Ew (n:List UInt8) (bs:List (List AV)):call F.tb 128 [.str n] bs=some (.int .i64 (match Q4 n Z6 with | some y=>y.k | none=>0),bs):=by
 rw[Qa F.tb_128 _ _ rfl];simp[F.f128C,Pg];rw[Ea n bs Z6 (by decide) Z6 []] <;> simp
theorem De (t:Tm) (bs:List (List AV)) (l:List Sy) (hl:l.length < 1000): ∀(post pre:List Sy) (ρ:Nat→AV),l=pre ++ post→ρ 1= .bx (Qb t)→(∃o,ρ 3= .sl o 4 (Xu l))→ρ 4= .int .i64 pre.length→
  R F.tb (.loop F.f130l0) ρ bs (Qi 0 (Qu F.tb F.f130r0 (Qy F.f130 bs)))=
   some (.bool (match Q4 t.name post with | some y=>decide (y.l≤t.kids.length) && decide (t.kids.length≤y.m) | none=>false),bs):=by
 intro post
 induction post with
 | nil=>
  intro pre ρ hk h1 ⟨o,h3⟩ h4;rw[Qd F.f130l0.eq_1];simp at hk;rw[← hk]at h4;simp[h1,h3,h4,F.f130r0,Q4]
 | cons x post IH=>
  intro pre ρ hk h1 ⟨o,h3⟩ h4;have hg:=PR hk;obtain⟨_,hw,hlt,_⟩:=Tq hk (by omega);rw[Qd F.f130l0.eq_1];by_cases hx:x.n=t.name
  ·by_cases c1:x.l≤t.kids.length <;>
   simp[h1,h3,h4,hg,hw,hlt,XW,hx,Q4,c1]
  ·have hxb: (x.n == t.name)=false:=by simp[hx]
   simp[h1,h3,h4,hg,hw,hlt,XW,hx,hxb,Q4];rw[IH (pre ++ [x])] <;> simp[h1,h3,hk]
theorem ED (t:Tm) (bs:List (List AV)):call F.tb 130 [.agg (Qb t)] bs=
  some (.bool (match Q4 t.name Z6 with | some y=>decide (y.l≤t.kids.length) && decide (t.kids.length≤y.m) | none=>false),bs):=by
 rw[Qa F.tb_130 _ _ rfl];simp[F.f130C,Pg];rw[De t bs Z6 (by decide) Z6 []] <;> simp
theorem Ip (t:Tm) (bs:List (List AV)) (hm:t.mass < big): ∀(post pre:List Tm) (ρ:Nat→AV),t.kids=pre ++ post→ρ 1= .bx (Qb t)→ρ 3= .int .i64 pre.length→
  R F.tb (.loop F.f131l0) ρ bs (Qi 0 (Qu F.tb F.f131r0 (Qy F.f131 bs)))=some (.bool (!(post.any Vm)),bs):=by
 intro post
 induction post with
 | nil=>
  intro pre ρ hk h1 h3;rw[Qd F.f131l0.eq_1];simp at hk;simp[h1,h3,← hk,F.f131r0]
 | cons x post IH=>
  intro pre ρ hk h1 h3;obtain⟨hg,hw,hlt,hx⟩:=Tq hk (P7 hm);rw[Qd F.f131l0.eq_1];by_cases c1:x.kind=3 <;> by_cases c2:x.sort=1 <;>
   simp[h1,h3,hg,hw,hlt,c1,c2,Vm]
  rw[IH (pre ++ [x])] <;> simp[h1,hk,Vm]
theorem Iz (t:Tm) (bs:List (List AV)) (hm:t.mass < big) (hk:t.name=[110,101,119]→t.kids≠[]):call F.tb 131 [.agg (Qb t)] bs=
  some (.bool (if t.name=[110,101,119]then decide (t.kids.head?.map Tm.kind=some 2)else !(t.kids.any Vm)),bs):=by
 rw[Qa F.tb_131 _ _ rfl];by_cases hn:t.name=[110,101,119]
 ·cases hkk:t.kids with
  | nil=>exact absurd hkk (hk hn)
  | cons x xs=>simp[F.f131C,hn,hkk,Qz t,encTs]
 ·have hnb: (t.name == [110,101,119])=false:=by simp[hn]
  simp[F.f131C,hn,hnb];rw[Ip t bs hm t.kids []] <;> simp
theorem LL (t:Tm) (bs:List (List AV)) (hm:t.mass < big) (ih: ∀x∈t.kids,∀bs,call F.tb 127 [.agg (Qb x)] bs=some (.int .i64 (Z5 x),bs)):
  ∀(post pre:List Tm) (ρ:Nat→AV),t.kids=pre ++ post→ρ 1= .bx (Qb t)→ρ 4= .int .i64 pre.length→
  R F.tb (.loop F.f127l0) ρ bs (Qi 0 (Qu F.tb F.f127r0 (Qy F.f127 bs)))=some (.int .i64 (chkL post),bs):=by
 intro post
 induction post with
 | nil=>
  intro pre ρ hk h1 h4;rw[Qd F.f127l0.eq_1];simp at hk;simp[h1,h4,← hk,F.f127r0,chkL]
 | cons x post IH=>
  intro pre ρ hk h1 h4;obtain⟨hg,hw,hlt,hx⟩:=Tq hk (P7 hm);have hh:=ih x hx bs;rw[Qd F.f127l0.eq_1];by_cases he:Z5 x=0
  ·simp[h1,h4,hg,hw,hlt,hh,he,chkL];rw[IH (pre ++ [x])] <;> simp[h1,hk]
  ·simp[h1,h4,hg,hw,hlt,hh,he,chkL]
theorem Cw {y:Sy} (h:y∈Z6): (y.k=2)=(y.n=[115,107]∨y.n=[115,104,107]∨y.n=[110,101,119]):=by
 have:Z6.all (fun y=>decide ((y.k=2)=(y.n=[115,107]∨y.n=[115,104,107]∨y.n=[110,101,119])))=true:=by
  simp only[eq_iff_iff];decide
 have:=List.all_eq_true.1 this y h;exact of_decide_eq_true this
theorem LR: ∀(t:Tm) (bs:List (List AV)),t.mass < big→call F.tb 127 [.agg (Qb t)] bs=some (.int .i64 (Z5 t),bs):=by
 refine ZU ?_;intro k n s ks ih bs hm;have hl:=LL (.mk k n s ks) bs hm (fun x hx bs=>ih x hx bs (Sg hm hx)) ks [];have hf:=ED (.mk k n s ks) bs;have ha:=Iz (.mk k n s ks) bs hm;have hkd:=Ew n bs;simp only[Zk,QX]at hf ha;rw[Qa F.tb_127 _ _ rfl];by_cases hk:k=3
 ·subst hk;simp only[Qb]at hf ha hl;cases hy:Q4 n Z6 with
  | none=>
   rw[hy]at hkd;simp[F.f127C,Qb,hkd,hy,Z5]
  | some y=>
   obtain⟨hy1,hy2⟩:=RT hy;obtain⟨hy3,hy4⟩:=Cv hy1;have hp:=Cw hy1;rw[hy]at hkd hf;simp only at hkd hf;by_cases c:y.l≤ks.length∧(ks.length:Int)≤y.m
   ·have c1:=c.1;have c2:=c.2;have d1: ¬(ks.length:Int) < y.l:=by omega
    have d2: ¬y.m < (ks.length:Int):=by omega
    have ha':=ha (fun e=>by
     have:=hy4 (by rw[hy2];exact e);intro e2;subst e2;simp at c1;omega)
    rw[hy2]at hp;have hl':=fun ρ=>hl ρ rfl;by_cases h1:n=[115,107]
    ·subst h1;have hk2:y.k=2:=by rw[hp];simp
     simp at ha';rcases Bool.eq_false_or_eq_true (ks.any Vm)with c4 | c4 <;>
      simp[F.f127C,Qb,hkd,hk2,hf,c1,c2,d1,d2,ha',Z5,hy,c4]
     rw[hl'] <;> simp
    by_cases h2:n=[115,104,107]
    ·subst h2;have hk2:y.k=2:=by rw[hp];simp
     simp at ha';rcases Bool.eq_false_or_eq_true (ks.any Vm)with c4 | c4 <;>
      simp[F.f127C,Qb,hkd,hk2,hf,c1,c2,d1,d2,ha',Z5,hy,c4]
     rw[hl'] <;> simp
    by_cases h3:n=[110,101,119]
    ·subst h3;have hk2:y.k=2:=by rw[hp];simp
     simp at ha';by_cases c4: ∃a,ks.head?=some a∧a.kind=2 <;>
      simp[F.f127C,Qb,hkd,hk2,hf,c1,c2,d1,d2,ha',Z5,hy,c4]
     rw[hl'] <;> simp
    ·have hk2: ¬y.k=2:=by rw[hp];simp[h1,h2,h3]
     have hk2b: (y.k == 2)=false:=by simp[hk2]
     simp[F.f127C,Qb,hkd,hk2,hy3,hf,c1,c2,d1,d2,Z5,hy,h1,h2,h3];rw[hl'] <;> simp
   ·have d: (ks.length:Int) < y.l∨y.m < ks.length:=by omega
    have e: (decide (y.l≤ks.length) && decide ((ks.length:Int)≤y.m))=false:=by
     rw[Bool.and_eq_false_iff];simp;omega
    have hf2:call F.tb 130 [.agg [.int .i64 3,.str n,.int .i64 s,.sl false 4 (encTs ks)]] bs=some (.bool (decide (y.l≤(ks.length:Int)) && decide ((ks.length:Int)≤y.m)),bs):=hf;rw[e]at hf2;simp[F.f127C,Qb,hkd,hy,hy3,hf2,d,Z5]
 ·simp[F.f127C,Qb,hk,Z5]
theorem KH (t:Tm) (bs:List (List AV)) (hm:t.mass < big):call F.tb 126 [.agg (Qb t)] bs=some (.int .i64 (thV t),bs):=by
 have h1:=KN t bs hm;have h2:=LR t bs hm;rw[Qa F.tb_126 _ _ rfl];rw[Qz]at *;by_cases h:QD t=0
 ·simp[F.f126C,h1,h2,h,thV]
 ·simp[F.f126C,h1,h,thV]
theorem KA: ∀{a b:List UInt8},Y7 a b=0→a=b:=by
 intro a b h;unfold Y7 at h;split at h
 ·simp at h
 ·split at h
  ·rename_i h2;exact beq_iff_eq.1 h2
  ·simp at h
mutual
theorem Ze: ∀(t u:Tm),Qh t u=0→t=u
 | .mk k n s ks,.mk k' n' s' ks',h=>by
  rw[UN,U2]at h;obtain⟨h1,h2⟩:=h;unfold hdT at h1;simp only[U2,Sn,Xm,Zk,Vl,QX]at h1 h2;obtain⟨_,h3,h4,h5,h6⟩:=h1;have e1:=KA h4;have e2:=cmpL_eq0 ks ks' (by omega) h2;rw[h3,e1,h5,e2]
theorem cmpL_eq0: ∀(ts us:List Tm),ts.length=us.length→cmpL ts us=0→ts=us
 | [],[],_,_=>rfl
 | [],_:: _,h,_=>by simp at h
 | _:: _,[],h,_=>by simp at h
 | t:: ts,u:: us,h,h2=>by
  rw[cmpL,U2]at h2;rw[Ze t u h2.1,cmpL_eq0 ts us (by simpa using h) h2.2]
end
theorem ZW {t u:Tm}:Qh t u=0↔t=u:=⟨Ze t u,fun h=>h▸Z3 t⟩
def Wq (acc:Nat) (l:List UInt8):Nat:=l.foldl (fun a c=>a*10+ (c.toNat - 48)) acc
theorem Pd (acc:Nat):Wq acc []=acc:=rfl
theorem TA (acc:Nat) (c:UInt8) (r:List UInt8):Wq acc (c:: r)=Wq (acc*10+ (c.toNat - 48)) r:=by simp only[Wq,List.foldl_cons]
theorem QaB (a b:List UInt8) (acc:Nat):Wq acc (a ++ b)=Wq (Wq acc a) b:=by simp[Wq]
theorem Gj: ∀(a:List UInt8) (acc:Nat),acc≤Wq acc a
 | [],_=>Nat.le_refl _
 | c:: r,acc=>by have:=Gj r (acc*10+ (c.toNat - 48));rw[TA];omega
theorem OM {n:Nat} (h:n < 10): (48+n).toUInt8.toNat=48+n:=by
 have: ∀n:Fin 10,(48+n.val).toUInt8.toNat=48+n.val:=by decide
 exact this ⟨n,h⟩
theorem HJ {c:UInt8} {n:Nat} (hc:c.toNat=48+n) (h:n < 10):Y3 c=true:=by
 simp only[Y3,hc,Bool.and_eq_true,decide_eq_true_eq];omega
theorem RI: ∀n:Nat,Wq 0 (ZN n)=n∧(ZN n).all Y3=true∧ZN n≠[]:=by
 intro n
 induction n using Nat.strongRecOn with
 | ind n ih=>
  by_cases h:n < 10
  ·rw[X2 h];have hd:=OM h;generalize (48+n).toUInt8=c at *;refine⟨?_,?_,by simp⟩
   ·simp only[TA,Pd,hd];omega
   ·simp only[List.all_cons,List.all_nil,Bool.and_true];exact HJ hd h
  ·obtain⟨h1,h2,h3⟩:=ih (n / 10) (by omega);have hd:=OM (n:=n % 10) (by omega);rw[Vi h];generalize (48+n % 10).toUInt8=c at *;refine⟨?_,?_,by simp⟩
   ·rw[QaB,h1];simp only[TA,Pd,hd];omega
   ·rw[List.all_append,h2];simp only[List.all_cons,List.all_nil,Bool.and_true,Bool.true_and];exact HJ hd (by omega)
theorem K9 {a b:Nat} (h:ZN a=ZN b):a=b:=by rw[← (RI a).1,← (RI b).1,h]
theorem QeZ {n:Int} (h:0≤n∧n < 256):IntKind.u8.wrap n=n:=by
 simp[IntKind.wrap,IntKind.bits,IntKind.signed];omega
def isB (t:Tm) (n:List UInt8):Bool:=decide (t.kind=3) && (t.name == n)
theorem XX {t:Tm} {n:List UInt8}:isB t n=true↔t.kind=3∧t.name=n:=by simp[isB]
theorem V1 (t:Tm) (n:List UInt8) (bs:List (List AV)):call F.tb 71 [.agg (Qb t),.str n] bs=some (.bool (isB t n),bs):=by
 rw[Qa F.tb_71 _ _ rfl];by_cases h:t.kind=3 <;> simp[F.f71,F.f71C,isB,h]
theorem KJ (t:Tm) (n:List UInt8) (bs:List (List AV)):call F.tb 132 [.agg (Qb t),.str n] bs=some (.bool (isB t n),bs):=by
 rw[Qa F.tb_132 _ _ rfl];by_cases h:t.kind=3 <;> simp[F.f132,F.f132C,isB,h]
theorem NM {n:Nat} (h:n < 10):X8 (48+n).toUInt8=true:=by
 have: ∀n:Fin 10,X8 (48+n.val).toUInt8=true:=by decide
 exact this ⟨n,h⟩
theorem SC: ∀n:Nat,(ZN n).all X8=true:=by
 intro n
 induction n using Nat.strongRecOn with
 | ind n ih=>
  by_cases h:n < 10
  ·rw[X2 h];simp only[List.all_cons,List.all_nil,Bool.and_true];exact NM h
  ·rw[Vi h,List.all_append,ih _ (by omega)];simp only[List.all_cons,List.all_nil,Bool.and_true,Bool.true_and];exact NM (by omega)
theorem Um: ∀(k n:Nat),n < 10 ^ (k+1)→(ZN n).length≤k+1
 | 0,n,h=>by rw[X2 (by simpa using h)];simp
 | k+1,n,h=>by
  by_cases h0:n < 10
  ·rw[X2 h0];simp
  ·rw[Vi h0,List.length_append];have:=Um k (n / 10) (by rw[Nat.pow_succ]at h;omega);simp;omega
theorem Tc {a b:List UInt8} (ha:QP a=true) (hb:b.all X8=true) (hl:a.length+b.length≤24):QP (a ++ b)=true:=by
 cases a with
 | nil=>simp[QP]at ha
 | cons c r=>
  rw[List.cons_append,Td];rw[Td]at ha;simp only[Bool.and_eq_true,decide_eq_true_eq,List.all_cons]at ha;simp only[List.length_cons]at hl;simp only[List.length_append,ha.1.2,List.all_cons,List.all_append,ha.2.1,ha.2.2,hb,Bool.and_true,decide_eq_true_eq];omega
theorem Sx (n:List UInt8) (ks:List Tm) (o:Bool) (bs:List (List AV)) (hl:ks.length≤1000):call F.tb 120 [.str n,.sl o 4 (encTs ks)] bs=some (.agg (Qb (.mk 3 n 0 ks)),bs):=by
 rw[Qa F.tb_120 _ _ rfl];have ha:ks.length*56≤140737488355328:=by omega
 simp[F.f120,F.f120C,V3,YO,ha,encTs_gp]
theorem Pa (a b:Int):sgn b a= - sgn a b:=by unfold sgn;split <;> (try split) <;> (try split) <;> omega
theorem Cr {a b:Int}:sgn a b≤0↔a≤b:=by unfold sgn;split <;> (try split) <;> omega
theorem Nh: ∀a b:List UInt8,Op.bytesLess a b=true∨a=b∨Op.bytesLess b a=true
 | [],[]=> .inr (.inl rfl)
 | [],_:: _=> .inl rfl
 | _:: _,[]=> .inr (.inr rfl)
 | x:: xs,y:: ys=>by
  simp only[Op.bytesLess,Bool.or_eq_true,decide_eq_true_eq,Bool.and_eq_true,beq_iff_eq,List.cons.injEq];rcases Nat.lt_trichotomy x.toNat y.toNat with h | h | h
  ·have:x < y:=by rw[UInt8.lt_iff_toNat_lt];exact h
   simp[this]
  ·have e:x=y:=UInt8.toNat_inj.1 h;subst e;have hi: ¬x < x:=by rw[UInt8.lt_iff_toNat_lt];omega
   rcases Nh xs ys with h | h | h
   ·simp[hi,h]
   ·simp[hi,h]
   ·simp[hi,h]
  ·have:y < x:=by rw[UInt8.lt_iff_toNat_lt];exact h
   have h2: ¬x < y:=by rw[UInt8.lt_iff_toNat_lt];omega
   simp[this,h2]
theorem RY: ∀a b c:List UInt8,Op.bytesLess a b=true→Op.bytesLess b c=true→Op.bytesLess a c=true
 | [],_,[],_,h=>by cases ‹List UInt8› <;> simp[Op.bytesLess]at h
 | [],_,_:: _,_,_=>rfl
 | _:: _,[],_,h,_=>by simp[Op.bytesLess]at h
 | _:: _,_:: _,[],_,h=>by simp[Op.bytesLess]at h
 | x:: xs,y:: ys,z:: zs,h1,h2=>by
  have ih:=RY xs ys zs;simp only[Op.bytesLess,Bool.or_eq_true,decide_eq_true_eq,Bool.and_eq_true,beq_iff_eq]at h1 h2 ⊢;rcases h1 with h1 | ⟨rfl,h1⟩
  ·rcases h2 with h2 | ⟨rfl,h2⟩
   ·left;rw[UInt8.lt_iff_toNat_lt]at *;omega
   ·exact .inl h1
  ·rcases h2 with h2 | ⟨rfl,h2⟩
   ·exact .inl h2
   ·exact .inr ⟨rfl,ih h1 h2⟩
theorem N8 (a b:List UInt8) (h:Op.bytesLess a b=true):Op.bytesLess b a=false:=by
 cases hb:Op.bytesLess b a
 ·rfl
 ·have:=RY a b a h hb;rw[Y6]at this;cases this
theorem PL (a b:List UInt8):Y7 b a= - Y7 a b:=by
 unfold Y7;rcases Nh a b with h | h | h
 ·have h2:=N8 a b h;have hne: (b == a)=false:=by
   rw[beq_eq_false_iff_ne];intro e;subst e;rw[Y6]at h;cases h
  simp[h,h2,hne]
 ·subst h;simp[Y6]
 ·have h2:=N8 b a h;have hne: (a == b)=false:=by
   rw[beq_eq_false_iff_ne];intro e;subst e;rw[Y6]at h;cases h
  simp[h,h2,hne]
theorem QbT {a b:List UInt8}:Y7 a b≤0↔Op.bytesLess a b=true∨a=b:=by
 unfold Y7;split
 ·rename_i h;simp[h]
 ·rename_i h;split
  ·rename_i h2;simp at h2;simp[h2]
  ·rename_i h2;simp at h2;simp[h,h2]
theorem GN {a b c:List UInt8} (h1:Y7 a b≤0) (h2:Y7 b c≤0):Y7 a c≤0:=by
 rw[QbT]at *;rcases h1 with h1 | rfl
 ·rcases h2 with h2 | rfl
  ·exact .inl (RY _ _ _ h1 h2)
  ·exact .inl h1
 ·exact h2
theorem K5 {a b:List UInt8} (h:Y7 a b=0):a=b:=by
 rcases Nh a b with h2 | h2 | h2
 ·simp[Y7,h2]at h
 ·exact h2
 ·have:=PL a b;rw[h]at this;simp[Y7,h2]at this
theorem U1 {a b a' b':Int} (h1:a'= -a) (h2:b'= -b):or0 a' b'= - or0 a b:=by
 subst h1 h2;unfold or0;split <;> split <;> omega
theorem Ua {a1 a2 a3 b1 b2 b3:Int} (ha:a1≤0→a2≤0→a3≤0) (hz:a3=0→a1≤0→a2≤0→a1=0∧a2=0) (hb:a1=0→a2=0→b1≤0→b2≤0→b3≤0)
  (h1:or0 a1 b1≤0) (h2:or0 a2 b2≤0):or0 a3 b3≤0:=by
 have g1:a1≤0:=by unfold or0 at h1;split at h1 <;> omega
 have g2:a2≤0:=by unfold or0 at h2;split at h2 <;> omega
 have g3:=ha g1 g2;by_cases hc:a3=0
 ·obtain⟨z1,z2⟩:=hz hc g1 g2;rw[z1,Vr]at h1;rw[z2,Vr]at h2;rw[hc,Vr];exact hb z1 z2 h1 h2
 ·rw[Ut hc];exact g3
theorem SP {a b c:Int} (h1:sgn a b≤0) (h2:sgn b c≤0):sgn a c≤0:=by rw[Cr]at *;omega
theorem Nt {a b c:Int} (h:sgn a c=0) (h1:sgn a b≤0) (h2:sgn b c≤0):sgn a b=0∧sgn b c=0:=by
 rw[Sn]at *;rw[Cr]at h1 h2;rw[Sn];omega
theorem EQ {a b c:List UInt8} (h:Y7 a c=0) (h1:Y7 a b≤0) (h2:Y7 b c≤0):Y7 a b=0∧Y7 b c=0:=by
 have e:=K5 h;subst e;have:=PL a b;constructor <;> omega
theorem Jx (t u:Tm):hdT u t= - hdT t u:=by
 unfold hdT;exact U1 (Pa _ _) (U1 (Pa _ _) (U1 (PL _ _) (U1 (Pa _ _) (Pa _ _))))
theorem Nf {t u:Tm}:hdT t u=0↔t.nodes=u.nodes∧t.kind=u.kind∧t.name=u.name∧t.sort=u.sort∧t.kids.length=u.kids.length:=by
 unfold hdT;rw[U2,U2,U2,U2,Sn,Sn,Sn,Sn];constructor
 ·rintro⟨h1,h2,h3,h4,h5⟩
  exact⟨by omega,h2,K5 h3,h4,by omega⟩
 ·rintro⟨h1,h2,h3,h4,h5⟩
  exact⟨by omega,h2,by rw[h3];exact M8 _,h4,by omega⟩
theorem Dl {t u v:Tm} (h1:hdT t u≤0) (h2:hdT u v≤0):hdT t v≤0:=by
 unfold hdT at *;refine Ua SP (fun h a b=>Nt h a b) (fun _ _=> ?_) h1 h2;refine Ua SP (fun h a b=>Nt h a b) (fun _ _=> ?_);refine Ua GN (fun h a b=>EQ h a b) (fun _ _=> ?_);exact Ua SP (fun h a b=>Nt h a b) (fun _ _=>SP)
theorem PJ: ∀(ts us:List Tm),(∀x∈ts,∀y,Qh y x= - Qh x y)→cmpL us ts= - cmpL ts us
 | [],[],_=>by simp[cmpL]
 | [],_:: _,_=>by simp[cmpL]
 | _:: _,[],_=>by simp[cmpL]
 | t:: ts,u:: us,h=>by
  simp only[cmpL];exact U1 (h t (by simp) u) (PJ ts us fun x hx=>h x (by simp[hx]))
theorem Yn: ∀(t u:Tm),Qh u t= - Qh t u:=by
 refine ZU ?_;intro k n s ks ih u;rw[UN,UN];exact U1 (Jx _ _) (PJ _ _ fun x hx y=>ih x hx y)
theorem Pk: ∀(ts us vs:List Tm),ts.length=us.length→us.length=vs.length→(∀x∈ts,∀y z,Qh x y≤0→Qh y z≤0→Qh x z≤0)→cmpL ts us≤0→cmpL us vs≤0→cmpL ts vs≤0
 | [],[],[],_,_,_,_,_=>by simp[cmpL]
 | t:: ts,u:: us,v:: vs,h1,h2,h,g1,g2=>by
  simp only[cmpL]at g1 g2 ⊢;refine Ua (h t (by simp) u v) (fun h0 a b=> ?_) (fun _ _=>Pk ts us vs (by simpa using h1) (by simpa using h2) fun x hx=>h x (by simp[hx])) g1 g2;have e:=Ze _ _ h0;subst e;have:=Yn t u;constructor <;> omega
 | [],_:: _,_,h1,_,_,_,_=>by simp at h1
 | _:: _,[],_,h1,_,_,_,_=>by simp at h1
 | [],[],_:: _,_,h2,_,_,_=>by simp at h2
 | _:: _,_:: _,[],_,h2,_,_,_=>by simp at h2
theorem RG: ∀(t u v:Tm),Qh t u≤0→Qh u v≤0→Qh t v≤0:=by
 refine ZU ?_;intro k n s ks ih u v h1 h2;rw[UN]at *;refine Ua Dl (fun h0 a b=> ?_) (fun e1 e2=> ?_) h1 h2
 ·rw[Nf]at h0;have z1:=Nf (t:= .mk k n s ks) (u:=u);have e2:hdT u v=hdT u (.mk k n s ks):=by unfold hdT;rw[h0.1,h0.2.1,h0.2.2.1,h0.2.2.2.1,h0.2.2.2.2]
  rw[e2]at b ⊢;have:=Jx (.mk k n s ks) u;constructor <;> omega
 ·rw[Nf]at e1 e2;exact Pk _ _ _ e1.2.2.2.2 e2.2.2.2.2 fun x hx=>ih x hx
theorem Z4 {a b c:Tm} (h1:Qh a b < 0) (h2:Qh b c < 0):Qh a c < 0:=by
 have h:=RG a b c (by omega) (by omega);rcases Int.lt_or_eq_of_le h with h | h
 ·exact h
 ·have e:=Ze _ _ h;subst e;have:=Yn a b;omega
theorem XO (a:Tm): ¬Qh a a < 0:=by rw[Z3];omega
theorem NV {a b:Tm}:0 < Qh a b↔Qh b a < 0:=by have:=Yn a b;omega
theorem O6 (a b:Tm):Qh a b < 0∨a=b∨Qh b a < 0:=by
 rcases Int.lt_trichotomy (Qh a b) 0 with h | h | h
 ·exact .inl h
 ·exact .inr (.inl (Ze _ _ h))
 ·exact .inr (.inr (NV.1 h))
def Asc (l:List Tm):Prop:=l.Pairwise fun a b=>Qh a b < 0
theorem Asc.nil:Asc []:=List.Pairwise.nil
theorem Re (t:Tm):Asc [t]:=by simp[Asc]
theorem Yf {x:Tm} {l:List Tm}:Asc (x:: l)↔(∀y∈l,Qh x y < 0)∧Asc l:=List.pairwise_cons
theorem Om: ∀{a b:List Tm},Asc a→Asc b→(∀x,x∈a↔x∈b)→a=b
 | [],[],_,_,_=>rfl
 | [],y:: ys,_,_,h=>by have:=(h y).2 (by simp);simp at this
 | x:: xs,[],_,_,h=>by have:=(h x).1 (by simp);simp at this
 | x:: xs,y:: ys,ha,hb,h=>by
  rw[Yf]at ha hb;have hxy:x=y:=by
   rcases O6 x y with h1 | h1 | h1
   ·have:=(h x).1 (by simp);rcases List.mem_cons.1 this with e | e
    ·exact e
    ·have:=Z4 h1 (hb.1 x e);exact absurd this (XO x)
   ·exact h1
   ·have:=(h y).2 (by simp);rcases List.mem_cons.1 this with e | e
    ·exact e.symm
    ·have:=Z4 h1 (ha.1 y e);exact absurd this (XO y)
  subst hxy;congr 1;refine Om ha.2 hb.2 fun z=> ?_;have hz:=h z;simp only[List.mem_cons]at hz;constructor
  ·intro hm;rcases hz.1 (.inr hm)with e | e
   ·subst e;exact absurd (ha.1 z hm) (XO z)
   ·exact e
  ·intro hm;rcases hz.2 (.inr hm)with e | e
   ·subst e;exact absurd (hb.1 z hm) (XO z)
   ·exact e
def Zu (t:Tm):List Tm→List Tm
 | []=>[t]
 | x:: xs=>if Qh t x < 0 then t:: x:: xs else if Qh t x=0 then x:: xs else x:: Zu t xs
theorem VS {t y:Tm}: ∀{l:List Tm},y∈Zu t l↔y=t∨y∈l
 | []=>by simp[Zu]
 | x:: xs=>by
  simp only[Zu];split
  ·simp
  ·split
   ·rename_i h;have:=Ze _ _ h;subst this;simp
   ·simp only[List.mem_cons,VS (l:=xs)];constructor
    ·rintro(h | h | h) <;> simp[h]
    ·rintro(h | h | h) <;> simp[h]
theorem Rz {t:Tm}: ∀{l:List Tm},Asc l→Asc (Zu t l)
 | [],_=>Re t
 | x:: xs,h=>by
  have h0:=h;rw[Yf]at h;simp only[Zu];split
  ·rename_i h1;rw[Yf];refine⟨fun y hy=> ?_,h0⟩;rcases List.mem_cons.1 hy with rfl | hy
   ·exact h1
   ·exact Z4 h1 (h.1 y hy)
  ·split
   ·exact h0
   ·rename_i h1 h2;rw[Yf];refine⟨fun y hy=> ?_,Rz h.2⟩;rcases VS.1 hy with rfl | hy
    ·exact NV.1 (by omega)
    ·exact h.1 y hy
theorem OZ (t:Tm): ∀l:List Tm,(Zu t l).length≤l.length+1
 | []=>by simp[Zu]
 | x:: xs=>by
  simp only[Zu];have:=OZ t xs;split
  ·simp
  ·split <;> simp <;> omega
def WJ (acc:List Tm) (l:List Tm):List Tm:=l.foldl (fun a x=>Zu x a) acc
def Zv (l:List Tm):List Tm:=WJ [] l
theorem Md {y:Tm}: ∀{l acc:List Tm},y∈WJ acc l↔y∈acc∨y∈l
 | [],acc=>by simp[WJ]
 | x:: xs,acc=>by
  have:=Md (y:=y) (l:=xs) (acc:=Zu x acc);simp only[WJ,List.foldl_cons]at this ⊢;rw[this,VS];simp only[List.mem_cons];constructor
  ·rintro((h | h) | h) <;> simp[h]
  ·rintro(h | h | h) <;> simp[h]
theorem Nz: ∀{l acc:List Tm},Asc acc→Asc (WJ acc l)
 | [],_,h=>h
 | x:: xs,acc,h=>Nz (l:=xs) (Rz h)
theorem Vc {y:Tm} {l:List Tm}:y∈Zv l↔y∈l:=by unfold Zv;rw[Md];simp
theorem RA (l:List Tm):Asc (Zv l):=Nz Asc.nil
theorem Hf {l:List Tm} (h:Asc l):Zv l=l:=Om (RA l) h fun x=>Vc
theorem Ny: ∀(l acc:List Tm),(WJ acc l).length≤acc.length+l.length
 | [],acc=>by simp[WJ]
 | x:: xs,acc=>by
  have h1:=Ny xs (Zu x acc);have h2:=OZ x acc;simp only[WJ,List.foldl_cons,List.length_cons]at *;omega
theorem J5 (l:List Tm): (Zv l).length≤l.length:=by have:=Ny l [];simpa[Zv]using this
theorem RZ {t y:Tm}: ∀{l:List Tm},y∈VQ t l↔y=t∨y∈l
 | []=>by simp[VQ]
 | x:: xs=>by
  simp only[VQ];split
  ·simp only[List.mem_cons,RZ (l:=xs)];constructor
   ·rintro(h | h | h) <;> simp[h]
   ·rintro(h | h | h) <;> simp[h]
  ·simp
theorem Wx {y:Tm}: ∀{l:List Tm},y∈Zt l↔y∈l
 | []=>by simp[Zt]
 | x:: xs=>by simp only[Zt,RZ,Wx (l:=xs),List.mem_cons]
theorem Jy (t:Tm): ∀l:List Tm,(VQ t l).length=l.length+1
 | []=>rfl
 | x:: xs=>by simp only[VQ];split <;> simp[Jy t xs]
theorem XE: ∀l:List Tm,(Zt l).length=l.length
 | []=>rfl
 | x:: xs=>by simp[Zt,Jy,XE xs]
def Srt (l:List Tm):Prop:=l.Pairwise fun a b=>Qh a b≤0
theorem J9 {t:Tm}: ∀{l:List Tm},Srt l→Srt (VQ t l)
 | [],_=>by simp[VQ,Srt]
 | x:: xs,h=>by
  have h0:=h;unfold Srt at h;rw[List.pairwise_cons]at h;simp only[VQ];split
  ·rename_i h1;unfold Srt;rw[List.pairwise_cons];refine⟨fun y hy=> ?_,J9 h.2⟩;rcases RZ.1 hy with rfl | hy
   ·omega
   ·exact h.1 y hy
  ·rename_i h1;unfold Srt;rw[List.pairwise_cons];refine⟨fun y hy=> ?_,h0⟩;have htx:Qh t x≤0:=by have:=Yn x t;omega
   rcases List.mem_cons.1 hy with rfl | hy
   ·exact htx
   ·exact RG _ _ _ htx (h.1 y hy)
theorem LD: ∀l:List Tm,Srt (Zt l)
 | []=>List.Pairwise.nil
 | x:: xs=>J9 (LD xs)
def Yw:List Tm→List Tm
 | []=>[]
 | [x]=>[x]
 | x:: y:: r=>if Qh y x=0 then Yw (x:: r)else x:: Yw (y:: r)
termination_by l=>l.length
theorem SK: ∀(n:Nat) (l:List Tm) (y:Tm),l.length≤n→(y∈Yw l↔y∈l)
 | _,[],y,_=>by simp[Yw]
 | _,[x],y,_=>by simp[Yw]
 | n+1,x:: z:: r,y,h=>by
  rw[Yw];split
  ·rename_i e;have e:=Ze _ _ e;subst e;rw[SK n (z:: r) y (by simp at h ⊢;omega)];simp
  ·rw[List.mem_cons,SK n (z:: r) y (by simp at h ⊢;omega)];simp only[List.mem_cons]
 | 0,_:: _:: _,_,h=>by simp at h
theorem Pv: ∀(n:Nat) (l:List Tm),l.length≤n→Srt l→Asc (Yw l)
 | _,[],_,_=>by simp[Yw,Asc.nil]
 | _,[x],_,_=>by simp[Yw,Re]
 | n+1,x:: z:: r,h,hs=>by
  have hs0:=hs;unfold Srt at hs;rw[List.pairwise_cons]at hs;rw[Yw];split
  ·rename_i e;have e:=Ze _ _ e;subst e;exact Pv n _ (by simp at h ⊢;omega) hs.2
  ·rename_i e;rw[Yf];refine⟨fun y hy=> ?_,Pv n _ (by simp at h ⊢;omega) hs.2⟩;rw[SK n _ y (by simp at h ⊢;omega)]at hy;have hxz:Qh x z < 0:=by
    have h1:=hs.1 z (by simp);have h2:=Yn x z;omega
   rcases List.mem_cons.1 hy with rfl | hy
   ·exact hxz
   ·have h2:Qh z y≤0:=by
     have:=hs.2;rw[List.pairwise_cons]at this;exact this.1 y hy
    rcases Int.lt_or_eq_of_le (RG x z y (by omega) h2)with h3 | h3
    ·exact h3
    ·have e3:=Ze _ _ h3;subst e3;have:=Yn x z;omega
 | 0,_:: _:: _,h,_=>by simp at h
theorem S0 (l:List Tm):Yw (Zt l)=Zv l:=
 Om (Pv _ _ (Nat.le_refl _) (LD l)) (RA l) fun x=>by rw[SK _ _ x (Nat.le_refl _),Wx,Vc]
theorem Ta: ∀a b:List AV,gpfreeL (a ++ b)=(gpfreeL a && gpfreeL b)
 | [],b=>by simp
 | x:: a,b=>by simp[Ta a b,Bool.and_assoc]
section
variable {α:Type} (f:α→List AV) (k:Nat)
def Zs (f:α→List AV) (l:List α):List AV:=(l.map f).flatten
theorem VU (x:α) (l:List α):Zs f (x:: l)=f x ++ Zs f l:=by simp[Zs]
theorem XH (a b:List α):Zs f (a ++ b)=Zs f a ++ Zs f b:=by simp[Zs]
theorem T1 (x:α):Zs f [x]=f x:=by simp[Zs]
variable {f k}
theorem Za (hk: ∀x,(f x).length=k): ∀l:List α,(Zs f l).length=l.length*k
 | []=>by simp[Zs]
 | x:: l=>by rw[VU,List.length_append,hk,Za hk l,List.length_cons,Nat.succ_mul];omega
theorem Zr (hs: ∀x,(f x).map AV.strip=f x): ∀l:List α,(Zs f l).map AV.strip=Zs f l
 | []=>rfl
 | x:: l=>by rw[VU,List.map_append,hs,Zr hs l]
theorem J0 (hg: ∀x,gpfreeL (f x)=true): ∀l:List α,gpfreeL (Zs f l)=true
 | []=>rfl
 | x:: l=>by
  rw[VU,Ta,hg x,J0 hg l];rfl
theorem Xf (hk: ∀x,(f x).length=k) {l pre post:List α} {x:α} (h:l=pre ++ x:: post) (t:List AV): ((Zs f l ++ t).drop (pre.length*k)).take k=f x:=by
 subst h;rw[XH,VU,List.append_assoc,← Za hk pre,List.drop_left,List.append_assoc];have:=hk x;rw[List.take_append_of_le_length (by omega),List.take_of_length_le (by omega)]
theorem VV (hk: ∀x,(f x).length=k) {l pre post:List α} (h:l=pre ++ post) (t:List AV): (Zs f l ++ t).take (pre.length*k)=Zs f pre:=by
 subst h;rw[XH,List.append_assoc,← Za hk pre,List.take_left]
theorem R8 (hk: ∀x,(f x).length=k) {l pre post:List α} (h:l=pre ++ post) (t:List AV): (Zs f l ++ t).drop (pre.length*k)=Zs f post ++ t:=by
 subst h;rw[XH,List.append_assoc,← Za hk pre,List.drop_left]
theorem T2 (hk: ∀x,(f x).length=k) {l pre post:List α} {x:α} (y:α) (h:l=pre ++ x:: post) (t:List AV):
  (Zs f l ++ t).take (pre.length*k)++ (f y ++ (Zs f l ++ t).drop (pre.length*k+k))=Zs f (pre ++ y:: post)++ t:=by
 rw[VV hk h,XH,VU];have h2:l=(pre ++ [x])++ post:=by rw[h];simp
 have:=R8 hk h2 t;rw[List.length_append,List.length_singleton,Nat.add_mul,Nat.one_mul]at this;rw[this];simp
theorem YS (hk: ∀x,(f x).length=k) (hs: ∀x,(f x).map AV.strip=f x) (l:List α) (t:List AV):QY (Zs f l ++ t) 0 k l.length=l.map f:=by
 apply List.ext_getElem?;intro i;cases hc: (QY (Zs f l ++ t) 0 k l.length)[i]? with
 | none=>
  rw[List.getElem?_eq_none_iff,Xc]at hc;rw[List.getElem?_eq_none (by simpa using hc)]
 | some y=>
  obtain⟨hi,rfl⟩:=Uk hc;have hl:l=l.take i ++ l[i]:: l.drop (i+1):=by rw[List.getElem_cons_drop,List.take_append_drop]
  have hr:=Xf hk hl t;rw[List.length_take,Nat.min_eq_left (by omega)]at hr;rw[Nat.zero_add,hr,hs];simp[List.getElem?_eq_getElem hi]
end
theorem Qm (x:Tm): (Qb x).length=4:=Zw x
abbrev Qf (l:List Tm):List AV:=Zs Qb l
theorem Vf (l:List Tm):l.map Qb=encTs l:=(YE l).symm
theorem NG (x y:Tm) (bs:List (List AV)) (hx:x.mass < big) (hy:y.mass < big):call F.tb 171 [.agg (Qb x),.agg (Qb y)] bs=some (.bool (decide (Qh x y=0)),bs):=by
 rw[Qa F.tb_171 _ _ rfl];have h:=call_Compare x y bs hx hy;simp[F.f171,F.f171C,Qj,h]
def QW (prev:Tm):List Tm→List Tm
 | []=>[]
 | x:: r=>if Qh x prev=0 then QW x r else x:: QW x r
theorem Ul (x:Tm): ∀(r:List Tm),Yw (x:: r)=x:: QW x r
 | []=>by simp[Yw,QW]
 | y:: r=>by
  rw[Yw];simp only[QW];split
  ·rename_i h;have:=Ze _ _ h;subst this;exact Ul y r
  ·rw[Ul y r]
theorem Hk (B:List (List AV)) (id n:Nat) (D:List Tm) (c:List AV) (hB:id < B.length) (hc:c.length=n*4) (hD:D.length≤n) (hn:n < 100000000) (ht:c.take (D.length*4)=Qf D)
  (ρ:Nat→AV) (h0:ρ 0= .gs id 0 4 n) (h5:ρ 5= .int .i64 D.length):
  R F.tb F.f172r0 ρ (B.set id c) (Qi 1 (Qu F.tb F.f172r1 (Qu F.tb (.loop F.f172l1) (Qi 0 (Qu F.tb F.f172r2 (Qy F.f172 B))))))=
   some (.gs id 0 4 D.length,B.set id (Qf D ++ List.replicate ((n - D.length)*4) .undef)):=by
 have e1: (0:Int)≤(D.length:Int):=by omega
 have e2: (D.length:Int)≤(n:Int):=by omega
 have hput:c.take (D.length*4)++ (List.replicate ((n - D.length)*4) AV.undef ++ c.drop (D.length*4+ (n - D.length)*4))=Qf D ++ List.replicate ((n - D.length)*4) .undef:=by
  rw[ht,List.drop_eq_nil_of_le (by rw[hc,← Nat.add_mul];exact Nat.mul_le_mul_right _ (by omega))];simp
 have hle:D.length*4+ (n - D.length)*4≤n*4:=by rw[← Nat.add_mul];exact Nat.mul_le_mul_right _ (by omega)
 by_cases hz:n - D.length=0
 ·have hDn:D.length=n:=by omega
  have hcc:c=Qf D:=by rw[← ht,List.take_of_length_le (by omega)]
  simp[F.f172r0,h0,h5,e1,e2,hD,hz,hcc]
 ·simp[F.f172r0,h0,h5,e1,e2,hD,hz,hB,hc,hle,hput]
end Go.Am
namespace Go.Am
set_option maxRecDepth 8000
def Rb (L:List Tm) (B:List (List AV)) (id:Nat) (r:Option (AV×List (List AV))):Prop:=∃t,r=some (.gs id 0 4 L.length,B.set id (Qf L ++ t))
theorem QaQ (B:List (List AV)) (id n k0:Nat) (hB:id < B.length) (hn:n < 100000000): ∀(post D mid:List Tm) (prev:Tm) (k2:Nat) (ρ:Nat→AV),D.length+mid.length+1+post.length=n→k0+k2=D.length+mid.length+1→0 < k2→
   (∀x∈prev:: post,x.mass < big)→ρ 0= .gs id 0 4 n→ρ 1= .fn 171 []→ρ 5= .int .i64 D.length→ρ 6= .gs id (k0*4) 4 (n - k0)→ρ 7= .int .i64 k2→
  Rb (D ++ QW prev post) B id (R F.tb (.loop F.f172l0) ρ (B.set id (Qf (D ++ mid ++ prev:: post)))
   (Qi 2 (Qu F.tb F.f172r0 (Qi 1 (Qu F.tb F.f172r1 (Qu F.tb (.loop F.f172l1) (Qi 0 (Qu F.tb F.f172r2 (Qy F.f172 B))))))))):=by
 intro post
 induction post with
 | nil=>
  intro D mid prev k2 ρ hl hk hk2 hm h0 h1 h5 h6 h7;have hlen: (Qf (D ++ mid ++ [prev])).length=n*4:=by rw[Za Qm];simp at hl ⊢;omega
  have ht: (Qf (D ++ mid ++ [prev])).take (D.length*4)=Qf D:=by
   have:=VV (f:=Qb) (k:=4) Qm (l:=D ++ mid ++ [prev]) (pre:=D) (post:=mid ++ [prev]) (by simp) [];simpa using this
  have hr:=fun ρ a b=>Hk B id n D (Qf (D ++ mid ++ [prev])) hB hlen (by omega) hn ht ρ a b;have hl':D.length+mid.length+1=n:=by simpa using hl
  have hnl: ¬((k2:Int) < ((n - k0:Nat):Int)):=by omega
  have hnl2: ¬(k2 < n - k0):=by omega
  rw[Qd F.f172l0.eq_1];simp only[QW,List.append_nil];refine⟨List.replicate ((n - D.length)*4) .undef,?_⟩;simp[h0,h1,h5,h6,h7,hnl,hnl2];simp only[List.append_assoc]at hr;refine hr _ ?_ ?_ <;> simp[h0,h5]
 | cons x post IH=>
  intro D mid prev k2 ρ hl hk hk2 hm h0 h1 h5 h6 h7;have hlen: (Qf (D ++ mid ++ prev:: x:: post)).length=n*4:=by rw[Za Qm];simp at hl ⊢;omega
  have hst: (Qf (D ++ mid ++ prev:: x:: post)).map AV.strip=Qf (D ++ mid ++ prev:: x:: post):=Zr QJ _;have r1: ((Qf (D ++ mid ++ prev:: x:: post)).drop (k0*4+k2*4)).take 4=Qb x:=by
   have:=Xf (f:=Qb) (k:=4) Qm (l:=D ++ mid ++ prev:: x:: post) (pre:=D ++ mid ++ [prev]) (post:=post) (x:=x) (by simp) [];rw[← Nat.add_mul,hk];simpa[Nat.add_assoc]using this
  have r2: ((Qf (D ++ mid ++ prev:: x:: post)).drop (k0*4+ (k2 - 1)*4)).take 4=Qb prev:=by
   have:=Xf (f:=Qb) (k:=4) Qm (l:=D ++ mid ++ prev:: x:: post) (pre:=D ++ mid) (post:=x:: post) (x:=prev) (by simp) [];rw[← Nat.add_mul,show k0+ (k2 - 1)=D.length+mid.length by omega];simpa[Nat.add_assoc]using this
  have hput: (Qf (D ++ mid ++ prev:: x:: post)).take (D.length*4)++ (Qb x ++ (Qf (D ++ mid ++ prev:: x:: post)).drop (D.length*4+4))=Qf ((D ++ [x])++ (mid ++ [prev]).tail ++ x:: post):=by
   obtain⟨y,m2,hy⟩: ∃y m2,mid ++ [prev]=y:: m2:=by cases mid <;> simp
   have:=T2 (f:=Qb) (k:=4) Qm (l:=D ++ mid ++ prev:: x:: post) (pre:=D) (post:=m2 ++ x:: post) (x:=y) x (by
    have:D ++ mid ++ prev:: x:: post=D ++ (mid ++ [prev])++ x:: post:=by simp
    rw[this,hy];simp) []
   rw[hy];simpa using this
  have hw1:IntKind.i64.wrap ((k2:Int) - 1)=((k2 - 1:Nat):Int):=by rw[Qq (by omega) (by omega)];omega
  have hw2:IntKind.i64.wrap ((k2:Int)+1)=((k2+1:Nat):Int):=by rw[Qq (by simp at hl;omega) (by simp at hl;omega)];omega
  have hw3:IntKind.i64.wrap ((D.length:Int)+1)=((D.length+1:Nat):Int):=by rw[Qq (by simp at hl;omega) (by simp at hl;omega)];omega
  have hlt: (k2:Int) < ((n - k0:Nat):Int):=by simp at hl;omega
  have hlt1:k2 < n - k0:=by simp at hl;omega
  have hlt2: ((k2 - 1:Nat):Int) < ((n - k0:Nat):Int):=by simp at hl;omega
  have hlt2':k2 - 1 < n - k0:=by simp at hl;omega
  have hlt3: (D.length:Int) < (n:Int):=by simp at hl;omega
  have hlt3':D.length < n:=by simp at hl;omega
  have hb1:k0*4+k2*4+4≤n*4:=by simp at hl;omega
  have hb2:k0*4+ (k2 - 1)*4+4≤n*4:=by simp at hl;omega
  have hb3:D.length*4+4≤n*4:=by simp at hl;omega
  have hnn: (0:Int)≤((k2 - 1:Nat):Int):=by omega
  have hc:=fun bs=>NG x prev bs (hm x (by simp)) (hm prev (by simp));have hcast: ((k2 - 1:Nat):Int).toNat=k2 - 1:=by omega
  have ih1:=IH D (mid ++ [prev]) x (k2+1);have ih2:=IH (D ++ [x]) (mid ++ [prev]).tail x (k2+1);have htl: ((mid ++ [prev]).tail).length=mid.length:=by simp
  rw[show D ++ (mid ++ [prev])++ x:: post=D ++ mid ++ prev:: x:: post by simp]at ih1;rw[Qd F.f172l0.eq_1];generalize Qf (D ++ mid ++ prev:: x:: post)=c at *;generalize hkm:k2 - 1=km at *;generalize n - k0=nk at *;by_cases he:Qh x prev=0
  ·have e:QW prev (x:: post)=QW x post:=by simp[QW,he]
   rw[e];simp[h0,h1,h5,h6,h7,hlt,hlt1,hlt2,hlt2',hnn,hw1,hw2,hb1,hb2,hB,hlen,hst,r1,r2,hc,he,hcast];refine ih1 _ (by simp at hl ⊢;omega) (by simp;omega) (by omega) (fun y hy=>hm y (by simp at hy ⊢;rcases hy with h | h <;> simp[h])) ?_ ?_ ?_ ?_ ?_ <;> simp[h0,h1,h5,h6]
  ·have e:D ++ QW prev (x:: post)=D ++ x:: QW x post:=by simp[QW,he]
   rw[e];simp only[List.append_assoc,List.cons_append,List.nil_append]at ih2;simp[h0,h1,h5,h6,h7,hlt,hlt1,hlt2,hlt2',hlt3,hlt3',hnn,hw1,hw2,hw3,hb1,hb2,hb3,hB,hlen,hst,r1,r2,hc,he,hcast,hput];refine ih2 _ (by simp at hl ⊢;omega) (by simp;omega) (by omega) (fun y hy=>hm y (by simp at hy ⊢;rcases hy with h | h <;> simp[h])) ?_ ?_ ?_ ?_ ?_ <;> simp[h0,h1,h5,h6]
theorem QaR (B:List (List AV)) (id n:Nat) (hB:id < B.length) (hn:n < 100000000): ∀(post pre:List Tm) (prev:Tm) (ρ:Nat→AV),pre.length+1+post.length=n→
   (∀x∈prev:: post,x.mass < big)→ρ 0= .gs id 0 4 n→ρ 1= .fn 171 []→ρ 5= .int .i64 (pre.length+1:Nat)→
  Rb (pre ++ prev:: QW prev post) B id (R F.tb (.loop F.f172l1) ρ (B.set id (Qf (pre ++ prev:: post)))
   (Qi 0 (Qu F.tb F.f172r2 (Qy F.f172 B)))):=by
 intro post
 induction post with
 | nil=>
  intro pre prev ρ hl hm h0 h1 h5;have hl':pre.length+1=n:=by simpa using hl
  have hnl: ¬((pre.length:Int)+1 < (n:Int)):=by omega
  rw[Qd F.f172l1.eq_1];refine⟨[],?_⟩;simp[h0,h1,h5,hnl,QW,F.f172r2,hl']
 | cons x post IH=>
  intro pre prev ρ hl hm h0 h1 h5;have hl':pre.length+1+ (post.length+1)=n:=by simpa using hl
  have hlen: (Qf (pre ++ prev:: x:: post)).length=n*4:=by rw[Za Qm];simp;omega
  have hst: (Qf (pre ++ prev:: x:: post)).map AV.strip=Qf (pre ++ prev:: x:: post):=Zr QJ _;have r1: ((Qf (pre ++ prev:: x:: post)).drop ((pre.length+1)*4)).take 4=Qb x:=by
   have:=Xf (f:=Qb) (k:=4) Qm (l:=pre ++ prev:: x:: post) (pre:=pre ++ [prev]) (post:=post) (x:=x) (by simp) [];simpa using this
  have r2: ((Qf (pre ++ prev:: x:: post)).drop (pre.length*4)).take 4=Qb prev:=by
   have:=Xf (f:=Qb) (k:=4) Qm (l:=pre ++ prev:: x:: post) (pre:=pre) (post:=x:: post) (x:=prev) (by simp) [];simpa using this
  have hw1:IntKind.i64.wrap (pre.length:Int)=(pre.length:Int):=Qq (by omega) (by omega);have hw2:IntKind.i64.wrap ((pre.length:Int)+1+1)=(pre.length:Int)+1+1:=Qq (by omega) (by omega);have hlt: (pre.length:Int)+1 < (n:Int):=by omega
  have hlt2: (pre.length:Int) < (n:Int):=by omega
  have hb1: (pre.length+1)*4+4≤n*4:=by omega
  have hb2:pre.length*4+4≤n*4:=by omega
  have hnn: (0:Int)≤(pre.length:Int)+1:=by omega
  have hle: (pre.length:Int)+1≤(n:Int):=by omega
  have hcast: ((pre.length:Int)+1).toNat=pre.length+1:=by omega
  have hc:=fun bs=>NG x prev bs (hm x (by simp)) (hm prev (by simp));have ih1:=IH (pre ++ [prev]) x;have ih2:=QaQ B id n (pre.length+1) hB hn post (pre ++ [prev]) [] x 1;simp only[List.append_assoc,List.cons_append,List.nil_append]at ih1 ih2;rw[Qd F.f172l1.eq_1];generalize Qf (pre ++ prev:: x:: post)=c at *;by_cases he:Qh x prev=0
  ·have e:QW prev (x:: post)=QW x post:=by simp[QW,he]
   rw[e];simp[h0,h1,h5,hlt,hlt2,hnn,hle,hw1,hw2,hb1,hb2,hB,hlen,hst,r1,r2,hc,he,hcast];refine ih2 _ (by simp;omega) (by simp) (by omega) (fun y hy=>hm y (by simp at hy ⊢;rcases hy with h | h <;> simp[h])) ?_ ?_ ?_ ?_ ?_ <;> simp[h0,h1,h5]
  ·have e:pre ++ prev:: QW prev (x:: post)=pre ++ prev:: x:: QW x post:=by simp[QW,he]
   rw[e];simp[h0,h1,h5,hlt,hlt2,hnn,hle,hw1,hw2,hb1,hb2,hB,hlen,hst,r1,r2,hc,he,hcast,F.f172r1];refine ih1 _ (by simp;omega) (fun y hy=>hm y (by simp at hy ⊢;rcases hy with h | h <;> simp[h])) ?_ ?_ ?_ <;> simp[h0,h1,h5]
theorem KE (L:List Tm) (B:List (List AV)) (id:Nat) (hid:B[id]? =some (Qf L)) (hn:L.length < 100000000) (hm: ∀x∈L,x.mass < big):
  Rb (Yw L) B id (call F.tb 172 [.gs id 0 4 L.length,.fn 171 []] B):=by
 have hB:id < B.length:=by
  rcases Nat.lt_or_ge id B.length with h | h
  ·exact h
  ·rw[List.getElem?_eq_none h]at hid;cases hid
 have hset:B.set id (Qf L)=B:=by
  apply List.ext_getElem?;intro i;rw[List.getElem?_set];split
  ·rename_i h;subst h;rw[hid]
  ·rfl
 match L with
 | []=>
  refine⟨[],?_⟩;rw[Qa F.tb_172 _ _ rfl];simp[F.f172C,Yw];simpa using hset.symm
 | [x]=>
  refine⟨[],?_⟩;rw[Qa F.tb_172 _ _ rfl];simp[F.f172C,Yw];simpa using hset.symm
 | x:: y:: r=>
  have h:=QaR B id (r.length+2) hB (by simpa using hn) (y:: r) [] x;rw[Qa F.tb_172 _ _ rfl,Ul];simp only[List.nil_append,hset]at h;have hge: ¬((r.length:Int)+1+1 < 2):=by omega
  simp[F.f172C,hge];refine h _ (by simp;omega) (fun z hz=>hm z hz) ?_ ?_ ?_ <;> simp
end Go.Am
namespace Go.Am
set_option maxRecDepth 8000
theorem J6 {α:Type} {B:List α} {i:Nat} {x:α} (h:B[i]? =some x):B.set i x=B:=by
 apply List.ext_getElem?;intro j;rw[List.getElem?_set];split
 ·rename_i e;subst e;split
  ·exact h.symm
  ·rename_i hl;rw[List.getElem?_eq_none (by omega)]
 ·rfl
theorem Zp {α:Type} {B:List α} {i:Nat} {x:α} (h:B[i]? =some x):i < B.length:=by
 rcases Nat.lt_or_ge i B.length with h1 | h1
 ·exact h1
 ·rw[List.getElem?_eq_none h1]at h;cases h
theorem NP (l:List Tm): (encTs l).flatten=Qf l:=by rw[YE];rfl
theorem Sz (L:List Tm) (B:List (List AV)) (g:Nat) (hg:B[g]? =some (Qf L)) (hn:L.length < 100000000) (hm: ∀x∈L,x.mass < big):
  call F.tb 170 [.gs g 0 4 L.length,.fn 30 []] B=some (.tup [],B.set g (Qf (Zt L))):=by
 rw[ZA F.tb_170];have hlen: (Qf L).length=L.length*4:=Za Qm L;have hch:QY (Qf L) 0 4 L.length=encTs L:=by
  have:=YS (f:=Qb) (k:=4) Qm QJ L [];rw[List.append_nil,Vf]at this;exact this
 have hall:L.all (fun t=>decide (t.mass < big))=true:=by
  rw[List.all_eq_true];intro x hx;simpa using hm x hx
 simp only[SQ];by_cases h0:L.length=0
 ·have:L=[]:=List.eq_nil_of_length_eq_zero h0;subst this;simp[Zt];exact(J6 hg).symm
 ·have hsl: (Qf (Zt L)).length=(Qf L).length:=by rw[Za Qm,Za Qm,XE]
  have hput:put (Qf L) 0 (encTs (Zt L)).flatten=Qf (Zt L):=by
   rw[NP];simp only[put,List.take_zero,List.nil_append,Nat.zero_add];rw[hsl,List.drop_length,List.append_nil]
  rw[if_neg h0,if_pos ⟨trivial,by omega⟩,hg];simp only[Option.bind_some];rw[if_pos (by omega),hch,decE_enc];simp only[Option.bind_some];rw[if_pos hall,hput]
theorem Av (C:List Tm) (t:List AV) (B:List (List AV)) (g:Nat) (hB:g < B.length) (hn:C.length < 100000000) (hne:C≠[]) (hm: ∀x∈C,x.mass < big): ∀(post pre:List Tm) (ρ:Nat→AV),C=pre ++ post→ρ 0= .gs g 0 4 C.length→ρ 9= .int .i64 C.length→ρ 10= .int .i64 pre.length→
  R F.tb (.loop F.f169l0) ρ (B.set g (Qf C ++ t)) (Qi 0 (Qu F.tb F.f169r0 (Qy F.f169 B)))=some (.sl true 4 (encTs C),B.set g []):=by
 have hch:QY (Qf C ++ t) 0 4 C.length=encTs C:=by
  have:=YS (f:=Qb) (k:=4) Qm QJ C t;rw[Vf]at this;exact this
 have hlen: (Qf C).length=C.length*4:=Za Qm C;intro post
 induction post with
 | nil=>
  intro pre ρ hk h0 h9 h10;simp only[List.append_nil]at hk;rw[← hk]at h10;have hz: ¬C.length=0:=fun e=>hne (List.eq_nil_of_length_eq_zero e);have hle:C.length*4≤(Qf C ++ t).length:=by rw[List.length_append,hlen];omega
  have hg:gpfreeE (encTs C)=true:=encTs_gp C;rw[Qd F.f169l0.eq_1];generalize Qf C ++ t=c at *;simp[h0,h9,h10,F.f169r0,Zb,hz,hle,hB,hch,hne,List.take_of_length_le]
 | cons x post IH=>
  intro pre ρ hk h0 h9 h10;have hl:=QM hk;have hst: (Qf C).map AV.strip=Qf C:=Zr QJ C;have r1:=Xf (f:=Qb) (k:=4) Qm hk t;have r1': (((Qf C ++ t).drop (pre.length*4)).take 4).map AV.strip=Qb x:=by rw[r1];exact QJ x
  have hput:=T2 (f:=Qb) (k:=4) Qm x hk t;rw[← hk]at hput;have hw1:=wr1 pre.length (by omega);have hlt:=QO hk;have hlt':pre.length < C.length:=by omega
  have hle:pre.length*4+4≤(Qf C ++ t).length:=by rw[List.length_append,hlen];omega
  have hc:=fun bs=>TK x bs (hm x (by rw[hk];simp));rw[Qd F.f169l0.eq_1];rw[List.map_take,List.map_drop]at r1';have ih:=IH (pre ++ [x]);change List.take (pre.length*4) (Qf C ++ t)++ (Qb x ++ List.drop (pre.length*4+4) (Qf C ++ t))=Qf C ++ t at hput;generalize Qf C ++ t=c at *;simp[h0,h9,h10,hlt,hlt',hw1,hB,hle,r1',hc,hput];rw[ih] <;> simp[h0,h9,hk]
theorem Pz (L:List Tm) (B:List (List AV)) (g:Nat) (hg:B[g]? =some (Qf L)) (hne:L≠[]) (hn:L.length < 100000000) (hm: ∀x∈L,x.mass < big):
  call F.tb 169 [.gs g 0 4 L.length] B=some (.sl true 4 (encTs (Zv L)),B.set g []):=by
 have hB:=Zp hg;have hs:=Sz L B g hg hn hm;have hS: (B.set g (Qf (Zt L)))[g]? =some (Qf (Zt L)):=by simp[hB]
 obtain⟨t,hc⟩:=KE (Zt L) (B.set g (Qf (Zt L))) g hS (by rw[XE];exact hn) (fun x hx=>hm x (Wx.1 hx));rw[S0,XE,List.set_set]at hc;have hCne:Zv L≠[]:=by
  obtain⟨x,hx⟩:=List.exists_mem_of_ne_nil L hne;intro e;have:=Vc.2 hx;rw[e]at this;simp at this
 have hl:=Av (Zv L) t B g hB (by have:=J5 L;omega) hCne (fun x hx=>hm x (Vc.1 hx)) (Zv L) [];rw[Qa F.tb_169 _ _ rfl];simp[F.f169C,hs,hc];refine hl _ rfl ?_ ?_ ?_ <;> simp
theorem Pi (B:List (List AV)):call F.tb 169 [.gs 0 0 0 0] B=some (.sl true 4 [],B):=by
 rw[Qa F.tb_169 _ _ rfl];have hs:call F.tb 170 [.gs 0 0 0 0,.fn 30 []] B=some (.tup [],B):=by rw[ZA F.tb_170];simp[SQ]
 have hc:call F.tb 172 [.gs 0 0 0 0,.fn 171 []] B=some (.gs 0 0 0 0,B):=by
  rw[Qa F.tb_172 _ _ rfl];simp[F.f172C]
 simp[F.f169C,hs,hc];rw[Qd F.f169l0.eq_1];simp[F.f169r0,Zb]
end Go.Am
namespace Go.Am
set_option maxRecDepth 8000
def Wst (B0:List (List AV)) (k:Int) (acc:List Tm) (bs:List (List AV)):Prop:=
 B0.length+2≤bs.length∧bs.take B0.length=B0∧bs[B0.length]? =some [.int .i64 k]∧
  ((acc=[]∧bs[B0.length+1]? =some [.gs 0 0 0 0])∨(acc≠[]∧∃g,B0.length+1 < g∧bs[B0.length+1]? =some [.gs g 0 4 acc.length]∧bs[g]? =some (Qf acc)))
theorem UC {α:Type} {bs c:List α} {n i:Nat} {y:α} (h:n≤bs.length) (hi:n≤i): ((bs ++ c).set i y).take n=bs.take n:=by
 apply List.ext_getElem?;intro j;rw[List.getElem?_take,List.getElem?_take];split
 ·rw[List.getElem?_set_ne (by omega),List.getElem?_append_left (by omega)]
 ·rfl
def Xx:List AV:=[.int .i64 0,.str [],.int .i64 0,.sl false 4 []]
theorem GJ (B0:List (List AV)) (k:Int) (acc:List Tm) (bs:List (List AV)) (x:Tm) (hw:Wst B0 k acc bs) (ha:acc.length < 100000000):
  ∃bs',call F.tb 167 [.agg (Qb x),.gp B0.length 0,.gp (B0.length+1) 0] bs=some (.tup [],bs')∧Wst B0 k (acc ++ if x.kind=k then [x]else []) bs':=by
 obtain⟨h1,h2,h3,h4⟩:=hw;have hgx:=Qj x;by_cases hk:x.kind=k
 ·rcases h4 with⟨rfl,h4⟩ | ⟨hne,g,hg,h4,h5⟩
  ·have hl1: ¬bs.length=B0.length+1:=by omega
   refine⟨((bs ++ [Qb x]).set (B0.length+1) [.gs bs.length 0 4 1]),?_,?_⟩
   ·rw[Qa F.tb_167 _ _ rfl];have e1: (bs ++ [Xx])[bs.length]? =some Xx:=List.getElem?_concat_length;have e2: (bs ++ [Xx]).set bs.length (Qb x)=bs ++ [Qb x]:=by rw[List.set_append];simp
    have e3: (bs ++ [Qb x])[B0.length+1]? =some [.gs 0 0 0 0]:=by rw[List.getElem?_append_left (by omega)];exact h4
    simp only[Xx]at e1 e2;simp[F.f167,F.f167C,hk,h3,h4,appM,Xd,hl1,e1,e2,e3,Zw]
   ·refine⟨by simp;omega,?_,?_,.inr ⟨by simp[hk],bs.length,by omega,?_,?_⟩⟩
    ·rw[UC (by omega) (by omega)];exact h2
    ·rw[List.getElem?_set_ne (by omega),List.getElem?_append_left (by omega)];exact h3
    ·rw[List.getElem?_set_self (by simp;omega)];simp[hk]
    ·rw[List.getElem?_set_ne (by omega),List.getElem?_concat_length];simp[hk,Zs]
  ·have hl1: ¬bs.length=B0.length+1:=by omega
   have hgl:=Zp h5;have hlen: (Qf acc).length=acc.length*4:=Za Qm acc;have hst: (Qf acc).map AV.strip=Qf acc:=Zr QJ acc;have htk: (Qf acc).take (acc.length*4)=Qf acc:=List.take_of_length_le (by omega);have hb: (acc.length+1)*56≤140737488355328:=by omega
   have hn1: ¬(acc.length+1)*4≤acc.length*4:=by omega
   have hput: (Qf acc ++ Xx).take (acc.length*4)++ (Qb x ++ (Qf acc ++ Xx).drop (acc.length*4+4))=Qf (acc ++ [x]):=by
    rw[← hlen,List.take_left,List.drop_eq_nil_of_le (by simp[Xx])];simp[Qf,XH,T1]
   have hzl: (Qf acc ++ Xx).length=acc.length*4+4:=by rw[List.length_append,hlen];rfl
   have hne0:Qf acc≠[]:=fun e=>by rw[e]at hlen;cases acc with
    | nil=>exact hne rfl
    | cons y ys=>simp at hlen
   have hlt: (acc.length:Int) < (acc.length:Int)+1:=by omega
   refine⟨((bs.set g []++ [Qf (acc ++ [x])]).set (B0.length+1) [.gs bs.length 0 4 (acc.length+1)]),?_,?_⟩
   ·rw[Qa F.tb_167 _ _ rfl];have e1: (bs.set g []++ [Qf acc ++ Xx])[bs.length]? =some (Qf acc ++ Xx):=by
     have:bs.length=(bs.set g []).length:=by simp
     rw[this];exact List.getElem?_concat_length
    have e2: (bs.set g []++ [Qf acc ++ Xx]).set bs.length (Qf (acc ++ [x]))=bs.set g []++ [Qf (acc ++ [x])]:=by rw[List.set_append];simp
    have e3: (bs.set g []++ [Qf (acc ++ [x])])[B0.length+1]? =some [.gs g 0 4 acc.length]:=by
     rw[List.getElem?_append_left (by simp;omega),List.getElem?_set_ne (by omega)];exact h4
    have hz:Xx=[.int .i64 0,.str [],.int .i64 0,.sl false 4 []]:=rfl;rw[hz]at e1 e2 hput hzl;generalize Qf (acc ++ [x])=r2 at *;generalize Qf acc=r1 at *;simp[F.f167,F.f167C,hk,h3,h4,h5,appM,Xd,hl1,hb,hne0,hlen,hn1,htk,hst,Zw];generalize r1 ++ [AV.int IntKind.i64 0,AV.str [],AV.int IntKind.i64 0,AV.sl false 4 []]=r3 at *;simp[hlt,e1,e2,e3,hput,hzl,hl1,Zw,h3]
   ·refine⟨by simp;omega,?_,?_,.inr ⟨by simp[hk],bs.length,by omega,?_,?_⟩⟩
    ·rw[UC (by simp;omega) (by omega),List.take_set_of_le (by omega)];exact h2
    ·rw[List.getElem?_set_ne (by omega),List.getElem?_append_left (by simp;omega),List.getElem?_set_ne (by omega)];exact h3
    ·rw[List.getElem?_set_self (by simp;omega)];simp[hk]
    ·rw[List.getElem?_set_ne (by omega)];have:bs.length=(bs.set g []).length:=by simp
     rw[this,List.getElem?_concat_length];simp[hk]
 ·refine⟨bs,?_,by simpa[hk]using⟨h1,h2,h3,h4⟩⟩;rw[Qa F.tb_167 _ _ rfl];simp[F.f167,F.f167C,hk,h3]
end Go.Am
