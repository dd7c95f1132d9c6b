/-
  Ge12, Ge26, Ge27, Ge28, Ge15, Rc1, Rc2, Rc3, Rc4, Rc5.
-/
import Derived.Test.YtpgbndmkiiakaaaGreatDoorG14
set_option linter.unusedVariables false
set_option linter.unusedSimpArgs false
namespace Go.Am
set_option maxRecDepth 8000
def VV (k:Tm):Bool:=k.kind == 3 || k.sort != 1
mutual
def Z8:Tm→Int
 | .mk k n _ ks=>if k≠3 then 0 else match Zs n YA with
  | none=>10
  | some y=>if(ks.length:Int) < y.l∨y.m < ks.length then 6 else if(n=[115,107]∨n=[115,104,107])∧ks.any VV then 10
   else if n=[110,101,119]∧ks.head?.map Tm.kind≠some 2 then 10 else chkL ks
def chkL:List Tm→Int
 | []=>0
 | t:: ts=>if Z8 t≠0 then Z8 t else chkL ts
end
theorem Qfj (t:Tm) (bs:List (List AV)) (hm:t.mass < big) (ih: ∀x∈t.kids,∀bs,call F.tb 42 [.agg (Qa x)] bs=some (.int .i64 (Z8 x),bs)):
  ∀(post pre:List Tm) (ρ:Nat→AV),t.kids=pre ++ post→ρ 62= .sl false 4 (encTs t.kids)→ρ 63= .int .i64 t.kids.length→ρ 64= .int .i64 pre.length→
  R F.tb (.loop F.f42l1) ρ bs (Ql 3 (Qr F.tb F.f42r0 (Qt F.f42 bs)))=some (.int .i64 (chkL post),bs):=by
 have hm2:=Qo t;unfold big at hm;intro post
 induction post with
 | nil=>
  intro pre ρ hk h1 h2 h3;rw[Qc F.f42l1.eq_1];simp at hk;rw[← hk]at h3;simp[h1,h2,h3,F.f42r0,chkL]
 | cons x post IH=>
  intro pre ρ hk h1 h2 h3;have hg:=Qp hk;have hl:=Qx hk;have hw1:=wr1 pre.length (by omega);have hlt:=Qy hk;rw[Qc F.f42l1.eq_1];by_cases hc:Z8 x=0
  ·simp[h1,h2,h3,hg,hw1,hlt,ih x (by rw[hk];simp),hc,chkL];rw[IH (pre ++ [x])] <;> simp[h1,h2,hk]
  ·simp[h1,h2,h3,hg,hw1,hlt,ih x (by rw[hk];simp),hc,chkL]
theorem Ei (t:Tm) (bs:List (List AV)) (hm:t.mass < big) (ih: ∀x∈t.kids,∀bs,call F.tb 42 [.agg (Qa x)] bs=some (.int .i64 (Z8 x),bs)) (ρ:Nat→AV) (h1:ρ 1= .bx (Qa t)):
  R F.tb F.f42r1 ρ bs (Qt F.f42 bs)=some (.int .i64 (chkL t.kids),bs):=by
 simp[F.f42r1,h1,Qg];refine Qfj t bs hm ih t.kids [] _ rfl ?_ ?_ ?_ <;> simp
theorem Qfi (t:Tm) (bs:List (List AV)) (hm:t.mass < big) (ih: ∀x∈t.kids,∀bs,call F.tb 42 [.agg (Qa x)] bs=some (.int .i64 (Z8 x),bs)):
  ∀(post pre:List Tm) (ρ:Nat→AV),t.kids=pre ++ post→ρ 1= .bx (Qa t)→ρ 38= .sl false 4 (encTs t.kids)→ρ 39= .int .i64 t.kids.length→ρ 40= .int .i64 pre.length→
  R F.tb (.loop F.f42l0) ρ bs (Ql 1 (Ql 0 (Qr F.tb F.f42r1 (Qt F.f42 bs))))=some (.int .i64 (if post.any VV then 10 else chkL t.kids),bs):=by
 have hm2:=Qo t;have hm0:=hm;unfold big at hm;intro post
 induction post with
 | nil=>
  intro pre ρ hk h0 h1 h2 h3;rw[Qc F.f42l0.eq_1];simp at hk;rw[← hk]at h3;simp[h0,h1,h2,h3];rw[Ei t bs hm0 ih] <;> simp[h0]
 | cons x post IH=>
  intro pre ρ hk h0 h1 h2 h3;have hg:=Qp hk;have hl:=Qx hk;have hw1:=wr1 pre.length (by omega);have hlt:=Qy hk;rw[Qc F.f42l0.eq_1];by_cases h3':x.kind=3
  ·simp[h0,h1,h2,h3,hg,hw1,hlt,Qg,h3',VV]
  ·by_cases h4:x.sort=1
   ·have hb:VV x=false:=by simp[VV,h3',h4]
    have hb3: (x.kind == 3)=false:=by simp[h3']
    simp[h0,h1,h2,h3,hg,hw1,hlt,Qg x,h3',h4,hb,hb3];rw[IH (pre ++ [x])] <;> simp[h0,h1,h2,hk,hb]
   ·have hb:VV x=true:=by simp[VV,h4]
    have hb3: (x.kind == 3)=false:=by simp[h3']
    have hb4: (x.sort != 1)=true:=by simp[h4]
    simp[h0,h1,h2,h3,hg,hw1,hlt,Qg x,h3',h4,hb,hb3,hb4]
theorem Nw {n:List UInt8} {y:Sy}: ∀{l:List Sy},Zs n l=some y→y∈l∧y.n=n
 | [],h=>by simp[Zs]at h
 | s:: ss,h=>by
  simp only[Zs]at h;split at h
  ·rename_i e;injection h with h;subst h;exact⟨by simp,e⟩
  ·have:=Nw h;exact⟨List.mem_cons_of_mem _ this.1,this.2⟩
theorem QeE {y:Sy} (h:y∈YA):y.k≠0∧(y.n=[110,101,119]→y.l=1):=by
 have:YA.all (fun y=>y.k≠0∧(y.n=[110,101,119]→y.l=1))=true:=by decide
 have:=List.all_eq_true.1 this y h;simpa only[decide_eq_true_eq]using this
theorem Ef: ∀(t:Tm) (bs:List (List AV)),t.mass < big→call F.tb 42 [.agg (Qa t)] bs=some (.int .i64 (Z8 t),bs):=by
 refine Zp ?_;intro k n s ks ih bs hm;have hmk:=Qo (.mk k n s ks);have ih': ∀x∈(Tm.mk k n s ks).kids,∀bs,call F.tb 42 [.agg (Qa x)] bs=some (.int .i64 (Z8 x),bs):=fun x hx bs=>ih x hx bs (by
  have:=QD hx;simp at *;omega)
 have r1:=fun ρ h=>Ei (.mk k n s ks) bs hm ih' ρ h;have l0:=fun ρ h0 h1 h2 h3=>Qfi (.mk k n s ks) bs hm ih' ks [] ρ rfl h0 h1 h2 h3;simp only[Qa,QN,List.length_nil]at r1 l0;rw[Qb F.tb_42 _ _ rfl];by_cases hk:k=3
 ·subst hk;cases hy:Zs n YA with
  | none=>simp[F.f42C,Qa,Y8,hy,Z8]
  | some y=>
   obtain⟨hy1,hy2⟩:=Nw hy;obtain⟨hy3,hy4⟩:=QeE hy1;by_cases ha: (ks.length:Int) < y.l
   ·simp[F.f42C,Qa,Y8,hy,hy3,ha,Wf,Z8]
   ·by_cases hb:y.m < (ks.length:Int)
    ·simp[F.f42C,Qa,Y8,hy,hy3,ha,hb,Wf,Z8]
    ·by_cases h1:n=[115,107]
     ·subst h1;simp[F.f42C,Qa,Y8,hy,hy3,ha,hb,Wf,Z8];rw[l0] <;> simp
     ·by_cases h2:n=[115,104,107]
      ·subst h2;simp[F.f42C,Qa,Y8,hy,hy3,ha,hb,Wf,Z8];rw[l0] <;> simp
      ·have b1: (n == [115,107])=false:=by simp[h1]
       have b2: (n == [115,104,107])=false:=by simp[h2]
       by_cases h3:n=[110,101,119]
       ·subst h3;have hl:=hy4 hy2;cases ks with
        | nil=>simp at ha;omega
        | cons x xs=>
         have ha': ¬((xs.length:Int)+1 < y.l):=by simpa using ha
         have hb': ¬(y.m < (xs.length:Int)+1):=by simpa using hb
         by_cases hx:x.kind=2
         ·simp[F.f42C,Qa,encTs,Qg x,Y8,hy,hy3,ha',hb',Wf,Z8,hx]at *;refine(r1 _ ?_).trans ?_ <;> simp[encTs,Qg x]
         ·simp[F.f42C,Qa,encTs,Qg x,Y8,hy,hy3,ha',hb',Wf,Z8,hx]
       ·have b3: (n == [110,101,119])=false:=by simp[h3]
        simp[F.f42C,Qa,Y8,hy,hy3,ha,hb,Wf,Z8,h1,h2,h3,b1,b2,b3];rw[r1] <;> simp
 ·simp[F.f42C,Qa,hk,Z8]
def thV (t:Tm):Int:=if QF t≠0 then QF t else Z8 t
theorem VD (t:Tm) (bs:List (List AV)) (hm:t.mass < big):call F.tb 41 [.agg (Qa t)] bs=some (.int .i64 (thV t),bs):=by
 rw[Qb F.tb_41 _ _ rfl];have h1:=XW t bs hm;have h2:=Ef t bs hm;rw[Qg]at *;by_cases h:QF t=0
 ·simp[F.f41C,h1,h2,h,thV]
 ·simp[F.f41C,h1,h,thV]
theorem Mg {α:Type} {l pre post:List α} {x:α} (h:l=pre ++ x:: post) (hb:l.length < 4611686018427387904):
  l[pre.length]? =some x∧IntKind.i64.wrap ((pre.length:Int)+1)=(pre.length:Int)+1∧(pre.length:Int) < (l.length:Int)∧x∈l:=by
 have hl:l.length=pre.length+ (post.length+1):=by rw[h];simp
 exact⟨Qp h,ZG (by omega) (by omega),by omega,by rw[h];simp⟩
theorem MO {t:Tm} (h:t.mass < big):t.kids.length < 4611686018427387904:=by
 have:=Qo t;unfold big at h;omega
theorem EY {t x:Tm} (h:t.mass < big) (hx:x∈t.kids):x.mass < big:=by
 have:=QD hx;have:=Qo t;omega
theorem AY (t:Tm) (bs:List (List AV)) (hm:t.mass < big):call F.tb 56 [.agg (Qa t)] bs=some (.int .i64 (Xd t),bs):=by
 rw[Qb F.tb_56 _ _ rfl];have hn:=F6 t.name bs (by have:=Qo t;unfold big at hm;omega);have hks: ((8:Int) < t.kids.length)=(8 < t.kids.length):=by rw[eq_iff_iff];omega
 obtain⟨k,n,s,ks⟩:=t;simp at hn hks;unfold Xd;simp only[YJ,Wu,Q5,QN];by_cases k1:k=1
 ·subst k1;simp[F.f56C,Qa,hn,hks];rcases Bool.eq_false_or_eq_true (Y6 n)with c4 | c4 <;> by_cases c1:s < 0 <;> by_cases c2:5 < s <;> by_cases c3:0 < ks.length <;> simp[c1,c2,c3,c4] <;> omega
 by_cases k2:k=2
 ·subst k2;simp[F.f56C,Qa,hn,hks];rcases Bool.eq_false_or_eq_true (Y6 n)with c4 | c4 <;> by_cases c1:s < 0 <;> by_cases c2:5 < s <;> by_cases c3:0 < ks.length <;> simp[c1,c2,c3,c4] <;> omega
 by_cases k3:k=3
 ·subst k3;simp[F.f56C,Qa,hn,hks];rcases Bool.eq_false_or_eq_true (Y6 n)with c4 | c4 <;> by_cases c1:s < 0 <;> by_cases c2:5 < s <;> by_cases c3:s=0 <;> simp[c1,c2,c3,c4] <;> omega
 ·simp[F.f56C,Qa,hn,hks,k1,k2,k3]
theorem DE (t:Tm) (bs:List (List AV)) (hm:t.mass < big) (ih: ∀x∈t.kids,∀bs,call F.tb 55 [.agg (Qa x)] bs=some (.int .i64 (ZI x),bs)):
  ∀(post pre:List Tm) (ρ:Nat→AV),t.kids=pre ++ post→ρ 1= .bx (Qa t)→ρ 4= .int .i64 pre.length→
  R F.tb (.loop F.f55l0) ρ bs (Ql 0 (Qr F.tb F.f55r0 (Qt F.f55 bs)))=some (.int .i64 (errL post),bs):=by
 intro post
 induction post with
 | nil=>
  intro pre ρ hk h1 h4;rw[Qc F.f55l0.eq_1];simp at hk;simp[h1,h4,← hk,F.f55r0,errL]
 | cons x post IH=>
  intro pre ρ hk h1 h4;obtain⟨hg,hw,hlt,hx⟩:=Mg hk (MO hm);have hh:=ih x hx bs;rw[Qc F.f55l0.eq_1];by_cases he:ZI x=0
  ·simp[h1,h4,hg,hw,hlt,hh,he,errL];rw[IH (pre ++ [x])] <;> simp[h1,hk]
  ·simp[h1,h4,hg,hw,hlt,hh,he,errL]
theorem DP: ∀(t:Tm) (bs:List (List AV)),t.mass < big→call F.tb 55 [.agg (Qa t)] bs=some (.int .i64 (ZI t),bs):=by
 refine Zp ?_;intro k n s ks ih bs hm;have hl:=DE (.mk k n s ks) bs hm (fun x hx bs=>ih x hx bs (EY hm hx)) ks [];have hn:=AY (.mk k n s ks) bs hm;rw[Qb F.tb_55 _ _ rfl];by_cases he:Xd (.mk k n s ks)=0
 ·simp[F.f55C,hn,he,ZI];rw[hl] <;> simp
 ·simp[F.f55C,hn,he,ZI]
theorem YQ (t:Tm) (bs:List (List AV)) (hm:t.mass < big):call F.tb 54 [.agg (Qa t)] bs=some (.int .i64 (QF t),bs):=by
 have h1:=DP t bs hm;have h2:=Ni t bs hm;have h3:=DN t bs hm;rw[Qb F.tb_54 _ _ rfl];have e1: (400 < (t.nodes:Int))=(400 < t.nodes):=by rw[eq_iff_iff];omega
 have e2: (40 < (t.depth:Int))=(40 < t.depth):=by rw[eq_iff_iff];omega
 simp[F.f54C,h1,h2,h3,e1,e2,QF];by_cases he:ZI t=0 <;> by_cases c1:400 < t.nodes <;> by_cases c2:40 < t.depth <;> simp[he,c1,c2]
theorem NR (bs:List (List AV)):call F.tb 129 [] bs=some (.sl true 4 (XY YA),bs):=by
 rw[Qb F.tb_129 _ _ rfl];simp[F.f129,F.f129C,YA,XY,Wf]
theorem Qa7 (n:List UInt8) (bs:List (List AV)) (l:List Sy) (hl:l.length < 1000): ∀(post pre:List Sy) (ρ:Nat→AV),l=pre ++ post→ρ 0= .str n→(∃o,ρ 3= .sl o 4 (XY l))→ρ 4= .int .i64 pre.length→
  R F.tb (.loop F.f128l0) ρ bs (Ql 0 (Qr F.tb F.f128r0 (Qt F.f128 bs)))=some (.int .i64 (match Zs n post with | some y=>y.k | none=>0),bs):=by
 intro post
 induction post with
 | nil=>
  intro pre ρ hk h0 ⟨o,h3⟩ h4;rw[Qc F.f128l0.eq_1];simp at hk;rw[← hk]at h4;simp[h0,h3,h4,F.f128r0,Zs]
 | cons x post IH=>
  intro pre ρ hk h0 ⟨o,h3⟩ h4;have hg:=Mu hk;obtain⟨_,hw,hlt,_⟩:=Mg hk (by omega);rw[Qc F.f128l0.eq_1];by_cases hx:x.n=n
  ·simp[h0,h3,h4,hg,hw,hlt,Wf,hx,Zs]
  ·have hxb: (x.n == n)=false:=by simp[hx]
   simp[h0,h3,h4,hg,hw,hlt,Wf,hx,hxb,Zs];rw[IH (pre ++ [x])] <;> simp[h0,h3,hk]
theorem I2 (n:List UInt8) (bs:List (List AV)):call F.tb 128 [.str n] bs=some (.int .i64 (match Zs n YA with | some y=>y.k | none=>0),bs):=by
 rw[Qb F.tb_128 _ _ rfl];simp[F.f128C,NR];rw[Qa7 n bs YA (by decide) YA []] <;> simp
theorem QdC (t:Tm) (bs:List (List AV)) (l:List Sy) (hl:l.length < 1000): ∀(post pre:List Sy) (ρ:Nat→AV),l=pre ++ post→ρ 1= .bx (Qa t)→(∃o,ρ 3= .sl o 4 (XY l))→ρ 4= .int .i64 pre.length→
  R F.tb (.loop F.f130l0) ρ bs (Ql 0 (Qr F.tb F.f130r0 (Qt F.f130 bs)))=
   some (.bool (match Zs t.name post with | some y=>decide (y.l≤t.kids.length) && decide (t.kids.length≤y.m) | none=>false),bs):=by
 intro post
 induction post with
 | nil=>
  intro pre ρ hk h1 ⟨o,h3⟩ h4;rw[Qc F.f130l0.eq_1];simp at hk;rw[← hk]at h4;simp[h1,h3,h4,F.f130r0,Zs]
 | cons x post IH=>
  intro pre ρ hk h1 ⟨o,h3⟩ h4;have hg:=Mu hk;obtain⟨_,hw,hlt,_⟩:=Mg hk (by omega);rw[Qc F.f130l0.eq_1];by_cases hx:x.n=t.name
  ·by_cases c1:x.l≤t.kids.length <;>
   simp[h1,h3,h4,hg,hw,hlt,Wf,hx,Zs,c1]
  ·have hxb: (x.n == t.name)=false:=by simp[hx]
   simp[h1,h3,h4,hg,hw,hlt,Wf,hx,hxb,Zs];rw[IH (pre ++ [x])] <;> simp[h1,h3,hk]
theorem Qc9 (t:Tm) (bs:List (List AV)):call F.tb 130 [.agg (Qa t)] bs=
  some (.bool (match Zs t.name YA with | some y=>decide (y.l≤t.kids.length) && decide (t.kids.length≤y.m) | none=>false),bs):=by
 rw[Qb F.tb_130 _ _ rfl];simp[F.f130C,NR];rw[QdC t bs YA (by decide) YA []] <;> simp
theorem DI (t:Tm) (bs:List (List AV)) (hm:t.mass < big): ∀(post pre:List Tm) (ρ:Nat→AV),t.kids=pre ++ post→ρ 1= .bx (Qa t)→ρ 3= .int .i64 pre.length→
  R F.tb (.loop F.f131l0) ρ bs (Ql 0 (Qr F.tb F.f131r0 (Qt F.f131 bs)))=some (.bool (!(post.any VV)),bs):=by
 intro post
 induction post with
 | nil=>
  intro pre ρ hk h1 h3;rw[Qc F.f131l0.eq_1];simp at hk;simp[h1,h3,← hk,F.f131r0]
 | cons x post IH=>
  intro pre ρ hk h1 h3;obtain⟨hg,hw,hlt,hx⟩:=Mg hk (MO hm);rw[Qc F.f131l0.eq_1];by_cases c1:x.kind=3 <;> by_cases c2:x.sort=1 <;>
   simp[h1,h3,hg,hw,hlt,c1,c2,VV]
  rw[IH (pre ++ [x])] <;> simp[h1,hk,VV]
theorem DQ (t:Tm) (bs:List (List AV)) (hm:t.mass < big) (hk:t.name=[110,101,119]→t.kids≠[]):call F.tb 131 [.agg (Qa t)] bs=
  some (.bool (if t.name=[110,101,119]then decide (t.kids.head?.map Tm.kind=some 2)else !(t.kids.any VV)),bs):=by
 rw[Qb F.tb_131 _ _ rfl];by_cases hn:t.name=[110,101,119]
 ·cases hkk:t.kids with
  | nil=>exact absurd hkk (hk hn)
  | cons x xs=>simp[F.f131C,hn,hkk,Qg t,encTs]
 ·have hnb: (t.name == [110,101,119])=false:=by simp[hn]
  simp[F.f131C,hn,hnb];rw[DI t bs hm t.kids []] <;> simp
theorem HL (t:Tm) (bs:List (List AV)) (hm:t.mass < big) (ih: ∀x∈t.kids,∀bs,call F.tb 127 [.agg (Qa x)] bs=some (.int .i64 (Z8 x),bs)):
  ∀(post pre:List Tm) (ρ:Nat→AV),t.kids=pre ++ post→ρ 1= .bx (Qa t)→ρ 4= .int .i64 pre.length→
  R F.tb (.loop F.f127l0) ρ bs (Ql 0 (Qr F.tb F.f127r0 (Qt F.f127 bs)))=some (.int .i64 (chkL post),bs):=by
 intro post
 induction post with
 | nil=>
  intro pre ρ hk h1 h4;rw[Qc F.f127l0.eq_1];simp at hk;simp[h1,h4,← hk,F.f127r0,chkL]
 | cons x post IH=>
  intro pre ρ hk h1 h4;obtain⟨hg,hw,hlt,hx⟩:=Mg hk (MO hm);have hh:=ih x hx bs;rw[Qc F.f127l0.eq_1];by_cases he:Z8 x=0
  ·simp[h1,h4,hg,hw,hlt,hh,he,chkL];rw[IH (pre ++ [x])] <;> simp[h1,hk]
  ·simp[h1,h4,hg,hw,hlt,hh,he,chkL]
theorem QeF {y:Sy} (h:y∈YA): (y.k=2)=(y.n=[115,107]∨y.n=[115,104,107]∨y.n=[110,101,119]):=by
 have:YA.all (fun y=>decide ((y.k=2)=(y.n=[115,107]∨y.n=[115,104,107]∨y.n=[110,101,119])))=true:=by
  simp only[eq_iff_iff];decide
 have:=List.all_eq_true.1 this y h;exact of_decide_eq_true this
theorem HR: ∀(t:Tm) (bs:List (List AV)),t.mass < big→call F.tb 127 [.agg (Qa t)] bs=some (.int .i64 (Z8 t),bs):=by
 refine Zp ?_;intro k n s ks ih bs hm;have hl:=HL (.mk k n s ks) bs hm (fun x hx bs=>ih x hx bs (EY hm hx)) ks [];have hf:=Qc9 (.mk k n s ks) bs;have ha:=DQ (.mk k n s ks) bs hm;have hkd:=I2 n bs;simp only[Q5,QN]at hf ha;rw[Qb F.tb_127 _ _ rfl];by_cases hk:k=3
 ·subst hk;simp only[Qa]at hf ha hl;cases hy:Zs n YA with
  | none=>
   rw[hy]at hkd;simp[F.f127C,Qa,hkd,hy,Z8]
  | some y=>
   obtain⟨hy1,hy2⟩:=Nw hy;obtain⟨hy3,hy4⟩:=QeE hy1;have hp:=QeF hy1;rw[hy]at hkd hf;simp only at hkd hf;by_cases c:y.l≤ks.length∧(ks.length:Int)≤y.m
   ·have c1:=c.1;have c2:=c.2;have d1: ¬(ks.length:Int) < y.l:=by omega
    have d2: ¬y.m < (ks.length:Int):=by omega
    have ha':=ha (fun e=>by
     have:=hy4 (by rw[hy2];exact e);intro e2;subst e2;simp at c1;omega)
    rw[hy2]at hp;have hl':=fun ρ=>hl ρ rfl;by_cases h1:n=[115,107]
    ·subst h1;have hk2:y.k=2:=by rw[hp];simp
     simp at ha';rcases Bool.eq_false_or_eq_true (ks.any VV)with c4 | c4 <;>
      simp[F.f127C,Qa,hkd,hk2,hf,c1,c2,d1,d2,ha',Z8,hy,c4]
     rw[hl'] <;> simp
    by_cases h2:n=[115,104,107]
    ·subst h2;have hk2:y.k=2:=by rw[hp];simp
     simp at ha';rcases Bool.eq_false_or_eq_true (ks.any VV)with c4 | c4 <;>
      simp[F.f127C,Qa,hkd,hk2,hf,c1,c2,d1,d2,ha',Z8,hy,c4]
     rw[hl'] <;> simp
    by_cases h3:n=[110,101,119]
    ·subst h3;have hk2:y.k=2:=by rw[hp];simp
     simp at ha';by_cases c4: ∃a,ks.head?=some a∧a.kind=2 <;>
      simp[F.f127C,Qa,hkd,hk2,hf,c1,c2,d1,d2,ha',Z8,hy,c4]
     rw[hl'] <;> simp
    ·have hk2: ¬y.k=2:=by rw[hp];simp[h1,h2,h3]
     have hk2b: (y.k == 2)=false:=by simp[hk2]
     simp[F.f127C,Qa,hkd,hk2,hy3,hf,c1,c2,d1,d2,Z8,hy,h1,h2,h3];rw[hl'] <;> simp
   ·have d: (ks.length:Int) < y.l∨y.m < ks.length:=by omega
    have e: (decide (y.l≤ks.length) && decide ((ks.length:Int)≤y.m))=false:=by
     rw[Bool.and_eq_false_iff];simp;omega
    have hf2:call F.tb 130 [.agg [.int .i64 3,.str n,.int .i64 s,.sl false 4 (encTs ks)]] bs=some (.bool (decide (y.l≤(ks.length:Int)) && decide ((ks.length:Int)≤y.m)),bs):=hf;rw[e]at hf2;simp[F.f127C,Qa,hkd,hy,hy3,hf2,d,Z8]
 ·simp[F.f127C,Qa,hk,Z8]
theorem VC (t:Tm) (bs:List (List AV)) (hm:t.mass < big):call F.tb 126 [.agg (Qa t)] bs=some (.int .i64 (thV t),bs):=by
 have h1:=YQ t bs hm;have h2:=HR t bs hm;rw[Qb F.tb_126 _ _ rfl];rw[Qg]at *;by_cases h:QF t=0
 ·simp[F.f126C,h1,h2,h,thV]
 ·simp[F.f126C,h1,h,thV]
theorem F3: ∀{a b:List UInt8},Xw a b=0→a=b:=by
 intro a b h;unfold Xw at h;split at h
 ·simp at h
 ·split at h
  ·rename_i h2;exact beq_iff_eq.1 h2
  ·simp at h
mutual
theorem ZY: ∀(t u:Tm),Qm t u=0→t=u
 | .mk k n s ks,.mk k' n' s' ks',h=>by
  rw[Tb,Tl]at h;obtain⟨h1,h2⟩:=h;unfold hdT at h1;simp only[Tl,Rq,YJ,Q5,Wu,QN]at h1 h2;obtain⟨_,h3,h4,h5,h6⟩:=h1;have e1:=F3 h4;have e2:=cmpL_eq0 ks ks' (by omega) h2;rw[h3,e1,h5,e2]
theorem cmpL_eq0: ∀(ts us:List Tm),ts.length=us.length→cmpL ts us=0→ts=us
 | [],[],_,_=>rfl
 | [],_:: _,h,_=>by simp at h
 | _:: _,[],h,_=>by simp at h
 | t:: ts,u:: us,h,h2=>by
  rw[cmpL,Tl]at h2;rw[ZY t u h2.1,cmpL_eq0 ts us (by simpa using h) h2.2]
end
theorem Nm {t u:Tm}:Qm t u=0↔t=u:=⟨ZY t u,fun h=>h▸Yn t⟩
def NO (acc:Nat) (l:List UInt8):Nat:=l.foldl (fun a c=>a*10+ (c.toNat - 48)) acc
theorem DC (acc:Nat):NO acc []=acc:=rfl
theorem HJ (acc:Nat) (c:UInt8) (r:List UInt8):NO acc (c:: r)=NO (acc*10+ (c.toNat - 48)) r:=by simp only[NO,List.foldl_cons]
theorem QgP (a b:List UInt8) (acc:Nat):NO acc (a ++ b)=NO (NO acc a) b:=by simp[NO]
theorem LR {n:Nat} (h:n < 10): (48+n).toUInt8.toNat=48+n:=by
 have: ∀n:Fin 10,(48+n.val).toUInt8.toNat=48+n.val:=by decide
 exact this ⟨n,h⟩
theorem BD {c:UInt8} {n:Nat} (hc:c.toNat=48+n) (h:n < 10):Ub c=true:=by
 simp only[Ub,hc,Bool.and_eq_true,decide_eq_true_eq];omega
theorem Et: ∀n:Nat,NO 0 (YI n)=n∧(YI n).all Ub=true∧YI n≠[]:=by
 intro n
 induction n using Nat.strongRecOn with
 | ind n ih=>
  by_cases h:n < 10
  ·rw[Wz h];have hd:=LR h;generalize (48+n).toUInt8=c at *;refine⟨?_,?_,by simp⟩
   ·simp only[HJ,DC,hd];omega
   ·simp only[List.all_cons,List.all_nil,Bool.and_true];exact BD hd h
  ·obtain⟨h1,h2,h3⟩:=ih (n / 10) (by omega);have hd:=LR (n:=n % 10) (by omega);rw[VR h];generalize (48+n % 10).toUInt8=c at *;refine⟨?_,?_,by simp⟩
   ·rw[QgP,h1];simp only[HJ,DC,hd];omega
   ·rw[List.all_append,h2];simp only[List.all_cons,List.all_nil,Bool.and_true,Bool.true_and];exact BD hd (by omega)
theorem Qfr {a b:Nat} (h:YI a=YI b):a=b:=by rw[← (Et a).1,← (Et b).1,h]
def isB (t:Tm) (n:List UInt8):Bool:=decide (t.kind=3) && (t.name == n)
theorem Ti {t:Tm} {n:List UInt8}:isB t n=true↔t.kind=3∧t.name=n:=by simp[isB]
theorem Rz (t:Tm) (n:List UInt8) (bs:List (List AV)):call F.tb 71 [.agg (Qa t),.str n] bs=some (.bool (isB t n),bs):=by
 rw[Qb F.tb_71 _ _ rfl];by_cases h:t.kind=3 <;> simp[F.f71,F.f71C,isB,h]
theorem Un (t:Tm) (n:List UInt8) (bs:List (List AV)):call F.tb 132 [.agg (Qa t),.str n] bs=some (.bool (isB t n),bs):=by
 rw[Qb F.tb_132 _ _ rfl];by_cases h:t.kind=3 <;> simp[F.f132,F.f132C,isB,h]
theorem K2 {n:Nat} (h:n < 10):Vh (48+n).toUInt8=true:=by
 have: ∀n:Fin 10,Vh (48+n.val).toUInt8=true:=by decide
 exact this ⟨n,h⟩
theorem Qde: ∀n:Nat,(YI n).all Vh=true:=by
 intro n
 induction n using Nat.strongRecOn with
 | ind n ih=>
  by_cases h:n < 10
  ·rw[Wz h];simp only[List.all_cons,List.all_nil,Bool.and_true];exact K2 h
  ·rw[VR h,List.all_append,ih _ (by omega)];simp only[List.all_cons,List.all_nil,Bool.and_true,Bool.true_and];exact K2 (by omega)
theorem VS: ∀(k n:Nat),n < 10 ^ (k+1)→(YI n).length≤k+1
 | 0,n,h=>by rw[Wz (by simpa using h)];simp
 | k+1,n,h=>by
  by_cases h0:n < 10
  ·rw[Wz h0];simp
  ·rw[VR h0,List.length_append];have:=VS k (n / 10) (by rw[Nat.pow_succ]at h;omega);simp;omega
theorem I3 (n:List UInt8) (ks:List Tm) (o:Bool) (bs:List (List AV)) (hl:ks.length≤1000):call F.tb 120 [.str n,.sl o 4 (encTs ks)] bs=some (.agg (Qa (.mk 3 n 0 ks)),bs):=by
 rw[Qb F.tb_120 _ _ rfl];have ha:ks.length*56≤140737488355328:=by omega
 simp[F.f120,F.f120C,WC,XM,ha,encTs_gp]
theorem NK (a b:Int):sgn b a= - sgn a b:=by unfold sgn;split <;> (try split) <;> (try split) <;> omega
theorem QeB {a b:Int}:sgn a b≤0↔a≤b:=by unfold sgn;split <;> (try split) <;> omega
theorem Kq: ∀a b:List UInt8,Op.bytesLess a b=true∨a=b∨Op.bytesLess b a=true
 | [],[]=> .inr (.inl rfl)
 | [],_:: _=> .inl rfl
 | _:: _,[]=> .inr (.inr rfl)
 | x:: xs,y:: ys=>by
  simp only[Op.bytesLess,Bool.or_eq_true,decide_eq_true_eq,Bool.and_eq_true,beq_iff_eq,List.cons.injEq];rcases Nat.lt_trichotomy x.toNat y.toNat with h | h | h
  ·have:x < y:=by rw[UInt8.lt_iff_toNat_lt];exact h
   simp[this]
  ·have e:x=y:=UInt8.toNat_inj.1 h;subst e;have hi: ¬x < x:=by rw[UInt8.lt_iff_toNat_lt];omega
   rcases Kq xs ys with h | h | h
   ·simp[hi,h]
   ·simp[hi,h]
   ·simp[hi,h]
  ·have:y < x:=by rw[UInt8.lt_iff_toNat_lt];exact h
   have h2: ¬x < y:=by rw[UInt8.lt_iff_toNat_lt];omega
   simp[this,h2]
theorem NA: ∀a b c:List UInt8,Op.bytesLess a b=true→Op.bytesLess b c=true→Op.bytesLess a c=true
 | [],_,[],_,h=>by cases ‹List UInt8› <;> simp[Op.bytesLess]at h
 | [],_,_:: _,_,_=>rfl
 | _:: _,[],_,h,_=>by simp[Op.bytesLess]at h
 | _:: _,_:: _,[],_,h=>by simp[Op.bytesLess]at h
 | x:: xs,y:: ys,z:: zs,h1,h2=>by
  have ih:=NA xs ys zs;simp only[Op.bytesLess,Bool.or_eq_true,decide_eq_true_eq,Bool.and_eq_true,beq_iff_eq]at h1 h2 ⊢;rcases h1 with h1 | ⟨rfl,h1⟩
  ·rcases h2 with h2 | ⟨rfl,h2⟩
   ·left;rw[UInt8.lt_iff_toNat_lt]at *;omega
   ·exact .inl h1
  ·rcases h2 with h2 | ⟨rfl,h2⟩
   ·exact .inl h2
   ·exact .inr ⟨rfl,ih h1 h2⟩
theorem Jl (a b:List UInt8) (h:Op.bytesLess a b=true):Op.bytesLess b a=false:=by
 cases hb:Op.bytesLess b a
 ·rfl
 ·have:=NA a b a h hb;rw[Xu]at this;cases this
theorem Mo (a b:List UInt8):Xw b a= - Xw a b:=by
 unfold Xw;rcases Kq a b with h | h | h
 ·have h2:=Jl a b h;have hne: (b == a)=false:=by
   rw[beq_eq_false_iff_ne];intro e;subst e;rw[Xu]at h;cases h
  simp[h,h2,hne]
 ·subst h;simp[Xu]
 ·have h2:=Jl b a h;have hne: (a == b)=false:=by
   rw[beq_eq_false_iff_ne];intro e;subst e;rw[Xu]at h;cases h
  simp[h,h2,hne]
theorem Qji {a b:List UInt8}:Xw a b≤0↔Op.bytesLess a b=true∨a=b:=by
 unfold Xw;split
 ·rename_i h;simp[h]
 ·rename_i h;split
  ·rename_i h2;simp at h2;simp[h2]
  ·rename_i h2;simp at h2;simp[h,h2]
theorem A7 {a b c:List UInt8} (h1:Xw a b≤0) (h2:Xw b c≤0):Xw a c≤0:=by
 rw[Qji]at *;rcases h1 with h1 | rfl
 ·rcases h2 with h2 | rfl
  ·exact .inl (NA _ _ _ h1 h2)
  ·exact .inl h1
 ·exact h2
theorem Eq {a b:List UInt8} (h:Xw a b=0):a=b:=by
 rcases Kq a b with h2 | h2 | h2
 ·simp[Xw,h2]at h
 ·exact h2
 ·have:=Mo a b;rw[h]at this;simp[Xw,h2]at this
theorem Tk {a b a' b':Int} (h1:a'= -a) (h2:b'= -b):or0 a' b'= - or0 a b:=by
 subst h1 h2;unfold or0;split <;> split <;> omega
theorem UE {a1 a2 a3 b1 b2 b3:Int} (ha:a1≤0→a2≤0→a3≤0) (hz:a3=0→a1≤0→a2≤0→a1=0∧a2=0) (hb:a1=0→a2=0→b1≤0→b2≤0→b3≤0)
  (h1:or0 a1 b1≤0) (h2:or0 a2 b2≤0):or0 a3 b3≤0:=by
 have g1:a1≤0:=by unfold or0 at h1;split at h1 <;> omega
 have g2:a2≤0:=by unfold or0 at h2;split at h2 <;> omega
 have g3:=ha g1 g2;by_cases hc:a3=0
 ·obtain⟨z1,z2⟩:=hz hc g1 g2;rw[z1,VX]at h1;rw[z2,VX]at h2;rw[hc,VX];exact hb z1 z2 h1 h2
 ·rw[UX hc];exact g3
theorem RT {a b c:Int} (h1:sgn a b≤0) (h2:sgn b c≤0):sgn a c≤0:=by rw[QeB]at *;omega
theorem KB {a b c:Int} (h:sgn a c=0) (h1:sgn a b≤0) (h2:sgn b c≤0):sgn a b=0∧sgn b c=0:=by
 rw[Rq]at *;rw[QeB]at h1 h2;rw[Rq];omega
theorem Qdb {a b c:List UInt8} (h:Xw a c=0) (h1:Xw a b≤0) (h2:Xw b c≤0):Xw a b=0∧Xw b c=0:=by
 have e:=Eq h;subst e;have:=Mo a b;constructor <;> omega
theorem EM (t u:Tm):hdT u t= - hdT t u:=by
 unfold hdT;exact Tk (NK _ _) (Tk (NK _ _) (Tk (Mo _ _) (Tk (NK _ _) (NK _ _))))
theorem Kj {t u:Tm}:hdT t u=0↔t.nodes=u.nodes∧t.kind=u.kind∧t.name=u.name∧t.sort=u.sort∧t.kids.length=u.kids.length:=by
 unfold hdT;rw[Tl,Tl,Tl,Tl,Rq,Rq,Rq,Rq];constructor
 ·rintro⟨h1,h2,h3,h4,h5⟩
  exact⟨by omega,h2,Eq h3,h4,by omega⟩
 ·rintro⟨h1,h2,h3,h4,h5⟩
  exact⟨by omega,h2,by rw[h3];exact I9 _,h4,by omega⟩
theorem QdN {t u v:Tm} (h1:hdT t u≤0) (h2:hdT u v≤0):hdT t v≤0:=by
 unfold hdT at *;refine UE RT (fun h a b=>KB h a b) (fun _ _=> ?_) h1 h2;refine UE RT (fun h a b=>KB h a b) (fun _ _=> ?_);refine UE A7 (fun h a b=>Qdb h a b) (fun _ _=> ?_);exact UE RT (fun h a b=>KB h a b) (fun _ _=>RT)
theorem Mn: ∀(ts us:List Tm),(∀x∈ts,∀y,Qm y x= - Qm x y)→cmpL us ts= - cmpL ts us
 | [],[],_=>by simp[cmpL]
 | [],_:: _,_=>by simp[cmpL]
 | _:: _,[],_=>by simp[cmpL]
 | t:: ts,u:: us,h=>by
  simp only[cmpL];exact Tk (h t (by simp) u) (Mn ts us fun x hx=>h x (by simp[hx]))
theorem XJ: ∀(t u:Tm),Qm u t= - Qm t u:=by
 refine Zp ?_;intro k n s ks ih u;rw[Tb,Tb];exact Tk (EM _ _) (Mn _ _ fun x hx y=>ih x hx y)
theorem NT: ∀(ts us vs:List Tm),ts.length=us.length→us.length=vs.length→(∀x∈ts,∀y z,Qm x y≤0→Qm y z≤0→Qm x z≤0)→cmpL ts us≤0→cmpL us vs≤0→cmpL ts vs≤0
 | [],[],[],_,_,_,_,_=>by simp[cmpL]
 | t:: ts,u:: us,v:: vs,h1,h2,h,g1,g2=>by
  simp only[cmpL]at g1 g2 ⊢;refine UE (h t (by simp) u v) (fun h0 a b=> ?_) (fun _ _=>NT ts us vs (by simpa using h1) (by simpa using h2) fun x hx=>h x (by simp[hx])) g1 g2;have e:=ZY _ _ h0;subst e;have:=XJ t u;constructor <;> omega
 | [],_:: _,_,h1,_,_,_,_=>by simp at h1
 | _:: _,[],_,h1,_,_,_,_=>by simp at h1
 | [],[],_:: _,_,h2,_,_,_=>by simp at h2
 | _:: _,_:: _,[],_,h2,_,_,_=>by simp at h2
theorem Nn: ∀(t u v:Tm),Qm t u≤0→Qm u v≤0→Qm t v≤0:=by
 refine Zp ?_;intro k n s ks ih u v h1 h2;rw[Tb]at *;refine UE QdN (fun h0 a b=> ?_) (fun e1 e2=> ?_) h1 h2
 ·rw[Kj]at h0;have z1:=Kj (t:= .mk k n s ks) (u:=u);have e2:hdT u v=hdT u (.mk k n s ks):=by unfold hdT;rw[h0.1,h0.2.1,h0.2.2.1,h0.2.2.2.1,h0.2.2.2.2]
  rw[e2]at b ⊢;have:=EM (.mk k n s ks) u;constructor <;> omega
 ·rw[Kj]at e1 e2;exact NT _ _ _ e1.2.2.2.2 e2.2.2.2.2 fun x hx=>ih x hx
theorem YD {a b c:Tm} (h1:Qm a b < 0) (h2:Qm b c < 0):Qm a c < 0:=by
 have h:=Nn a b c (by omega) (by omega);rcases Int.lt_or_eq_of_le h with h | h
 ·exact h
 ·have e:=ZY _ _ h;subst e;have:=XJ a b;omega
theorem WY (a:Tm): ¬Qm a a < 0:=by rw[Yn];omega
theorem Jb {a b:Tm}:0 < Qm a b↔Qm b a < 0:=by have:=XJ a b;omega
theorem Np (a b:Tm):Qm a b < 0∨a=b∨Qm b a < 0:=by
 rcases Int.lt_trichotomy (Qm a b) 0 with h | h | h
 ·exact .inl h
 ·exact .inr (.inl (ZY _ _ h))
 ·exact .inr (.inr (Jb.1 h))
def Asc (l:List Tm):Prop:=l.Pairwise fun a b=>Qm a b < 0
theorem Asc.nil:Asc []:=List.Pairwise.nil
theorem Lj (t:Tm):Asc [t]:=by simp[Asc]
theorem Yp {x:Tm} {l:List Tm}:Asc (x:: l)↔(∀y∈l,Qm x y < 0)∧Asc l:=List.pairwise_cons
theorem SR: ∀{a b:List Tm},Asc a→Asc b→(∀x,x∈a↔x∈b)→a=b
 | [],[],_,_,_=>rfl
 | [],y:: ys,_,_,h=>by have:=(h y).2 (by simp);simp at this
 | x:: xs,[],_,_,h=>by have:=(h x).1 (by simp);simp at this
 | x:: xs,y:: ys,ha,hb,h=>by
  rw[Yp]at ha hb;have hxy:x=y:=by
   rcases Np x y with h1 | h1 | h1
   ·have:=(h x).1 (by simp);rcases List.mem_cons.1 this with e | e
    ·exact e
    ·have:=YD h1 (hb.1 x e);exact absurd this (WY x)
   ·exact h1
   ·have:=(h y).2 (by simp);rcases List.mem_cons.1 this with e | e
    ·exact e.symm
    ·have:=YD h1 (ha.1 y e);exact absurd this (WY y)
  subst hxy;congr 1;refine SR ha.2 hb.2 fun z=> ?_;have hz:=h z;simp only[List.mem_cons]at hz;constructor
  ·intro hm;rcases hz.1 (.inr hm)with e | e
   ·subst e;exact absurd (ha.1 z hm) (WY z)
   ·exact e
  ·intro hm;rcases hz.2 (.inr hm)with e | e
   ·subst e;exact absurd (hb.1 z hm) (WY z)
   ·exact e
def Zr (t:Tm):List Tm→List Tm
 | []=>[t]
 | x:: xs=>if Qm t x < 0 then t:: x:: xs else if Qm t x=0 then x:: xs else x:: Zr t xs
theorem Vg {t y:Tm}: ∀{l:List Tm},y∈Zr t l↔y=t∨y∈l
 | []=>by simp[Zr]
 | x:: xs=>by
  simp only[Zr];split
  ·simp
  ·split
   ·rename_i h;have:=ZY _ _ h;subst this;simp
   ·simp only[List.mem_cons,Vg (l:=xs)];constructor
    ·rintro(h | h | h) <;> simp[h]
    ·rintro(h | h | h) <;> simp[h]
theorem S5 {t:Tm}: ∀{l:List Tm},Asc l→Asc (Zr t l)
 | [],_=>Lj t
 | x:: xs,h=>by
  have h0:=h;rw[Yp]at h;simp only[Zr];split
  ·rename_i h1;rw[Yp];refine⟨fun y hy=> ?_,h0⟩;rcases List.mem_cons.1 hy with rfl | hy
   ·exact h1
   ·exact YD h1 (h.1 y hy)
  ·split
   ·exact h0
   ·rename_i h1 h2;rw[Yp];refine⟨fun y hy=> ?_,S5 h.2⟩;rcases Vg.1 hy with rfl | hy
    ·exact Jb.1 (by omega)
    ·exact h.1 y hy
theorem U7 (t:Tm): ∀l:List Tm,(Zr t l).length≤l.length+1
 | []=>by simp[Zr]
 | x:: xs=>by
  simp only[Zr];have:=U7 t xs;split
  ·simp
  ·split <;> simp <;> omega
def Vm (acc:List Tm) (l:List Tm):List Tm:=l.foldl (fun a x=>Zr x a) acc
def YM (l:List Tm):List Tm:=Vm [] l
theorem Js {y:Tm}: ∀{l acc:List Tm},y∈Vm acc l↔y∈acc∨y∈l
 | [],acc=>by simp[Vm]
 | x:: xs,acc=>by
  have:=Js (y:=y) (l:=xs) (acc:=Zr x acc);simp only[Vm,List.foldl_cons]at this ⊢;rw[this,Vg];simp only[List.mem_cons];constructor
  ·rintro((h | h) | h) <;> simp[h]
  ·rintro(h | h | h) <;> simp[h]
theorem KS: ∀{l acc:List Tm},Asc acc→Asc (Vm acc l)
 | [],_,h=>h
 | x:: xs,acc,h=>KS (l:=xs) (S5 h)
theorem VJ {y:Tm} {l:List Tm}:y∈YM l↔y∈l:=by unfold YM;rw[Js];simp
theorem FZ (l:List Tm):Asc (YM l):=KS Asc.nil
theorem KR: ∀(l acc:List Tm),(Vm acc l).length≤acc.length+l.length
 | [],acc=>by simp[Vm]
 | x:: xs,acc=>by
  have h1:=KR xs (Zr x acc);have h2:=U7 x acc;simp only[Vm,List.foldl_cons,List.length_cons]at *;omega
theorem NJ (l:List Tm): (YM l).length≤l.length:=by have:=KR l [];simpa[YM]using this
theorem Rh {t y:Tm}: ∀{l:List Tm},y∈VH t l↔y=t∨y∈l
 | []=>by simp[VH]
 | x:: xs=>by
  simp only[VH];split
  ·simp only[List.mem_cons,Rh (l:=xs)];constructor
   ·rintro(h | h | h) <;> simp[h]
   ·rintro(h | h | h) <;> simp[h]
  ·simp
theorem X7 {y:Tm}: ∀{l:List Tm},y∈ZF l↔y∈l
 | []=>by simp[ZF]
 | x:: xs=>by simp only[ZF,Rh,X7 (l:=xs),List.mem_cons]
theorem EP (t:Tm): ∀l:List Tm,(VH t l).length=l.length+1
 | []=>rfl
 | x:: xs=>by simp only[VH];split <;> simp[EP t xs]
theorem Xj: ∀l:List Tm,(ZF l).length=l.length
 | []=>rfl
 | x:: xs=>by simp[ZF,EP,Xj xs]
def Srt (l:List Tm):Prop:=l.Pairwise fun a b=>Qm a b≤0
theorem Dv {t:Tm}: ∀{l:List Tm},Srt l→Srt (VH t l)
 | [],_=>by simp[VH,Srt]
 | x:: xs,h=>by
  have h0:=h;unfold Srt at h;rw[List.pairwise_cons]at h;simp only[VH];split
  ·rename_i h1;unfold Srt;rw[List.pairwise_cons];refine⟨fun y hy=> ?_,Dv h.2⟩;rcases Rh.1 hy with rfl | hy
   ·omega
   ·exact h.1 y hy
  ·rename_i h1;unfold Srt;rw[List.pairwise_cons];refine⟨fun y hy=> ?_,h0⟩;have htx:Qm t x≤0:=by have:=XJ x t;omega
   rcases List.mem_cons.1 hy with rfl | hy
   ·exact htx
   ·exact Nn _ _ _ htx (h.1 y hy)
theorem HH: ∀l:List Tm,Srt (ZF l)
 | []=>List.Pairwise.nil
 | x:: xs=>Dv (HH xs)
def Wy:List Tm→List Tm
 | []=>[]
 | [x]=>[x]
 | x:: y:: r=>if Qm y x=0 then Wy (x:: r)else x:: Wy (y:: r)
termination_by l=>l.length
theorem RN: ∀(n:Nat) (l:List Tm) (y:Tm),l.length≤n→(y∈Wy l↔y∈l)
 | _,[],y,_=>by simp[Wy]
 | _,[x],y,_=>by simp[Wy]
 | n+1,x:: z:: r,y,h=>by
  rw[Wy];split
  ·rename_i e;have e:=ZY _ _ e;subst e;rw[RN n (z:: r) y (by simp at h ⊢;omega)];simp
  ·rw[List.mem_cons,RN n (z:: r) y (by simp at h ⊢;omega)];simp only[List.mem_cons]
 | 0,_:: _:: _,_,h=>by simp at h
theorem Mf: ∀(n:Nat) (l:List Tm),l.length≤n→Srt l→Asc (Wy l)
 | _,[],_,_=>by simp[Wy,Asc.nil]
 | _,[x],_,_=>by simp[Wy,Lj]
 | n+1,x:: z:: r,h,hs=>by
  have hs0:=hs;unfold Srt at hs;rw[List.pairwise_cons]at hs;rw[Wy];split
  ·rename_i e;have e:=ZY _ _ e;subst e;exact Mf n _ (by simp at h ⊢;omega) hs.2
  ·rename_i e;rw[Yp];refine⟨fun y hy=> ?_,Mf n _ (by simp at h ⊢;omega) hs.2⟩;rw[RN n _ y (by simp at h ⊢;omega)]at hy;have hxz:Qm x z < 0:=by
    have h1:=hs.1 z (by simp);have h2:=XJ x z;omega
   rcases List.mem_cons.1 hy with rfl | hy
   ·exact hxz
   ·have h2:Qm z y≤0:=by
     have:=hs.2;rw[List.pairwise_cons]at this;exact this.1 y hy
    rcases Int.lt_or_eq_of_le (Nn x z y (by omega) h2)with h3 | h3
    ·exact h3
    ·have e3:=ZY _ _ h3;subst e3;have:=XJ x z;omega
 | 0,_:: _:: _,h,_=>by simp at h
theorem DW (l:List Tm):Wy (ZF l)=YM l:=
 SR (Mf _ _ (Nat.le_refl _) (HH l)) (FZ l) fun x=>by rw[RN _ _ x (Nat.le_refl _),X7,VJ]
theorem R3: ∀a b:List AV,gpfreeL (a ++ b)=(gpfreeL a && gpfreeL b)
 | [],b=>by simp
 | x:: a,b=>by simp[R3 a b,Bool.and_assoc]
section
variable {α:Type} (f:α→List AV) (k:Nat)
def ZP (f:α→List AV) (l:List α):List AV:=(l.map f).flatten
theorem Uu (x:α) (l:List α):ZP f (x:: l)=f x ++ ZP f l:=by simp[ZP]
theorem X9 (a b:List α):ZP f (a ++ b)=ZP f a ++ ZP f b:=by simp[ZP]
theorem S0 (x:α):ZP f [x]=f x:=by simp[ZP]
variable {f k}
theorem Z2 (hk: ∀x,(f x).length=k): ∀l:List α,(ZP f l).length=l.length*k
 | []=>by simp[ZP]
 | x:: l=>by rw[Uu,List.length_append,hk,Z2 hk l,List.length_cons,Nat.succ_mul];omega
theorem Z6 (hs: ∀x,(f x).map AV.strip=f x): ∀l:List α,(ZP f l).map AV.strip=ZP f l
 | []=>rfl
 | x:: l=>by rw[Uu,List.map_append,hs,Z6 hs l]
theorem Qeb (hg: ∀x,gpfreeL (f x)=true): ∀l:List α,gpfreeL (ZP f l)=true
 | []=>rfl
 | x:: l=>by
  rw[Uu,R3,hg x,Qeb hg l];rfl
theorem Ue (hk: ∀x,(f x).length=k) {l pre post:List α} {x:α} (h:l=pre ++ x:: post) (t:List AV): ((ZP f l ++ t).drop (pre.length*k)).take k=f x:=by
 subst h;rw[X9,Uu,List.append_assoc,← Z2 hk pre,List.drop_left,List.append_assoc];have:=hk x;rw[List.take_append_of_le_length (by omega),List.take_of_length_le (by omega)]
theorem NH (hk: ∀x,(f x).length=k) {l pre post:List α} (h:l=pre ++ post) (t:List AV): (ZP f l ++ t).take (pre.length*k)=ZP f pre:=by
 subst h;rw[X9,List.append_assoc,← Z2 hk pre,List.take_left]
theorem Kx (hk: ∀x,(f x).length=k) {l pre post:List α} (h:l=pre ++ post) (t:List AV): (ZP f l ++ t).drop (pre.length*k)=ZP f post ++ t:=by
 subst h;rw[X9,List.append_assoc,← Z2 hk pre,List.drop_left]
theorem O8 (hk: ∀x,(f x).length=k) {l pre post:List α} {x:α} (y:α) (h:l=pre ++ x:: post) (t:List AV):
  (ZP f l ++ t).take (pre.length*k)++ (f y ++ (ZP f l ++ t).drop (pre.length*k+k))=ZP f (pre ++ y:: post)++ t:=by
 rw[NH hk h,X9,Uu];have h2:l=(pre ++ [x])++ post:=by rw[h];simp
 have:=Kx hk h2 t;rw[List.length_append,List.length_singleton,Nat.add_mul,Nat.one_mul]at this;rw[this];simp
theorem XH (hk: ∀x,(f x).length=k) (hs: ∀x,(f x).map AV.strip=f x) (l:List α) (t:List AV):Yc (ZP f l ++ t) 0 k l.length=l.map f:=by
 apply List.ext_getElem?;intro i;cases hc: (Yc (ZP f l ++ t) 0 k l.length)[i]? with
 | none=>
  rw[List.getElem?_eq_none_iff,XB]at hc;rw[List.getElem?_eq_none (by simpa using hc)]
 | some y=>
  obtain⟨hi,rfl⟩:=UP hc;have hl:l=l.take i ++ l[i]:: l.drop (i+1):=by rw[List.getElem_cons_drop,List.take_append_drop]
  have hr:=Ue hk hl t;rw[List.length_take,Nat.min_eq_left (by omega)]at hr;rw[Nat.zero_add,hr,hs];simp[List.getElem?_eq_getElem hi]
end
theorem QR (x:Tm): (Qa x).length=4:=YR x
abbrev Qu (l:List Tm):List AV:=ZP Qa l
theorem Ut (l:List Tm):l.map Qa=encTs l:=(WD l).symm
theorem KZ (x y:Tm) (bs:List (List AV)) (hx:x.mass < big) (hy:y.mass < big):call F.tb 171 [.agg (Qa x),.agg (Qa y)] bs=some (.bool (decide (Qm x y=0)),bs):=by
 rw[Qb F.tb_171 _ _ rfl];have h:=call_Compare x y bs hx hy;simp[F.f171,F.f171C,QO,h]
def XC (prev:Tm):List Tm→List Tm
 | []=>[]
 | x:: r=>if Qm x prev=0 then XC x r else x:: XC x r
theorem Nq (x:Tm): ∀(r:List Tm),Wy (x:: r)=x:: XC x r
 | []=>by simp[Wy,XC]
 | y:: r=>by
  rw[Wy];simp only[XC];split
  ·rename_i h;have:=ZY _ _ h;subst this;exact Nq y r
  ·rw[Nq y r]
theorem Qhg (B:List (List AV)) (id n:Nat) (D:List Tm) (c:List AV) (hB:id < B.length) (hc:c.length=n*4) (hD:D.length≤n) (hn:n < 100000000) (ht:c.take (D.length*4)=Qu D)
  (ρ:Nat→AV) (h0:ρ 0= .gs id 0 4 n) (h5:ρ 5= .int .i64 D.length):
  R F.tb F.f172r0 ρ (B.set id c) (Ql 1 (Qr F.tb F.f172r1 (Qr F.tb (.loop F.f172l1) (Ql 0 (Qr F.tb F.f172r2 (Qt F.f172 B))))))=
   some (.gs id 0 4 D.length,B.set id (Qu D ++ List.replicate ((n - D.length)*4) .undef)):=by
 have e1: (0:Int)≤(D.length:Int):=by omega
 have e2: (D.length:Int)≤(n:Int):=by omega
 have hput:c.take (D.length*4)++ (List.replicate ((n - D.length)*4) AV.undef ++ c.drop (D.length*4+ (n - D.length)*4))=Qu D ++ List.replicate ((n - D.length)*4) .undef:=by
  rw[ht,List.drop_eq_nil_of_le (by rw[hc,← Nat.add_mul];exact Nat.mul_le_mul_right _ (by omega))];simp
 have hle:D.length*4+ (n - D.length)*4≤n*4:=by rw[← Nat.add_mul];exact Nat.mul_le_mul_right _ (by omega)
 by_cases hz:n - D.length=0
 ·have hDn:D.length=n:=by omega
  have hcc:c=Qu D:=by rw[← ht,List.take_of_length_le (by omega)]
  simp[F.f172r0,h0,h5,e1,e2,hD,hz,hcc]
 ·simp[F.f172r0,h0,h5,e1,e2,hD,hz,hB,hc,hle,hput]
end Go.Am
namespace Go.Am
set_option maxRecDepth 8000
def Ga (L:List Tm) (B:List (List AV)) (id:Nat) (r:Option (AV×List (List AV))):Prop:=∃t,r=some (.gs id 0 4 L.length,B.set id (Qu L ++ t))
theorem Qhe (B:List (List AV)) (id n k0:Nat) (hB:id < B.length) (hn:n < 100000000): ∀(post D mid:List Tm) (prev:Tm) (k2:Nat) (ρ:Nat→AV),D.length+mid.length+1+post.length=n→k0+k2=D.length+mid.length+1→0 < k2→
   (∀x∈prev:: post,x.mass < big)→ρ 0= .gs id 0 4 n→ρ 1= .fn 171 []→ρ 5= .int .i64 D.length→ρ 6= .gs id (k0*4) 4 (n - k0)→ρ 7= .int .i64 k2→
  Ga (D ++ XC prev post) B id (R F.tb (.loop F.f172l0) ρ (B.set id (Qu (D ++ mid ++ prev:: post)))
   (Ql 2 (Qr F.tb F.f172r0 (Ql 1 (Qr F.tb F.f172r1 (Qr F.tb (.loop F.f172l1) (Ql 0 (Qr F.tb F.f172r2 (Qt F.f172 B))))))))):=by
 intro post
 induction post with
 | nil=>
  intro D mid prev k2 ρ hl hk hk2 hm h0 h1 h5 h6 h7;have hlen: (Qu (D ++ mid ++ [prev])).length=n*4:=by rw[Z2 QR];simp at hl ⊢;omega
  have ht: (Qu (D ++ mid ++ [prev])).take (D.length*4)=Qu D:=by
   have:=NH (f:=Qa) (k:=4) QR (l:=D ++ mid ++ [prev]) (pre:=D) (post:=mid ++ [prev]) (by simp) [];simpa using this
  have hr:=fun ρ a b=>Qhg B id n D (Qu (D ++ mid ++ [prev])) hB hlen (by omega) hn ht ρ a b;have hl':D.length+mid.length+1=n:=by simpa using hl
  have hnl: ¬((k2:Int) < ((n - k0:Nat):Int)):=by omega
  have hnl2: ¬(k2 < n - k0):=by omega
  rw[Qc F.f172l0.eq_1];simp only[XC,List.append_nil];refine⟨List.replicate ((n - D.length)*4) .undef,?_⟩;simp[h0,h1,h5,h6,h7,hnl,hnl2];simp only[List.append_assoc]at hr;refine hr _ ?_ ?_ <;> simp[h0,h5]
 | cons x post IH=>
  intro D mid prev k2 ρ hl hk hk2 hm h0 h1 h5 h6 h7;have hlen: (Qu (D ++ mid ++ prev:: x:: post)).length=n*4:=by rw[Z2 QR];simp at hl ⊢;omega
  have hst: (Qu (D ++ mid ++ prev:: x:: post)).map AV.strip=Qu (D ++ mid ++ prev:: x:: post):=Z6 Zu _;have r1: ((Qu (D ++ mid ++ prev:: x:: post)).drop (k0*4+k2*4)).take 4=Qa x:=by
   have:=Ue (f:=Qa) (k:=4) QR (l:=D ++ mid ++ prev:: x:: post) (pre:=D ++ mid ++ [prev]) (post:=post) (x:=x) (by simp) [];rw[← Nat.add_mul,hk];simpa[Nat.add_assoc]using this
  have r2: ((Qu (D ++ mid ++ prev:: x:: post)).drop (k0*4+ (k2 - 1)*4)).take 4=Qa prev:=by
   have:=Ue (f:=Qa) (k:=4) QR (l:=D ++ mid ++ prev:: x:: post) (pre:=D ++ mid) (post:=x:: post) (x:=prev) (by simp) [];rw[← Nat.add_mul,show k0+ (k2 - 1)=D.length+mid.length by omega];simpa[Nat.add_assoc]using this
  have hput: (Qu (D ++ mid ++ prev:: x:: post)).take (D.length*4)++ (Qa x ++ (Qu (D ++ mid ++ prev:: x:: post)).drop (D.length*4+4))=Qu ((D ++ [x])++ (mid ++ [prev]).tail ++ x:: post):=by
   obtain⟨y,m2,hy⟩: ∃y m2,mid ++ [prev]=y:: m2:=by cases mid <;> simp
   have:=O8 (f:=Qa) (k:=4) QR (l:=D ++ mid ++ prev:: x:: post) (pre:=D) (post:=m2 ++ x:: post) (x:=y) x (by
    have:D ++ mid ++ prev:: x:: post=D ++ (mid ++ [prev])++ x:: post:=by simp
    rw[this,hy];simp) []
   rw[hy];simpa using this
  have hw1:IntKind.i64.wrap ((k2:Int) - 1)=((k2 - 1:Nat):Int):=by rw[ZG (by omega) (by omega)];omega
  have hw2:IntKind.i64.wrap ((k2:Int)+1)=((k2+1:Nat):Int):=by rw[ZG (by simp at hl;omega) (by simp at hl;omega)];omega
  have hw3:IntKind.i64.wrap ((D.length:Int)+1)=((D.length+1:Nat):Int):=by rw[ZG (by simp at hl;omega) (by simp at hl;omega)];omega
  have hlt: (k2:Int) < ((n - k0:Nat):Int):=by simp at hl;omega
  have hlt1:k2 < n - k0:=by simp at hl;omega
  have hlt2: ((k2 - 1:Nat):Int) < ((n - k0:Nat):Int):=by simp at hl;omega
  have hlt2':k2 - 1 < n - k0:=by simp at hl;omega
  have hlt3: (D.length:Int) < (n:Int):=by simp at hl;omega
  have hlt3':D.length < n:=by simp at hl;omega
  have hb1:k0*4+k2*4+4≤n*4:=by simp at hl;omega
  have hb2:k0*4+ (k2 - 1)*4+4≤n*4:=by simp at hl;omega
  have hb3:D.length*4+4≤n*4:=by simp at hl;omega
  have hnn: (0:Int)≤((k2 - 1:Nat):Int):=by omega
  have hc:=fun bs=>KZ x prev bs (hm x (by simp)) (hm prev (by simp));have hcast: ((k2 - 1:Nat):Int).toNat=k2 - 1:=by omega
  have ih1:=IH D (mid ++ [prev]) x (k2+1);have ih2:=IH (D ++ [x]) (mid ++ [prev]).tail x (k2+1);have htl: ((mid ++ [prev]).tail).length=mid.length:=by simp
  rw[show D ++ (mid ++ [prev])++ x:: post=D ++ mid ++ prev:: x:: post by simp]at ih1;rw[Qc F.f172l0.eq_1];generalize Qu (D ++ mid ++ prev:: x:: post)=c at *;generalize hkm:k2 - 1=km at *;generalize n - k0=nk at *;by_cases he:Qm x prev=0
  ·have e:XC prev (x:: post)=XC x post:=by simp[XC,he]
   rw[e];simp[h0,h1,h5,h6,h7,hlt,hlt1,hlt2,hlt2',hnn,hw1,hw2,hb1,hb2,hB,hlen,hst,r1,r2,hc,he,hcast];refine ih1 _ (by simp at hl ⊢;omega) (by simp;omega) (by omega) (fun y hy=>hm y (by simp at hy ⊢;rcases hy with h | h <;> simp[h])) ?_ ?_ ?_ ?_ ?_ <;> simp[h0,h1,h5,h6]
  ·have e:D ++ XC prev (x:: post)=D ++ x:: XC x post:=by simp[XC,he]
   rw[e];simp only[List.append_assoc,List.cons_append,List.nil_append]at ih2;simp[h0,h1,h5,h6,h7,hlt,hlt1,hlt2,hlt2',hlt3,hlt3',hnn,hw1,hw2,hw3,hb1,hb2,hb3,hB,hlen,hst,r1,r2,hc,he,hcast,hput];refine ih2 _ (by simp at hl ⊢;omega) (by simp;omega) (by omega) (fun y hy=>hm y (by simp at hy ⊢;rcases hy with h | h <;> simp[h])) ?_ ?_ ?_ ?_ ?_ <;> simp[h0,h1,h5,h6]
theorem Qhf (B:List (List AV)) (id n:Nat) (hB:id < B.length) (hn:n < 100000000): ∀(post pre:List Tm) (prev:Tm) (ρ:Nat→AV),pre.length+1+post.length=n→
   (∀x∈prev:: post,x.mass < big)→ρ 0= .gs id 0 4 n→ρ 1= .fn 171 []→ρ 5= .int .i64 (pre.length+1:Nat)→
  Ga (pre ++ prev:: XC prev post) B id (R F.tb (.loop F.f172l1) ρ (B.set id (Qu (pre ++ prev:: post)))
   (Ql 0 (Qr F.tb F.f172r2 (Qt F.f172 B)))):=by
 intro post
 induction post with
 | nil=>
  intro pre prev ρ hl hm h0 h1 h5;have hl':pre.length+1=n:=by simpa using hl
  have hnl: ¬((pre.length:Int)+1 < (n:Int)):=by omega
  rw[Qc F.f172l1.eq_1];refine⟨[],?_⟩;simp[h0,h1,h5,hnl,XC,F.f172r2,hl']
 | cons x post IH=>
  intro pre prev ρ hl hm h0 h1 h5;have hl':pre.length+1+ (post.length+1)=n:=by simpa using hl
  have hlen: (Qu (pre ++ prev:: x:: post)).length=n*4:=by rw[Z2 QR];simp;omega
  have hst: (Qu (pre ++ prev:: x:: post)).map AV.strip=Qu (pre ++ prev:: x:: post):=Z6 Zu _;have r1: ((Qu (pre ++ prev:: x:: post)).drop ((pre.length+1)*4)).take 4=Qa x:=by
   have:=Ue (f:=Qa) (k:=4) QR (l:=pre ++ prev:: x:: post) (pre:=pre ++ [prev]) (post:=post) (x:=x) (by simp) [];simpa using this
  have r2: ((Qu (pre ++ prev:: x:: post)).drop (pre.length*4)).take 4=Qa prev:=by
   have:=Ue (f:=Qa) (k:=4) QR (l:=pre ++ prev:: x:: post) (pre:=pre) (post:=x:: post) (x:=prev) (by simp) [];simpa using this
  have hw1:IntKind.i64.wrap (pre.length:Int)=(pre.length:Int):=ZG (by omega) (by omega);have hw2:IntKind.i64.wrap ((pre.length:Int)+1+1)=(pre.length:Int)+1+1:=ZG (by omega) (by omega);have hlt: (pre.length:Int)+1 < (n:Int):=by omega
  have hlt2: (pre.length:Int) < (n:Int):=by omega
  have hb1: (pre.length+1)*4+4≤n*4:=by omega
  have hb2:pre.length*4+4≤n*4:=by omega
  have hnn: (0:Int)≤(pre.length:Int)+1:=by omega
  have hle: (pre.length:Int)+1≤(n:Int):=by omega
  have hcast: ((pre.length:Int)+1).toNat=pre.length+1:=by omega
  have hc:=fun bs=>KZ x prev bs (hm x (by simp)) (hm prev (by simp));have ih1:=IH (pre ++ [prev]) x;have ih2:=Qhe B id n (pre.length+1) hB hn post (pre ++ [prev]) [] x 1;simp only[List.append_assoc,List.cons_append,List.nil_append]at ih1 ih2;rw[Qc F.f172l1.eq_1];generalize Qu (pre ++ prev:: x:: post)=c at *;by_cases he:Qm x prev=0
  ·have e:XC prev (x:: post)=XC x post:=by simp[XC,he]
   rw[e];simp[h0,h1,h5,hlt,hlt2,hnn,hle,hw1,hw2,hb1,hb2,hB,hlen,hst,r1,r2,hc,he,hcast];refine ih2 _ (by simp;omega) (by simp) (by omega) (fun y hy=>hm y (by simp at hy ⊢;rcases hy with h | h <;> simp[h])) ?_ ?_ ?_ ?_ ?_ <;> simp[h0,h1,h5]
  ·have e:pre ++ prev:: XC prev (x:: post)=pre ++ prev:: x:: XC x post:=by simp[XC,he]
   rw[e];simp[h0,h1,h5,hlt,hlt2,hnn,hle,hw1,hw2,hb1,hb2,hB,hlen,hst,r1,r2,hc,he,hcast,F.f172r1];refine ih1 _ (by simp;omega) (fun y hy=>hm y (by simp at hy ⊢;rcases hy with h | h <;> simp[h])) ?_ ?_ ?_ <;> simp[h0,h1,h5]
theorem F5 (L:List Tm) (B:List (List AV)) (id:Nat) (hid:B[id]? =some (Qu L)) (hn:L.length < 100000000) (hm: ∀x∈L,x.mass < big):
  Ga (Wy L) B id (call F.tb 172 [.gs id 0 4 L.length,.fn 171 []] B):=by
 have hB:id < B.length:=by
  rcases Nat.lt_or_ge id B.length with h | h
  ·exact h
  ·rw[List.getElem?_eq_none h]at hid;cases hid
 have hset:B.set id (Qu L)=B:=by
  apply List.ext_getElem?;intro i;rw[List.getElem?_set];split
  ·rename_i h;subst h;rw[hid]
  ·rfl
 match L with
 | []=>
  refine⟨[],?_⟩;rw[Qb F.tb_172 _ _ rfl];simp[F.f172C,Wy];simpa using hset.symm
 | [x]=>
  refine⟨[],?_⟩;rw[Qb F.tb_172 _ _ rfl];simp[F.f172C,Wy];simpa using hset.symm
 | x:: y:: r=>
  have h:=Qhf B id (r.length+2) hB (by simpa using hn) (y:: r) [] x;rw[Qb F.tb_172 _ _ rfl,Nq];simp only[List.nil_append,hset]at h;have hge: ¬((r.length:Int)+1+1 < 2):=by omega
  simp[F.f172C,hge];refine h _ (by simp;omega) (fun z hz=>hm z hz) ?_ ?_ ?_ <;> simp
end Go.Am
namespace Go.Am
set_option maxRecDepth 8000
theorem Qgz {α:Type} {B:List α} {i:Nat} {x:α} (h:B[i]? =some x):B.set i x=B:=by
 apply List.ext_getElem?;intro j;rw[List.getElem?_set];split
 ·rename_i e;subst e;split
  ·exact h.symm
  ·rename_i hl;rw[List.getElem?_eq_none (by omega)]
 ·rfl
theorem VG {α:Type} {B:List α} {i:Nat} {x:α} (h:B[i]? =some x):i < B.length:=by
 rcases Nat.lt_or_ge i B.length with h1 | h1
 ·exact h1
 ·rw[List.getElem?_eq_none h1]at h;cases h
theorem T3 (l:List Tm): (encTs l).flatten=Qu l:=by rw[WD];rfl
theorem I5 (L:List Tm) (B:List (List AV)) (g:Nat) (hg:B[g]? =some (Qu L)) (hn:L.length < 100000000) (hm: ∀x∈L,x.mass < big):
  call F.tb 170 [.gs g 0 4 L.length,.fn 30 []] B=some (.tup [],B.set g (Qu (ZF L))):=by
 rw[Xv F.tb_170];have hlen: (Qu L).length=L.length*4:=Z2 QR L;have hch:Yc (Qu L) 0 4 L.length=encTs L:=by
  have:=XH (f:=Qa) (k:=4) QR Zu L [];rw[List.append_nil,Ut]at this;exact this
 have hall:L.all (fun t=>decide (t.mass < big))=true:=by
  rw[List.all_eq_true];intro x hx;simpa using hm x hx
 simp only[NL];by_cases h0:L.length=0
 ·have:L=[]:=List.eq_nil_of_length_eq_zero h0;subst this;simp[ZF];exact(Qgz hg).symm
 ·have hsl: (Qu (ZF L)).length=(Qu L).length:=by rw[Z2 QR,Z2 QR,Xj]
  have hput:put (Qu L) 0 (encTs (ZF L)).flatten=Qu (ZF L):=by
   rw[T3];simp only[put,List.take_zero,List.nil_append,Nat.zero_add];rw[hsl,List.drop_length,List.append_nil]
  rw[if_neg h0,if_pos ⟨trivial,by omega⟩,hg];simp only[Option.bind_some];rw[if_pos (by omega),hch,decE_enc];simp only[Option.bind_some];rw[if_pos hall,hput]
theorem Qf5 (C:List Tm) (t:List AV) (B:List (List AV)) (g:Nat) (hB:g < B.length) (hn:C.length < 100000000) (hne:C≠[]) (hm: ∀x∈C,x.mass < big): ∀(post pre:List Tm) (ρ:Nat→AV),C=pre ++ post→ρ 0= .gs g 0 4 C.length→ρ 9= .int .i64 C.length→ρ 10= .int .i64 pre.length→
  R F.tb (.loop F.f169l0) ρ (B.set g (Qu C ++ t)) (Ql 0 (Qr F.tb F.f169r0 (Qt F.f169 B)))=some (.sl true 4 (encTs C),B.set g []):=by
 have hch:Yc (Qu C ++ t) 0 4 C.length=encTs C:=by
  have:=XH (f:=Qa) (k:=4) QR Zu C t;rw[Ut]at this;exact this
 have hlen: (Qu C).length=C.length*4:=Z2 QR C;intro post
 induction post with
 | nil=>
  intro pre ρ hk h0 h9 h10;simp only[List.append_nil]at hk;rw[← hk]at h10;have hz: ¬C.length=0:=fun e=>hne (List.eq_nil_of_length_eq_zero e);have hle:C.length*4≤(Qu C ++ t).length:=by rw[List.length_append,hlen];omega
  have hg:gpfreeE (encTs C)=true:=encTs_gp C;rw[Qc F.f169l0.eq_1];generalize Qu C ++ t=c at *;simp[h0,h9,h10,F.f169r0,Ys,hz,hle,hB,hch,hne,List.take_of_length_le]
 | cons x post IH=>
  intro pre ρ hk h0 h9 h10;have hl:=Qx hk;have hst: (Qu C).map AV.strip=Qu C:=Z6 Zu C;have r1:=Ue (f:=Qa) (k:=4) QR hk t;have r1': (((Qu C ++ t).drop (pre.length*4)).take 4).map AV.strip=Qa x:=by rw[r1];exact Zu x
  have hput:=O8 (f:=Qa) (k:=4) QR x hk t;rw[← hk]at hput;have hw1:=wr1 pre.length (by omega);have hlt:=Qy hk;have hlt':pre.length < C.length:=by omega
  have hle:pre.length*4+4≤(Qu C ++ t).length:=by rw[List.length_append,hlen];omega
  have hc:=fun bs=>TY x bs (hm x (by rw[hk];simp));rw[Qc F.f169l0.eq_1];rw[List.map_take,List.map_drop]at r1';have ih:=IH (pre ++ [x]);change List.take (pre.length*4) (Qu C ++ t)++ (Qa x ++ List.drop (pre.length*4+4) (Qu C ++ t))=Qu C ++ t at hput;generalize Qu C ++ t=c at *;simp[h0,h9,h10,hlt,hlt',hw1,hB,hle,r1',hc,hput];rw[ih] <;> simp[h0,h9,hk]
theorem Ee (L:List Tm) (B:List (List AV)) (g:Nat) (hg:B[g]? =some (Qu L)) (hne:L≠[]) (hn:L.length < 100000000) (hm: ∀x∈L,x.mass < big):
  call F.tb 169 [.gs g 0 4 L.length] B=some (.sl true 4 (encTs (YM L)),B.set g []):=by
 have hB:=VG hg;have hs:=I5 L B g hg hn hm;have hS: (B.set g (Qu (ZF L)))[g]? =some (Qu (ZF L)):=by simp[hB]
 obtain⟨t,hc⟩:=F5 (ZF L) (B.set g (Qu (ZF L))) g hS (by rw[Xj];exact hn) (fun x hx=>hm x (X7.1 hx));rw[DW,Xj,List.set_set]at hc;have hCne:YM L≠[]:=by
  obtain⟨x,hx⟩:=List.exists_mem_of_ne_nil L hne;intro e;have:=VJ.2 hx;rw[e]at this;simp at this
 have hl:=Qf5 (YM L) t B g hB (by have:=NJ L;omega) hCne (fun x hx=>hm x (VJ.1 hx)) (YM L) [];rw[Qb F.tb_169 _ _ rfl];simp[F.f169C,hs,hc];refine hl _ rfl ?_ ?_ ?_ <;> simp
theorem HS (B:List (List AV)):call F.tb 169 [.gs 0 0 0 0] B=some (.sl true 4 [],B):=by
 rw[Qb F.tb_169 _ _ rfl];have hs:call F.tb 170 [.gs 0 0 0 0,.fn 30 []] B=some (.tup [],B):=by rw[Xv F.tb_170];simp[NL]
 have hc:call F.tb 172 [.gs 0 0 0 0,.fn 171 []] B=some (.gs 0 0 0 0,B):=by
  rw[Qb F.tb_172 _ _ rfl];simp[F.f172C]
 simp[F.f169C,hs,hc];rw[Qc F.f169l0.eq_1];simp[F.f169r0,Ys]
end Go.Am
namespace Go.Am
set_option maxRecDepth 8000
def Wst (B0:List (List AV)) (k:Int) (acc:List Tm) (bs:List (List AV)):Prop:=
 B0.length+2≤bs.length∧bs.take B0.length=B0∧bs[B0.length]? =some [.int .i64 k]∧
  ((acc=[]∧bs[B0.length+1]? =some [.gs 0 0 0 0])∨(acc≠[]∧∃g,B0.length+1 < g∧bs[B0.length+1]? =some [.gs g 0 4 acc.length]∧bs[g]? =some (Qu acc)))
theorem M5 {α:Type} {bs c:List α} {n i:Nat} {y:α} (h:n≤bs.length) (hi:n≤i): ((bs ++ c).set i y).take n=bs.take n:=by
 apply List.ext_getElem?;intro j;rw[List.getElem?_take,List.getElem?_take];split
 ·rw[List.getElem?_set_ne (by omega),List.getElem?_append_left (by omega)]
 ·rfl
def TT:List AV:=[.int .i64 0,.str [],.int .i64 0,.sl false 4 []]
theorem A4 (B0:List (List AV)) (k:Int) (acc:List Tm) (bs:List (List AV)) (x:Tm) (hw:Wst B0 k acc bs) (ha:acc.length < 100000000):
  ∃bs',call F.tb 167 [.agg (Qa x),.gp B0.length 0,.gp (B0.length+1) 0] bs=some (.tup [],bs')∧Wst B0 k (acc ++ if x.kind=k then [x]else []) bs':=by
 obtain⟨h1,h2,h3,h4⟩:=hw;have hgx:=QO x;by_cases hk:x.kind=k
 ·rcases h4 with⟨rfl,h4⟩ | ⟨hne,g,hg,h4,h5⟩
  ·have hl1: ¬bs.length=B0.length+1:=by omega
   refine⟨((bs ++ [Qa x]).set (B0.length+1) [.gs bs.length 0 4 1]),?_,?_⟩
   ·rw[Qb F.tb_167 _ _ rfl];have e1: (bs ++ [TT])[bs.length]? =some TT:=List.getElem?_concat_length;have e2: (bs ++ [TT]).set bs.length (Qa x)=bs ++ [Qa x]:=by rw[List.set_append];simp
    have e3: (bs ++ [Qa x])[B0.length+1]? =some [.gs 0 0 0 0]:=by rw[List.getElem?_append_left (by omega)];exact h4
    simp only[TT]at e1 e2;simp[F.f167,F.f167C,hk,h3,h4,appM,Xp,hl1,e1,e2,e3,YR]
   ·refine⟨by simp;omega,?_,?_,.inr ⟨by simp[hk],bs.length,by omega,?_,?_⟩⟩
    ·rw[M5 (by omega) (by omega)];exact h2
    ·rw[List.getElem?_set_ne (by omega),List.getElem?_append_left (by omega)];exact h3
    ·rw[List.getElem?_set_self (by simp;omega)];simp[hk]
    ·rw[List.getElem?_set_ne (by omega),List.getElem?_concat_length];simp[hk,ZP]
  ·have hl1: ¬bs.length=B0.length+1:=by omega
   have hgl:=VG h5;have hlen: (Qu acc).length=acc.length*4:=Z2 QR acc;have hst: (Qu acc).map AV.strip=Qu acc:=Z6 Zu acc;have htk: (Qu acc).take (acc.length*4)=Qu acc:=List.take_of_length_le (by omega);have hb: (acc.length+1)*56≤140737488355328:=by omega
   have hn1: ¬(acc.length+1)*4≤acc.length*4:=by omega
   have hput: (Qu acc ++ TT).take (acc.length*4)++ (Qa x ++ (Qu acc ++ TT).drop (acc.length*4+4))=Qu (acc ++ [x]):=by
    rw[← hlen,List.take_left,List.drop_eq_nil_of_le (by simp[TT])];simp[Qu,X9,S0]
   have hzl: (Qu acc ++ TT).length=acc.length*4+4:=by rw[List.length_append,hlen];rfl
   have hne0:Qu acc≠[]:=fun e=>by rw[e]at hlen;cases acc with
    | nil=>exact hne rfl
    | cons y ys=>simp at hlen
   have hlt: (acc.length:Int) < (acc.length:Int)+1:=by omega
   refine⟨((bs.set g []++ [Qu (acc ++ [x])]).set (B0.length+1) [.gs bs.length 0 4 (acc.length+1)]),?_,?_⟩
   ·rw[Qb F.tb_167 _ _ rfl];have e1: (bs.set g []++ [Qu acc ++ TT])[bs.length]? =some (Qu acc ++ TT):=by
     have:bs.length=(bs.set g []).length:=by simp
     rw[this];exact List.getElem?_concat_length
    have e2: (bs.set g []++ [Qu acc ++ TT]).set bs.length (Qu (acc ++ [x]))=bs.set g []++ [Qu (acc ++ [x])]:=by rw[List.set_append];simp
    have e3: (bs.set g []++ [Qu (acc ++ [x])])[B0.length+1]? =some [.gs g 0 4 acc.length]:=by
     rw[List.getElem?_append_left (by simp;omega),List.getElem?_set_ne (by omega)];exact h4
    have hz:TT=[.int .i64 0,.str [],.int .i64 0,.sl false 4 []]:=rfl;rw[hz]at e1 e2 hput hzl;generalize Qu (acc ++ [x])=r2 at *;generalize Qu acc=r1 at *;simp[F.f167,F.f167C,hk,h3,h4,h5,appM,Xp,hl1,hb,hne0,hlen,hn1,htk,hst,YR];generalize r1 ++ [AV.int IntKind.i64 0,AV.str [],AV.int IntKind.i64 0,AV.sl false 4 []]=r3 at *;simp[hlt,e1,e2,e3,hput,hzl,hl1,YR,h3]
   ·refine⟨by simp;omega,?_,?_,.inr ⟨by simp[hk],bs.length,by omega,?_,?_⟩⟩
    ·rw[M5 (by simp;omega) (by omega),List.take_set_of_le (by omega)];exact h2
    ·rw[List.getElem?_set_ne (by omega),List.getElem?_append_left (by simp;omega),List.getElem?_set_ne (by omega)];exact h3
    ·rw[List.getElem?_set_self (by simp;omega)];simp[hk]
    ·rw[List.getElem?_set_ne (by omega)];have:bs.length=(bs.set g []).length:=by simp
     rw[this,List.getElem?_concat_length];simp[hk]
 ·refine⟨bs,?_,by simpa[hk]using⟨h1,h2,h3,h4⟩⟩;rw[Qb F.tb_167 _ _ rfl];simp[F.f167,F.f167C,hk,h3]
end Go.Am
