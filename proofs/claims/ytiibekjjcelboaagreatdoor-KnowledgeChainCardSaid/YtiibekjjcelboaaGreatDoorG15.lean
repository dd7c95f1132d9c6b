/-
  Ge12, Ge26, Ge27, Ge28, Ge15, Rc1, Rc2, Rc3, Rc4, Rc5, Rc6.
-/
import Derived.Test.YtiibekjjcelboaaGreatDoorG14
set_option linter.unusedVariables false
set_option linter.unusedSimpArgs false
namespace Go.Am
set_option maxRecDepth 8000
def W3 (k:Tm):Bool:=k.kind == 3 || k.sort != 1
mutual
def Yw:Tm→Int
 | .mk k n _ ks=>if k≠3 then 0 else match Zu n YG with
  | none=>10
  | some y=>if(ks.length:Int) < y.l∨y.m < ks.length then 6 else if(n=[115,107]∨n=[115,104,107])∧ks.any W3 then 10
   else if n=[110,101,119]∧ks.head?.map Tm.kind≠some 2 then 10 else chkL ks
def chkL:List Tm→Int
 | []=>0
 | t:: ts=>if Yw t≠0 then Yw t else chkL ts
end
theorem Qal (t:Tm) (bs:List (List AV)) (hm:t.mass < big) (ih: ∀x∈t.kids,∀bs,call F.tb 42 [.agg (Qb x)] bs=some (.int .i64 (Yw x),bs)):
  ∀(post pre:List Tm) (ρ:Nat→AV),t.kids=pre ++ post→ρ 62= .sl false 4 (encTs t.kids)→ρ 63= .int .i64 t.kids.length→ρ 64= .int .i64 pre.length→
  R F.tb (.loop F.f42l1) ρ bs (Qj 3 (Qu F.tb F.f42r0 (Qx F.f42 bs)))=some (.int .i64 (chkL post),bs):=by
 have hm2:=Qp t;unfold big at hm;intro post
 induction post with
 | nil=>
  intro pre ρ hk h1 h2 h3;rw[Qc F.f42l1.eq_1];simp at hk;rw[← hk]at h3;simp[h1,h2,h3,F.f42r0,chkL]
 | cons x post IH=>
  intro pre ρ hk h1 h2 h3;have hg:=Qt hk;have hl:=QE hk;have hw1:=wr1 pre.length (by omega);have hlt:=QF hk;rw[Qc F.f42l1.eq_1];by_cases hc:Yw x=0
  ·simp[h1,h2,h3,hg,hw1,hlt,ih x (by rw[hk];simp),hc,chkL];rw[IH (pre ++ [x])] <;> simp[h1,h2,hk]
  ·simp[h1,h2,h3,hg,hw1,hlt,ih x (by rw[hk];simp),hc,chkL]
theorem Jv (t:Tm) (bs:List (List AV)) (hm:t.mass < big) (ih: ∀x∈t.kids,∀bs,call F.tb 42 [.agg (Qb x)] bs=some (.int .i64 (Yw x),bs)) (ρ:Nat→AV) (h1:ρ 1= .bx (Qb t)):
  R F.tb F.f42r1 ρ bs (Qx F.f42 bs)=some (.int .i64 (chkL t.kids),bs):=by
 simp[F.f42r1,h1,Q6];refine Qal t bs hm ih t.kids [] _ rfl ?_ ?_ ?_ <;> simp
theorem Qak (t:Tm) (bs:List (List AV)) (hm:t.mass < big) (ih: ∀x∈t.kids,∀bs,call F.tb 42 [.agg (Qb x)] bs=some (.int .i64 (Yw x),bs)):
  ∀(post pre:List Tm) (ρ:Nat→AV),t.kids=pre ++ post→ρ 1= .bx (Qb t)→ρ 38= .sl false 4 (encTs t.kids)→ρ 39= .int .i64 t.kids.length→ρ 40= .int .i64 pre.length→
  R F.tb (.loop F.f42l0) ρ bs (Qj 1 (Qj 0 (Qu F.tb F.f42r1 (Qx F.f42 bs))))=some (.int .i64 (if post.any W3 then 10 else chkL t.kids),bs):=by
 have hm2:=Qp t;have hm0:=hm;unfold big at hm;intro post
 induction post with
 | nil=>
  intro pre ρ hk h0 h1 h2 h3;rw[Qc F.f42l0.eq_1];simp at hk;rw[← hk]at h3;simp[h0,h1,h2,h3];rw[Jv t bs hm0 ih] <;> simp[h0]
 | cons x post IH=>
  intro pre ρ hk h0 h1 h2 h3;have hg:=Qt hk;have hl:=QE hk;have hw1:=wr1 pre.length (by omega);have hlt:=QF hk;rw[Qc F.f42l0.eq_1];by_cases h3':x.kind=3
  ·simp[h0,h1,h2,h3,hg,hw1,hlt,Q6,h3',W3]
  ·by_cases h4:x.sort=1
   ·have hb:W3 x=false:=by simp[W3,h3',h4]
    have hb3: (x.kind == 3)=false:=by simp[h3']
    simp[h0,h1,h2,h3,hg,hw1,hlt,Q6 x,h3',h4,hb,hb3];rw[IH (pre ++ [x])] <;> simp[h0,h1,h2,hk,hb]
   ·have hb:W3 x=true:=by simp[W3,h4]
    have hb3: (x.kind == 3)=false:=by simp[h3']
    have hb4: (x.sort != 1)=true:=by simp[h4]
    simp[h0,h1,h2,h3,hg,hw1,hlt,Q6 x,h3',h4,hb,hb3,hb4]
theorem RH {n:List UInt8} {y:Sy}: ∀{l:List Sy},Zu n l=some y→y∈l∧y.n=n
 | [],h=>by simp[Zu]at h
 | s:: ss,h=>by
  simp only[Zu]at h;split at h
  ·rename_i e;injection h with h;subst h;exact⟨by simp,e⟩
  ·have:=RH h;exact⟨List.mem_cons_of_mem _ this.1,this.2⟩
theorem B5 {y:Sy} (h:y∈YG):y.k≠0∧(y.n=[110,101,119]→y.l=1):=by
 have:YG.all (fun y=>y.k≠0∧(y.n=[110,101,119]→y.l=1))=true:=by decide
 have:=List.all_eq_true.1 this y h;simpa only[decide_eq_true_eq]using this
theorem Jt: ∀(t:Tm) (bs:List (List AV)),t.mass < big→call F.tb 42 [.agg (Qb t)] bs=some (.int .i64 (Yw t),bs):=by
 refine ZG ?_;intro k n s ks ih bs hm;have hmk:=Qp (.mk k n s ks);have ih': ∀x∈(Tm.mk k n s ks).kids,∀bs,call F.tb 42 [.agg (Qb x)] bs=some (.int .i64 (Yw x),bs):=fun x hx bs=>ih x hx bs (by
  have:=QC hx;simp at *;omega)
 have r1:=fun ρ h=>Jv (.mk k n s ks) bs hm ih' ρ h;have l0:=fun ρ h0 h1 h2 h3=>Qak (.mk k n s ks) bs hm ih' ks [] ρ rfl h0 h1 h2 h3;simp only[Qb,Q0,List.length_nil]at r1 l0;rw[Qa F.tb_42 _ _ rfl];by_cases hk:k=3
 ·subst hk;cases hy:Zu n YG with
  | none=>simp[F.f42C,Qb,Y5,hy,Yw]
  | some y=>
   obtain⟨hy1,hy2⟩:=RH hy;obtain⟨hy3,hy4⟩:=B5 hy1;by_cases ha: (ks.length:Int) < y.l
   ·simp[F.f42C,Qb,Y5,hy,hy3,ha,XO,Yw]
   ·by_cases hb:y.m < (ks.length:Int)
    ·simp[F.f42C,Qb,Y5,hy,hy3,ha,hb,XO,Yw]
    ·by_cases h1:n=[115,107]
     ·subst h1;simp[F.f42C,Qb,Y5,hy,hy3,ha,hb,XO,Yw];rw[l0] <;> simp
     ·by_cases h2:n=[115,104,107]
      ·subst h2;simp[F.f42C,Qb,Y5,hy,hy3,ha,hb,XO,Yw];rw[l0] <;> simp
      ·have b1: (n == [115,107])=false:=by simp[h1]
       have b2: (n == [115,104,107])=false:=by simp[h2]
       by_cases h3:n=[110,101,119]
       ·subst h3;have hl:=hy4 hy2;cases ks with
        | nil=>simp at ha;omega
        | cons x xs=>
         have ha': ¬((xs.length:Int)+1 < y.l):=by simpa using ha
         have hb': ¬(y.m < (xs.length:Int)+1):=by simpa using hb
         by_cases hx:x.kind=2
         ·simp[F.f42C,Qb,encTs,Q6 x,Y5,hy,hy3,ha',hb',XO,Yw,hx]at *;refine(r1 _ ?_).trans ?_ <;> simp[encTs,Q6 x]
         ·simp[F.f42C,Qb,encTs,Q6 x,Y5,hy,hy3,ha',hb',XO,Yw,hx]
       ·have b3: (n == [110,101,119])=false:=by simp[h3]
        simp[F.f42C,Qb,Y5,hy,hy3,ha,hb,XO,Yw,h1,h2,h3,b1,b2,b3];rw[r1] <;> simp
 ·simp[F.f42C,Qb,hk,Yw]
def thV (t:Tm):Int:=if Qz t≠0 then Qz t else Yw t
theorem Tt (t:Tm) (bs:List (List AV)) (hm:t.mass < big):call F.tb 41 [.agg (Qb t)] bs=some (.int .i64 (thV t),bs):=by
 rw[Qa F.tb_41 _ _ rfl];have h1:=Wm t bs hm;have h2:=Jt t bs hm;rw[Q6]at *;by_cases h:Qz t=0
 ·simp[F.f41C,h1,h2,h,thV]
 ·simp[F.f41C,h1,h,thV]
theorem Pt {α:Type} {l pre post:List α} {x:α} (h:l=pre ++ x:: post) (hb:l.length < 4611686018427387904):
  l[pre.length]? =some x∧IntKind.i64.wrap ((pre.length:Int)+1)=(pre.length:Int)+1∧(pre.length:Int) < (l.length:Int)∧x∈l:=by
 have hl:l.length=pre.length+ (post.length+1):=by rw[h];simp
 exact⟨Qt h,QB (by omega) (by omega),by omega,by rw[h];simp⟩
theorem PW {t:Tm} (h:t.mass < big):t.kids.length < 4611686018427387904:=by
 have:=Qp t;unfold big at h;omega
theorem Ib {t x:Tm} (h:t.mass < big) (hx:x∈t.kids):x.mass < big:=by
 have:=QC hx;have:=Qp t;omega
theorem Fs (t:Tm) (bs:List (List AV)) (hm:t.mass < big):call F.tb 56 [.agg (Qb t)] bs=some (.int .i64 (U2 t),bs):=by
 rw[Qa F.tb_56 _ _ rfl];have hn:=Jn t.name bs (by have:=Qp t;unfold big at hm;omega);have hks: ((8:Int) < t.kids.length)=(8 < t.kids.length):=by rw[eq_iff_iff];omega
 obtain⟨k,n,s,ks⟩:=t;simp at hn hks;unfold U2;simp only[W2,Uq,ZH,Q0];by_cases k1:k=1
 ·subst k1;simp[F.f56C,Qb,hn,hks];rcases Bool.eq_false_or_eq_true (Xh n)with c4 | c4 <;> by_cases c1:s < 0 <;> by_cases c2:5 < s <;> by_cases c3:0 < ks.length <;> simp[c1,c2,c3,c4] <;> omega
 by_cases k2:k=2
 ·subst k2;simp[F.f56C,Qb,hn,hks];rcases Bool.eq_false_or_eq_true (Xh n)with c4 | c4 <;> by_cases c1:s < 0 <;> by_cases c2:5 < s <;> by_cases c3:0 < ks.length <;> simp[c1,c2,c3,c4] <;> omega
 by_cases k3:k=3
 ·subst k3;simp[F.f56C,Qb,hn,hks];rcases Bool.eq_false_or_eq_true (Xh n)with c4 | c4 <;> by_cases c1:s < 0 <;> by_cases c2:5 < s <;> by_cases c3:s=0 <;> simp[c1,c2,c3,c4] <;> omega
 ·simp[F.f56C,Qb,hn,hks,k1,k2,k3]
theorem I3 (t:Tm) (bs:List (List AV)) (hm:t.mass < big) (ih: ∀x∈t.kids,∀bs,call F.tb 55 [.agg (Qb x)] bs=some (.int .i64 (YK x),bs)):
  ∀(post pre:List Tm) (ρ:Nat→AV),t.kids=pre ++ post→ρ 1= .bx (Qb t)→ρ 4= .int .i64 pre.length→
  R F.tb (.loop F.f55l0) ρ bs (Qj 0 (Qu F.tb F.f55r0 (Qx F.f55 bs)))=some (.int .i64 (errL post),bs):=by
 intro post
 induction post with
 | nil=>
  intro pre ρ hk h1 h4;rw[Qc F.f55l0.eq_1];simp at hk;simp[h1,h4,← hk,F.f55r0,errL]
 | cons x post IH=>
  intro pre ρ hk h1 h4;obtain⟨hg,hw,hlt,hx⟩:=Pt hk (PW hm);have hh:=ih x hx bs;rw[Qc F.f55l0.eq_1];by_cases he:YK x=0
  ·simp[h1,h4,hg,hw,hlt,hh,he,errL];rw[IH (pre ++ [x])] <;> simp[h1,hk]
  ·simp[h1,h4,hg,hw,hlt,hh,he,errL]
theorem Hd: ∀(t:Tm) (bs:List (List AV)),t.mass < big→call F.tb 55 [.agg (Qb t)] bs=some (.int .i64 (YK t),bs):=by
 refine ZG ?_;intro k n s ks ih bs hm;have hl:=I3 (.mk k n s ks) bs hm (fun x hx bs=>ih x hx bs (Ib hm hx)) ks [];have hn:=Fs (.mk k n s ks) bs hm;rw[Qa F.tb_55 _ _ rfl];by_cases he:U2 (.mk k n s ks)=0
 ·simp[F.f55C,hn,he,YK];rw[hl] <;> simp
 ·simp[F.f55C,hn,he,YK]
theorem Y7 (t:Tm) (bs:List (List AV)) (hm:t.mass < big):call F.tb 54 [.agg (Qb t)] bs=some (.int .i64 (Qz t),bs):=by
 have h1:=Hd t bs hm;have h2:=Rw t bs hm;have h3:=Hb t bs hm;rw[Qa F.tb_54 _ _ rfl];have e1: (400 < (t.nodes:Int))=(400 < t.nodes):=by rw[eq_iff_iff];omega
 have e2: (40 < (t.depth:Int))=(40 < t.depth):=by rw[eq_iff_iff];omega
 simp[F.f54C,h1,h2,h3,e1,e2,Qz];by_cases he:YK t=0 <;> by_cases c1:400 < t.nodes <;> by_cases c2:40 < t.depth <;> simp[he,c1,c2]
theorem R7 (bs:List (List AV)):call F.tb 129 [] bs=some (.sl true 4 (Xs YG),bs):=by
 rw[Qa F.tb_129 _ _ rfl];simp[F.f129,F.f129C,YG,Xs,XO]
theorem Dd (n:List UInt8) (bs:List (List AV)) (l:List Sy) (hl:l.length < 1000): ∀(post pre:List Sy) (ρ:Nat→AV),l=pre ++ post→ρ 0= .str n→(∃o,ρ 3= .sl o 4 (Xs l))→ρ 4= .int .i64 pre.length→
  R F.tb (.loop F.f128l0) ρ bs (Qj 0 (Qu F.tb F.f128r0 (Qx F.f128 bs)))=some (.int .i64 (match Zu n post with | some y=>y.k | none=>0),bs):=by
 intro post
 induction post with
 | nil=>
  intro pre ρ hk h0 ⟨o,h3⟩ h4;rw[Qc F.f128l0.eq_1];simp at hk;rw[← hk]at h4;simp[h0,h3,h4,F.f128r0,Zu]
 | cons x post IH=>
  intro pre ρ hk h0 ⟨o,h3⟩ h4;have hg:=PH hk;obtain⟨_,hw,hlt,_⟩:=Pt hk (by omega);rw[Qc F.f128l0.eq_1];by_cases hx:x.n=n
  ·simp[h0,h3,h4,hg,hw,hlt,XO,hx,Zu]
  ·have hxb: (x.n == n)=false:=by simp[hx]
   simp[h0,h3,h4,hg,hw,hlt,XO,hx,hxb,Zu];rw[IH (pre ++ [x])] <;> simp[h0,h3,hk]
theorem MY (n:List UInt8) (bs:List (List AV)):call F.tb 128 [.str n] bs=some (.int .i64 (match Zu n YG with | some y=>y.k | none=>0),bs):=by
 rw[Qa F.tb_128 _ _ rfl];simp[F.f128C,R7];rw[Dd n bs YG (by decide) YG []] <;> simp
theorem CT (t:Tm) (bs:List (List AV)) (l:List Sy) (hl:l.length < 1000): ∀(post pre:List Sy) (ρ:Nat→AV),l=pre ++ post→ρ 1= .bx (Qb t)→(∃o,ρ 3= .sl o 4 (Xs l))→ρ 4= .int .i64 pre.length→
  R F.tb (.loop F.f130l0) ρ bs (Qj 0 (Qu F.tb F.f130r0 (Qx F.f130 bs)))=
   some (.bool (match Zu t.name post with | some y=>decide (y.l≤t.kids.length) && decide (t.kids.length≤y.m) | none=>false),bs):=by
 intro post
 induction post with
 | nil=>
  intro pre ρ hk h1 ⟨o,h3⟩ h4;rw[Qc F.f130l0.eq_1];simp at hk;rw[← hk]at h4;simp[h1,h3,h4,F.f130r0,Zu]
 | cons x post IH=>
  intro pre ρ hk h1 ⟨o,h3⟩ h4;have hg:=PH hk;obtain⟨_,hw,hlt,_⟩:=Pt hk (by omega);rw[Qc F.f130l0.eq_1];by_cases hx:x.n=t.name
  ·by_cases c1:x.l≤t.kids.length <;>
   simp[h1,h3,h4,hg,hw,hlt,XO,hx,Zu,c1]
  ·have hxb: (x.n == t.name)=false:=by simp[hx]
   simp[h1,h3,h4,hg,hw,hlt,XO,hx,hxb,Zu];rw[IH (pre ++ [x])] <;> simp[h1,h3,hk]
theorem Cw (t:Tm) (bs:List (List AV)):call F.tb 130 [.agg (Qb t)] bs=
  some (.bool (match Zu t.name YG with | some y=>decide (y.l≤t.kids.length) && decide (t.kids.length≤y.m) | none=>false),bs):=by
 rw[Qa F.tb_130 _ _ rfl];simp[F.f130C,R7];rw[CT t bs YG (by decide) YG []] <;> simp
theorem I6 (t:Tm) (bs:List (List AV)) (hm:t.mass < big): ∀(post pre:List Tm) (ρ:Nat→AV),t.kids=pre ++ post→ρ 1= .bx (Qb t)→ρ 3= .int .i64 pre.length→
  R F.tb (.loop F.f131l0) ρ bs (Qj 0 (Qu F.tb F.f131r0 (Qx F.f131 bs)))=some (.bool (!(post.any W3)),bs):=by
 intro post
 induction post with
 | nil=>
  intro pre ρ hk h1 h3;rw[Qc F.f131l0.eq_1];simp at hk;simp[h1,h3,← hk,F.f131r0]
 | cons x post IH=>
  intro pre ρ hk h1 h3;obtain⟨hg,hw,hlt,hx⟩:=Pt hk (PW hm);rw[Qc F.f131l0.eq_1];by_cases c1:x.kind=3 <;> by_cases c2:x.sort=1 <;>
   simp[h1,h3,hg,hw,hlt,c1,c2,W3]
  rw[IH (pre ++ [x])] <;> simp[h1,hk,W3]
theorem He (t:Tm) (bs:List (List AV)) (hm:t.mass < big) (hk:t.name=[110,101,119]→t.kids≠[]):call F.tb 131 [.agg (Qb t)] bs=
  some (.bool (if t.name=[110,101,119]then decide (t.kids.head?.map Tm.kind=some 2)else !(t.kids.any W3)),bs):=by
 rw[Qa F.tb_131 _ _ rfl];by_cases hn:t.name=[110,101,119]
 ·cases hkk:t.kids with
  | nil=>exact absurd hkk (hk hn)
  | cons x xs=>simp[F.f131C,hn,hkk,Q6 t,encTs]
 ·have hnb: (t.name == [110,101,119])=false:=by simp[hn]
  simp[F.f131C,hn,hnb];rw[I6 t bs hm t.kids []] <;> simp
theorem LC (t:Tm) (bs:List (List AV)) (hm:t.mass < big) (ih: ∀x∈t.kids,∀bs,call F.tb 127 [.agg (Qb x)] bs=some (.int .i64 (Yw x),bs)):
  ∀(post pre:List Tm) (ρ:Nat→AV),t.kids=pre ++ post→ρ 1= .bx (Qb t)→ρ 4= .int .i64 pre.length→
  R F.tb (.loop F.f127l0) ρ bs (Qj 0 (Qu F.tb F.f127r0 (Qx F.f127 bs)))=some (.int .i64 (chkL post),bs):=by
 intro post
 induction post with
 | nil=>
  intro pre ρ hk h1 h4;rw[Qc F.f127l0.eq_1];simp at hk;simp[h1,h4,← hk,F.f127r0,chkL]
 | cons x post IH=>
  intro pre ρ hk h1 h4;obtain⟨hg,hw,hlt,hx⟩:=Pt hk (PW hm);have hh:=ih x hx bs;rw[Qc F.f127l0.eq_1];by_cases he:Yw x=0
  ·simp[h1,h4,hg,hw,hlt,hh,he,chkL];rw[IH (pre ++ [x])] <;> simp[h1,hk]
  ·simp[h1,h4,hg,hw,hlt,hh,he,chkL]
theorem B6 {y:Sy} (h:y∈YG): (y.k=2)=(y.n=[115,107]∨y.n=[115,104,107]∨y.n=[110,101,119]):=by
 have:YG.all (fun y=>decide ((y.k=2)=(y.n=[115,107]∨y.n=[115,104,107]∨y.n=[110,101,119])))=true:=by
  simp only[eq_iff_iff];decide
 have:=List.all_eq_true.1 this y h;exact of_decide_eq_true this
theorem LG: ∀(t:Tm) (bs:List (List AV)),t.mass < big→call F.tb 127 [.agg (Qb t)] bs=some (.int .i64 (Yw t),bs):=by
 refine ZG ?_;intro k n s ks ih bs hm;have hl:=LC (.mk k n s ks) bs hm (fun x hx bs=>ih x hx bs (Ib hm hx)) ks [];have hf:=Cw (.mk k n s ks) bs;have ha:=He (.mk k n s ks) bs hm;have hkd:=MY n bs;simp only[ZH,Q0]at hf ha;rw[Qa F.tb_127 _ _ rfl];by_cases hk:k=3
 ·subst hk;simp only[Qb]at hf ha hl;cases hy:Zu n YG with
  | none=>
   rw[hy]at hkd;simp[F.f127C,Qb,hkd,hy,Yw]
  | some y=>
   obtain⟨hy1,hy2⟩:=RH hy;obtain⟨hy3,hy4⟩:=B5 hy1;have hp:=B6 hy1;rw[hy]at hkd hf;simp only at hkd hf;by_cases c:y.l≤ks.length∧(ks.length:Int)≤y.m
   ·have c1:=c.1;have c2:=c.2;have d1: ¬(ks.length:Int) < y.l:=by omega
    have d2: ¬y.m < (ks.length:Int):=by omega
    have ha':=ha (fun e=>by
     have:=hy4 (by rw[hy2];exact e);intro e2;subst e2;simp at c1;omega)
    rw[hy2]at hp;have hl':=fun ρ=>hl ρ rfl;by_cases h1:n=[115,107]
    ·subst h1;have hk2:y.k=2:=by rw[hp];simp
     simp at ha';rcases Bool.eq_false_or_eq_true (ks.any W3)with c4 | c4 <;>
      simp[F.f127C,Qb,hkd,hk2,hf,c1,c2,d1,d2,ha',Yw,hy,c4]
     rw[hl'] <;> simp
    by_cases h2:n=[115,104,107]
    ·subst h2;have hk2:y.k=2:=by rw[hp];simp
     simp at ha';rcases Bool.eq_false_or_eq_true (ks.any W3)with c4 | c4 <;>
      simp[F.f127C,Qb,hkd,hk2,hf,c1,c2,d1,d2,ha',Yw,hy,c4]
     rw[hl'] <;> simp
    by_cases h3:n=[110,101,119]
    ·subst h3;have hk2:y.k=2:=by rw[hp];simp
     simp at ha';by_cases c4: ∃a,ks.head?=some a∧a.kind=2 <;>
      simp[F.f127C,Qb,hkd,hk2,hf,c1,c2,d1,d2,ha',Yw,hy,c4]
     rw[hl'] <;> simp
    ·have hk2: ¬y.k=2:=by rw[hp];simp[h1,h2,h3]
     have hk2b: (y.k == 2)=false:=by simp[hk2]
     simp[F.f127C,Qb,hkd,hk2,hy3,hf,c1,c2,d1,d2,Yw,hy,h1,h2,h3];rw[hl'] <;> simp
   ·have d: (ks.length:Int) < y.l∨y.m < ks.length:=by omega
    have e: (decide (y.l≤ks.length) && decide ((ks.length:Int)≤y.m))=false:=by
     rw[Bool.and_eq_false_iff];simp;omega
    have hf2:call F.tb 130 [.agg [.int .i64 3,.str n,.int .i64 s,.sl false 4 (encTs ks)]] bs=some (.bool (decide (y.l≤(ks.length:Int)) && decide ((ks.length:Int)≤y.m)),bs):=hf;rw[e]at hf2;simp[F.f127C,Qb,hkd,hy,hy3,hf2,d,Yw]
 ·simp[F.f127C,Qb,hk,Yw]
theorem Jm (t:Tm) (bs:List (List AV)) (hm:t.mass < big):call F.tb 126 [.agg (Qb t)] bs=some (.int .i64 (thV t),bs):=by
 have h1:=Y7 t bs hm;have h2:=LG t bs hm;rw[Qa F.tb_126 _ _ rfl];rw[Q6]at *;by_cases h:Qz t=0
 ·simp[F.f126C,h1,h2,h,thV]
 ·simp[F.f126C,h1,h,thV]
theorem Je: ∀{a b:List UInt8},Y1 a b=0→a=b:=by
 intro a b h;unfold Y1 at h;split at h
 ·simp at h
 ·split at h
  ·rename_i h2;exact beq_iff_eq.1 h2
  ·simp at h
mutual
theorem ZV: ∀(t u:Tm),Qh t u=0→t=u
 | .mk k n s ks,.mk k' n' s' ks',h=>by
  rw[Uh,Ut]at h;obtain⟨h1,h2⟩:=h;unfold hdT at h1;simp only[Ut,TE,W2,ZH,Uq,Q0]at h1 h2;obtain⟨_,h3,h4,h5,h6⟩:=h1;have e1:=Je h4;have e2:=cmpL_eq0 ks ks' (by omega) h2;rw[h3,e1,h5,e2]
theorem cmpL_eq0: ∀(ts us:List Tm),ts.length=us.length→cmpL ts us=0→ts=us
 | [],[],_,_=>rfl
 | [],_:: _,h,_=>by simp at h
 | _:: _,[],h,_=>by simp at h
 | t:: ts,u:: us,h,h2=>by
  rw[cmpL,Ut]at h2;rw[ZV t u h2.1,cmpL_eq0 ts us (by simpa using h) h2.2]
end
theorem Yx {t u:Tm}:Qh t u=0↔t=u:=⟨ZV t u,fun h=>h▸YS t⟩
def isB (t:Tm) (n:List UInt8):Bool:=decide (t.kind=3) && (t.name == n)
theorem W0 {t:Tm} {n:List UInt8}:isB t n=true↔t.kind=3∧t.name=n:=by simp[isB]
theorem VB (t:Tm) (n:List UInt8) (bs:List (List AV)):call F.tb 71 [.agg (Qb t),.str n] bs=some (.bool (isB t n),bs):=by
 rw[Qa F.tb_71 _ _ rfl];by_cases h:t.kind=3 <;> simp[F.f71,F.f71C,isB,h]
theorem OZ (t:Tm) (n:List UInt8) (bs:List (List AV)):call F.tb 132 [.agg (Qb t),.str n] bs=some (.bool (isB t n),bs):=by
 rw[Qa F.tb_132 _ _ rfl];by_cases h:t.kind=3 <;> simp[F.f132,F.f132C,isB,h]
theorem VA (n:List UInt8) (ks:List Tm) (o:Bool) (bs:List (List AV)) (hl:ks.length≤1000):call F.tb 120 [.str n,.sl o 4 (encTs ks)] bs=some (.agg (Qb (.mk 3 n 0 ks)),bs):=by
 rw[Qa F.tb_120 _ _ rfl];have ha:ks.length*56≤140737488355328:=by omega
 simp[F.f120,F.f120C,WO,YJ,ha,encTs_gp]
theorem RZ (a b:Int):sgn b a= - sgn a b:=by unfold sgn;split <;> (try split) <;> (try split) <;> omega
theorem BV {a b:Int}:sgn a b≤0↔a≤b:=by unfold sgn;split <;> (try split) <;> omega
theorem Nb: ∀a b:List UInt8,Op.bytesLess a b=true∨a=b∨Op.bytesLess b a=true
 | [],[]=> .inr (.inl rfl)
 | [],_:: _=> .inl rfl
 | _:: _,[]=> .inr (.inr rfl)
 | x:: xs,y:: ys=>by
  simp only[Op.bytesLess,Bool.or_eq_true,decide_eq_true_eq,Bool.and_eq_true,beq_iff_eq,List.cons.injEq];rcases Nat.lt_trichotomy x.toNat y.toNat with h | h | h
  ·have:x < y:=by rw[UInt8.lt_iff_toNat_lt];exact h
   simp[this]
  ·have e:x=y:=UInt8.toNat_inj.1 h;subst e;have hi: ¬x < x:=by rw[UInt8.lt_iff_toNat_lt];omega
   rcases Nb xs ys with h | h | h
   ·simp[hi,h]
   ·simp[hi,h]
   ·simp[hi,h]
  ·have:y < x:=by rw[UInt8.lt_iff_toNat_lt];exact h
   have h2: ¬x < y:=by rw[UInt8.lt_iff_toNat_lt];omega
   simp[this,h2]
theorem RK: ∀a b c:List UInt8,Op.bytesLess a b=true→Op.bytesLess b c=true→Op.bytesLess a c=true
 | [],_,[],_,h=>by cases ‹List UInt8› <;> simp[Op.bytesLess]at h
 | [],_,_:: _,_,_=>rfl
 | _:: _,[],_,h,_=>by simp[Op.bytesLess]at h
 | _:: _,_:: _,[],_,h=>by simp[Op.bytesLess]at h
 | x:: xs,y:: ys,z:: zs,h1,h2=>by
  have ih:=RK xs ys zs;simp only[Op.bytesLess,Bool.or_eq_true,decide_eq_true_eq,Bool.and_eq_true,beq_iff_eq]at h1 h2 ⊢;rcases h1 with h1 | ⟨rfl,h1⟩
  ·rcases h2 with h2 | ⟨rfl,h2⟩
   ·left;rw[UInt8.lt_iff_toNat_lt]at *;omega
   ·exact .inl h1
  ·rcases h2 with h2 | ⟨rfl,h2⟩
   ·exact .inl h2
   ·exact .inr ⟨rfl,ih h1 h2⟩
theorem N9 (a b:List UInt8) (h:Op.bytesLess a b=true):Op.bytesLess b a=false:=by
 cases hb:Op.bytesLess b a
 ·rfl
 ·have:=RK a b a h hb;rw[Y0]at this;cases this
theorem PD (a b:List UInt8):Y1 b a= - Y1 a b:=by
 unfold Y1;rcases Nb a b with h | h | h
 ·have h2:=N9 a b h;have hne: (b == a)=false:=by
   rw[beq_eq_false_iff_ne];intro e;subst e;rw[Y0]at h;cases h
  simp[h,h2,hne]
 ·subst h;simp[Y0]
 ·have h2:=N9 b a h;have hne: (a == b)=false:=by
   rw[beq_eq_false_iff_ne];intro e;subst e;rw[Y0]at h;cases h
  simp[h,h2,hne]
theorem Qdr {a b:List UInt8}:Y1 a b≤0↔Op.bytesLess a b=true∨a=b:=by
 unfold Y1;split
 ·rename_i h;simp[h]
 ·rename_i h;split
  ·rename_i h2;simp at h2;simp[h2]
  ·rename_i h2;simp at h2;simp[h,h2]
theorem FB {a b c:List UInt8} (h1:Y1 a b≤0) (h2:Y1 b c≤0):Y1 a c≤0:=by
 rw[Qdr]at *;rcases h1 with h1 | rfl
 ·rcases h2 with h2 | rfl
  ·exact .inl (RK _ _ _ h1 h2)
  ·exact .inl h1
 ·exact h2
theorem JF {a b:List UInt8} (h:Y1 a b=0):a=b:=by
 rcases Nb a b with h2 | h2 | h2
 ·simp[Y1,h2]at h
 ·exact h2
 ·have:=PD a b;rw[h]at this;simp[Y1,h2]at this
theorem Us {a b a' b':Int} (h1:a'= -a) (h2:b'= -b):or0 a' b'= - or0 a b:=by
 subst h1 h2;unfold or0;split <;> split <;> omega
theorem VI {a1 a2 a3 b1 b2 b3:Int} (ha:a1≤0→a2≤0→a3≤0) (hz:a3=0→a1≤0→a2≤0→a1=0∧a2=0) (hb:a1=0→a2=0→b1≤0→b2≤0→b3≤0)
  (h1:or0 a1 b1≤0) (h2:or0 a2 b2≤0):or0 a3 b3≤0:=by
 have g1:a1≤0:=by unfold or0 at h1;split at h1 <;> omega
 have g2:a2≤0:=by unfold or0 at h2;split at h2 <;> omega
 have g3:=ha g1 g2;by_cases hc:a3=0
 ·obtain⟨z1,z2⟩:=hz hc g1 g2;rw[z1,W6]at h1;rw[z2,W6]at h2;rw[hc,W6];exact hb z1 z2 h1 h2
 ·rw[V0 hc];exact g3
theorem TZ {a b c:Int} (h1:sgn a b≤0) (h2:sgn b c≤0):sgn a c≤0:=by rw[BV]at *;omega
theorem Nk {a b c:Int} (h:sgn a c=0) (h1:sgn a b≤0) (h2:sgn b c≤0):sgn a b=0∧sgn b c=0:=by
 rw[TE]at *;rw[BV]at h1 h2;rw[TE];omega
theorem Cy {a b c:List UInt8} (h:Y1 a c=0) (h1:Y1 a b≤0) (h2:Y1 b c≤0):Y1 a b=0∧Y1 b c=0:=by
 have e:=JF h;subst e;have:=PD a b;constructor <;> omega
theorem J2 (t u:Tm):hdT u t= - hdT t u:=by
 unfold hdT;exact Us (RZ _ _) (Us (RZ _ _) (Us (PD _ _) (Us (RZ _ _) (RZ _ _))))
theorem O9 {t u:Tm}:hdT t u=0↔t.nodes=u.nodes∧t.kind=u.kind∧t.name=u.name∧t.sort=u.sort∧t.kids.length=u.kids.length:=by
 unfold hdT;rw[Ut,Ut,Ut,Ut,TE,TE,TE,TE];constructor
 ·rintro⟨h1,h2,h3,h4,h5⟩
  exact⟨by omega,h2,JF h3,h4,by omega⟩
 ·rintro⟨h1,h2,h3,h4,h5⟩
  exact⟨by omega,h2,by rw[h3];exact M4 _,h4,by omega⟩
theorem C1 {t u v:Tm} (h1:hdT t u≤0) (h2:hdT u v≤0):hdT t v≤0:=by
 unfold hdT at *;refine VI TZ (fun h a b=>Nk h a b) (fun _ _=> ?_) h1 h2;refine VI TZ (fun h a b=>Nk h a b) (fun _ _=> ?_);refine VI FB (fun h a b=>Cy h a b) (fun _ _=> ?_);exact VI TZ (fun h a b=>Nk h a b) (fun _ _=>TZ)
theorem PC: ∀(ts us:List Tm),(∀x∈ts,∀y,Qh y x= - Qh x y)→cmpL us ts= - cmpL ts us
 | [],[],_=>by simp[cmpL]
 | [],_:: _,_=>by simp[cmpL]
 | _:: _,[],_=>by simp[cmpL]
 | t:: ts,u:: us,h=>by
  simp only[cmpL];exact Us (h t (by simp) u) (PC ts us fun x hx=>h x (by simp[hx]))
theorem Z5: ∀(t u:Tm),Qh u t= - Qh t u:=by
 refine ZG ?_;intro k n s ks ih u;rw[Uh,Uh];exact Us (J2 _ _) (PC _ _ fun x hx y=>ih x hx y)
theorem Pb: ∀(ts us vs:List Tm),ts.length=us.length→us.length=vs.length→(∀x∈ts,∀y z,Qh x y≤0→Qh y z≤0→Qh x z≤0)→cmpL ts us≤0→cmpL us vs≤0→cmpL ts vs≤0
 | [],[],[],_,_,_,_,_=>by simp[cmpL]
 | t:: ts,u:: us,v:: vs,h1,h2,h,g1,g2=>by
  simp only[cmpL]at g1 g2 ⊢;refine VI (h t (by simp) u v) (fun h0 a b=> ?_) (fun _ _=>Pb ts us vs (by simpa using h1) (by simpa using h2) fun x hx=>h x (by simp[hx])) g1 g2;have e:=ZV _ _ h0;subst e;have:=Z5 t u;constructor <;> omega
 | [],_:: _,_,h1,_,_,_,_=>by simp at h1
 | _:: _,[],_,h1,_,_,_,_=>by simp at h1
 | [],[],_:: _,_,h2,_,_,_=>by simp at h2
 | _:: _,_:: _,[],_,h2,_,_,_=>by simp at h2
theorem Ry: ∀(t u v:Tm),Qh t u≤0→Qh u v≤0→Qh t v≤0:=by
 refine ZG ?_;intro k n s ks ih u v h1 h2;rw[Uh]at *;refine VI C1 (fun h0 a b=> ?_) (fun e1 e2=> ?_) h1 h2
 ·rw[O9]at h0;have z1:=O9 (t:= .mk k n s ks) (u:=u);have e2:hdT u v=hdT u (.mk k n s ks):=by unfold hdT;rw[h0.1,h0.2.1,h0.2.2.1,h0.2.2.2.1,h0.2.2.2.2]
  rw[e2]at b ⊢;have:=J2 (.mk k n s ks) u;constructor <;> omega
 ·rw[O9]at e1 e2;exact Pb _ _ _ e1.2.2.2.2 e2.2.2.2.2 fun x hx=>ih x hx
theorem Z0 {a b c:Tm} (h1:Qh a b < 0) (h2:Qh b c < 0):Qh a c < 0:=by
 have h:=Ry a b c (by omega) (by omega);rcases Int.lt_or_eq_of_le h with h | h
 ·exact h
 ·have e:=ZV _ _ h;subst e;have:=Z5 a b;omega
theorem XH (a:Tm): ¬Qh a a < 0:=by rw[YS];omega
theorem NV {a b:Tm}:0 < Qh a b↔Qh b a < 0:=by have:=Z5 a b;omega
theorem O3 (a b:Tm):Qh a b < 0∨a=b∨Qh b a < 0:=by
 rcases Int.lt_trichotomy (Qh a b) 0 with h | h | h
 ·exact .inl h
 ·exact .inr (.inl (ZV _ _ h))
 ·exact .inr (.inr (NV.1 h))
def Asc (l:List Tm):Prop:=l.Pairwise fun a b=>Qh a b < 0
theorem Asc.nil:Asc []:=List.Pairwise.nil
theorem Rb (t:Tm):Asc [t]:=by simp[Asc]
theorem Yb {x:Tm} {l:List Tm}:Asc (x:: l)↔(∀y∈l,Qh x y < 0)∧Asc l:=List.pairwise_cons
theorem Ok: ∀{a b:List Tm},Asc a→Asc b→(∀x,x∈a↔x∈b)→a=b
 | [],[],_,_,_=>rfl
 | [],y:: ys,_,_,h=>by have:=(h y).2 (by simp);simp at this
 | x:: xs,[],_,_,h=>by have:=(h x).1 (by simp);simp at this
 | x:: xs,y:: ys,ha,hb,h=>by
  rw[Yb]at ha hb;have hxy:x=y:=by
   rcases O3 x y with h1 | h1 | h1
   ·have:=(h x).1 (by simp);rcases List.mem_cons.1 this with e | e
    ·exact e
    ·have:=Z0 h1 (hb.1 x e);exact absurd this (XH x)
   ·exact h1
   ·have:=(h y).2 (by simp);rcases List.mem_cons.1 this with e | e
    ·exact e.symm
    ·have:=Z0 h1 (ha.1 y e);exact absurd this (XH y)
  subst hxy;congr 1;refine Ok ha.2 hb.2 fun z=> ?_;have hz:=h z;simp only[List.mem_cons]at hz;constructor
  ·intro hm;rcases hz.1 (.inr hm)with e | e
   ·subst e;exact absurd (ha.1 z hm) (XH z)
   ·exact e
  ·intro hm;rcases hz.2 (.inr hm)with e | e
   ·subst e;exact absurd (hb.1 z hm) (XH z)
   ·exact e
def Q4 (t:Tm):List Tm→List Tm
 | []=>[t]
 | x:: xs=>if Qh t x < 0 then t:: x:: xs else if Qh t x=0 then x:: xs else x:: Q4 t xs
theorem Vr {t y:Tm}: ∀{l:List Tm},y∈Q4 t l↔y=t∨y∈l
 | []=>by simp[Q4]
 | x:: xs=>by
  simp only[Q4];split
  ·simp
  ·split
   ·rename_i h;have:=ZV _ _ h;subst this;simp
   ·simp only[List.mem_cons,Vr (l:=xs)];constructor
    ·rintro(h | h | h) <;> simp[h]
    ·rintro(h | h | h) <;> simp[h]
theorem Ru {t:Tm}: ∀{l:List Tm},Asc l→Asc (Q4 t l)
 | [],_=>Rb t
 | x:: xs,h=>by
  have h0:=h;rw[Yb]at h;simp only[Q4];split
  ·rename_i h1;rw[Yb];refine⟨fun y hy=> ?_,h0⟩;rcases List.mem_cons.1 hy with rfl | hy
   ·exact h1
   ·exact Z0 h1 (h.1 y hy)
  ·split
   ·exact h0
   ·rename_i h1 h2;rw[Yb];refine⟨fun y hy=> ?_,Ru h.2⟩;rcases Vr.1 hy with rfl | hy
    ·exact NV.1 (by omega)
    ·exact h.1 y hy
theorem OR (t:Tm): ∀l:List Tm,(Q4 t l).length≤l.length+1
 | []=>by simp[Q4]
 | x:: xs=>by
  simp only[Q4];have:=OR t xs;split
  ·simp
  ·split <;> simp <;> omega
def Wy (acc:List Tm) (l:List Tm):List Tm:=l.foldl (fun a x=>Q4 x a) acc
def Zs (l:List Tm):List Tm:=Wy [] l
theorem Mg {y:Tm}: ∀{l acc:List Tm},y∈Wy acc l↔y∈acc∨y∈l
 | [],acc=>by simp[Wy]
 | x:: xs,acc=>by
  have:=Mg (y:=y) (l:=xs) (acc:=Q4 x acc);simp only[Wy,List.foldl_cons]at this ⊢;rw[this,Vr];simp only[List.mem_cons];constructor
  ·rintro((h | h) | h) <;> simp[h]
  ·rintro(h | h | h) <;> simp[h]
theorem NC: ∀{l acc:List Tm},Asc acc→Asc (Wy acc l)
 | [],_,h=>h
 | x:: xs,acc,h=>NC (l:=xs) (Ru h)
theorem XJ {y:Tm} {l:List Tm}:y∈Zs l↔y∈l:=by unfold Zs;rw[Mg];simp
theorem Tr (l:List Tm):Asc (Zs l):=NC Asc.nil
theorem HI {l:List Tm} (h:Asc l):Zs l=l:=Ok (Tr l) h fun x=>XJ
theorem NB: ∀(l acc:List Tm),(Wy acc l).length≤acc.length+l.length
 | [],acc=>by simp[Wy]
 | x:: xs,acc=>by
  have h1:=NB xs (Q4 x acc);have h2:=OR x acc;simp only[Wy,List.foldl_cons,List.length_cons]at *;omega
theorem IP (l:List Tm): (Zs l).length≤l.length:=by have:=NB l [];simpa[Zs]using this
theorem RL {t y:Tm}: ∀{l:List Tm},y∈Vo t l↔y=t∨y∈l
 | []=>by simp[Vo]
 | x:: xs=>by
  simp only[Vo];split
  ·simp only[List.mem_cons,RL (l:=xs)];constructor
   ·rintro(h | h | h) <;> simp[h]
   ·rintro(h | h | h) <;> simp[h]
  ·simp
theorem Wj {y:Tm}: ∀{l:List Tm},y∈ZB l↔y∈l
 | []=>by simp[ZB]
 | x:: xs=>by simp only[ZB,RL,Wj (l:=xs),List.mem_cons]
theorem J3 (t:Tm): ∀l:List Tm,(Vo t l).length=l.length+1
 | []=>rfl
 | x:: xs=>by simp only[Vo];split <;> simp[J3 t xs]
theorem XB: ∀l:List Tm,(ZB l).length=l.length
 | []=>rfl
 | x:: xs=>by simp[ZB,J3,XB xs]
def Srt (l:List Tm):Prop:=l.Pairwise fun a b=>Qh a b≤0
theorem IU {t:Tm}: ∀{l:List Tm},Srt l→Srt (Vo t l)
 | [],_=>by simp[Vo,Srt]
 | x:: xs,h=>by
  have h0:=h;unfold Srt at h;rw[List.pairwise_cons]at h;simp only[Vo];split
  ·rename_i h1;unfold Srt;rw[List.pairwise_cons];refine⟨fun y hy=> ?_,IU h.2⟩;rcases RL.1 hy with rfl | hy
   ·omega
   ·exact h.1 y hy
  ·rename_i h1;unfold Srt;rw[List.pairwise_cons];refine⟨fun y hy=> ?_,h0⟩;have htx:Qh t x≤0:=by have:=Z5 x t;omega
   rcases List.mem_cons.1 hy with rfl | hy
   ·exact htx
   ·exact Ry _ _ _ htx (h.1 y hy)
theorem Lw: ∀l:List Tm,Srt (ZB l)
 | []=>List.Pairwise.nil
 | x:: xs=>IU (Lw xs)
def Yq:List Tm→List Tm
 | []=>[]
 | [x]=>[x]
 | x:: y:: r=>if Qh y x=0 then Yq (x:: r)else x:: Yq (y:: r)
termination_by l=>l.length
theorem TW: ∀(n:Nat) (l:List Tm) (y:Tm),l.length≤n→(y∈Yq l↔y∈l)
 | _,[],y,_=>by simp[Yq]
 | _,[x],y,_=>by simp[Yq]
 | n+1,x:: z:: r,y,h=>by
  rw[Yq];split
  ·rename_i e;have e:=ZV _ _ e;subst e;rw[TW n (z:: r) y (by simp at h ⊢;omega)];simp
  ·rw[List.mem_cons,TW n (z:: r) y (by simp at h ⊢;omega)];simp only[List.mem_cons]
 | 0,_:: _:: _,_,h=>by simp at h
theorem Ps: ∀(n:Nat) (l:List Tm),l.length≤n→Srt l→Asc (Yq l)
 | _,[],_,_=>by simp[Yq,Asc.nil]
 | _,[x],_,_=>by simp[Yq,Rb]
 | n+1,x:: z:: r,h,hs=>by
  have hs0:=hs;unfold Srt at hs;rw[List.pairwise_cons]at hs;rw[Yq];split
  ·rename_i e;have e:=ZV _ _ e;subst e;exact Ps n _ (by simp at h ⊢;omega) hs.2
  ·rename_i e;rw[Yb];refine⟨fun y hy=> ?_,Ps n _ (by simp at h ⊢;omega) hs.2⟩;rw[TW n _ y (by simp at h ⊢;omega)]at hy;have hxz:Qh x z < 0:=by
    have h1:=hs.1 z (by simp);have h2:=Z5 x z;omega
   rcases List.mem_cons.1 hy with rfl | hy
   ·exact hxz
   ·have h2:Qh z y≤0:=by
     have:=hs.2;rw[List.pairwise_cons]at this;exact this.1 y hy
    rcases Int.lt_or_eq_of_le (Ry x z y (by omega) h2)with h3 | h3
    ·exact h3
    ·have e3:=ZV _ _ h3;subst e3;have:=Z5 x z;omega
 | 0,_:: _:: _,h,_=>by simp at h
theorem T5 (l:List Tm):Yq (ZB l)=Zs l:=
 Ok (Ps _ _ (Nat.le_refl _) (Lw l)) (Tr l) fun x=>by rw[TW _ _ x (Nat.le_refl _),Wj,XJ]
theorem UA: ∀a b:List AV,gpfreeL (a ++ b)=(gpfreeL a && gpfreeL b)
 | [],b=>by simp
 | x:: a,b=>by simp[UA a b,Bool.and_assoc]
section
variable {α:Type} (f:α→List AV) (k:Nat)
def ZA (f:α→List AV) (l:List α):List AV:=(l.map f).flatten
theorem Vu (x:α) (l:List α):ZA f (x:: l)=f x ++ ZA f l:=by simp[ZA]
theorem Xj (a b:List α):ZA f (a ++ b)=ZA f a ++ ZA f b:=by simp[ZA]
theorem Tg (x:α):ZA f [x]=f x:=by simp[ZA]
variable {f k}
theorem Q8 (hk: ∀x,(f x).length=k): ∀l:List α,(ZA f l).length=l.length*k
 | []=>by simp[ZA]
 | x:: l=>by rw[Vu,List.length_append,hk,Q8 hk l,List.length_cons,Nat.succ_mul];omega
theorem Zl (hs: ∀x,(f x).map AV.strip=f x): ∀l:List α,(ZA f l).map AV.strip=ZA f l
 | []=>rfl
 | x:: l=>by rw[Vu,List.map_append,hs,Zl hs l]
theorem ID (hg: ∀x,gpfreeL (f x)=true): ∀l:List α,gpfreeL (ZA f l)=true
 | []=>rfl
 | x:: l=>by
  rw[Vu,UA,hg x,ID hg l];rfl
theorem Xc (hk: ∀x,(f x).length=k) {l pre post:List α} {x:α} (h:l=pre ++ x:: post) (t:List AV): ((ZA f l ++ t).drop (pre.length*k)).take k=f x:=by
 subst h;rw[Xj,Vu,List.append_assoc,← Q8 hk pre,List.drop_left,List.append_assoc];have:=hk x;rw[List.take_append_of_le_length (by omega),List.take_of_length_le (by omega)]
theorem WS (hk: ∀x,(f x).length=k) {l pre post:List α} (h:l=pre ++ post) (t:List AV): (ZA f l ++ t).take (pre.length*k)=ZA f pre:=by
 subst h;rw[Xj,List.append_assoc,← Q8 hk pre,List.take_left]
theorem TB (hk: ∀x,(f x).length=k) {l pre post:List α} (h:l=pre ++ post) (t:List AV): (ZA f l ++ t).drop (pre.length*k)=ZA f post ++ t:=by
 subst h;rw[Xj,List.append_assoc,← Q8 hk pre,List.drop_left]
theorem Th (hk: ∀x,(f x).length=k) {l pre post:List α} {x:α} (y:α) (h:l=pre ++ x:: post) (t:List AV):
  (ZA f l ++ t).take (pre.length*k)++ (f y ++ (ZA f l ++ t).drop (pre.length*k+k))=ZA f (pre ++ y:: post)++ t:=by
 rw[WS hk h,Xj,Vu];have h2:l=(pre ++ [x])++ post:=by rw[h];simp
 have:=TB hk h2 t;rw[List.length_append,List.length_singleton,Nat.add_mul,Nat.one_mul]at this;rw[this];simp
theorem Yv (hk: ∀x,(f x).length=k) (hs: ∀x,(f x).map AV.strip=f x) (l:List α) (t:List AV):Q5 (ZA f l ++ t) 0 k l.length=l.map f:=by
 apply List.ext_getElem?;intro i;cases hc: (Q5 (ZA f l ++ t) 0 k l.length)[i]? with
 | none=>
  rw[List.getElem?_eq_none_iff,Y6]at hc;rw[List.getElem?_eq_none (by simpa using hc)]
 | some y=>
  obtain⟨hi,rfl⟩:=VU hc;have hl:l=l.take i ++ l[i]:: l.drop (i+1):=by rw[List.getElem_cons_drop,List.take_append_drop]
  have hr:=Xc hk hl t;rw[List.length_take,Nat.min_eq_left (by omega)]at hr;rw[Nat.zero_add,hr,hs];simp[List.getElem?_eq_getElem hi]
end
theorem Qk (x:Tm): (Qb x).length=4:=ZY x
abbrev Qf (l:List Tm):List AV:=ZA Qb l
theorem Wu (l:List Tm):l.map Qb=encTs l:=(Yd l).symm
theorem NJ (x y:Tm) (bs:List (List AV)) (hx:x.mass < big) (hy:y.mass < big):call F.tb 171 [.agg (Qb x),.agg (Qb y)] bs=some (.bool (decide (Qh x y=0)),bs):=by
 rw[Qa F.tb_171 _ _ rfl];have h:=call_Compare x y bs hx hy;simp[F.f171,F.f171C,Qg,h]
def QZ (prev:Tm):List Tm→List Tm
 | []=>[]
 | x:: r=>if Qh x prev=0 then QZ x r else x:: QZ x r
theorem VV (x:Tm): ∀(r:List Tm),Yq (x:: r)=x:: QZ x r
 | []=>by simp[Yq,QZ]
 | y:: r=>by
  rw[Yq];simp only[QZ];split
  ·rename_i h;have:=ZV _ _ h;subst this;exact VV y r
  ·rw[VV y r]
theorem HO (B:List (List AV)) (id n:Nat) (D:List Tm) (c:List AV) (hB:id < B.length) (hc:c.length=n*4) (hD:D.length≤n) (hn:n < 100000000) (ht:c.take (D.length*4)=Qf D)
  (ρ:Nat→AV) (h0:ρ 0= .gs id 0 4 n) (h5:ρ 5= .int .i64 D.length):
  R F.tb F.f172r0 ρ (B.set id c) (Qj 1 (Qu F.tb F.f172r1 (Qu F.tb (.loop F.f172l1) (Qj 0 (Qu F.tb F.f172r2 (Qx F.f172 B))))))=
   some (.gs id 0 4 D.length,B.set id (Qf D ++ List.replicate ((n - D.length)*4) .undef)):=by
 have e1: (0:Int)≤(D.length:Int):=by omega
 have e2: (D.length:Int)≤(n:Int):=by omega
 have hput:c.take (D.length*4)++ (List.replicate ((n - D.length)*4) AV.undef ++ c.drop (D.length*4+ (n - D.length)*4))=Qf D ++ List.replicate ((n - D.length)*4) .undef:=by
  rw[ht,List.drop_eq_nil_of_le (by rw[hc,← Nat.add_mul];exact Nat.mul_le_mul_right _ (by omega))];simp
 have hle:D.length*4+ (n - D.length)*4≤n*4:=by rw[← Nat.add_mul];exact Nat.mul_le_mul_right _ (by omega)
 by_cases hz:n - D.length=0
 ·have hDn:D.length=n:=by omega
  have hcc:c=Qf D:=by rw[← ht,List.take_of_length_le (by omega)]
  simp[F.f172r0,h0,h5,e1,e2,hD,hz,hcc]
 ·simp[F.f172r0,h0,h5,e1,e2,hD,hz,hB,hc,hle,hput]
end Go.Am
namespace Go.Am
set_option maxRecDepth 8000
def Sd (L:List Tm) (B:List (List AV)) (id:Nat) (r:Option (AV×List (List AV))):Prop:=∃t,r=some (.gs id 0 4 L.length,B.set id (Qf L ++ t))
theorem Qcf (B:List (List AV)) (id n k0:Nat) (hB:id < B.length) (hn:n < 100000000): ∀(post D mid:List Tm) (prev:Tm) (k2:Nat) (ρ:Nat→AV),D.length+mid.length+1+post.length=n→k0+k2=D.length+mid.length+1→0 < k2→
   (∀x∈prev:: post,x.mass < big)→ρ 0= .gs id 0 4 n→ρ 1= .fn 171 []→ρ 5= .int .i64 D.length→ρ 6= .gs id (k0*4) 4 (n - k0)→ρ 7= .int .i64 k2→
  Sd (D ++ QZ prev post) B id (R F.tb (.loop F.f172l0) ρ (B.set id (Qf (D ++ mid ++ prev:: post)))
   (Qj 2 (Qu F.tb F.f172r0 (Qj 1 (Qu F.tb F.f172r1 (Qu F.tb (.loop F.f172l1) (Qj 0 (Qu F.tb F.f172r2 (Qx F.f172 B))))))))):=by
 intro post
 induction post with
 | nil=>
  intro D mid prev k2 ρ hl hk hk2 hm h0 h1 h5 h6 h7;have hlen: (Qf (D ++ mid ++ [prev])).length=n*4:=by rw[Q8 Qk];simp at hl ⊢;omega
  have ht: (Qf (D ++ mid ++ [prev])).take (D.length*4)=Qf D:=by
   have:=WS (f:=Qb) (k:=4) Qk (l:=D ++ mid ++ [prev]) (pre:=D) (post:=mid ++ [prev]) (by simp) [];simpa using this
  have hr:=fun ρ a b=>HO B id n D (Qf (D ++ mid ++ [prev])) hB hlen (by omega) hn ht ρ a b;have hl':D.length+mid.length+1=n:=by simpa using hl
  have hnl: ¬((k2:Int) < ((n - k0:Nat):Int)):=by omega
  have hnl2: ¬(k2 < n - k0):=by omega
  rw[Qc F.f172l0.eq_1];simp only[QZ,List.append_nil];refine⟨List.replicate ((n - D.length)*4) .undef,?_⟩;simp[h0,h1,h5,h6,h7,hnl,hnl2];simp only[List.append_assoc]at hr;refine hr _ ?_ ?_ <;> simp[h0,h5]
 | cons x post IH=>
  intro D mid prev k2 ρ hl hk hk2 hm h0 h1 h5 h6 h7;have hlen: (Qf (D ++ mid ++ prev:: x:: post)).length=n*4:=by rw[Q8 Qk];simp at hl ⊢;omega
  have hst: (Qf (D ++ mid ++ prev:: x:: post)).map AV.strip=Qf (D ++ mid ++ prev:: x:: post):=Zl QL _;have r1: ((Qf (D ++ mid ++ prev:: x:: post)).drop (k0*4+k2*4)).take 4=Qb x:=by
   have:=Xc (f:=Qb) (k:=4) Qk (l:=D ++ mid ++ prev:: x:: post) (pre:=D ++ mid ++ [prev]) (post:=post) (x:=x) (by simp) [];rw[← Nat.add_mul,hk];simpa[Nat.add_assoc]using this
  have r2: ((Qf (D ++ mid ++ prev:: x:: post)).drop (k0*4+ (k2 - 1)*4)).take 4=Qb prev:=by
   have:=Xc (f:=Qb) (k:=4) Qk (l:=D ++ mid ++ prev:: x:: post) (pre:=D ++ mid) (post:=x:: post) (x:=prev) (by simp) [];rw[← Nat.add_mul,show k0+ (k2 - 1)=D.length+mid.length by omega];simpa[Nat.add_assoc]using this
  have hput: (Qf (D ++ mid ++ prev:: x:: post)).take (D.length*4)++ (Qb x ++ (Qf (D ++ mid ++ prev:: x:: post)).drop (D.length*4+4))=Qf ((D ++ [x])++ (mid ++ [prev]).tail ++ x:: post):=by
   obtain⟨y,m2,hy⟩: ∃y m2,mid ++ [prev]=y:: m2:=by cases mid <;> simp
   have:=Th (f:=Qb) (k:=4) Qk (l:=D ++ mid ++ prev:: x:: post) (pre:=D) (post:=m2 ++ x:: post) (x:=y) x (by
    have:D ++ mid ++ prev:: x:: post=D ++ (mid ++ [prev])++ x:: post:=by simp
    rw[this,hy];simp) []
   rw[hy];simpa using this
  have hw1:IntKind.i64.wrap ((k2:Int) - 1)=((k2 - 1:Nat):Int):=by rw[QB (by omega) (by omega)];omega
  have hw2:IntKind.i64.wrap ((k2:Int)+1)=((k2+1:Nat):Int):=by rw[QB (by simp at hl;omega) (by simp at hl;omega)];omega
  have hw3:IntKind.i64.wrap ((D.length:Int)+1)=((D.length+1:Nat):Int):=by rw[QB (by simp at hl;omega) (by simp at hl;omega)];omega
  have hlt: (k2:Int) < ((n - k0:Nat):Int):=by simp at hl;omega
  have hlt1:k2 < n - k0:=by simp at hl;omega
  have hlt2: ((k2 - 1:Nat):Int) < ((n - k0:Nat):Int):=by simp at hl;omega
  have hlt2':k2 - 1 < n - k0:=by simp at hl;omega
  have hlt3: (D.length:Int) < (n:Int):=by simp at hl;omega
  have hlt3':D.length < n:=by simp at hl;omega
  have hb1:k0*4+k2*4+4≤n*4:=by simp at hl;omega
  have hb2:k0*4+ (k2 - 1)*4+4≤n*4:=by simp at hl;omega
  have hb3:D.length*4+4≤n*4:=by simp at hl;omega
  have hnn: (0:Int)≤((k2 - 1:Nat):Int):=by omega
  have hc:=fun bs=>NJ x prev bs (hm x (by simp)) (hm prev (by simp));have hcast: ((k2 - 1:Nat):Int).toNat=k2 - 1:=by omega
  have ih1:=IH D (mid ++ [prev]) x (k2+1);have ih2:=IH (D ++ [x]) (mid ++ [prev]).tail x (k2+1);have htl: ((mid ++ [prev]).tail).length=mid.length:=by simp
  rw[show D ++ (mid ++ [prev])++ x:: post=D ++ mid ++ prev:: x:: post by simp]at ih1;rw[Qc F.f172l0.eq_1];generalize Qf (D ++ mid ++ prev:: x:: post)=c at *;generalize hkm:k2 - 1=km at *;generalize n - k0=nk at *;by_cases he:Qh x prev=0
  ·have e:QZ prev (x:: post)=QZ x post:=by simp[QZ,he]
   rw[e];simp[h0,h1,h5,h6,h7,hlt,hlt1,hlt2,hlt2',hnn,hw1,hw2,hb1,hb2,hB,hlen,hst,r1,r2,hc,he,hcast];refine ih1 _ (by simp at hl ⊢;omega) (by simp;omega) (by omega) (fun y hy=>hm y (by simp at hy ⊢;rcases hy with h | h <;> simp[h])) ?_ ?_ ?_ ?_ ?_ <;> simp[h0,h1,h5,h6]
  ·have e:D ++ QZ prev (x:: post)=D ++ x:: QZ x post:=by simp[QZ,he]
   rw[e];simp only[List.append_assoc,List.cons_append,List.nil_append]at ih2;simp[h0,h1,h5,h6,h7,hlt,hlt1,hlt2,hlt2',hlt3,hlt3',hnn,hw1,hw2,hw3,hb1,hb2,hb3,hB,hlen,hst,r1,r2,hc,he,hcast,hput];refine ih2 _ (by simp at hl ⊢;omega) (by simp;omega) (by omega) (fun y hy=>hm y (by simp at hy ⊢;rcases hy with h | h <;> simp[h])) ?_ ?_ ?_ ?_ ?_ <;> simp[h0,h1,h5,h6]
theorem Qcg (B:List (List AV)) (id n:Nat) (hB:id < B.length) (hn:n < 100000000): ∀(post pre:List Tm) (prev:Tm) (ρ:Nat→AV),pre.length+1+post.length=n→
   (∀x∈prev:: post,x.mass < big)→ρ 0= .gs id 0 4 n→ρ 1= .fn 171 []→ρ 5= .int .i64 (pre.length+1:Nat)→
  Sd (pre ++ prev:: QZ prev post) B id (R F.tb (.loop F.f172l1) ρ (B.set id (Qf (pre ++ prev:: post)))
   (Qj 0 (Qu F.tb F.f172r2 (Qx F.f172 B)))):=by
 intro post
 induction post with
 | nil=>
  intro pre prev ρ hl hm h0 h1 h5;have hl':pre.length+1=n:=by simpa using hl
  have hnl: ¬((pre.length:Int)+1 < (n:Int)):=by omega
  rw[Qc F.f172l1.eq_1];refine⟨[],?_⟩;simp[h0,h1,h5,hnl,QZ,F.f172r2,hl']
 | cons x post IH=>
  intro pre prev ρ hl hm h0 h1 h5;have hl':pre.length+1+ (post.length+1)=n:=by simpa using hl
  have hlen: (Qf (pre ++ prev:: x:: post)).length=n*4:=by rw[Q8 Qk];simp;omega
  have hst: (Qf (pre ++ prev:: x:: post)).map AV.strip=Qf (pre ++ prev:: x:: post):=Zl QL _;have r1: ((Qf (pre ++ prev:: x:: post)).drop ((pre.length+1)*4)).take 4=Qb x:=by
   have:=Xc (f:=Qb) (k:=4) Qk (l:=pre ++ prev:: x:: post) (pre:=pre ++ [prev]) (post:=post) (x:=x) (by simp) [];simpa using this
  have r2: ((Qf (pre ++ prev:: x:: post)).drop (pre.length*4)).take 4=Qb prev:=by
   have:=Xc (f:=Qb) (k:=4) Qk (l:=pre ++ prev:: x:: post) (pre:=pre) (post:=x:: post) (x:=prev) (by simp) [];simpa using this
  have hw1:IntKind.i64.wrap (pre.length:Int)=(pre.length:Int):=QB (by omega) (by omega);have hw2:IntKind.i64.wrap ((pre.length:Int)+1+1)=(pre.length:Int)+1+1:=QB (by omega) (by omega);have hlt: (pre.length:Int)+1 < (n:Int):=by omega
  have hlt2: (pre.length:Int) < (n:Int):=by omega
  have hb1: (pre.length+1)*4+4≤n*4:=by omega
  have hb2:pre.length*4+4≤n*4:=by omega
  have hnn: (0:Int)≤(pre.length:Int)+1:=by omega
  have hle: (pre.length:Int)+1≤(n:Int):=by omega
  have hcast: ((pre.length:Int)+1).toNat=pre.length+1:=by omega
  have hc:=fun bs=>NJ x prev bs (hm x (by simp)) (hm prev (by simp));have ih1:=IH (pre ++ [prev]) x;have ih2:=Qcf B id n (pre.length+1) hB hn post (pre ++ [prev]) [] x 1;simp only[List.append_assoc,List.cons_append,List.nil_append]at ih1 ih2;rw[Qc F.f172l1.eq_1];generalize Qf (pre ++ prev:: x:: post)=c at *;by_cases he:Qh x prev=0
  ·have e:QZ prev (x:: post)=QZ x post:=by simp[QZ,he]
   rw[e];simp[h0,h1,h5,hlt,hlt2,hnn,hle,hw1,hw2,hb1,hb2,hB,hlen,hst,r1,r2,hc,he,hcast];refine ih2 _ (by simp;omega) (by simp) (by omega) (fun y hy=>hm y (by simp at hy ⊢;rcases hy with h | h <;> simp[h])) ?_ ?_ ?_ ?_ ?_ <;> simp[h0,h1,h5]
  ·have e:pre ++ prev:: QZ prev (x:: post)=pre ++ prev:: x:: QZ x post:=by simp[QZ,he]
   rw[e];simp[h0,h1,h5,hlt,hlt2,hnn,hle,hw1,hw2,hb1,hb2,hB,hlen,hst,r1,r2,hc,he,hcast,F.f172r1];refine ih1 _ (by simp;omega) (fun y hy=>hm y (by simp at hy ⊢;rcases hy with h | h <;> simp[h])) ?_ ?_ ?_ <;> simp[h0,h1,h5]
theorem Jk (L:List Tm) (B:List (List AV)) (id:Nat) (hid:B[id]? =some (Qf L)) (hn:L.length < 100000000) (hm: ∀x∈L,x.mass < big):
  Sd (Yq L) B id (call F.tb 172 [.gs id 0 4 L.length,.fn 171 []] B):=by
 have hB:id < B.length:=by
  rcases Nat.lt_or_ge id B.length with h | h
  ·exact h
  ·rw[List.getElem?_eq_none h]at hid;cases hid
 have hset:B.set id (Qf L)=B:=by
  apply List.ext_getElem?;intro i;rw[List.getElem?_set];split
  ·rename_i h;subst h;rw[hid]
  ·rfl
 match L with
 | []=>
  refine⟨[],?_⟩;rw[Qa F.tb_172 _ _ rfl];simp[F.f172C,Yq];simpa using hset.symm
 | [x]=>
  refine⟨[],?_⟩;rw[Qa F.tb_172 _ _ rfl];simp[F.f172C,Yq];simpa using hset.symm
 | x:: y:: r=>
  have h:=Qcg B id (r.length+2) hB (by simpa using hn) (y:: r) [] x;rw[Qa F.tb_172 _ _ rfl,VV];simp only[List.nil_append,hset]at h;have hge: ¬((r.length:Int)+1+1 < 2):=by omega
  simp[F.f172C,hge];refine h _ (by simp;omega) (fun z hz=>hm z hz) ?_ ?_ ?_ <;> simp
end Go.Am
namespace Go.Am
set_option maxRecDepth 8000
theorem IQ {α:Type} {B:List α} {i:Nat} {x:α} (h:B[i]? =some x):B.set i x=B:=by
 apply List.ext_getElem?;intro j;rw[List.getElem?_set];split
 ·rename_i e;subst e;split
  ·exact h.symm
  ·rename_i hl;rw[List.getElem?_eq_none (by omega)]
 ·rfl
theorem ZI {α:Type} {B:List α} {i:Nat} {x:α} (h:B[i]? =some x):i < B.length:=by
 rcases Nat.lt_or_ge i B.length with h1 | h1
 ·exact h1
 ·rw[List.getElem?_eq_none h1]at h;cases h
theorem NQ (l:List Tm): (encTs l).flatten=Qf l:=by rw[Yd];rfl
theorem TL (L:List Tm) (B:List (List AV)) (g:Nat) (hg:B[g]? =some (Qf L)) (hn:L.length < 100000000) (hm: ∀x∈L,x.mass < big):
  call F.tb 170 [.gs g 0 4 L.length,.fn 30 []] B=some (.tup [],B.set g (Qf (ZB L))):=by
 rw[ZP F.tb_170];have hlen: (Qf L).length=L.length*4:=Q8 Qk L;have hch:Q5 (Qf L) 0 4 L.length=encTs L:=by
  have:=Yv (f:=Qb) (k:=4) Qk QL L [];rw[List.append_nil,Wu]at this;exact this
 have hall:L.all (fun t=>decide (t.mass < big))=true:=by
  rw[List.all_eq_true];intro x hx;simpa using hm x hx
 simp only[T0];by_cases h0:L.length=0
 ·have:L=[]:=List.eq_nil_of_length_eq_zero h0;subst this;simp[ZB];exact(IQ hg).symm
 ·have hsl: (Qf (ZB L)).length=(Qf L).length:=by rw[Q8 Qk,Q8 Qk,XB]
  have hput:put (Qf L) 0 (encTs (ZB L)).flatten=Qf (ZB L):=by
   rw[NQ];simp only[put,List.take_zero,List.nil_append,Nat.zero_add];rw[hsl,List.drop_length,List.append_nil]
  rw[if_neg h0,if_pos ⟨trivial,by omega⟩,hg];simp only[Option.bind_some];rw[if_pos (by omega),hch,decE_enc];simp only[Option.bind_some];rw[if_pos hall,hput]
theorem Qa1 (C:List Tm) (t:List AV) (B:List (List AV)) (g:Nat) (hB:g < B.length) (hn:C.length < 100000000) (hne:C≠[]) (hm: ∀x∈C,x.mass < big): ∀(post pre:List Tm) (ρ:Nat→AV),C=pre ++ post→ρ 0= .gs g 0 4 C.length→ρ 9= .int .i64 C.length→ρ 10= .int .i64 pre.length→
  R F.tb (.loop F.f169l0) ρ (B.set g (Qf C ++ t)) (Qj 0 (Qu F.tb F.f169r0 (Qx F.f169 B)))=some (.sl true 4 (encTs C),B.set g []):=by
 have hch:Q5 (Qf C ++ t) 0 4 C.length=encTs C:=by
  have:=Yv (f:=Qb) (k:=4) Qk QL C t;rw[Wu]at this;exact this
 have hlen: (Qf C).length=C.length*4:=Q8 Qk C;intro post
 induction post with
 | nil=>
  intro pre ρ hk h0 h9 h10;simp only[List.append_nil]at hk;rw[← hk]at h10;have hz: ¬C.length=0:=fun e=>hne (List.eq_nil_of_length_eq_zero e);have hle:C.length*4≤(Qf C ++ t).length:=by rw[List.length_append,hlen];omega
  have hg:gpfreeE (encTs C)=true:=encTs_gp C;rw[Qc F.f169l0.eq_1];generalize Qf C ++ t=c at *;simp[h0,h9,h10,F.f169r0,Zg,hz,hle,hB,hch,hne,List.take_of_length_le]
 | cons x post IH=>
  intro pre ρ hk h0 h9 h10;have hl:=QE hk;have hst: (Qf C).map AV.strip=Qf C:=Zl QL C;have r1:=Xc (f:=Qb) (k:=4) Qk hk t;have r1': (((Qf C ++ t).drop (pre.length*4)).take 4).map AV.strip=Qb x:=by rw[r1];exact QL x
  have hput:=Th (f:=Qb) (k:=4) Qk x hk t;rw[← hk]at hput;have hw1:=wr1 pre.length (by omega);have hlt:=QF hk;have hlt':pre.length < C.length:=by omega
  have hle:pre.length*4+4≤(Qf C ++ t).length:=by rw[List.length_append,hlen];omega
  have hc:=fun bs=>U0 x bs (hm x (by rw[hk];simp));rw[Qc F.f169l0.eq_1];rw[List.map_take,List.map_drop]at r1';have ih:=IH (pre ++ [x]);change List.take (pre.length*4) (Qf C ++ t)++ (Qb x ++ List.drop (pre.length*4+4) (Qf C ++ t))=Qf C ++ t at hput;generalize Qf C ++ t=c at *;simp[h0,h9,h10,hlt,hlt',hw1,hB,hle,r1',hc,hput];rw[ih] <;> simp[h0,h9,hk]
theorem Pu (L:List Tm) (B:List (List AV)) (g:Nat) (hg:B[g]? =some (Qf L)) (hne:L≠[]) (hn:L.length < 100000000) (hm: ∀x∈L,x.mass < big):
  call F.tb 169 [.gs g 0 4 L.length] B=some (.sl true 4 (encTs (Zs L)),B.set g []):=by
 have hB:=ZI hg;have hs:=TL L B g hg hn hm;have hS: (B.set g (Qf (ZB L)))[g]? =some (Qf (ZB L)):=by simp[hB]
 obtain⟨t,hc⟩:=Jk (ZB L) (B.set g (Qf (ZB L))) g hS (by rw[XB];exact hn) (fun x hx=>hm x (Wj.1 hx));rw[T5,XB,List.set_set]at hc;have hCne:Zs L≠[]:=by
  obtain⟨x,hx⟩:=List.exists_mem_of_ne_nil L hne;intro e;have:=XJ.2 hx;rw[e]at this;simp at this
 have hl:=Qa1 (Zs L) t B g hB (by have:=IP L;omega) hCne (fun x hx=>hm x (XJ.1 hx)) (Zs L) [];rw[Qa F.tb_169 _ _ rfl];simp[F.f169C,hs,hc];refine hl _ rfl ?_ ?_ ?_ <;> simp
theorem R9 (B:List (List AV)):call F.tb 169 [.gs 0 0 0 0] B=some (.sl true 4 [],B):=by
 rw[Qa F.tb_169 _ _ rfl];have hs:call F.tb 170 [.gs 0 0 0 0,.fn 30 []] B=some (.tup [],B):=by rw[ZP F.tb_170];simp[T0]
 have hc:call F.tb 172 [.gs 0 0 0 0,.fn 171 []] B=some (.gs 0 0 0 0,B):=by
  rw[Qa F.tb_172 _ _ rfl];simp[F.f172C]
 simp[F.f169C,hs,hc];rw[Qc F.f169l0.eq_1];simp[F.f169r0,Zg]
end Go.Am
namespace Go.Am
set_option maxRecDepth 8000
def Wst (B0:List (List AV)) (k:Int) (acc:List Tm) (bs:List (List AV)):Prop:=
 B0.length+2≤bs.length∧bs.take B0.length=B0∧bs[B0.length]? =some [.int .i64 k]∧
  ((acc=[]∧bs[B0.length+1]? =some [.gs 0 0 0 0])∨(acc≠[]∧∃g,B0.length+1 < g∧bs[B0.length+1]? =some [.gs g 0 4 acc.length]∧bs[g]? =some (Qf acc)))
theorem Ua {α:Type} {bs c:List α} {n i:Nat} {y:α} (h:n≤bs.length) (hi:n≤i): ((bs ++ c).set i y).take n=bs.take n:=by
 apply List.ext_getElem?;intro j;rw[List.getElem?_take,List.getElem?_take];split
 ·rw[List.getElem?_set_ne (by omega),List.getElem?_append_left (by omega)]
 ·rfl
def Xw:List AV:=[.int .i64 0,.str [],.int .i64 0,.sl false 4 []]
theorem Fx (B0:List (List AV)) (k:Int) (acc:List Tm) (bs:List (List AV)) (x:Tm) (hw:Wst B0 k acc bs) (ha:acc.length < 100000000):
  ∃bs',call F.tb 167 [.agg (Qb x),.gp B0.length 0,.gp (B0.length+1) 0] bs=some (.tup [],bs')∧Wst B0 k (acc ++ if x.kind=k then [x]else []) bs':=by
 obtain⟨h1,h2,h3,h4⟩:=hw;have hgx:=Qg x;by_cases hk:x.kind=k
 ·rcases h4 with⟨rfl,h4⟩ | ⟨hne,g,hg,h4,h5⟩
  ·have hl1: ¬bs.length=B0.length+1:=by omega
   refine⟨((bs ++ [Qb x]).set (B0.length+1) [.gs bs.length 0 4 1]),?_,?_⟩
   ·rw[Qa F.tb_167 _ _ rfl];have e1: (bs ++ [Xw])[bs.length]? =some Xw:=List.getElem?_concat_length;have e2: (bs ++ [Xw]).set bs.length (Qb x)=bs ++ [Qb x]:=by rw[List.set_append];simp
    have e3: (bs ++ [Qb x])[B0.length+1]? =some [.gs 0 0 0 0]:=by rw[List.getElem?_append_left (by omega)];exact h4
    simp only[Xw]at e1 e2;simp[F.f167,F.f167C,hk,h3,h4,appM,YF,hl1,e1,e2,e3,ZY]
   ·refine⟨by simp;omega,?_,?_,.inr ⟨by simp[hk],bs.length,by omega,?_,?_⟩⟩
    ·rw[Ua (by omega) (by omega)];exact h2
    ·rw[List.getElem?_set_ne (by omega),List.getElem?_append_left (by omega)];exact h3
    ·rw[List.getElem?_set_self (by simp;omega)];simp[hk]
    ·rw[List.getElem?_set_ne (by omega),List.getElem?_concat_length];simp[hk,ZA]
  ·have hl1: ¬bs.length=B0.length+1:=by omega
   have hgl:=ZI h5;have hlen: (Qf acc).length=acc.length*4:=Q8 Qk acc;have hst: (Qf acc).map AV.strip=Qf acc:=Zl QL acc;have htk: (Qf acc).take (acc.length*4)=Qf acc:=List.take_of_length_le (by omega);have hb: (acc.length+1)*56≤140737488355328:=by omega
   have hn1: ¬(acc.length+1)*4≤acc.length*4:=by omega
   have hput: (Qf acc ++ Xw).take (acc.length*4)++ (Qb x ++ (Qf acc ++ Xw).drop (acc.length*4+4))=Qf (acc ++ [x]):=by
    rw[← hlen,List.take_left,List.drop_eq_nil_of_le (by simp[Xw])];simp[Qf,Xj,Tg]
   have hzl: (Qf acc ++ Xw).length=acc.length*4+4:=by rw[List.length_append,hlen];rfl
   have hne0:Qf acc≠[]:=fun e=>by rw[e]at hlen;cases acc with
    | nil=>exact hne rfl
    | cons y ys=>simp at hlen
   have hlt: (acc.length:Int) < (acc.length:Int)+1:=by omega
   refine⟨((bs.set g []++ [Qf (acc ++ [x])]).set (B0.length+1) [.gs bs.length 0 4 (acc.length+1)]),?_,?_⟩
   ·rw[Qa F.tb_167 _ _ rfl];have e1: (bs.set g []++ [Qf acc ++ Xw])[bs.length]? =some (Qf acc ++ Xw):=by
     have:bs.length=(bs.set g []).length:=by simp
     rw[this];exact List.getElem?_concat_length
    have e2: (bs.set g []++ [Qf acc ++ Xw]).set bs.length (Qf (acc ++ [x]))=bs.set g []++ [Qf (acc ++ [x])]:=by rw[List.set_append];simp
    have e3: (bs.set g []++ [Qf (acc ++ [x])])[B0.length+1]? =some [.gs g 0 4 acc.length]:=by
     rw[List.getElem?_append_left (by simp;omega),List.getElem?_set_ne (by omega)];exact h4
    have hz:Xw=[.int .i64 0,.str [],.int .i64 0,.sl false 4 []]:=rfl;rw[hz]at e1 e2 hput hzl;generalize Qf (acc ++ [x])=r2 at *;generalize Qf acc=r1 at *;simp[F.f167,F.f167C,hk,h3,h4,h5,appM,YF,hl1,hb,hne0,hlen,hn1,htk,hst,ZY];generalize r1 ++ [AV.int IntKind.i64 0,AV.str [],AV.int IntKind.i64 0,AV.sl false 4 []]=r3 at *;simp[hlt,e1,e2,e3,hput,hzl,hl1,ZY,h3]
   ·refine⟨by simp;omega,?_,?_,.inr ⟨by simp[hk],bs.length,by omega,?_,?_⟩⟩
    ·rw[Ua (by simp;omega) (by omega),List.take_set_of_le (by omega)];exact h2
    ·rw[List.getElem?_set_ne (by omega),List.getElem?_append_left (by simp;omega),List.getElem?_set_ne (by omega)];exact h3
    ·rw[List.getElem?_set_self (by simp;omega)];simp[hk]
    ·rw[List.getElem?_set_ne (by omega)];have:bs.length=(bs.set g []).length:=by simp
     rw[this,List.getElem?_concat_length];simp[hk]
 ·refine⟨bs,?_,by simpa[hk]using⟨h1,h2,h3,h4⟩⟩;rw[Qa F.tb_167 _ _ rfl];simp[F.f167,F.f167C,hk,h3]
end Go.Am
namespace Go.Am
set_option maxRecDepth 8000
mutual
def QT:Tm→List Tm
 | .mk k n s ks=> .mk k n s ks:: allL ks
def allL:List Tm→List Tm
 | []=>[]
 | t:: ts=>QT t ++ allL ts
end
theorem HT (t:Tm):QT t=t:: allL t.kids:=by cases t;simp[QT]
theorem AA (a b:List Tm):allL (a ++ b)=allL a ++ allL b:=by
 induction a with
 | nil=>simp[allL]
 | cons t ts ih=>simp[allL,ih]
mutual
theorem WL: ∀t:Tm,(QT t).length=t.nodes
 | .mk k n s ks=>by simp only[QT,List.length_cons,Tm.nodes,allL_len ks];omega
theorem allL_len: ∀ts:List Tm,(allL ts).length=nodesL ts
 | []=>by simp[allL,nodesL]
 | t:: ts=>by simp only[allL,List.length_append,nodesL,WL t,allL_len ts]
end
mutual
theorem Wh: ∀(t x:Tm),x∈QT t→x.mass≤t.mass
 | .mk k n s ks,x,h=>by
  simp only[QT,List.mem_cons]at h;rcases h with rfl | h
  ·exact Nat.le_refl _
  ·have:=allL_mass ks x h;simp only[Tm.mass];omega
theorem allL_mass: ∀(ts:List Tm) (x:Tm),x∈allL ts→x.mass≤massL ts
 | [],x,h=>by simp[allL]at h
 | t:: ts,x,h=>by
  simp only[allL,List.mem_append]at h;simp only[massL];rcases h with h | h
  ·have:=Wh t x h;omega
  ·have:=allL_mass ts x h;omega
end
def WJ (k:Int) (x:Tm):Bool:=decide (x.kind=k)
def WOk (B0:List (List AV)) (k:Int) (acc:List Tm) (r:Option (AV×List (List AV))):Prop:=∃bs',r=some (.tup [],bs')∧Wst B0 k acc bs'
theorem B8 (B0:List (List AV)) (k:Int) (t:Tm) (B:List (List AV)) (hm:t.mass < 100000000)
  (ih: ∀x∈t.kids,∀acc bs,Wst B0 k acc bs→acc.length+x.nodes < 100000000→WOk B0 k (acc ++ (QT x).filter (WJ k)) (call F.tb 168 [.agg (Qb x),.fn 167 [.gp B0.length 0,.gp (B0.length+1) 0]] bs)):
  ∀(post pre acc:List Tm) (bs:List (List AV)) (ρ:Nat→AV),t.kids=pre ++ post→Wst B0 k acc bs→acc.length+nodesL post < 100000000→ρ 1= .fn 167 [.gp B0.length 0,.gp (B0.length+1) 0]→ρ 10= .sl false 4 (encTs t.kids)→ρ 11= .int .i64 t.kids.length→ρ 12= .int .i64 pre.length→
  WOk B0 k (acc ++ (allL post).filter (WJ k)) (R F.tb (.loop F.f168l0) ρ bs (Qj 0 (Qx F.f168 B))):=by
 have hmk:=Qp t;intro post
 induction post with
 | nil=>
  intro pre acc bs ρ hk hw ha h1 h10 h11 h12;simp only[List.append_nil]at hk;rw[← hk]at h12;rw[Qc F.f168l0.eq_1];refine⟨bs,?_,by simpa[allL]using hw⟩;simp[h1,h10,h11,h12]
 | cons x post IH=>
  intro pre acc bs ρ hk hw ha h1 h10 h11 h12;have hg:=Qt hk;have hl:=QE hk;have hw1:=wr1 pre.length (by omega);have hlt:=QF hk;simp only[nodesL]at ha;obtain⟨bs',hc,hw'⟩:=ih x (by rw[hk];simp) acc bs hw (by omega);have hfl: ((QT x).filter (WJ k)).length≤x.nodes:=by rw[← WL];exact List.length_filter_le _ _
  have h2:=fun ρ=>IH (pre ++ [x]) _ bs' ρ (by rw[hk];simp) hw' (by rw[List.length_append];omega);rw[List.append_assoc,← List.filter_append,show QT x ++ allL post=allL (x:: post) by simp[allL]]at h2;rw[Qc F.f168l0.eq_1];simp[h1,h10,h11,h12,hg,hlt,hw1,hc];refine h2 _ ?_ ?_ ?_ ?_ <;> simp[h1,h10,h11]
theorem Cx (B0:List (List AV)) (k:Int): ∀(t:Tm) (acc:List Tm) (bs:List (List AV)),t.mass < 100000000→Wst B0 k acc bs→acc.length+t.nodes < 100000000→
  WOk B0 k (acc ++ (QT t).filter (WJ k)) (call F.tb 168 [.agg (Qb t),.fn 167 [.gp B0.length 0,.gp (B0.length+1) 0]] bs):=by
 refine ZG ?_;intro kk n s ks ih acc bs hm hw ha;have hmk:=Qp (.mk kk n s ks);have hnk:=YM (.mk kk n s ks);simp only[Q0,ZH]at hmk hnk;obtain⟨bs1,hc,hw1⟩:=Fx B0 k acc bs (.mk kk n s ks) hw (by omega);have hl:=fun ρ=>B8 B0 k (.mk kk n s ks) bs hm (fun x hx acc bs hw ha=>ih x hx acc bs (by have:=QC hx;simp at this;omega) hw ha) ks [] _ bs1 ρ rfl hw1 (by
  rw[List.length_append];split <;> simp <;> omega)
 have he:acc ++ (QT (.mk kk n s ks)).filter (WJ k)=(acc ++ if(Tm.mk kk n s ks).kind=k then [.mk kk n s ks]else [])++ (allL ks).filter (WJ k):=by
  simp only[QT,List.filter_cons,WJ,W2];by_cases h:kk=k <;> simp[h]
 rw[he,Qa F.tb_168 _ _ rfl];simp[F.f168C,hc];simp only[W2,Q0,List.append_assoc]at hl;refine hl _ ?_ ?_ ?_ ?_ <;> simp[Q6]
theorem Hg (t:Tm) (k:Int) (B:List (List AV)) (hm:t.mass < 100000000):
  call F.tb 166 [.agg (Qb t),.int .i64 k] B=some (.sl true 4 (encTs (Zs ((QT t).filter (WJ k)))),B):=by
 have hn:=ZL t;have hw0:Wst B k [] (B ++ [[.int .i64 k],[.gs 0 0 0 0]]):=by
  refine⟨by simp,by simp,by simp,.inl ⟨rfl,?_⟩⟩;rw[List.getElem?_append_right (by omega)];simp
 obtain⟨bs',hc,h1,h2,h3,h4⟩:=Cx B k t [] _ hm hw0 (by simp;omega);rw[Qa F.tb_166 _ _ rfl];have e1: (B ++ [[AV.int .i64 k]])++ [[AV.gs 0 0 0 0]]=B ++ [[.int .i64 k],[.gs 0 0 0 0]]:=by simp
 have e2: (B ++ [[AV.int .i64 k]]).length=B.length+1:=by simp
 generalize hF: (QT t).filter (WJ k)=A at *;have hlen:A.length < 100000000:=by rw[← hF];have:=List.length_filter_le (WJ k) (QT t);rw[WL]at this;omega
 have hmm: ∀x∈A,x.mass < big:=fun x hx=>by
  rw[← hF]at hx;have:=Wh t x (List.mem_filter.1 hx).1;unfold big;omega
 have hgp:gpfreeE (encTs (Zs A))=true:=encTs_gp _;simp only[List.nil_append]at h4;rcases h4 with⟨h5,h6⟩ | ⟨h5,g,h6,h7,h8⟩
 ·have ho:=R9 bs';subst h5;simp[F.f166,F.f166C,Qg,e1,e2,hc,h6,ho,h2,Zs,Wy,encTs]
 ·have ho:=Pu A bs' g h8 h5 hlen hmm;have hgl:=ZI h8;have ht: (bs'.set g []).take B.length=B:=by rw[List.take_set_of_le (by omega)];exact h2
  simp[F.f166,F.f166C,Qg,e1,e2,hc,h7,ho,ht,hgp]
def UH (t:Tm):List Tm:=Zs ((QT t).filter (WJ 1))
theorem Cu (t:Tm) (B:List (List AV)) (hm:t.mass < 100000000):call F.tb 165 [.agg (Qb t)] B=some (.sl true 4 (encTs (UH t)),B):=by
 rw[Qa F.tb_165 _ _ rfl];have h:=Hg t 1 B hm;have hgp:gpfreeE (encTs (Zs ((QT t).filter (WJ 1))))=true:=encTs_gp _;simp[F.f165,F.f165C,Qg,h,UH]
end Go.Am
