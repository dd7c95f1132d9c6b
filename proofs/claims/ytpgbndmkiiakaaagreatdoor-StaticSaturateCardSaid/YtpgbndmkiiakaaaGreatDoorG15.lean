/-
  Ge11, Ge12, Ge26, Ge27, Ge28, Ge15, Rc1, Rc2, Rc3, Rc4.
-/
import Derived.Test.YtpgbndmkiiakaaaGreatDoorG14
set_option linter.unusedVariables false
set_option linter.unusedSimpArgs false
namespace Go.Am
set_option maxRecDepth 8000
theorem CM (t:Tm) (bs:List (List AV)) (hm:t.mass < big) (ih: ∀x∈t.kids,∀bs,call F.tb 48 [.agg (Qa x)] bs=some (.agg (Qa x),bs)):
  ∀(post pre:List Tm) (ρ:Nat→AV),t.kids=pre ++ post→ρ 1= .bx [.int .i64 t.kind,.str t.name,.int .i64 t.sort,.sl true 4 (encTs pre)]→ρ 2= .bx [.int .i64 0,.str [],.int .i64 0,.sl true 4 []]→
   ρ 9= .sl false 4 (encTs t.kids)→ρ 10= .int .i64 t.kids.length→ρ 11= .int .i64 pre.length→
  R F.tb (.loop F.f48l0) ρ bs (Qk 0 (Qv F.tb F.f48r0 (Qx F.f48 bs)))=some (.agg (Qa t),bs):=by
 have hm2:=Qo t
 unfold big at hm
 intro post
 induction post with
 | nil=>
  intro pre ρ hk h1 h2 h9 h10 h11
  rw[Qc F.f48l0.eq_1]
  simp at hk
  rw[← hk]at h1 h11
  simp[h1,h2,h9,h10,h11,F.f48r0,F.f48R,F.f48K,X6,Tm.eta]
 | cons x post IH=>
  intro pre ρ hk h1 h2 h9 h10 h11
  have hg:=Qp hk
  have hl:t.kids.length=pre.length+ (post.length+1):=by rw[hk];simp
  have hw1:IntKind.i64.wrap ((pre.length:Int)+1)=(pre.length:Int)+1:=Ql (by omega) (by omega)
  have hlt: (pre.length:Int) < (t.kids.length:Int):=by omega
  have ha: (pre.length+1)*56≤140737488355328:=by omega
  rw[Qc F.f48l0.eq_1]
  simp[h1,h2,h9,h10,h11,hg,hw1,hlt,ha,ih x (by rw[hk];simp),Zb,QQ]
  rw[IH (pre ++ [x])] <;> simp[h2,h9,h10,hk]
theorem Tc: ∀(t:Tm) (bs:List (List AV)),t.mass < big→call F.tb 48 [.agg (Qa t)] bs=some (.agg (Qa t),bs):=by
 refine Zh ?_
 intro k n s ks ih bs hm
 rw[Qb F.tb_48 _ _ rfl]
 simp[F.f48B,F.f48C,Qa]
 refine CM (.mk k n s ks) bs hm (fun x hx bs=>ih x hx bs ?_) ks [] _ ?_ ?_ ?_ ?_ ?_ ?_ <;> (try simp[encTs])
 have:=Qz hx;have:=Qo (.mk k n s ks);simp at *;omega
theorem H8 (t:Tm) (bs:List (List AV)) (hm:t.mass < big) (o:Bool):call F.tb 47 [.agg (Qa t),.sl o 1 []] bs=some (.tup [.agg (Qa t),.int .i64 0],bs):=by
 rw[Qb F.tb_47 _ _ rfl]
 simp[F.f47B,F.f47C,F.f47R,F.f47K]
 rw[Qc F.f47l0.eq_1]
 simp[F.f47r0,Tc t bs hm,F.f47R,F.f47K]
theorem Gi (n:List UInt8) (ks:List Tm) (o:Bool) (bs:List (List AV)):call F.tb 49 [.str n,.sl o 4 (encTs ks)] bs=some (.agg (Qa (.mk 3 n 0 ks)),bs):=by
 rw[Qb F.tb_49 _ _ rfl]
 simp[F.f49,F.f49C,X6]
structure Sy where
 n:List UInt8
 l:Int
 m:Int
 k:Int
def XK (s:Sy):List AV:=[.str s.n,.int .i64 s.l,.int .i64 s.m,.int .i64 s.k]
def Yl:List Sy:=[⟨[112,97,105,114],2,2,1⟩,⟨[101,110,99],2,2,1⟩,⟨[97,101,110,99],2,2,1⟩,⟨[112,107],1,1,1⟩,⟨[115,105,103,110],2,2,1⟩,⟨[104,97,115,104],1,1,1⟩,
 ⟨[120,111,114],2,8,1⟩,⟨[122,101,114,111],0,0,1⟩,⟨[101,120,112],2,2,1⟩,⟨[109,117,108],2,8,1⟩,⟨[105,110,118],1,1,1⟩,⟨[111,110,101],0,0,1⟩,
 ⟨[115,107],1,1,2⟩,⟨[115,104,107],2,2,2⟩,⟨[110,101,119],1,8,2⟩,⟨[102,115,116],1,1,3⟩,⟨[115,110,100],1,1,3⟩,⟨[100,101,99],2,2,3⟩,⟨[97,100,101,99],2,2,3⟩,⟨[111,112,101,110],2,2,3⟩,⟨[114,101,97,100],1,1,3⟩]
def Xs (ys:List Sy):List (List AV):=ys.map XK
@[simp] theorem J2 (ys:List Sy):gpfreeE (Xs ys)=true:=by
 induction ys with
 | nil=>rfl
 | cons y ys ih=>simpa[Xs,XK,gpfreeE,gpfreeL,AV.gpfree]using ih
@[simp] theorem QlH (ys:List Sy): (Xs ys).length=ys.length:=by simp[Xs]
theorem Gh (k l m:Int) (n:List UInt8) (ys:List Sy) (bs:List (List AV)) (hx:ys.length < 1000):
  call F.tb 45 [.int .i64 k,.str n,.int .i64 l,.int .i64 m,.gp bs.length 0] (bs ++ [[.sl true 4 (Xs ys)]])=some (.tup [],bs ++ [[.sl true 4 (Xs (ys ++ [⟨n,l,m,k⟩]))]]):=by
 rw[Qb F.tb_45 _ _ rfl]
 have ha: (ys.length+1)*40≤140737488355328:=by omega
 have h1:Xs (ys ++ [⟨n,l,m,k⟩])=Xs ys ++ [[.str n,.int .i64 l,.int .i64 m,.int .i64 k]]:=by simp[Xs,XK]
 have h2:gpfreeE (Xs ys ++ [[.str n,.int .i64 l,.int .i64 m,.int .i64 k]])=true:=by rw[← h1];exact J2 _
 simp[F.f45,F.f45C,ha,h1,h2,List.take_of_length_le,gpfreeL]
theorem Qa0 (k l m:Int) (n:List UInt8) (bs:List (List AV)):
  call F.tb 45 [.int .i64 k,.str n,.int .i64 l,.int .i64 m,.gp bs.length 0] (bs ++ [[.sl true 4 []]])=some (.tup [],bs ++ [[.sl true 4 (Xs [⟨n,l,m,k⟩])]]):=Gh k l m n [] bs (by simp)
theorem Gg (bs:List (List AV)):call F.tb 44 [] bs=some (.sl false 4 (Xs Yl),bs):=by
 rw[Qb F.tb_44 _ _ rfl]
 simp only[F.f44,F.f44C]
 simp[Qa0,Gh,Yl]
def Zm (n:List UInt8):List Sy→Option Sy
 | []=>none
 | s:: ss=>if s.n=n then some s else Zm n ss
theorem Nh {l:List Sy} {pre post:List Sy} {s:Sy} (h:l=pre ++ s:: post): (Xs l)[pre.length]? =some (XK s):=by
 subst h;simp[Xs]
theorem Ed (n:List UInt8) (l:List Sy) (bs:List (List AV)) (hn:l.length < 1000):
  ∀(post pre:List Sy) (ρ:Nat→AV),l=pre ++ post→ρ 0= .str n→ρ 2= .bx [.str [],.int .i64 0,.int .i64 0,.int .i64 0]→
   ρ 5= .sl false 4 (Xs l)→ρ 6= .int .i64 l.length→ρ 7= .int .i64 pre.length→
  R F.tb (.loop F.f43l0) ρ bs (Qk 0 (Qv F.tb F.f43r0 (Qx F.f43 bs)))=
   some (.agg (match Zm n post with | some s=>XK s | none=>[.str [],.int .i64 0,.int .i64 0,.int .i64 0]),bs):=by
 intro post
 induction post with
 | nil=>
  intro pre ρ hk h0 h2 h5 h6 h7
  rw[Qc F.f43l0.eq_1]
  simp at hk
  rw[← hk]at h7
  simp[h0,h2,h5,h6,h7,F.f43r0,F.f43R,F.f43K,Zm]
 | cons x post IH=>
  intro pre ρ hk h0 h2 h5 h6 h7
  have hg:=Nh hk
  have hl:l.length=pre.length+ (post.length+1):=by rw[hk];simp
  have hw1:IntKind.i64.wrap ((pre.length:Int)+1)=(pre.length:Int)+1:=Ql (by omega) (by omega)
  have hlt: (pre.length:Int) < (l.length:Int):=by omega
  rw[Qc F.f43l0.eq_1]
  by_cases hx:x.n=n
  ·simp[h0,h2,h5,h6,h7,hg,hw1,hlt,XK,hx,Zm,F.f43R,F.f43K]
  ·have hxb: (x.n == n)=false:=by simp[hx]
   simp[h0,h2,h5,h6,h7,hg,hw1,hlt,XK,hx,hxb,Zm]
   rw[IH (pre ++ [x])] <;> simp[h0,h2,h5,h6,hk,XK]
theorem YG (n:List UInt8) (bs:List (List AV)):call F.tb 43 [.str n] bs=some (.agg (match Zm n Yl with | some s=>XK s | none=>[.str [],.int .i64 0,.int .i64 0,.int .i64 0]),bs):=by
 rw[Qb F.tb_43 _ _ rfl]
 simp[F.f43B,F.f43C,Gg]
 refine Ed n Yl bs (by simp[Yl]) Yl [] _ rfl ?_ ?_ ?_ ?_ ?_ <;> simp
end Go.Am
namespace Go.Am
set_option maxRecDepth 8000
def Vk (k:Tm):Bool:=k.kind == 3 || k.sort != 1
mutual
def Yk:Tm→Int
 | .mk k n _ ks=>if k≠3 then 0 else match Zm n Yl with
  | none=>10
  | some y=>if(ks.length:Int) < y.l∨y.m < ks.length then 6 else if(n=[115,107]∨n=[115,104,107])∧ks.any Vk then 10
   else if n=[110,101,119]∧ks.head?.map Tm.kind≠some 2 then 10 else chkL ks
def chkL:List Tm→Int
 | []=>0
 | t:: ts=>if Yk t≠0 then Yk t else chkL ts
end
theorem QcX (t:Tm) (bs:List (List AV)) (hm:t.mass < big) (ih: ∀x∈t.kids,∀bs,call F.tb 42 [.agg (Qa x)] bs=some (.int .i64 (Yk x),bs)):
  ∀(post pre:List Tm) (ρ:Nat→AV),t.kids=pre ++ post→ρ 62= .sl false 4 (encTs t.kids)→ρ 63= .int .i64 t.kids.length→ρ 64= .int .i64 pre.length→
  R F.tb (.loop F.f42l1) ρ bs (Qk 3 (Qv F.tb F.f42r0 (Qx F.f42 bs)))=some (.int .i64 (chkL post),bs):=by
 have hm2:=Qo t
 unfold big at hm
 intro post
 induction post with
 | nil=>
  intro pre ρ hk h1 h2 h3
  rw[Qc F.f42l1.eq_1]
  simp at hk
  rw[← hk]at h3
  simp[h1,h2,h3,F.f42r0,F.f42R,F.f42K,chkL]
 | cons x post IH=>
  intro pre ρ hk h1 h2 h3
  have hg:=Qp hk
  have hl:t.kids.length=pre.length+ (post.length+1):=by rw[hk];simp
  have hw1:IntKind.i64.wrap ((pre.length:Int)+1)=(pre.length:Int)+1:=Ql (by omega) (by omega)
  have hlt: (pre.length:Int) < (t.kids.length:Int):=by omega
  rw[Qc F.f42l1.eq_1]
  by_cases hc:Yk x=0
  ·simp[h1,h2,h3,hg,hw1,hlt,ih x (by rw[hk];simp),hc,chkL]
   rw[IH (pre ++ [x])] <;> simp[h1,h2,hk]
  ·simp[h1,h2,h3,hg,hw1,hlt,ih x (by rw[hk];simp),hc,chkL,F.f42R,F.f42K]
theorem Gn (t:Tm) (bs:List (List AV)) (hm:t.mass < big) (ih: ∀x∈t.kids,∀bs,call F.tb 42 [.agg (Qa x)] bs=some (.int .i64 (Yk x),bs)) (ρ:Nat→AV) (h1:ρ 1= .bx (Qa t)):
  R F.tb F.f42r1 ρ bs (Qx F.f42 bs)=some (.int .i64 (chkL t.kids),bs):=by
 simp[F.f42r1,h1,Qj]
 refine QcX t bs hm ih t.kids [] _ rfl ?_ ?_ ?_ <;> simp
theorem QcW (t:Tm) (bs:List (List AV)) (hm:t.mass < big) (ih: ∀x∈t.kids,∀bs,call F.tb 42 [.agg (Qa x)] bs=some (.int .i64 (Yk x),bs)):
  ∀(post pre:List Tm) (ρ:Nat→AV),t.kids=pre ++ post→ρ 1= .bx (Qa t)→ρ 38= .sl false 4 (encTs t.kids)→ρ 39= .int .i64 t.kids.length→ρ 40= .int .i64 pre.length→
  R F.tb (.loop F.f42l0) ρ bs (Qk 1 (Qk 0 (Qv F.tb F.f42r1 (Qx F.f42 bs))))=some (.int .i64 (if post.any Vk then 10 else chkL t.kids),bs):=by
 have hm2:=Qo t
 have hm0:=hm
 unfold big at hm
 intro post
 induction post with
 | nil=>
  intro pre ρ hk h0 h1 h2 h3
  rw[Qc F.f42l0.eq_1]
  simp at hk
  rw[← hk]at h3
  simp[h0,h1,h2,h3]
  rw[Gn t bs hm0 ih] <;> simp[h0]
 | cons x post IH=>
  intro pre ρ hk h0 h1 h2 h3
  have hg:=Qp hk
  have hl:t.kids.length=pre.length+ (post.length+1):=by rw[hk];simp
  have hw1:IntKind.i64.wrap ((pre.length:Int)+1)=(pre.length:Int)+1:=Ql (by omega) (by omega)
  have hlt: (pre.length:Int) < (t.kids.length:Int):=by omega
  rw[Qc F.f42l0.eq_1]
  by_cases h3':x.kind=3
  ·simp[h0,h1,h2,h3,hg,hw1,hlt,Qj,h3',Vk,F.f42R,F.f42K]
  ·by_cases h4:x.sort=1
   ·have hb:Vk x=false:=by simp[Vk,h3',h4]
    have hb3: (x.kind == 3)=false:=by simp[h3']
    simp[h0,h1,h2,h3,hg,hw1,hlt,Qj x,h3',h4,hb,hb3]
    rw[IH (pre ++ [x])] <;> simp[h0,h1,h2,hk,hb]
   ·have hb:Vk x=true:=by simp[Vk,h4]
    have hb3: (x.kind == 3)=false:=by simp[h3']
    have hb4: (x.sort != 1)=true:=by simp[h4]
    simp[h0,h1,h2,h3,hg,hw1,hlt,Qj x,h3',h4,hb,hb3,hb4,F.f42R,F.f42K]
theorem Oi {n:List UInt8} {y:Sy}: ∀{l:List Sy},Zm n l=some y→y∈l∧y.n=n
 | [],h=>by simp[Zm]at h
 | s:: ss,h=>by
  simp only[Zm]at h
  split at h
  ·rename_i e;injection h with h;subst h;exact⟨by simp,e⟩
  ·have:=Oi h;exact⟨List.mem_cons_of_mem _ this.1,this.2⟩
theorem Qcn {y:Sy} (h:y∈Yl):y.k≠0∧(y.n=[110,101,119]→y.l=1):=by
 have:Yl.all (fun y=>y.k≠0∧(y.n=[110,101,119]→y.l=1))=true:=by decide
 have:=List.all_eq_true.1 this y h
 simpa only[decide_eq_true_eq]using this
theorem Gl: ∀(t:Tm) (bs:List (List AV)),t.mass < big→call F.tb 42 [.agg (Qa t)] bs=some (.int .i64 (Yk t),bs):=by
 refine Zh ?_
 intro k n s ks ih bs hm
 have hmk:=Qo (.mk k n s ks)
 have ih': ∀x∈(Tm.mk k n s ks).kids,∀bs,call F.tb 42 [.agg (Qa x)] bs=some (.int .i64 (Yk x),bs):=fun x hx bs=>ih x hx bs (by
  have:=Qz hx;simp at *;omega)
 have r1:=fun ρ h=>Gn (.mk k n s ks) bs hm ih' ρ h
 have l0:=fun ρ h0 h1 h2 h3=>QcW (.mk k n s ks) bs hm ih' ks [] ρ rfl h0 h1 h2 h3
 simp only[Qa,QJ,List.length_nil]at r1 l0
 rw[Qb F.tb_42 _ _ rfl]
 by_cases hk:k=3
 ·subst hk
  cases hy:Zm n Yl with
  | none=>simp[F.f42B,F.f42C,Qa,YG,hy,F.f42R,F.f42K,Yk]
  | some y=>
   obtain⟨hy1,hy2⟩:=Oi hy
   obtain⟨hy3,hy4⟩:=Qcn hy1
   by_cases ha: (ks.length:Int) < y.l
   ·simp[F.f42B,F.f42C,Qa,YG,hy,hy3,ha,XK,F.f42R,F.f42K,Yk]
   ·by_cases hb:y.m < (ks.length:Int)
    ·simp[F.f42B,F.f42C,Qa,YG,hy,hy3,ha,hb,XK,F.f42R,F.f42K,Yk]
    ·by_cases h1:n=[115,107]
     ·subst h1
      simp[F.f42B,F.f42C,Qa,YG,hy,hy3,ha,hb,XK,Yk]
      rw[l0] <;> simp
     ·by_cases h2:n=[115,104,107]
      ·subst h2
       simp[F.f42B,F.f42C,Qa,YG,hy,hy3,ha,hb,XK,Yk]
       rw[l0] <;> simp
      ·have b1: (n == [115,107])=false:=by simp[h1]
       have b2: (n == [115,104,107])=false:=by simp[h2]
       by_cases h3:n=[110,101,119]
       ·subst h3
        have hl:=hy4 hy2
        cases ks with
        | nil=>simp at ha;omega
        | cons x xs=>
         have ha': ¬((xs.length:Int)+1 < y.l):=by simpa using ha
         have hb': ¬(y.m < (xs.length:Int)+1):=by simpa using hb
         by_cases hx:x.kind=2
         ·simp[F.f42B,F.f42C,Qa,encTs,Qj x,YG,hy,hy3,ha',hb',XK,Yk,hx]at *
          refine(r1 _ ?_).trans ?_ <;> simp[encTs,Qj x]
         ·simp[F.f42B,F.f42C,Qa,encTs,Qj x,YG,hy,hy3,ha',hb',XK,Yk,hx,F.f42R,F.f42K]
       ·have b3: (n == [110,101,119])=false:=by simp[h3]
        simp[F.f42B,F.f42C,Qa,YG,hy,hy3,ha,hb,XK,Yk,h1,h2,h3,b1,b2,b3]
        rw[r1] <;> simp
 ·simp[F.f42B,F.f42C,Qa,hk,F.f42R,F.f42K,Yk]
def thV (t:Tm):Int:=if QF t≠0 then QF t else Yk t
theorem W5 (t:Tm) (bs:List (List AV)) (hm:t.mass < big):call F.tb 41 [.agg (Qa t)] bs=some (.int .i64 (thV t),bs):=by
 rw[Qb F.tb_41 _ _ rfl]
 have h1:=Xp t bs hm
 have h2:=Gl t bs hm
 rw[Qj]at *
 by_cases h:QF t=0
 ·simp[F.f41B,F.f41C,h1,h2,h,thV,F.f41R,F.f41K]
 ·simp[F.f41B,F.f41C,h1,h,thV,F.f41R,F.f41K]
end Go.Am
namespace Go.Am
set_option maxRecDepth 8000
theorem O4 {α:Type} {l pre post:List α} {x:α} (h:l=pre ++ x:: post) (hb:l.length < 4611686018427387904):
  l[pre.length]? =some x∧IntKind.i64.wrap ((pre.length:Int)+1)=(pre.length:Int)+1∧(pre.length:Int) < (l.length:Int)∧x∈l:=by
 have hl:l.length=pre.length+ (post.length+1):=by rw[h];simp
 exact⟨Qp h,Ql (by omega) (by omega),by omega,by rw[h];simp⟩
theorem Nu {t:Tm} (h:t.mass < big):t.kids.length < 4611686018427387904:=by
 have:=Qo t;unfold big at h;omega
theorem GX {t x:Tm} (h:t.mass < big) (hx:x∈t.kids):x.mass < big:=by
 have:=Qz hx;have:=Qo t;omega
theorem CF (t:Tm) (bs:List (List AV)) (hm:t.mass < big):call F.tb 56 [.agg (Qa t)] bs=some (.int .i64 (WJ t),bs):=by
 rw[Qb F.tb_56 _ _ rfl]
 have hn:=Ga t.name bs (by have:=Qo t;unfold big at hm;omega)
 have hks: ((8:Int) < t.kids.length)=(8 < t.kids.length):=by rw[eq_iff_iff];omega
 obtain⟨k,n,s,ks⟩:=t
 simp at hn hks
 unfold WJ
 simp only[Xi,WT,Q3,QJ]
 by_cases k1:k=1
 ·subst k1
  simp[F.f56B,F.f56C,F.f56R,F.f56K,Qa,hn,hks]
  rcases Bool.eq_false_or_eq_true (Xh n)with c4 | c4 <;> by_cases c1:s < 0 <;> by_cases c2:5 < s <;> by_cases c3:0 < ks.length <;> simp[c1,c2,c3,c4] <;> omega
 by_cases k2:k=2
 ·subst k2
  simp[F.f56B,F.f56C,F.f56R,F.f56K,Qa,hn,hks]
  rcases Bool.eq_false_or_eq_true (Xh n)with c4 | c4 <;> by_cases c1:s < 0 <;> by_cases c2:5 < s <;> by_cases c3:0 < ks.length <;> simp[c1,c2,c3,c4] <;> omega
 by_cases k3:k=3
 ·subst k3
  simp[F.f56B,F.f56C,F.f56R,F.f56K,Qa,hn,hks]
  rcases Bool.eq_false_or_eq_true (Xh n)with c4 | c4 <;> by_cases c1:s < 0 <;> by_cases c2:5 < s <;> by_cases c3:s=0 <;> simp[c1,c2,c3,c4] <;> omega
 ·simp[F.f56B,F.f56C,F.f56R,F.f56K,Qa,hn,hks,k1,k2,k3]
theorem Fw (t:Tm) (bs:List (List AV)) (hm:t.mass < big) (ih: ∀x∈t.kids,∀bs,call F.tb 55 [.agg (Qa x)] bs=some (.int .i64 (Yd x),bs)):
  ∀(post pre:List Tm) (ρ:Nat→AV),t.kids=pre ++ post→ρ 1= .bx (Qa t)→ρ 4= .int .i64 pre.length→
  R F.tb (.loop F.f55l0) ρ bs (Qk 0 (Qv F.tb F.f55r0 (Qx F.f55 bs)))=some (.int .i64 (errL post),bs):=by
 intro post
 induction post with
 | nil=>
  intro pre ρ hk h1 h4
  rw[Qc F.f55l0.eq_1]
  simp at hk
  simp[h1,h4,← hk,F.f55r0,F.f55R,F.f55K,errL]
 | cons x post IH=>
  intro pre ρ hk h1 h4
  obtain⟨hg,hw,hlt,hx⟩:=O4 hk (Nu hm)
  have hh:=ih x hx bs
  rw[Qc F.f55l0.eq_1]
  by_cases he:Yd x=0
  ·simp[h1,h4,hg,hw,hlt,hh,he,errL]
   rw[IH (pre ++ [x])] <;> simp[h1,hk]
  ·simp[h1,h4,hg,hw,hlt,hh,he,errL,F.f55R,F.f55K]
theorem FH: ∀(t:Tm) (bs:List (List AV)),t.mass < big→call F.tb 55 [.agg (Qa t)] bs=some (.int .i64 (Yd t),bs):=by
 refine Zh ?_
 intro k n s ks ih bs hm
 have hl:=Fw (.mk k n s ks) bs hm (fun x hx bs=>ih x hx bs (GX hm hx)) ks []
 have hn:=CF (.mk k n s ks) bs hm
 rw[Qb F.tb_55 _ _ rfl]
 by_cases he:WJ (.mk k n s ks)=0
 ·simp[F.f55B,F.f55C,hn,he,Yd]
  rw[hl] <;> simp
 ·simp[F.f55B,F.f55C,F.f55R,F.f55K,hn,he,Yd]
theorem Yv (t:Tm) (bs:List (List AV)) (hm:t.mass < big):call F.tb 54 [.agg (Qa t)] bs=some (.int .i64 (QF t),bs):=by
 have h1:=FH t bs hm
 have h2:=P8 t bs hm
 have h3:=FF t bs hm
 rw[Qb F.tb_54 _ _ rfl]
 have e1: (400 < (t.nodes:Int))=(400 < t.nodes):=by rw[eq_iff_iff];omega
 have e2: (40 < (t.depth:Int))=(40 < t.depth):=by rw[eq_iff_iff];omega
 simp[F.f54B,F.f54C,F.f54R,F.f54K,h1,h2,h3,e1,e2,QF]
 by_cases he:Yd t=0 <;> by_cases c1:400 < t.nodes <;> by_cases c2:40 < t.depth <;> simp[he,c1,c2]
theorem OI (bs:List (List AV)):call F.tb 129 [] bs=some (.sl true 4 (Xs Yl),bs):=by
 rw[Qb F.tb_129 _ _ rfl]
 simp[F.f129,F.f129C,Yl,Xs,XK]
theorem BO (n:List UInt8) (bs:List (List AV)) (l:List Sy) (hl:l.length < 1000): ∀(post pre:List Sy) (ρ:Nat→AV),l=pre ++ post→ρ 0= .str n→(∃o,ρ 3= .sl o 4 (Xs l))→ρ 4= .int .i64 pre.length→
  R F.tb (.loop F.f128l0) ρ bs (Qk 0 (Qv F.tb F.f128r0 (Qx F.f128 bs)))=some (.int .i64 (match Zm n post with | some y=>y.k | none=>0),bs):=by
 intro post
 induction post with
 | nil=>
  intro pre ρ hk h0 ⟨o,h3⟩ h4
  rw[Qc F.f128l0.eq_1]
  simp at hk
  rw[← hk]at h4
  simp[h0,h3,h4,F.f128r0,F.f128R,F.f128K,Zm]
 | cons x post IH=>
  intro pre ρ hk h0 ⟨o,h3⟩ h4
  have hg:=Nh hk
  obtain⟨_,hw,hlt,_⟩:=O4 hk (by omega)
  rw[Qc F.f128l0.eq_1]
  by_cases hx:x.n=n
  ·simp[h0,h3,h4,hg,hw,hlt,XK,hx,Zm,F.f128R,F.f128K]
  ·have hxb: (x.n == n)=false:=by simp[hx]
   simp[h0,h3,h4,hg,hw,hlt,XK,hx,hxb,Zm]
   rw[IH (pre ++ [x])] <;> simp[h0,h3,hk]
theorem Jd (n:List UInt8) (bs:List (List AV)):call F.tb 128 [.str n] bs=some (.int .i64 (match Zm n Yl with | some y=>y.k | none=>0),bs):=by
 rw[Qb F.tb_128 _ _ rfl]
 simp[F.f128B,F.f128C,OI]
 rw[BO n bs Yl (by decide) Yl []] <;> simp
theorem Qbr (t:Tm) (bs:List (List AV)) (l:List Sy) (hl:l.length < 1000): ∀(post pre:List Sy) (ρ:Nat→AV),l=pre ++ post→ρ 1= .bx (Qa t)→(∃o,ρ 3= .sl o 4 (Xs l))→ρ 4= .int .i64 pre.length→
  R F.tb (.loop F.f130l0) ρ bs (Qk 0 (Qv F.tb F.f130r0 (Qx F.f130 bs)))=
   some (.bool (match Zm t.name post with | some y=>decide (y.l≤t.kids.length) && decide (t.kids.length≤y.m) | none=>false),bs):=by
 intro post
 induction post with
 | nil=>
  intro pre ρ hk h1 ⟨o,h3⟩ h4
  rw[Qc F.f130l0.eq_1]
  simp at hk
  rw[← hk]at h4
  simp[h1,h3,h4,F.f130r0,F.f130R,F.f130K,Zm]
 | cons x post IH=>
  intro pre ρ hk h1 ⟨o,h3⟩ h4
  have hg:=Nh hk
  obtain⟨_,hw,hlt,_⟩:=O4 hk (by omega)
  rw[Qc F.f130l0.eq_1]
  by_cases hx:x.n=t.name
  ·by_cases c1:x.l≤t.kids.length <;>
   simp[h1,h3,h4,hg,hw,hlt,XK,hx,Zm,c1,F.f130R,F.f130K]
  ·have hxb: (x.n == t.name)=false:=by simp[hx]
   simp[h1,h3,h4,hg,hw,hlt,XK,hx,hxb,Zm]
   rw[IH (pre ++ [x])] <;> simp[h1,h3,hk]
theorem Qa1 (t:Tm) (bs:List (List AV)):call F.tb 130 [.agg (Qa t)] bs=
  some (.bool (match Zm t.name Yl with | some y=>decide (y.l≤t.kids.length) && decide (t.kids.length≤y.m) | none=>false),bs):=by
 rw[Qb F.tb_130 _ _ rfl]
 simp[F.f130B,F.f130C,OI]
 rw[Qbr t bs Yl (by decide) Yl []] <;> simp
theorem Fz (t:Tm) (bs:List (List AV)) (hm:t.mass < big): ∀(post pre:List Tm) (ρ:Nat→AV),t.kids=pre ++ post→ρ 1= .bx (Qa t)→ρ 3= .int .i64 pre.length→
  R F.tb (.loop F.f131l0) ρ bs (Qk 0 (Qv F.tb F.f131r0 (Qx F.f131 bs)))=some (.bool (!(post.any Vk)),bs):=by
 intro post
 induction post with
 | nil=>
  intro pre ρ hk h1 h3
  rw[Qc F.f131l0.eq_1]
  simp at hk
  simp[h1,h3,← hk,F.f131r0,F.f131R,F.f131K]
 | cons x post IH=>
  intro pre ρ hk h1 h3
  obtain⟨hg,hw,hlt,hx⟩:=O4 hk (Nu hm)
  rw[Qc F.f131l0.eq_1]
  by_cases c1:x.kind=3 <;> by_cases c2:x.sort=1 <;>
   simp[h1,h3,hg,hw,hlt,c1,c2,Vk,F.f131R,F.f131K]
  rw[IH (pre ++ [x])] <;> simp[h1,hk,Vk]
theorem FI (t:Tm) (bs:List (List AV)) (hm:t.mass < big) (hk:t.name=[110,101,119]→t.kids≠[]):call F.tb 131 [.agg (Qa t)] bs=
  some (.bool (if t.name=[110,101,119]then decide (t.kids.head?.map Tm.kind=some 2)else !(t.kids.any Vk)),bs):=by
 rw[Qb F.tb_131 _ _ rfl]
 by_cases hn:t.name=[110,101,119]
 ·cases hkk:t.kids with
  | nil=>exact absurd hkk (hk hn)
  | cons x xs=>simp[F.f131B,F.f131C,F.f131R,F.f131K,hn,hkk,Qj t,encTs]
 ·have hnb: (t.name == [110,101,119])=false:=by simp[hn]
  simp[F.f131B,F.f131C,hn,hnb]
  rw[Fz t bs hm t.kids []] <;> simp
theorem JQ (t:Tm) (bs:List (List AV)) (hm:t.mass < big) (ih: ∀x∈t.kids,∀bs,call F.tb 127 [.agg (Qa x)] bs=some (.int .i64 (Yk x),bs)):
  ∀(post pre:List Tm) (ρ:Nat→AV),t.kids=pre ++ post→ρ 1= .bx (Qa t)→ρ 4= .int .i64 pre.length→
  R F.tb (.loop F.f127l0) ρ bs (Qk 0 (Qv F.tb F.f127r0 (Qx F.f127 bs)))=some (.int .i64 (chkL post),bs):=by
 intro post
 induction post with
 | nil=>
  intro pre ρ hk h1 h4
  rw[Qc F.f127l0.eq_1]
  simp at hk
  simp[h1,h4,← hk,F.f127r0,F.f127R,F.f127K,chkL]
 | cons x post IH=>
  intro pre ρ hk h1 h4
  obtain⟨hg,hw,hlt,hx⟩:=O4 hk (Nu hm)
  have hh:=ih x hx bs
  rw[Qc F.f127l0.eq_1]
  by_cases he:Yk x=0
  ·simp[h1,h4,hg,hw,hlt,hh,he,chkL]
   rw[IH (pre ++ [x])] <;> simp[h1,hk]
  ·simp[h1,h4,hg,hw,hlt,hh,he,chkL,F.f127R,F.f127K]
theorem Qco {y:Sy} (h:y∈Yl): (y.k=2)=(y.n=[115,107]∨y.n=[115,104,107]∨y.n=[110,101,119]):=by
 have:Yl.all (fun y=>decide ((y.k=2)=(y.n=[115,107]∨y.n=[115,104,107]∨y.n=[110,101,119])))=true:=by
  simp only[eq_iff_iff];decide
 have:=List.all_eq_true.1 this y h
 exact of_decide_eq_true this
theorem JW: ∀(t:Tm) (bs:List (List AV)),t.mass < big→call F.tb 127 [.agg (Qa t)] bs=some (.int .i64 (Yk t),bs):=by
 refine Zh ?_
 intro k n s ks ih bs hm
 have hl:=JQ (.mk k n s ks) bs hm (fun x hx bs=>ih x hx bs (GX hm hx)) ks []
 have hf:=Qa1 (.mk k n s ks) bs
 have ha:=FI (.mk k n s ks) bs hm
 have hkd:=Jd n bs
 simp only[Q3,QJ]at hf ha
 rw[Qb F.tb_127 _ _ rfl]
 by_cases hk:k=3
 ·subst hk
  simp only[Qa]at hf ha hl
  cases hy:Zm n Yl with
  | none=>
   rw[hy]at hkd
   simp[F.f127B,F.f127C,F.f127R,F.f127K,Qa,hkd,hy,Yk]
  | some y=>
   obtain⟨hy1,hy2⟩:=Oi hy
   obtain⟨hy3,hy4⟩:=Qcn hy1
   have hp:=Qco hy1
   rw[hy]at hkd hf
   simp only at hkd hf
   by_cases c:y.l≤ks.length∧(ks.length:Int)≤y.m
   ·have c1:=c.1
    have c2:=c.2
    have d1: ¬(ks.length:Int) < y.l:=by omega
    have d2: ¬y.m < (ks.length:Int):=by omega
    have ha':=ha (fun e=>by
     have:=hy4 (by rw[hy2];exact e)
     intro e2;subst e2;simp at c1;omega)
    rw[hy2]at hp
    have hl':=fun ρ=>hl ρ rfl
    by_cases h1:n=[115,107]
    ·subst h1
     have hk2:y.k=2:=by rw[hp];simp
     simp at ha'
     rcases Bool.eq_false_or_eq_true (ks.any Vk)with c4 | c4 <;>
      simp[F.f127B,F.f127C,F.f127R,F.f127K,Qa,hkd,hk2,hf,c1,c2,d1,d2,ha',Yk,hy,c4]
     rw[hl'] <;> simp
    by_cases h2:n=[115,104,107]
    ·subst h2
     have hk2:y.k=2:=by rw[hp];simp
     simp at ha'
     rcases Bool.eq_false_or_eq_true (ks.any Vk)with c4 | c4 <;>
      simp[F.f127B,F.f127C,F.f127R,F.f127K,Qa,hkd,hk2,hf,c1,c2,d1,d2,ha',Yk,hy,c4]
     rw[hl'] <;> simp
    by_cases h3:n=[110,101,119]
    ·subst h3
     have hk2:y.k=2:=by rw[hp];simp
     simp at ha'
     by_cases c4: ∃a,ks.head?=some a∧a.kind=2 <;>
      simp[F.f127B,F.f127C,F.f127R,F.f127K,Qa,hkd,hk2,hf,c1,c2,d1,d2,ha',Yk,hy,c4]
     rw[hl'] <;> simp
    ·have hk2: ¬y.k=2:=by rw[hp];simp[h1,h2,h3]
     have hk2b: (y.k == 2)=false:=by simp[hk2]
     simp[F.f127B,F.f127C,F.f127R,F.f127K,Qa,hkd,hk2,hy3,hf,c1,c2,d1,d2,Yk,hy,h1,h2,h3]
     rw[hl'] <;> simp
   ·have d: (ks.length:Int) < y.l∨y.m < ks.length:=by omega
    have e: (decide (y.l≤ks.length) && decide ((ks.length:Int)≤y.m))=false:=by
     rw[Bool.and_eq_false_iff];simp;omega
    have hf2:call F.tb 130 [.agg [.int .i64 3,.str n,.int .i64 s,.sl false 4 (encTs ks)]] bs=some (.bool (decide (y.l≤(ks.length:Int)) && decide ((ks.length:Int)≤y.m)),bs):=hf
    rw[e]at hf2
    simp[F.f127B,F.f127C,F.f127R,F.f127K,Qa,hkd,hy,hy3,hf2,d,Yk]
 ·simp[F.f127B,F.f127C,F.f127R,F.f127K,Qa,hk,Yk]
theorem W4 (t:Tm) (bs:List (List AV)) (hm:t.mass < big):call F.tb 126 [.agg (Qa t)] bs=some (.int .i64 (thV t),bs):=by
 have h1:=Yv t bs hm
 have h2:=JW t bs hm
 rw[Qb F.tb_126 _ _ rfl]
 rw[Qj]at *
 by_cases h:QF t=0
 ·simp[F.f126B,F.f126C,h1,h2,h,thV,F.f126R,F.f126K]
 ·simp[F.f126B,F.f126C,h1,h,thV,F.f126R,F.f126K]
end Go.Am
namespace Go.Am
set_option maxRecDepth 8000
theorem H6: ∀{a b:List UInt8},YV a b=0→a=b:=by
 intro a b h
 unfold YV at h
 split at h
 ·simp at h
 ·split at h
  ·rename_i h2;exact beq_iff_eq.1 h2
  ·simp at h
mutual
theorem Z6: ∀(t u:Tm),Qm t u=0→t=u
 | .mk k n s ks,.mk k' n' s' ks',h=>by
  rw[Ux,UD]at h
  obtain⟨h1,h2⟩:=h
  unfold hdT at h1
  simp only[UD,Sv,Xi,Q3,WT,QJ]at h1 h2
  obtain⟨_,h3,h4,h5,h6⟩:=h1
  have e1:=H6 h4
  have e2:=cmpL_eq0 ks ks' (by omega) h2
  rw[h3,e1,h5,e2]
theorem cmpL_eq0: ∀(ts us:List Tm),ts.length=us.length→cmpL ts us=0→ts=us
 | [],[],_,_=>rfl
 | [],_:: _,h,_=>by simp at h
 | _:: _,[],h,_=>by simp at h
 | t:: ts,u:: us,h,h2=>by
  rw[cmpL,UD]at h2
  rw[Z6 t u h2.1,cmpL_eq0 ts us (by simpa using h) h2.2]
end
theorem Gv {t u:Tm}:Qm t u=0↔t=u:=⟨Z6 t u,fun h=>h▸Y8 t⟩
end Go.Am
namespace Go.Am
set_option maxRecDepth 8000
def isB (t:Tm) (n:List UInt8):Bool:=decide (t.kind=3) && (t.name == n)
theorem PY {t:Tm} {n:List UInt8}:isB t n=true↔t.kind=3∧t.name=n:=by simp[isB]
theorem SF (t:Tm) (n:List UInt8) (bs:List (List AV)):call F.tb 71 [.agg (Qa t),.str n] bs=some (.bool (isB t n),bs):=by
 rw[Qb F.tb_71 _ _ rfl]
 by_cases h:t.kind=3 <;> simp[F.f71,F.f71C,isB,h]
theorem VJ (t:Tm) (n:List UInt8) (bs:List (List AV)):call F.tb 132 [.agg (Qa t),.str n] bs=some (.bool (isB t n),bs):=by
 rw[Qb F.tb_132 _ _ rfl]
 by_cases h:t.kind=3 <;> simp[F.f132,F.f132C,isB,h]
end Go.Am
namespace Go.Am
set_option maxRecDepth 8000
theorem Uc: ∀(k n:Nat),n < 10 ^ (k+1)→(Xr n).length≤k+1
 | 0,n,h=>by rw[Vh (by simpa using h)];simp
 | k+1,n,h=>by
  by_cases h0:n < 10
  ·rw[Vh h0];simp
  ·rw[Td h0,List.length_append]
   have:=Uc k (n / 10) (by rw[Nat.pow_succ]at h;omega)
   simp;omega
theorem Je (n:List UInt8) (ks:List Tm) (o:Bool) (bs:List (List AV)) (hl:ks.length≤1000):call F.tb 120 [.str n,.sl o 4 (encTs ks)] bs=some (.agg (Qa (.mk 3 n 0 ks)),bs):=by
 rw[Qb F.tb_120 _ _ rfl]
 have ha:ks.length*56≤140737488355328:=by omega
 simp[F.f120,F.f120C,X6,XJ,ha,encTs_gp]
end Go.Am
namespace Go.Am
theorem Oz (a b:Int):sgn b a= - sgn a b:=by unfold sgn;split <;> (try split) <;> (try split) <;> omega
theorem Qcj {a b:Int}:sgn a b≤0↔a≤b:=by unfold sgn;split <;> (try split) <;> omega
theorem MO: ∀a b:List UInt8,Op.bytesLess a b=true∨a=b∨Op.bytesLess b a=true
 | [],[]=> .inr (.inl rfl)
 | [],_:: _=> .inl rfl
 | _:: _,[]=> .inr (.inr rfl)
 | x:: xs,y:: ys=>by
  simp only[Op.bytesLess,Bool.or_eq_true,decide_eq_true_eq,Bool.and_eq_true,beq_iff_eq,List.cons.injEq]
  rcases Nat.lt_trichotomy x.toNat y.toNat with h | h | h
  ·have:x < y:=by rw[UInt8.lt_iff_toNat_lt];exact h
   simp[this]
  ·have e:x=y:=UInt8.toNat_inj.1 h
   subst e
   have hi: ¬x < x:=by rw[UInt8.lt_iff_toNat_lt];omega
   rcases MO xs ys with h | h | h
   ·simp[hi,h]
   ·simp[hi,h]
   ·simp[hi,h]
  ·have:y < x:=by rw[UInt8.lt_iff_toNat_lt];exact h
   have h2: ¬x < y:=by rw[UInt8.lt_iff_toNat_lt];omega
   simp[this,h2]
theorem Om: ∀a b c:List UInt8,Op.bytesLess a b=true→Op.bytesLess b c=true→Op.bytesLess a c=true
 | [],_,[],_,h=>by cases ‹List UInt8› <;> simp[Op.bytesLess]at h
 | [],_,_:: _,_,_=>rfl
 | _:: _,[],_,h,_=>by simp[Op.bytesLess]at h
 | _:: _,_:: _,[],_,h=>by simp[Op.bytesLess]at h
 | x:: xs,y:: ys,z:: zs,h1,h2=>by
  have ih:=Om xs ys zs
  simp only[Op.bytesLess,Bool.or_eq_true,decide_eq_true_eq,Bool.and_eq_true,beq_iff_eq]at h1 h2 ⊢
  rcases h1 with h1 | ⟨rfl,h1⟩
  ·rcases h2 with h2 | ⟨rfl,h2⟩
   ·left;rw[UInt8.lt_iff_toNat_lt]at *;omega
   ·exact .inl h1
  ·rcases h2 with h2 | ⟨rfl,h2⟩
   ·exact .inl h2
   ·exact .inr ⟨rfl,ih h1 h2⟩
theorem LH (a b:List UInt8) (h:Op.bytesLess a b=true):Op.bytesLess b a=false:=by
 cases hb:Op.bytesLess b a
 ·rfl
 ·have:=Om a b a h hb;rw[YU]at this;cases this
theorem Nb (a b:List UInt8):YV b a= - YV a b:=by
 unfold YV
 rcases MO a b with h | h | h
 ·have h2:=LH a b h
  have hne: (b == a)=false:=by
   rw[beq_eq_false_iff_ne];intro e;subst e;rw[YU]at h;cases h
  simp[h,h2,hne]
 ·subst h;simp[YU]
 ·have h2:=LH b a h
  have hne: (a == b)=false:=by
   rw[beq_eq_false_iff_ne];intro e;subst e;rw[YU]at h;cases h
  simp[h,h2,hne]
theorem QgN {a b:List UInt8}:YV a b≤0↔Op.bytesLess a b=true∨a=b:=by
 unfold YV
 split
 ·rename_i h;simp[h]
 ·rename_i h
  split
  ·rename_i h2;simp at h2;simp[h2]
  ·rename_i h2;simp at h2;simp[h,h2]
theorem CN {a b c:List UInt8} (h1:YV a b≤0) (h2:YV b c≤0):YV a c≤0:=by
 rw[QgN]at *
 rcases h1 with h1 | rfl
 ·rcases h2 with h2 | rfl
  ·exact .inl (Om _ _ _ h1 h2)
  ·exact .inl h1
 ·exact h2
theorem Gu {a b:List UInt8} (h:YV a b=0):a=b:=by
 rcases MO a b with h2 | h2 | h2
 ·simp[YV,h2]at h
 ·exact h2
 ·have:=Nb a b
  rw[h]at this
  simp[YV,h2]at this
theorem UC {a b a' b':Int} (h1:a'= -a) (h2:b'= -b):or0 a' b'= - or0 a b:=by
 subst h1 h2
 unfold or0
 split <;> split <;> omega
theorem VY {a1 a2 a3 b1 b2 b3:Int} (ha:a1≤0→a2≤0→a3≤0) (hz:a3=0→a1≤0→a2≤0→a1=0∧a2=0) (hb:a1=0→a2=0→b1≤0→b2≤0→b3≤0)
  (h1:or0 a1 b1≤0) (h2:or0 a2 b2≤0):or0 a3 b3≤0:=by
 have g1:a1≤0:=by unfold or0 at h1;split at h1 <;> omega
 have g2:a2≤0:=by unfold or0 at h2;split at h2 <;> omega
 have g3:=ha g1 g2
 by_cases hc:a3=0
 ·obtain⟨z1,z2⟩:=hz hc g1 g2
  rw[z1,Vm]at h1
  rw[z2,Vm]at h2
  rw[hc,Vm]
  exact hb z1 z2 h1 h2
 ·rw[Uk hc];exact g3
theorem SX {a b c:Int} (h1:sgn a b≤0) (h2:sgn b c≤0):sgn a c≤0:=by rw[Qcj]at *;omega
theorem M1 {a b c:Int} (h:sgn a c=0) (h1:sgn a b≤0) (h2:sgn b c≤0):sgn a b=0∧sgn b c=0:=by
 rw[Sv]at *;rw[Qcj]at h1 h2;rw[Sv];omega
theorem Qa3 {a b c:List UInt8} (h:YV a c=0) (h1:YV a b≤0) (h2:YV b c≤0):YV a b=0∧YV b c=0:=by
 have e:=Gu h
 subst e
 have:=Nb a b
 constructor <;> omega
theorem GM (t u:Tm):hdT u t= - hdT t u:=by
 unfold hdT
 exact UC (Oz _ _) (UC (Oz _ _) (UC (Nb _ _) (UC (Oz _ _) (Oz _ _))))
theorem ML {t u:Tm}:hdT t u=0↔t.nodes=u.nodes∧t.kind=u.kind∧t.name=u.name∧t.sort=u.sort∧t.kids.length=u.kids.length:=by
 unfold hdT
 rw[UD,UD,UD,UD,Sv,Sv,Sv,Sv]
 constructor
 ·rintro⟨h1,h2,h3,h4,h5⟩
  exact⟨by omega,h2,Gu h3,h4,by omega⟩
 ·rintro⟨h1,h2,h3,h4,h5⟩
  exact⟨by omega,h2,by rw[h3];exact Jk _,h4,by omega⟩
theorem QbB {t u v:Tm} (h1:hdT t u≤0) (h2:hdT u v≤0):hdT t v≤0:=by
 unfold hdT at *
 refine VY SX (fun h a b=>M1 h a b) (fun _ _=> ?_) h1 h2
 refine VY SX (fun h a b=>M1 h a b) (fun _ _=> ?_)
 refine VY CN (fun h a b=>Qa3 h a b) (fun _ _=> ?_)
 exact VY SX (fun h a b=>M1 h a b) (fun _ _=>SX)
theorem Na: ∀(ts us:List Tm),(∀x∈ts,∀y,Qm y x= - Qm x y)→cmpL us ts= - cmpL ts us
 | [],[],_=>by simp[cmpL]
 | [],_:: _,_=>by simp[cmpL]
 | _:: _,[],_=>by simp[cmpL]
 | t:: ts,u:: us,h=>by
  simp only[cmpL]
  exact UC (h t (by simp) u) (Na ts us fun x hx=>h x (by simp[hx]))
theorem Y7: ∀(t u:Tm),Qm u t= - Qm t u:=by
 refine Zh ?_
 intro k n s ks ih u
 rw[Ux,Ux]
 exact UC (GM _ _) (Na _ _ fun x hx y=>ih x hx y)
theorem OJ: ∀(ts us vs:List Tm),ts.length=us.length→us.length=vs.length→(∀x∈ts,∀y z,Qm x y≤0→Qm y z≤0→Qm x z≤0)→cmpL ts us≤0→cmpL us vs≤0→cmpL ts vs≤0
 | [],[],[],_,_,_,_,_=>by simp[cmpL]
 | t:: ts,u:: us,v:: vs,h1,h2,h,g1,g2=>by
  simp only[cmpL]at g1 g2 ⊢
  refine VY (h t (by simp) u v) (fun h0 a b=> ?_) (fun _ _=>OJ ts us vs (by simpa using h1) (by simpa using h2) fun x hx=>h x (by simp[hx])) g1 g2
  have e:=Z6 _ _ h0
  subst e
  have:=Y7 t u
  constructor <;> omega
 | [],_:: _,_,h1,_,_,_,_=>by simp at h1
 | _:: _,[],_,h1,_,_,_,_=>by simp at h1
 | [],[],_:: _,_,h2,_,_,_=>by simp at h2
 | _:: _,_:: _,[],_,h2,_,_,_=>by simp at h2
theorem Ob: ∀(t u v:Tm),Qm t u≤0→Qm u v≤0→Qm t v≤0:=by
 refine Zh ?_
 intro k n s ks ih u v h1 h2
 rw[Ux]at *
 refine VY QbB (fun h0 a b=> ?_) (fun e1 e2=> ?_) h1 h2
 ·rw[ML]at h0
  have z1:=ML (t:= .mk k n s ks) (u:=u)
  have e2:hdT u v=hdT u (.mk k n s ks):=by unfold hdT;rw[h0.1,h0.2.1,h0.2.2.1,h0.2.2.2.1,h0.2.2.2.2]
  rw[e2]at b ⊢
  have:=GM (.mk k n s ks) u
  constructor <;> omega
 ·rw[ML]at e1 e2
  exact OJ _ _ _ e1.2.2.2.2 e2.2.2.2.2 fun x hx=>ih x hx
theorem Ys {a b c:Tm} (h1:Qm a b < 0) (h2:Qm b c < 0):Qm a c < 0:=by
 have h:=Ob a b c (by omega) (by omega)
 rcases Int.lt_or_eq_of_le h with h | h
 ·exact h
 ·have e:=Z6 _ _ h
  subst e
  have:=Y7 a b
  omega
theorem Wu (a:Tm): ¬Qm a a < 0:=by rw[Y8];omega
theorem Ly {a b:Tm}:0 < Qm a b↔Qm b a < 0:=by have:=Y7 a b;omega
theorem Oc (a b:Tm):Qm a b < 0∨a=b∨Qm b a < 0:=by
 rcases Int.lt_trichotomy (Qm a b) 0 with h | h | h
 ·exact .inl h
 ·exact .inr (.inl (Z6 _ _ h))
 ·exact .inr (.inr (Ly.1 h))
def Asc (l:List Tm):Prop:=l.Pairwise fun a b=>Qm a b < 0
theorem Asc.nil:Asc []:=List.Pairwise.nil
theorem NT (t:Tm):Asc [t]:=by simp[Asc]
theorem Ye {x:Tm} {l:List Tm}:Asc (x:: l)↔(∀y∈l,Qm x y < 0)∧Asc l:=List.pairwise_cons
theorem NS: ∀{a b:List Tm},Asc a→Asc b→(∀x,x∈a↔x∈b)→a=b
 | [],[],_,_,_=>rfl
 | [],y:: ys,_,_,h=>by have:=(h y).2 (by simp);simp at this
 | x:: xs,[],_,_,h=>by have:=(h x).1 (by simp);simp at this
 | x:: xs,y:: ys,ha,hb,h=>by
  rw[Ye]at ha hb
  have hxy:x=y:=by
   rcases Oc x y with h1 | h1 | h1
   ·have:=(h x).1 (by simp)
    rcases List.mem_cons.1 this with e | e
    ·exact e
    ·have:=Ys h1 (hb.1 x e);exact absurd this (Wu x)
   ·exact h1
   ·have:=(h y).2 (by simp)
    rcases List.mem_cons.1 this with e | e
    ·exact e.symm
    ·have:=Ys h1 (ha.1 y e);exact absurd this (Wu y)
  subst hxy
  congr 1
  refine NS ha.2 hb.2 fun z=> ?_
  have hz:=h z
  simp only[List.mem_cons]at hz
  constructor
  ·intro hm
   rcases hz.1 (.inr hm)with e | e
   ·subst e;exact absurd (ha.1 z hm) (Wu z)
   ·exact e
  ·intro hm
   rcases hz.2 (.inr hm)with e | e
   ·subst e;exact absurd (hb.1 z hm) (Wu z)
   ·exact e
def Yn (t:Tm):List Tm→List Tm
 | []=>[t]
 | x:: xs=>if Qm t x < 0 then t:: x:: xs else if Qm t x=0 then x:: xs else x:: Yn t xs
theorem Sn {t y:Tm}: ∀{l:List Tm},y∈Yn t l↔y=t∨y∈l
 | []=>by simp[Yn]
 | x:: xs=>by
  simp only[Yn]
  split
  ·simp
  ·split
   ·rename_i h;have:=Z6 _ _ h;subst this;simp
   ·simp only[List.mem_cons,Sn (l:=xs)]
    constructor
    ·rintro(h | h | h) <;> simp[h]
    ·rintro(h | h | h) <;> simp[h]
theorem Mu {t:Tm}: ∀{l:List Tm},Asc l→Asc (Yn t l)
 | [],_=>NT t
 | x:: xs,h=>by
  have h0:=h
  rw[Ye]at h
  simp only[Yn]
  split
  ·rename_i h1
   rw[Ye]
   refine⟨fun y hy=> ?_,h0⟩
   rcases List.mem_cons.1 hy with rfl | hy
   ·exact h1
   ·exact Ys h1 (h.1 y hy)
  ·split
   ·exact h0
   ·rename_i h1 h2
    rw[Ye]
    refine⟨fun y hy=> ?_,Mu h.2⟩
    rcases Sn.1 hy with rfl | hy
    ·exact Ly.1 (by omega)
    ·exact h.1 y hy
theorem P6 (t:Tm): ∀l:List Tm,(Yn t l).length≤l.length+1
 | []=>by simp[Yn]
 | x:: xs=>by
  simp only[Yn]
  have:=P6 t xs
  split
  ·simp
  ·split <;> simp <;> omega
def WO (acc:List Tm) (l:List Tm):List Tm:=l.foldl (fun a x=>Yn x a) acc
def Xm (l:List Tm):List Tm:=WO [] l
theorem LO {y:Tm}: ∀{l acc:List Tm},y∈WO acc l↔y∈acc∨y∈l
 | [],acc=>by simp[WO]
 | x:: xs,acc=>by
  have:=LO (y:=y) (l:=xs) (acc:=Yn x acc)
  simp only[WO,List.foldl_cons]at this ⊢
  rw[this,Sn]
  simp only[List.mem_cons]
  constructor
  ·rintro((h | h) | h) <;> simp[h]
  ·rintro(h | h | h) <;> simp[h]
theorem Lg: ∀{l acc:List Tm},Asc acc→Asc (WO acc l)
 | [],_,h=>h
 | x:: xs,acc,h=>Lg (l:=xs) (Mu h)
theorem VP {y:Tm} {l:List Tm}:y∈Xm l↔y∈l:=by unfold Xm;rw[LO];simp
theorem H3 (l:List Tm):Asc (Xm l):=Lg Asc.nil
theorem Lf: ∀(l acc:List Tm),(WO acc l).length≤acc.length+l.length
 | [],acc=>by simp[WO]
 | x:: xs,acc=>by
  have h1:=Lf xs (Yn x acc)
  have h2:=P6 x acc
  simp only[WO,List.foldl_cons,List.length_cons]at *
  omega
theorem M0 (l:List Tm): (Xm l).length≤l.length:=by have:=Lf l [];simpa[Xm]using this
theorem So {t y:Tm}: ∀{l:List Tm},y∈W9 t l↔y=t∨y∈l
 | []=>by simp[W9]
 | x:: xs=>by
  simp only[W9]
  split
  ·simp only[List.mem_cons,So (l:=xs)]
   constructor
   ·rintro(h | h | h) <;> simp[h]
   ·rintro(h | h | h) <;> simp[h]
  ·simp
theorem Wz {y:Tm}: ∀{l:List Tm},y∈Z0 l↔y∈l
 | []=>by simp[Z0]
 | x:: xs=>by simp only[Z0,So,Wz (l:=xs),List.mem_cons]
theorem GP (t:Tm): ∀l:List Tm,(W9 t l).length=l.length+1
 | []=>rfl
 | x:: xs=>by simp only[W9];split <;> simp[GP t xs]
theorem WA: ∀l:List Tm,(Z0 l).length=l.length
 | []=>rfl
 | x:: xs=>by simp[Z0,GP,WA xs]
def Srt (l:List Tm):Prop:=l.Pairwise fun a b=>Qm a b≤0
theorem Fq {t:Tm}: ∀{l:List Tm},Srt l→Srt (W9 t l)
 | [],_=>by simp[W9,Srt]
 | x:: xs,h=>by
  have h0:=h
  unfold Srt at h
  rw[List.pairwise_cons]at h
  simp only[W9]
  split
  ·rename_i h1
   unfold Srt
   rw[List.pairwise_cons]
   refine⟨fun y hy=> ?_,Fq h.2⟩
   rcases So.1 hy with rfl | hy
   ·omega
   ·exact h.1 y hy
  ·rename_i h1
   unfold Srt
   rw[List.pairwise_cons]
   refine⟨fun y hy=> ?_,h0⟩
   have htx:Qm t x≤0:=by have:=Y7 x t;omega
   rcases List.mem_cons.1 hy with rfl | hy
   ·exact htx
   ·exact Ob _ _ _ htx (h.1 y hy)
theorem JN: ∀l:List Tm,Srt (Z0 l)
 | []=>List.Pairwise.nil
 | x:: xs=>Fq (JN xs)
def X3:List Tm→List Tm
 | []=>[]
 | [x]=>[x]
 | x:: y:: r=>if Qm y x=0 then X3 (x:: r)else x:: X3 (y:: r)
termination_by l=>l.length
theorem SS: ∀(n:Nat) (l:List Tm) (y:Tm),l.length≤n→(y∈X3 l↔y∈l)
 | _,[],y,_=>by simp[X3]
 | _,[x],y,_=>by simp[X3]
 | n+1,x:: z:: r,y,h=>by
  rw[X3]
  split
  ·rename_i e
   have e:=Z6 _ _ e
   subst e
   rw[SS n (z:: r) y (by simp at h ⊢;omega)]
   simp
  ·rw[List.mem_cons,SS n (z:: r) y (by simp at h ⊢;omega)]
   simp only[List.mem_cons]
 | 0,_:: _:: _,_,h=>by simp at h
theorem O3: ∀(n:Nat) (l:List Tm),l.length≤n→Srt l→Asc (X3 l)
 | _,[],_,_=>by simp[X3,Asc.nil]
 | _,[x],_,_=>by simp[X3,NT]
 | n+1,x:: z:: r,h,hs=>by
  have hs0:=hs
  unfold Srt at hs
  rw[List.pairwise_cons]at hs
  rw[X3]
  split
  ·rename_i e
   have e:=Z6 _ _ e
   subst e
   exact O3 n _ (by simp at h ⊢;omega) hs.2
  ·rename_i e
   rw[Ye]
   refine⟨fun y hy=> ?_,O3 n _ (by simp at h ⊢;omega) hs.2⟩
   rw[SS n _ y (by simp at h ⊢;omega)]at hy
   have hxz:Qm x z < 0:=by
    have h1:=hs.1 z (by simp)
    have h2:=Y7 x z
    omega
   rcases List.mem_cons.1 hy with rfl | hy
   ·exact hxz
   ·have h2:Qm z y≤0:=by
     have:=hs.2
     rw[List.pairwise_cons]at this
     exact this.1 y hy
    rcases Int.lt_or_eq_of_le (Ob x z y (by omega) h2)with h3 | h3
    ·exact h3
    ·have e3:=Z6 _ _ h3
     subst e3
     have:=Y7 x z
     omega
 | 0,_:: _:: _,h,_=>by simp at h
theorem FN (l:List Tm):X3 (Z0 l)=Xm l:=
 NS (O3 _ _ (Nat.le_refl _) (JN l)) (H3 l) fun x=>by rw[SS _ _ x (Nat.le_refl _),Wz,VP]
end Go.Am
namespace Go.Am
set_option maxRecDepth 8000
theorem S4: ∀a b:List AV,gpfreeL (a ++ b)=(gpfreeL a && gpfreeL b)
 | [],b=>by simp
 | x:: a,b=>by simp[S4 a b,Bool.and_assoc]
section
variable {α:Type} (f:α→List AV) (k:Nat)
def ZL (f:α→List AV) (l:List α):List AV:=(l.map f).flatten
theorem UG (x:α) (l:List α):ZL f (x:: l)=f x ++ ZL f l:=by simp[ZL]
theorem XZ (a b:List α):ZL f (a ++ b)=ZL f a ++ ZL f b:=by simp[ZL]
theorem Sa (x:α):ZL f [x]=f x:=by simp[ZL]
variable {f k}
theorem Z2 (hk: ∀x,(f x).length=k): ∀l:List α,(ZL f l).length=l.length*k
 | []=>by simp[ZL]
 | x:: l=>by rw[UG,List.length_append,hk,Z2 hk l,List.length_cons,Nat.succ_mul];omega
theorem Z5 (hs: ∀x,(f x).map AV.strip=f x): ∀l:List α,(ZL f l).map AV.strip=ZL f l
 | []=>rfl
 | x:: l=>by rw[UG,List.map_append,hs,Z5 hs l]
theorem QbU (hg: ∀x,gpfreeL (f x)=true): ∀l:List α,gpfreeL (ZL f l)=true
 | []=>rfl
 | x:: l=>by
  rw[UG,S4,hg x,QbU hg l];rfl
theorem VB (hk: ∀x,(f x).length=k) {l pre post:List α} {x:α} (h:l=pre ++ x:: post) (t:List AV): ((ZL f l ++ t).drop (pre.length*k)).take k=f x:=by
 subst h
 rw[XZ,UG,List.append_assoc,← Z2 hk pre,List.drop_left,List.append_assoc]
 have:=hk x
 rw[List.take_append_of_le_length (by omega),List.take_of_length_le (by omega)]
theorem Ox (hk: ∀x,(f x).length=k) {l pre post:List α} (h:l=pre ++ post) (t:List AV): (ZL f l ++ t).take (pre.length*k)=ZL f pre:=by
 subst h
 rw[XZ,List.append_assoc,← Z2 hk pre,List.take_left]
theorem MV (hk: ∀x,(f x).length=k) {l pre post:List α} (h:l=pre ++ post) (t:List AV): (ZL f l ++ t).drop (pre.length*k)=ZL f post ++ t:=by
 subst h
 rw[XZ,List.append_assoc,← Z2 hk pre,List.drop_left]
theorem P2 (hk: ∀x,(f x).length=k) {l pre post:List α} {x:α} (y:α) (h:l=pre ++ x:: post) (t:List AV):
  (ZL f l ++ t).take (pre.length*k)++ (f y ++ (ZL f l ++ t).drop (pre.length*k+k))=ZL f (pre ++ y:: post)++ t:=by
 rw[Ox hk h,XZ,UG]
 have h2:l=(pre ++ [x])++ post:=by rw[h];simp
 have:=MV hk h2 t
 rw[List.length_append,List.length_singleton,Nat.add_mul,Nat.one_mul]at this
 rw[this]
 simp
theorem Xx (hk: ∀x,(f x).length=k) (hs: ∀x,(f x).map AV.strip=f x) (l:List α) (t:List AV):ZU (ZL f l ++ t) 0 k l.length=l.map f:=by
 apply List.ext_getElem?
 intro i
 cases hc: (ZU (ZL f l ++ t) 0 k l.length)[i]? with
 | none=>
  rw[List.getElem?_eq_none_iff,Y1]at hc
  rw[List.getElem?_eq_none (by simpa using hc)]
 | some y=>
  obtain⟨hi,rfl⟩:=Ub hc
  have hl:l=l.take i ++ l[i]:: l.drop (i+1):=by rw[List.getElem_cons_drop,List.take_append_drop]
  have hr:=VB hk hl t
  rw[List.length_take,Nat.min_eq_left (by omega)]at hr
  rw[Nat.zero_add,hr,hs]
  simp[List.getElem?_eq_getElem hi]
end
theorem QO (x:Tm): (Qa x).length=4:=Yw x
abbrev Qw (l:List Tm):List AV:=ZL Qa l
theorem UF (l:List Tm):l.map Qa=encTs l:=(X7 l).symm
theorem Ln (x y:Tm) (bs:List (List AV)) (hx:x.mass < big) (hy:y.mass < big):call F.tb 171 [.agg (Qa x),.agg (Qa y)] bs=some (.bool (decide (Qm x y=0)),bs):=by
 rw[Qb F.tb_171 _ _ rfl]
 have h:=call_Compare x y bs hx hy
 simp[F.f171,F.f171C,QE,h]
def Y2 (prev:Tm):List Tm→List Tm
 | []=>[]
 | x:: r=>if Qm x prev=0 then Y2 x r else x:: Y2 x r
theorem Od (x:Tm): ∀(r:List Tm),X3 (x:: r)=x:: Y2 x r
 | []=>by simp[X3,Y2]
 | y:: r=>by
  rw[X3]
  simp only[Y2]
  split
  ·rename_i h
   have:=Z6 _ _ h
   subst this
   exact Od y r
  ·rw[Od y r]
theorem QeM (B:List (List AV)) (id n:Nat) (D:List Tm) (c:List AV) (hB:id < B.length) (hc:c.length=n*4) (hD:D.length≤n) (hn:n < 100000000) (ht:c.take (D.length*4)=Qw D)
  (ρ:Nat→AV) (h0:ρ 0= .gs id 0 4 n) (h5:ρ 5= .int .i64 D.length):
  R F.tb F.f172r0 ρ (B.set id c) (Qk 1 (Qv F.tb F.f172r1 (Qv F.tb (.loop F.f172l1) (Qk 0 (Qv F.tb F.f172r2 (Qx F.f172 B))))))=
   some (.gs id 0 4 D.length,B.set id (Qw D ++ List.replicate ((n - D.length)*4) .undef)):=by
 have e1: (0:Int)≤(D.length:Int):=by omega
 have e2: (D.length:Int)≤(n:Int):=by omega
 have hput:c.take (D.length*4)++ (List.replicate ((n - D.length)*4) AV.undef ++ c.drop (D.length*4+ (n - D.length)*4))=Qw D ++ List.replicate ((n - D.length)*4) .undef:=by
  rw[ht,List.drop_eq_nil_of_le (by rw[hc,← Nat.add_mul];exact Nat.mul_le_mul_right _ (by omega))];simp
 have hle:D.length*4+ (n - D.length)*4≤n*4:=by rw[← Nat.add_mul];exact Nat.mul_le_mul_right _ (by omega)
 by_cases hz:n - D.length=0
 ·have hDn:D.length=n:=by omega
  have hcc:c=Qw D:=by rw[← ht,List.take_of_length_le (by omega)]
  simp[F.f172r0,h0,h5,e1,e2,hD,hz,F.f172R,F.f172K,hcc]
 ·simp[F.f172r0,h0,h5,e1,e2,hD,hz,hB,hc,hle,hput,F.f172R,F.f172K]
end Go.Am
namespace Go.Am
set_option maxRecDepth 8000
def Ie (L:List Tm) (B:List (List AV)) (id:Nat) (r:Option (AV×List (List AV))):Prop:=∃t,r=some (.gs id 0 4 L.length,B.set id (Qw L ++ t))
theorem QeK (B:List (List AV)) (id n k0:Nat) (hB:id < B.length) (hn:n < 100000000): ∀(post D mid:List Tm) (prev:Tm) (k2:Nat) (ρ:Nat→AV),D.length+mid.length+1+post.length=n→k0+k2=D.length+mid.length+1→0 < k2→
   (∀x∈prev:: post,x.mass < big)→ρ 0= .gs id 0 4 n→ρ 1= .fn 171 []→ρ 5= .int .i64 D.length→ρ 6= .gs id (k0*4) 4 (n - k0)→ρ 7= .int .i64 k2→
  Ie (D ++ Y2 prev post) B id (R F.tb (.loop F.f172l0) ρ (B.set id (Qw (D ++ mid ++ prev:: post)))
   (Qk 2 (Qv F.tb F.f172r0 (Qk 1 (Qv F.tb F.f172r1 (Qv F.tb (.loop F.f172l1) (Qk 0 (Qv F.tb F.f172r2 (Qx F.f172 B))))))))):=by
 intro post
 induction post with
 | nil=>
  intro D mid prev k2 ρ hl hk hk2 hm h0 h1 h5 h6 h7
  have hlen: (Qw (D ++ mid ++ [prev])).length=n*4:=by rw[Z2 QO];simp at hl ⊢;omega
  have ht: (Qw (D ++ mid ++ [prev])).take (D.length*4)=Qw D:=by
   have:=Ox (f:=Qa) (k:=4) QO (l:=D ++ mid ++ [prev]) (pre:=D) (post:=mid ++ [prev]) (by simp) []
   simpa using this
  have hr:=fun ρ a b=>QeM B id n D (Qw (D ++ mid ++ [prev])) hB hlen (by omega) hn ht ρ a b
  have hl':D.length+mid.length+1=n:=by simpa using hl
  have hnl: ¬((k2:Int) < ((n - k0:Nat):Int)):=by omega
  have hnl2: ¬(k2 < n - k0):=by omega
  rw[Qc F.f172l0.eq_1]
  simp only[Y2,List.append_nil]
  refine⟨List.replicate ((n - D.length)*4) .undef,?_⟩
  simp[h0,h1,h5,h6,h7,hnl,hnl2]
  simp only[List.append_assoc]at hr
  refine hr _ ?_ ?_ <;> simp[h0,h5]
 | cons x post IH=>
  intro D mid prev k2 ρ hl hk hk2 hm h0 h1 h5 h6 h7
  have hlen: (Qw (D ++ mid ++ prev:: x:: post)).length=n*4:=by rw[Z2 QO];simp at hl ⊢;omega
  have hst: (Qw (D ++ mid ++ prev:: x:: post)).map AV.strip=Qw (D ++ mid ++ prev:: x:: post):=Z5 Zs _
  have r1: ((Qw (D ++ mid ++ prev:: x:: post)).drop (k0*4+k2*4)).take 4=Qa x:=by
   have:=VB (f:=Qa) (k:=4) QO (l:=D ++ mid ++ prev:: x:: post) (pre:=D ++ mid ++ [prev]) (post:=post) (x:=x) (by simp) []
   rw[← Nat.add_mul,hk]
   simpa[Nat.add_assoc]using this
  have r2: ((Qw (D ++ mid ++ prev:: x:: post)).drop (k0*4+ (k2 - 1)*4)).take 4=Qa prev:=by
   have:=VB (f:=Qa) (k:=4) QO (l:=D ++ mid ++ prev:: x:: post) (pre:=D ++ mid) (post:=x:: post) (x:=prev) (by simp) []
   rw[← Nat.add_mul,show k0+ (k2 - 1)=D.length+mid.length by omega]
   simpa[Nat.add_assoc]using this
  have hput: (Qw (D ++ mid ++ prev:: x:: post)).take (D.length*4)++ (Qa x ++ (Qw (D ++ mid ++ prev:: x:: post)).drop (D.length*4+4))=Qw ((D ++ [x])++ (mid ++ [prev]).tail ++ x:: post):=by
   obtain⟨y,m2,hy⟩: ∃y m2,mid ++ [prev]=y:: m2:=by cases mid <;> simp
   have:=P2 (f:=Qa) (k:=4) QO (l:=D ++ mid ++ prev:: x:: post) (pre:=D) (post:=m2 ++ x:: post) (x:=y) x (by
    have:D ++ mid ++ prev:: x:: post=D ++ (mid ++ [prev])++ x:: post:=by simp
    rw[this,hy];simp) []
   rw[hy]
   simpa using this
  have hw1:IntKind.i64.wrap ((k2:Int) - 1)=((k2 - 1:Nat):Int):=by rw[Ql (by omega) (by omega)];omega
  have hw2:IntKind.i64.wrap ((k2:Int)+1)=((k2+1:Nat):Int):=by rw[Ql (by simp at hl;omega) (by simp at hl;omega)];omega
  have hw3:IntKind.i64.wrap ((D.length:Int)+1)=((D.length+1:Nat):Int):=by rw[Ql (by simp at hl;omega) (by simp at hl;omega)];omega
  have hlt: (k2:Int) < ((n - k0:Nat):Int):=by simp at hl;omega
  have hlt1:k2 < n - k0:=by simp at hl;omega
  have hlt2: ((k2 - 1:Nat):Int) < ((n - k0:Nat):Int):=by simp at hl;omega
  have hlt2':k2 - 1 < n - k0:=by simp at hl;omega
  have hlt3: (D.length:Int) < (n:Int):=by simp at hl;omega
  have hlt3':D.length < n:=by simp at hl;omega
  have hb1:k0*4+k2*4+4≤n*4:=by simp at hl;omega
  have hb2:k0*4+ (k2 - 1)*4+4≤n*4:=by simp at hl;omega
  have hb3:D.length*4+4≤n*4:=by simp at hl;omega
  have hnn: (0:Int)≤((k2 - 1:Nat):Int):=by omega
  have hc:=fun bs=>Ln x prev bs (hm x (by simp)) (hm prev (by simp))
  have hcast: ((k2 - 1:Nat):Int).toNat=k2 - 1:=by omega
  have ih1:=IH D (mid ++ [prev]) x (k2+1)
  have ih2:=IH (D ++ [x]) (mid ++ [prev]).tail x (k2+1)
  have htl: ((mid ++ [prev]).tail).length=mid.length:=by simp
  rw[show D ++ (mid ++ [prev])++ x:: post=D ++ mid ++ prev:: x:: post by simp]at ih1
  rw[Qc F.f172l0.eq_1]
  generalize Qw (D ++ mid ++ prev:: x:: post)=c at *
  generalize hkm:k2 - 1=km at *
  generalize n - k0=nk at *
  by_cases he:Qm x prev=0
  ·have e:Y2 prev (x:: post)=Y2 x post:=by simp[Y2,he]
   rw[e]
   simp[h0,h1,h5,h6,h7,hlt,hlt1,hlt2,hlt2',hnn,hw1,hw2,hb1,hb2,hB,hlen,hst,r1,r2,hc,he,hcast]
   refine ih1 _ (by simp at hl ⊢;omega) (by simp;omega) (by omega) (fun y hy=>hm y (by simp at hy ⊢;rcases hy with h | h <;> simp[h])) ?_ ?_ ?_ ?_ ?_ <;> simp[h0,h1,h5,h6]
  ·have e:D ++ Y2 prev (x:: post)=D ++ x:: Y2 x post:=by simp[Y2,he]
   rw[e]
   simp only[List.append_assoc,List.cons_append,List.nil_append]at ih2
   simp[h0,h1,h5,h6,h7,hlt,hlt1,hlt2,hlt2',hlt3,hlt3',hnn,hw1,hw2,hw3,hb1,hb2,hb3,hB,hlen,hst,r1,r2,hc,he,hcast,hput]
   refine ih2 _ (by simp at hl ⊢;omega) (by simp;omega) (by omega) (fun y hy=>hm y (by simp at hy ⊢;rcases hy with h | h <;> simp[h])) ?_ ?_ ?_ ?_ ?_ <;> simp[h0,h1,h5,h6]
theorem QeL (B:List (List AV)) (id n:Nat) (hB:id < B.length) (hn:n < 100000000): ∀(post pre:List Tm) (prev:Tm) (ρ:Nat→AV),pre.length+1+post.length=n→
   (∀x∈prev:: post,x.mass < big)→ρ 0= .gs id 0 4 n→ρ 1= .fn 171 []→ρ 5= .int .i64 (pre.length+1:Nat)→
  Ie (pre ++ prev:: Y2 prev post) B id (R F.tb (.loop F.f172l1) ρ (B.set id (Qw (pre ++ prev:: post)))
   (Qk 0 (Qv F.tb F.f172r2 (Qx F.f172 B)))):=by
 intro post
 induction post with
 | nil=>
  intro pre prev ρ hl hm h0 h1 h5
  have hl':pre.length+1=n:=by simpa using hl
  have hnl: ¬((pre.length:Int)+1 < (n:Int)):=by omega
  rw[Qc F.f172l1.eq_1]
  refine⟨[],?_⟩
  simp[h0,h1,h5,hnl,Y2,F.f172r2,F.f172R,F.f172K,hl']
 | cons x post IH=>
  intro pre prev ρ hl hm h0 h1 h5
  have hl':pre.length+1+ (post.length+1)=n:=by simpa using hl
  have hlen: (Qw (pre ++ prev:: x:: post)).length=n*4:=by rw[Z2 QO];simp;omega
  have hst: (Qw (pre ++ prev:: x:: post)).map AV.strip=Qw (pre ++ prev:: x:: post):=Z5 Zs _
  have r1: ((Qw (pre ++ prev:: x:: post)).drop ((pre.length+1)*4)).take 4=Qa x:=by
   have:=VB (f:=Qa) (k:=4) QO (l:=pre ++ prev:: x:: post) (pre:=pre ++ [prev]) (post:=post) (x:=x) (by simp) []
   simpa using this
  have r2: ((Qw (pre ++ prev:: x:: post)).drop (pre.length*4)).take 4=Qa prev:=by
   have:=VB (f:=Qa) (k:=4) QO (l:=pre ++ prev:: x:: post) (pre:=pre) (post:=x:: post) (x:=prev) (by simp) []
   simpa using this
  have hw1:IntKind.i64.wrap (pre.length:Int)=(pre.length:Int):=Ql (by omega) (by omega)
  have hw2:IntKind.i64.wrap ((pre.length:Int)+1+1)=(pre.length:Int)+1+1:=Ql (by omega) (by omega)
  have hlt: (pre.length:Int)+1 < (n:Int):=by omega
  have hlt2: (pre.length:Int) < (n:Int):=by omega
  have hb1: (pre.length+1)*4+4≤n*4:=by omega
  have hb2:pre.length*4+4≤n*4:=by omega
  have hnn: (0:Int)≤(pre.length:Int)+1:=by omega
  have hle: (pre.length:Int)+1≤(n:Int):=by omega
  have hcast: ((pre.length:Int)+1).toNat=pre.length+1:=by omega
  have hc:=fun bs=>Ln x prev bs (hm x (by simp)) (hm prev (by simp))
  have ih1:=IH (pre ++ [prev]) x
  have ih2:=QeK B id n (pre.length+1) hB hn post (pre ++ [prev]) [] x 1
  simp only[List.append_assoc,List.cons_append,List.nil_append]at ih1 ih2
  rw[Qc F.f172l1.eq_1]
  generalize Qw (pre ++ prev:: x:: post)=c at *
  by_cases he:Qm x prev=0
  ·have e:Y2 prev (x:: post)=Y2 x post:=by simp[Y2,he]
   rw[e]
   simp[h0,h1,h5,hlt,hlt2,hnn,hle,hw1,hw2,hb1,hb2,hB,hlen,hst,r1,r2,hc,he,hcast]
   refine ih2 _ (by simp;omega) (by simp) (by omega) (fun y hy=>hm y (by simp at hy ⊢;rcases hy with h | h <;> simp[h])) ?_ ?_ ?_ ?_ ?_ <;> simp[h0,h1,h5]
  ·have e:pre ++ prev:: Y2 prev (x:: post)=pre ++ prev:: x:: Y2 x post:=by simp[Y2,he]
   rw[e]
   simp[h0,h1,h5,hlt,hlt2,hnn,hle,hw1,hw2,hb1,hb2,hB,hlen,hst,r1,r2,hc,he,hcast,F.f172r1]
   refine ih1 _ (by simp;omega) (fun y hy=>hm y (by simp at hy ⊢;rcases hy with h | h <;> simp[h])) ?_ ?_ ?_ <;> simp[h0,h1,h5]
theorem H9 (L:List Tm) (B:List (List AV)) (id:Nat) (hid:B[id]? =some (Qw L)) (hn:L.length < 100000000) (hm: ∀x∈L,x.mass < big):
  Ie (X3 L) B id (call F.tb 172 [.gs id 0 4 L.length,.fn 171 []] B):=by
 have hB:id < B.length:=by
  rcases Nat.lt_or_ge id B.length with h | h
  ·exact h
  ·rw[List.getElem?_eq_none h]at hid;cases hid
 have hset:B.set id (Qw L)=B:=by
  apply List.ext_getElem?
  intro i
  rw[List.getElem?_set]
  split
  ·rename_i h;subst h;rw[hid]
  ·rfl
 match L with
 | []=>
  refine⟨[],?_⟩
  rw[Qb F.tb_172 _ _ rfl]
  simp[F.f172B,F.f172C,F.f172R,F.f172K,X3]
  simpa using hset.symm
 | [x]=>
  refine⟨[],?_⟩
  rw[Qb F.tb_172 _ _ rfl]
  simp[F.f172B,F.f172C,F.f172R,F.f172K,X3]
  simpa using hset.symm
 | x:: y:: r=>
  have h:=QeL B id (r.length+2) hB (by simpa using hn) (y:: r) [] x
  rw[Qb F.tb_172 _ _ rfl,Od]
  simp only[List.nil_append,hset]at h
  have hge: ¬((r.length:Int)+1+1 < 2):=by omega
  simp[F.f172B,F.f172C,hge]
  refine h _ (by simp;omega) (fun z hz=>hm z hz) ?_ ?_ ?_ <;> simp
end Go.Am
namespace Go.Am
set_option maxRecDepth 8000
theorem Qea {α:Type} {B:List α} {i:Nat} {x:α} (h:B[i]? =some x):B.set i x=B:=by
 apply List.ext_getElem?
 intro j
 rw[List.getElem?_set]
 split
 ·rename_i e
  subst e
  split
  ·exact h.symm
  ·rename_i hl;rw[List.getElem?_eq_none (by omega)]
 ·rfl
theorem Ug {α:Type} {B:List α} {i:Nat} {x:α} (h:B[i]? =some x):i < B.length:=by
 rcases Nat.lt_or_ge i B.length with h1 | h1
 ·exact h1
 ·rw[List.getElem?_eq_none h1]at h;cases h
theorem Oh (l:List Tm): (encTs l).flatten=Qw l:=by rw[X7];rfl
theorem Jg (L:List Tm) (B:List (List AV)) (g:Nat) (hg:B[g]? =some (Qw L)) (hn:L.length < 100000000) (hm: ∀x∈L,x.mass < big):
  call F.tb 170 [.gs g 0 4 L.length,.fn 30 []] B=some (.tup [],B.set g (Qw (Z0 L))):=by
 rw[XH F.tb_170]
 have hlen: (Qw L).length=L.length*4:=Z2 QO L
 have hch:ZU (Qw L) 0 4 L.length=encTs L:=by
  have:=Xx (f:=Qa) (k:=4) QO Zs L []
  rw[List.append_nil,UF]at this
  exact this
 have hall:L.all (fun t=>decide (t.mass < big))=true:=by
  rw[List.all_eq_true];intro x hx;simpa using hm x hx
 simp only[OA]
 by_cases h0:L.length=0
 ·have:L=[]:=List.eq_nil_of_length_eq_zero h0
  subst this
  simp[Z0]
  exact(Qea hg).symm
 ·have hsl: (Qw (Z0 L)).length=(Qw L).length:=by rw[Z2 QO,Z2 QO,WA]
  have hput:put (Qw L) 0 (encTs (Z0 L)).flatten=Qw (Z0 L):=by
   rw[Oh]
   simp only[put,List.take_zero,List.nil_append,Nat.zero_add]
   rw[hsl,List.drop_length,List.append_nil]
  rw[if_neg h0,if_pos ⟨trivial,by omega⟩,hg]
  simp only[Option.bind_some]
  rw[if_pos (by omega),hch,decE_enc]
  simp only[Option.bind_some]
  rw[if_pos hall,hput]
theorem QdH (C:List Tm) (t:List AV) (B:List (List AV)) (g:Nat) (hB:g < B.length) (hn:C.length < 100000000) (hne:C≠[]) (hm: ∀x∈C,x.mass < big): ∀(post pre:List Tm) (ρ:Nat→AV),C=pre ++ post→ρ 0= .gs g 0 4 C.length→ρ 9= .int .i64 C.length→ρ 10= .int .i64 pre.length→
  R F.tb (.loop F.f169l0) ρ (B.set g (Qw C ++ t)) (Qk 0 (Qv F.tb F.f169r0 (Qx F.f169 B)))=some (.sl true 4 (encTs C),B.set g []):=by
 have hch:ZU (Qw C ++ t) 0 4 C.length=encTs C:=by
  have:=Xx (f:=Qa) (k:=4) QO Zs C t
  rw[UF]at this
  exact this
 have hlen: (Qw C).length=C.length*4:=Z2 QO C
 intro post
 induction post with
 | nil=>
  intro pre ρ hk h0 h9 h10
  simp only[List.append_nil]at hk
  rw[← hk]at h10
  have hz: ¬C.length=0:=fun e=>hne (List.eq_nil_of_length_eq_zero e)
  have hle:C.length*4≤(Qw C ++ t).length:=by rw[List.length_append,hlen];omega
  have hg:gpfreeE (encTs C)=true:=encTs_gp C
  rw[Qc F.f169l0.eq_1]
  generalize Qw C ++ t=c at *
  simp[h0,h9,h10,F.f169r0,Z4,hz,hle,hB,hch,F.f169R,F.f169K,hne,List.take_of_length_le]
 | cons x post IH=>
  intro pre ρ hk h0 h9 h10
  have hl:C.length=pre.length+ (post.length+1):=by rw[hk];simp
  have hst: (Qw C).map AV.strip=Qw C:=Z5 Zs C
  have r1:=VB (f:=Qa) (k:=4) QO hk t
  have r1': (((Qw C ++ t).drop (pre.length*4)).take 4).map AV.strip=Qa x:=by rw[r1];exact Zs x
  have hput:=P2 (f:=Qa) (k:=4) QO x hk t
  rw[← hk]at hput
  have hw1:IntKind.i64.wrap ((pre.length:Int)+1)=(pre.length:Int)+1:=Ql (by omega) (by omega)
  have hlt: (pre.length:Int) < (C.length:Int):=by omega
  have hlt':pre.length < C.length:=by omega
  have hle:pre.length*4+4≤(Qw C ++ t).length:=by rw[List.length_append,hlen];omega
  have hc:=fun bs=>Tc x bs (hm x (by rw[hk];simp))
  rw[Qc F.f169l0.eq_1]
  rw[List.map_take,List.map_drop]at r1'
  have ih:=IH (pre ++ [x])
  change List.take (pre.length*4) (Qw C ++ t)++ (Qa x ++ List.drop (pre.length*4+4) (Qw C ++ t))=Qw C ++ t at hput
  generalize Qw C ++ t=c at *
  simp[h0,h9,h10,hlt,hlt',hw1,hB,hle,r1',hc,hput]
  rw[ih] <;> simp[h0,h9,hk]
theorem Gk (L:List Tm) (B:List (List AV)) (g:Nat) (hg:B[g]? =some (Qw L)) (hne:L≠[]) (hn:L.length < 100000000) (hm: ∀x∈L,x.mass < big):
  call F.tb 169 [.gs g 0 4 L.length] B=some (.sl true 4 (encTs (Xm L)),B.set g []):=by
 have hB:=Ug hg
 have hs:=Jg L B g hg hn hm
 have hS: (B.set g (Qw (Z0 L)))[g]? =some (Qw (Z0 L)):=by simp[hB]
 obtain⟨t,hc⟩:=H9 (Z0 L) (B.set g (Qw (Z0 L))) g hS (by rw[WA];exact hn) (fun x hx=>hm x (Wz.1 hx))
 rw[FN,WA,List.set_set]at hc
 have hCne:Xm L≠[]:=by
  obtain⟨x,hx⟩:=List.exists_mem_of_ne_nil L hne
  intro e
  have:=VP.2 hx
  rw[e]at this;simp at this
 have hl:=QdH (Xm L) t B g hB (by have:=M0 L;omega) hCne (fun x hx=>hm x (VP.1 hx)) (Xm L) []
 rw[Qb F.tb_169 _ _ rfl]
 simp[F.f169B,F.f169C,hs,hc]
 refine hl _ rfl ?_ ?_ ?_ <;> simp
theorem JY (B:List (List AV)):call F.tb 169 [.gs 0 0 0 0] B=some (.sl true 4 [],B):=by
 rw[Qb F.tb_169 _ _ rfl]
 have hs:call F.tb 170 [.gs 0 0 0 0,.fn 30 []] B=some (.tup [],B):=by rw[XH F.tb_170];simp[OA]
 have hc:call F.tb 172 [.gs 0 0 0 0,.fn 171 []] B=some (.gs 0 0 0 0,B):=by
  rw[Qb F.tb_172 _ _ rfl]
  simp[F.f172B,F.f172C,F.f172R,F.f172K]
 simp[F.f169B,F.f169C,hs,hc]
 rw[Qc F.f169l0.eq_1]
 simp[F.f169r0,Z4,F.f169R,F.f169K]
end Go.Am
