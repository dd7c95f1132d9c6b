/-
  Sc1, Sc2, Sc3, Sc4, Rc43, Rc44, Rc45, Sc5.
-/
import Derived.Test.YtpgbndmkiiakaaaGreatDoorG21
set_option linter.unusedVariables false
set_option linter.unusedSimpArgs false
namespace Go.Am
set_option maxRecDepth 8000
def Vy (n:List UInt8):Bool:=n == XOR || n == Q9 || n == EXP || n == MUL || n == INV || n == ONE
def Yz (n:List UInt8):Bool:= !Vy n && !Z7 n
def evG (p:List UInt8→Bool) (t:Tm):Bool:=(QR t).all fun x=> !decide (x.kind=3) || p x.name
def Ny (p:List UInt8→Bool) (ts:List Tm):Bool:=(allL ts).all fun x=> !decide (x.kind=3) || p x.name
theorem QhY (p:List UInt8→Bool) (k:Int) (n:List UInt8) (s:Int) (ks:List Tm):evG p (.mk k n s ks)=((!decide (k=3) || p n) && Ny p ks):=by
 simp only[evG,Ny,QR,List.all_cons]
 rfl
theorem AE (p:List UInt8→Bool) (t:Tm) (ts:List Tm):Ny p (t:: ts)=(evG p t && Ny p ts):=by simp[evG,Ny,allL,List.all_append]
theorem GK (g:Nat) (p:List UInt8→Bool) (t:Tm) (bs:List (List AV)) (hm:t.mass < big) (ih: ∀x∈t.kids,∀bs,call F.tb 207 [.agg (Qb x),.fn g []] bs=some (.bool (evG p x),bs)):
  ∀(post pre:List Tm) (ρ:Nat→AV),t.kids=pre ++ post→ρ 1= .fn g []→ρ 18= .sl false 4 (encTs t.kids)→ρ 19= .int .i64 t.kids.length→ρ 20= .int .i64 pre.length→
  R F.tb (.loop F.f207l0) ρ bs (Qk 0 (Qw F.tb F.f207r0 (QB F.f207 bs)))=some (.bool (Ny p post),bs):=by
 have hm2:=Qq t
 unfold big at hm
 intro post
 induction post with
 | nil=>
  intro pre ρ hk h1 h18 h19 h20
  simp only[List.append_nil]at hk
  rw[← hk]at h20
  have e:Ny p []=true:=rfl
  rw[Qc F.f207l0.eq_1,e]
  simp[h1,h18,h19,h20,F.f207r0,F.f207R,F.f207K]
 | cons x post IH=>
  intro pre ρ hk h1 h18 h19 h20
  have hg:=Qp hk
  have hll:t.kids.length=pre.length+ (post.length+1):=by rw[hk];simp
  have hw1:IntKind.i64.wrap ((pre.length:Int)+1)=(pre.length:Int)+1:=Qj (by omega) (by omega)
  have hlt: (pre.length:Int) < (t.kids.length:Int):=by omega
  have hc:=ih x (by rw[hk];simp) bs
  rw[Qc F.f207l0.eq_1,AE]
  cases hb:evG p x
  ·simp[h1,h18,h19,h20,hg,hlt,hc,hb,F.f207R,F.f207K]
  ·have h2:=fun ρ=>IH (pre ++ [x]) ρ (by rw[hk];simp)
   simp[h1,h18,h19,h20,hg,hlt,hw1,hc,hb]
   apply h2 <;> simp[h1,h18,h19]
theorem Qbf (g:Nat) (p:List UInt8→Bool) (hp: ∀n bs,call F.tb g [.str n] bs=some (.bool (p n),bs)): ∀(t:Tm) (bs:List (List AV)),t.mass < big→call F.tb 207 [.agg (Qb t),.fn g []] bs=some (.bool (evG p t),bs):=by
 refine Zd ?_
 intro k n s ks ih bs hm
 have hl:=fun ρ=>GK g p (.mk k n s ks) bs hm (fun x hx bs=>ih x hx bs (by have h1:x.mass≤massL ks:=QA hx;have:=Qq (.mk k n s ks);simp only[QO]at this;omega)) ks [] ρ rfl
 have h2:=hp n bs
 simp only[QO]at hl
 rw[Qa F.tb_207 _ _ rfl,QhY]
 by_cases hk:k=3
 ·cases hd:p n
  ·simp[F.f207B,F.f207C,hk,hd,h2,F.f207R,F.f207K]
  ·simp[F.f207B,F.f207C,hk,hd,h2]
   apply hl <;> simp
 ·simp[F.f207B,F.f207C,hk]
  apply hl <;> simp
theorem QeL (n:List UInt8) (bs:List (List AV)):call F.tb 405 [.str n] bs=some (.bool (Yz n),bs):=by
 have h1:=Yj n bs
 have hk:=OV n
 have h2: ∃v0 v1 v2,(match Zc n Z2 with | some s=>Xk s | none=>[AV.str [],.int .i64 0,.int .i64 0,.int .i64 0])=[v0,v1,v2,.int .i64 (XS n)]∧v0.strip=v0∧v1.strip=v1∧v2.strip=v2:=by
  unfold XS
  cases Zc n Z2 with
  | none=>exact⟨_,_,_,rfl,rfl,rfl,rfl⟩
  | some y=>exact⟨_,_,_,rfl,rfl,rfl,rfl⟩
 obtain⟨v0,v1,v2,h2,s0,s1,s2⟩:=h2
 have h1:=h1.trans (congrArg (fun z=>some (AV.agg z,bs)) h2)
 have key: ∀ρ:Nat→AV,Vy n=false→Yz n= !decide (XS n=3):=fun _ h=>by simp[Yz,h,hk]
 rw[Qa F.tb_405 _ _ rfl]
 by_cases c1:n=XOR
 ·simp[F.f405B,F.f405C,F.f405R,F.f405K,Yz,Vy,XOR,c1]
 by_cases c2:n=Q9
 ·simp[F.f405B,F.f405C,F.f405R,F.f405K,Yz,Vy,Q9,c2]
 by_cases c3:n=EXP
 ·simp[F.f405B,F.f405C,F.f405R,F.f405K,Yz,Vy,EXP,c3]
 by_cases c4:n=MUL
 ·simp[F.f405B,F.f405C,F.f405R,F.f405K,Yz,Vy,MUL,c4]
 by_cases c5:n=INV
 ·simp[F.f405B,F.f405C,F.f405R,F.f405K,Yz,Vy,INV,c5]
 by_cases c6:n=ONE
 ·simp[F.f405B,F.f405C,F.f405R,F.f405K,Yz,Vy,ONE,c6]
 have ha:Vy n=false:=by simp[Vy,c1,c2,c3,c4,c5,c6]
 rw[key (fun _=> .undef) ha]
 simp only[XOR,Q9,EXP,MUL,INV,ONE]at c1 c2 c3 c4 c5 c6
 have f1:=beq_eq_false_iff_ne.2 c1
 have f2:=beq_eq_false_iff_ne.2 c2
 have f3:=beq_eq_false_iff_ne.2 c3
 have f4:=beq_eq_false_iff_ne.2 c4
 have f5:=beq_eq_false_iff_ne.2 c5
 have f6:=beq_eq_false_iff_ne.2 c6
 simp[F.f405B,F.f405C,F.f405R,F.f405K,c1,c2,c3,c4,c5,c6,f1,f2,f3,f4,f5,f6,h1,s0,s1,s2]
def Yy (t:Tm):Bool:=decide (thV t=0) && evG Yz t
theorem QeK (t:Tm) (bs:List (List AV)) (hm:t.mass < big):call F.tb 404 [.agg (Qb t)] bs=some (.bool (Yy t),bs):=by
 have h1:=VC t bs hm
 have h2:=Qbf 405 Yz QeL t bs hm
 rw[Qa F.tb_404 _ _ rfl]
 by_cases c:thV t=0
 ·simp[F.f404B,F.f404C,F.f404R,F.f404K,h1,h2,c,Yy]
 ·simp[F.f404B,F.f404C,F.f404R,F.f404K,h1,c,Yy]
theorem F1 (t:Tm) (bs:List (List AV)) (hm:t.mass < big):call F.tb 403 [.agg (Qb t)] bs=some (.bool (!Yy t),bs):=by
 have h1:=QeK t bs hm
 rw[Qa F.tb_403 _ _ rfl]
 simp[F.f403B,F.f403C,F.f403R,F.f403K,h1]
def Pt (f:Fr):Int:=if Zu f≠0 then Zu f else if f.t.any (fun t=> !Yy t)then 10 else 0
theorem QeN (f:Fr) (hf:FOk f) (bs:List (List AV)):call F.tb 412 [.agg (Qz f)] bs=some (.int .i64 (Pt f),bs):=by
 have h1:=OK f bs hf
 have h2:=fun o=>Np f.t 403 [] (fun t=> !Yy t) o bs hf.tl (by simp) (fun x hx=>F1 x bs (by have:=hf.t x hx;unfold big;omega))
 have hte:Qz f=[.sl false 4 (encTs f.s),.sl false 4 (encTs f.t)]:=rfl
 rw[hte]at h1 ⊢
 rw[Qa F.tb_412 _ _ rfl]
 unfold Pt
 generalize f.t.any (fun t=> !Yy t)=B at *
 by_cases c:Zu f=0
 ·cases B
  ·simp[F.f412B,F.f412C,F.f412R,F.f412K,h1,h2,c]
  ·simp[F.f412B,F.f412C,F.f412R,F.f412K,h1,h2,c]
 ·simp[F.f412B,F.f412C,F.f412R,F.f412K,h1,c]
end Go.Am
namespace Go.Am
set_option maxRecDepth 8000
theorem LO (n:List UInt8) (bs:List (List AV)):call F.tb 442 [.str n] bs=some (.bool (Vy n),bs):=by
 rw[Qa F.tb_442 _ _ rfl]
 have e: ∀m:List UInt8,(n == m)=decide (n=m):=fun m=>by by_cases h:n=m <;> simp[h]
 have ea:Vy n=(decide (n=[120,111,114]) || decide (n=[122,101,114,111]) || decide (n=[101,120,112]) || decide (n=[109,117,108]) || decide (n=[105,110,118]) || decide (n=[111,110,101])):=by
  simp only[Vy,XOR,Q9,EXP,MUL,INV,ONE,e]
 rw[ea]
 by_cases c1:n=[120,111,114]
 ·simp[F.f442B,F.f442C,F.f442R,F.f442K,c1]
 by_cases c2:n=[122,101,114,111]
 ·simp[F.f442B,F.f442C,F.f442R,F.f442K,c2]
 by_cases c3:n=[101,120,112]
 ·simp[F.f442B,F.f442C,F.f442R,F.f442K,c3]
 by_cases c4:n=[109,117,108]
 ·simp[F.f442B,F.f442C,F.f442R,F.f442K,c4]
 by_cases c5:n=[105,110,118]
 ·simp[F.f442B,F.f442C,F.f442R,F.f442K,c5]
 by_cases c6:n=[111,110,101]
 ·simp[F.f442B,F.f442C,F.f442R,F.f442K,c6]
 have f1:=beq_eq_false_iff_ne.2 c1
 have f2:=beq_eq_false_iff_ne.2 c2
 have f3:=beq_eq_false_iff_ne.2 c3
 have f4:=beq_eq_false_iff_ne.2 c4
 have f5:=beq_eq_false_iff_ne.2 c5
 have f6:=beq_eq_false_iff_ne.2 c6
 simp[F.f442B,F.f442C,F.f442R,F.f442K,c1,c2,c3,c4,c5,c6,f1,f2,f3,f4,f5,f6]
theorem Dx (l:List Tm) (bs:List (List AV)) (hl:l.length < 1000000000):
  ∀(post pre:List Tm) (ρ:Nat→AV),l=pre ++ post→ρ 3= .sl false 4 (encTs l)→ρ 4= .int .i64 pre.length→
  R F.tb (.loop F.f441l0) ρ bs (Qk 0 (Qw F.tb F.f441r0 (QB F.f441 bs)))=some (.bool (post.all fun x=> !decide (x.kind=3) || Yz x.name),bs):=by
 intro post
 induction post with
 | nil=>
  intro pre ρ hk h3 h4
  simp only[List.append_nil]at hk
  rw[← hk]at h4
  rw[Qc F.f441l0.eq_1]
  simp[h3,h4,F.f441r0,F.f441R,F.f441K]
 | cons x post IH=>
  intro pre ρ hk h3 h4
  have hg:=Qp hk
  have hll:l.length=pre.length+ (post.length+1):=by rw[hk];simp
  have hw1:IntKind.i64.wrap ((pre.length:Int)+1)=(pre.length:Int)+1:=Qj (by omega) (by omega)
  have hlt: (pre.length:Int) < (l.length:Int):=by omega
  have h2:=fun ρ=>IH (pre ++ [x]) ρ (by rw[hk];simp)
  have hk3:=OV x.name
  have ea: ((x:: post).all fun x=> !decide (x.kind=3) || Yz x.name)=((!decide (x.kind=3) || Yz x.name) && post.all fun x=> !decide (x.kind=3) || Yz x.name):=rfl
  rw[Qc F.f441l0.eq_1,ea]
  generalize (post.all fun x=> !decide (x.kind=3) || Yz x.name)=V at *
  by_cases c1:x.kind=3
  ·cases c2:Vy x.name
   ·by_cases c3:XS x.name=3
    ·have c4:Yz x.name=false:=by simp[Yz,c2,← hk3,c3]
     simp[h3,h4,hg,hlt,QF,c1,c2,c3,c4,LO,Tc,F.f441R,F.f441K]
    ·have c4:Yz x.name=true:=by simp[Yz,c2,← hk3,c3]
     simp[h3,h4,hg,hlt,hw1,QF,c1,c2,c3,c4,LO,Tc,F.f441R,F.f441K]
     apply h2 <;> simp[h3]
   ·have c4:Yz x.name=false:=by simp[Yz,c2]
    simp[h3,h4,hg,hlt,QF,c1,c2,c4,LO,F.f441R,F.f441K]
  ·simp[h3,h4,hg,hlt,hw1,QF,c1]
   apply h2 <;> simp[h3]
theorem QeQ (t:Tm) (bs:List (List AV)) (hm:t.mass < 100000000):call F.tb 441 [.agg (Qb t)] bs=some (.bool (Yy t),bs):=by
 have h1:=VB t bs (by unfold big;omega)
 have h2:=VU t bs hm
 have hn:=Ze t
 have hl:=fun ρ=>Dx (QR t) bs (by rw[Xh];omega) (QR t) [] ρ rfl
 rw[Qa F.tb_441 _ _ rfl]
 unfold Yy evG
 by_cases c:thV t=0
 ·simp[F.f441B,F.f441C,h1,h2,c]
  apply hl <;> simp
 ·simp[F.f441B,F.f441C,F.f441R,F.f441K,h1,c]
theorem GM (f:Fr) (bs:List (List AV)) (hf:FOk f):
  ∀(post pre:List Tm) (ρ:Nat→AV),f.t=pre ++ post→ρ 1= .bx (Qz f)→ρ 4= .int .i64 pre.length→
  R F.tb (.loop F.f440l0) ρ bs (Qk 0 (Qw F.tb F.f440r0 (QB F.f440 bs)))=some (.int .i64 (if post.any (fun t=> !Yy t)then 10 else 0),bs):=by
 have htl:=hf.tl
 have hte:Qz f=[.sl false 4 (encTs f.s),.sl false 4 (encTs f.t)]:=rfl
 intro post
 induction post with
 | nil=>
  intro pre ρ hk h1 h4
  simp only[List.append_nil]at hk
  rw[← hk]at h4
  rw[Qc F.f440l0.eq_1]
  simp[h1,h4,hte,F.f440r0,F.f440R,F.f440K]
 | cons x post IH=>
  intro pre ρ hk h1 h4
  have hg:=Qp hk
  have hll:f.t.length=pre.length+ (post.length+1):=by rw[hk];simp
  have hw1:IntKind.i64.wrap ((pre.length:Int)+1)=(pre.length:Int)+1:=Qj (by omega) (by omega)
  have hlt: (pre.length:Int) < (f.t.length:Int):=by omega
  have hx:x.mass < 1000000:=hf.t x (by rw[hk];simp)
  have h2:=fun ρ=>IH (pre ++ [x]) ρ (by rw[hk];simp)
  have h3:=QeQ x bs (by omega)
  rw[Qc F.f440l0.eq_1]
  cases c:Yy x
  ·rw[c]at h3
   simp[h1,h4,hte,hg,hlt,h3,c,F.f440R,F.f440K]
  ·rw[c]at h3
   simp[h1,h4,hte,hg,hlt,hw1,h3,c]
   simp only[Bool.not_eq_true',List.any_eq_true]at h2
   apply h2 <;> simp[h1,hte]
theorem LN (f:Fr) (hf:FOk f) (bs:List (List AV)):call F.tb 440 [.agg (Qz f)] bs=some (.int .i64 (Pt f),bs):=by
 have h1:=OM f bs hf
 have hl:=fun ρ=>GM f bs hf f.t [] ρ rfl
 have hte:Qz f=[.sl false 4 (encTs f.s),.sl false 4 (encTs f.t)]:=rfl
 rw[Qa F.tb_440 _ _ rfl]
 unfold Pt
 generalize (if f.t.any (fun t=> !Yy t)then(10:Int)else 0)=V at *
 rw[hte]at h1 hl ⊢
 by_cases c:Zu f=0
 ·simp[F.f440B,F.f440C,h1,c]
  apply hl <;> simp
 ·simp[F.f440B,F.f440C,F.f440R,F.f440K,h1,c]
def Hy (f:Fr):Bool:=few f.s 45 120 && (few f.t 6 40 || (decide (40 < f.t.length) && few f.t 45 45))
theorem QeR (f:Fr) (bs:List (List AV)):call F.tb 444 [.agg (Qz f)] bs=some (.bool (Hy f),bs):=by
 have h1: ∀o,call F.tb 101 [.sl o 4 (encTs f.s),.int .i64 45,.int .i64 120] bs=some (.bool (few f.s 45 120),bs):=fun o=>Tl f.s o 45 120 bs (by omega) (by omega) (by omega)
 have h2: ∀o,call F.tb 101 [.sl o 4 (encTs f.t),.int .i64 6,.int .i64 40] bs=some (.bool (few f.t 6 40),bs):=fun o=>Tl f.t o 6 40 bs (by omega) (by omega) (by omega)
 have h3: ∀o,call F.tb 101 [.sl o 4 (encTs f.t),.int .i64 45,.int .i64 45] bs=some (.bool (few f.t 45 45),bs):=fun o=>Tl f.t o 45 45 bs (by omega) (by omega) (by omega)
 have hte:Qz f=[.sl false 4 (encTs f.s),.sl false 4 (encTs f.t)]:=rfl
 have e: ((40:Int) < (f.t.length:Int))↔40 < f.t.length:=by omega
 rw[Qa F.tb_444 _ _ rfl,hte]
 unfold Hy
 cases c1:few f.s 45 120
 ·rw[c1]at h1
  simp[F.f444B,F.f444C,F.f444R,F.f444K,h1]
 ·rw[c1]at h1
  cases c2:few f.t 6 40
  ·rw[c2]at h2
   by_cases c3:40 < f.t.length
   ·have c3':=e.2 c3
    cases c4:few f.t 45 45
    ·rw[c4]at h3
     simp[F.f444B,F.f444C,F.f444R,F.f444K,h1,h2,h3,c3,c3']
    ·rw[c4]at h3
     simp[F.f444B,F.f444C,F.f444R,F.f444K,h1,h2,h3,c3,c3']
   ·have c3': ¬(40:Int) < (f.t.length:Int):=fun h=>c3 (e.1 h)
    simp[F.f444B,F.f444C,F.f444R,F.f444K,h1,h2,c3,c3']
  ·rw[c2]at h2
   simp[F.f444B,F.f444C,F.f444R,F.f444K,h1,h2]
theorem QbJ {f:Fr} (h:Hy f=true):FOk f∧massL f.t < 1000000:=by
 simp only[Hy,Bool.and_eq_true,Bool.or_eq_true]at h
 obtain⟨a1,a2,_⟩:=Tq (by omega) h.1
 have:massL f.t < 1000000∧f.t.length≤45:=by
  rcases h.2 with h | h
  ·obtain⟨b1,b2,_⟩:=Tq (by omega) h
   omega
  ·obtain⟨b1,b2,_⟩:=Tq (by omega) h.2
   omega
 exact⟨⟨fun x hx=>by have:=QA hx;omega,fun x hx=>by have:=QA hx;omega,by omega,by omega⟩,this.1⟩
end Go.Am
namespace Go.Am
set_option maxRecDepth 8000
structure Tst where
 l:Tm
 r:Tm
 f:Bool
def WZ (q:Tst):List AV:=Qb q.l ++ Qb q.r ++ [.bool q.f]
theorem Yt (q:Tst):WZ q=[.int .i64 q.l.kind,.str q.l.name,.int .i64 q.l.sort,.sl false 4 (encTs q.l.kids),.int .i64 q.r.kind,.str q.r.name,.int .i64 q.r.sort,.sl false 4 (encTs q.r.kids),.bool q.f]:=by
 simp[WZ,QF]
def Ve (f:Fr) (l r:Tm) (q:Bool):Bool×Int:=
 if Pt f≠0 then(false,Pt f)else if(Zb f l).2≠0∧(Zb f l).2≠11 then(false,(Zb f l).2)else
 if q then(decide ((Zb f l).2=11),0)else if(Zb f r).2≠0∧(Zb f r).2≠11 then(false,(Zb f r).2)else
 (decide ((Zb f l).2=0) && decide ((Zb f r).2=0) && decide (Qm (Zb f l).1 (Zb f r).1=0),0)
theorem QeM (t u:Tm) (bs:List (List AV)) (hm:t.mass < big) (hu:u.mass < big):call F.tb 410 [.agg (Qb t),.agg (Qb u)] bs=some (.bool (decide (Qm t u=0)),bs):=by
 have h1:=call_Compare t u bs hm hu
 have e1:=QF t
 have e2:=QF u
 rw[Qa F.tb_410 _ _ rfl]
 simp only[e1,e2]at h1 ⊢
 simp[F.f410B,F.f410C,F.f410R,F.f410K,h1]
theorem LM (f:Fr) (hf:FOk f) (hM:massL f.t < 1000000) (q:Tst) (hl:q.l.mass < 1000000) (hr:q.r.mass < 1000000) (bs:List (List AV)):
  call F.tb 432 [.agg (Qz f),.agg (WZ q)] bs=some (.tup [.bool (Ve f q.l q.r q.f).1,.int .i64 (Ve f q.l q.r q.f).2],bs):=by
 have h0:=QeN f hf bs
 have h1:=FT f hf hM q.l hl bs
 have h2:=FT f hf hM q.r hr bs
 have v1:=T1 f q.l
 have v2:=T1 f q.r
 have h3:=QeM (Zb f q.l).1 (Zb f q.r).1 bs (by unfold big;omega) (by unfold big;omega)
 have e1:=QF q.l
 have e2:=QF q.r
 have e3:=QF (Zb f q.l).1
 have e4:=QF (Zb f q.r).1
 simp only[QN]at h1 h2
 rw[Yt]
 simp only[e1]at h1
 simp only[e2]at h2
 simp only[e3]at h1 h3
 simp only[e4]at h2 h3
 rw[Qa F.tb_432 _ _ rfl]
 unfold Ve
 by_cases c0: ¬Pt f=0
 ·simp[F.f432B,F.f432C,F.f432R,F.f432K,Qt,Qn,Qv,h0,c0]
 have c0:=Decidable.not_not.1 c0
 have d1: (Zb f q.l).2=0∨(Zb f q.l).2=11∨((Zb f q.l).2≠0∧(Zb f q.l).2≠11):=by omega
 have d2: (Zb f q.r).2=0∨(Zb f q.r).2=11∨((Zb f q.r).2≠0∧(Zb f q.r).2≠11):=by omega
 rcases d1 with c1 | c1 | ⟨c1,c1'⟩
 ·cases c2:q.f
  ·rcases d2 with c3 | c3 | ⟨c3,c3'⟩
   ·simp[F.f432B,F.f432C,F.f432R,F.f432K,Qt,Qn,Qv,h0,h1,h2,h3,c0,c1,c2,c3]
   ·simp[F.f432B,F.f432C,F.f432R,F.f432K,Qt,Qn,Qv,h0,h1,h2,h3,c0,c1,c2,c3]
   ·simp[F.f432B,F.f432C,F.f432R,F.f432K,Qt,Qn,Qv,h0,h1,h2,h3,c0,c1,c2,c3,c3']
  ·simp[F.f432B,F.f432C,F.f432R,F.f432K,Qt,Qn,Qv,h0,h1,c0,c1,c2]
 ·cases c2:q.f
  ·rcases d2 with c3 | c3 | ⟨c3,c3'⟩
   ·simp[F.f432B,F.f432C,F.f432R,F.f432K,Qt,Qn,Qv,h0,h1,h2,h3,c0,c1,c2,c3]
   ·simp[F.f432B,F.f432C,F.f432R,F.f432K,Qt,Qn,Qv,h0,h1,h2,h3,c0,c1,c2,c3]
   ·simp[F.f432B,F.f432C,F.f432R,F.f432K,Qt,Qn,Qv,h0,h1,h2,h3,c0,c1,c2,c3,c3']
  ·simp[F.f432B,F.f432C,F.f432R,F.f432K,Qt,Qn,Qv,h0,h1,c0,c1,c2]
 ·simp[F.f432B,F.f432C,F.f432R,F.f432K,Qt,Qn,Qv,h0,h1,c0,c1,c1']
theorem LP (f:Fr) (hf:FOk f) (hM:massL f.t < 1000000) (q:Tst) (hl:q.l.mass < 1000000) (hr:q.r.mass < 1000000) (bs:List (List AV)):
  call F.tb 443 [.agg (Qz f),.agg (WZ q)] bs=some (.tup [.bool (Ve f q.l q.r q.f).1,.int .i64 (Ve f q.l q.r q.f).2],bs):=by
 have h0:=LN f hf bs
 have h1:=FX f hf hM q.l hl bs
 have h2:=FX f hf hM q.r hr bs
 have v1:=T1 f q.l
 have v2:=T1 f q.r
 have h3:=Y2 (Zb f q.l).1 (Zb f q.r).1 bs (by unfold big;omega) (by unfold big;omega)
 have e1:=QF q.l
 have e2:=QF q.r
 have e3:=QF (Zb f q.l).1
 have e4:=QF (Zb f q.r).1
 simp only[QN]at h1 h2
 rw[Yt]
 simp only[e1]at h1
 simp only[e2]at h2
 simp only[e3]at h1 h3
 simp only[e4]at h2 h3
 rw[Qa F.tb_443 _ _ rfl]
 unfold Ve
 by_cases c0: ¬Pt f=0
 ·simp[F.f443B,F.f443C,F.f443R,F.f443K,Qt,Qn,Qv,h0,c0]
 have c0:=Decidable.not_not.1 c0
 have d1: (Zb f q.l).2=0∨(Zb f q.l).2=11∨((Zb f q.l).2≠0∧(Zb f q.l).2≠11):=by omega
 have d2: (Zb f q.r).2=0∨(Zb f q.r).2=11∨((Zb f q.r).2≠0∧(Zb f q.r).2≠11):=by omega
 rcases d1 with c1 | c1 | ⟨c1,c1'⟩
 ·cases c2:q.f
  ·rcases d2 with c3 | c3 | ⟨c3,c3'⟩
   ·simp[F.f443B,F.f443C,F.f443R,F.f443K,Qt,Qn,Qv,h0,h1,h2,h3,c0,c1,c2,c3]
   ·simp[F.f443B,F.f443C,F.f443R,F.f443K,Qt,Qn,Qv,h0,h1,h2,h3,c0,c1,c2,c3]
   ·simp[F.f443B,F.f443C,F.f443R,F.f443K,Qt,Qn,Qv,h0,h1,h2,h3,c0,c1,c2,c3,c3']
  ·simp[F.f443B,F.f443C,F.f443R,F.f443K,Qt,Qn,Qv,h0,h1,c0,c1,c2]
 ·cases c2:q.f
  ·rcases d2 with c3 | c3 | ⟨c3,c3'⟩
   ·simp[F.f443B,F.f443C,F.f443R,F.f443K,Qt,Qn,Qv,h0,h1,h2,h3,c0,c1,c2,c3]
   ·simp[F.f443B,F.f443C,F.f443R,F.f443K,Qt,Qn,Qv,h0,h1,h2,h3,c0,c1,c2,c3]
   ·simp[F.f443B,F.f443C,F.f443R,F.f443K,Qt,Qn,Qv,h0,h1,h2,h3,c0,c1,c2,c3,c3']
  ·simp[F.f443B,F.f443C,F.f443R,F.f443K,Qt,Qn,Qv,h0,h1,c0,c1,c2]
 ·simp[F.f443B,F.f443C,F.f443R,F.f443K,Qt,Qn,Qv,h0,h1,c0,c1,c1']
theorem MA (f:Fr) (q:Tst) (h0:call F.tb 398 [] []=some (.bool true,[])):call F.tb 397 [.agg (Qz f),.agg (WZ q)] []=some (.bool true,[]):=by
 have h1:=QeR f []
 have h2: ∀o,call F.tb 101 [.sl o 4 [Qb q.l,Qb q.r],.int .i64 2,.int .i64 80] []=some (.bool (few [q.l,q.r] 2 80),[]):=fun o=>Tl [q.l,q.r] o 2 80 [] (by omega) (by omega) (by omega)
 have e1:=QF q.l
 have e2:=QF q.r
 rw[Qa F.tb_397 _ _ rfl]
 cases hw:Hy f
 ·rw[hw]at h1
  rw[Yt]
  simp[F.f397B,F.f397C,F.f397R,F.f397K,Qt,Qn,Qv,h0,h1]
 ·rw[hw]at h1
  obtain⟨hf,hM⟩:=QbJ hw
  cases hr:few [q.l,q.r] 2 80
  ·rw[hr]at h2
   simp only[e1,e2]at h2
   rw[Yt]
   simp[F.f397B,F.f397C,F.f397R,F.f397K,Qt,Qn,Qv,h0,h1,h2]
  ·rw[hr]at h2
   obtain⟨b1,b2,_⟩:=Tq (by omega) hr
   simp only[massL]at b2
   have h3:=LM f hf hM q (by omega) (by omega) []
   have h4:=LP f hf hM q (by omega) (by omega) []
   generalize Ve f q.l q.r q.f=V at *
   simp only[e1,e2]at h2
   rw[Yt]at h3 h4 ⊢
   simp[F.f397B,F.f397C,F.f397R,F.f397K,Qt,Qn,Qv,h0,h1,h2,h3,h4]
end Go.Am
namespace Go.Am
set_option maxRecDepth 8000
theorem MS {f:Fr} (h:Zu f=0):f.t.length≤40:=by
 by_cases c:40 < f.t.length
 ·simp[Zu,c]at h
 ·omega
def R5 (f g:Fr):Int:=
 if Zu f≠0 then Zu f else if Zu g≠0 then Zu g else if f.t.any (fun t=> !Yy t) || g.t.any (fun t=> !Yy t)then 10 else if f.t.length≠g.t.length then 6 else 0
theorem QeJ (f g:Fr) (hf:FOk f) (hg:FOk g) (bs:List (List AV)):call F.tb 402 [.agg (Qz f),.agg (Qz g)] bs=some (.int .i64 (R5 f g),bs):=by
 have h1:=OK f bs hf
 have h2:=OK g bs hg
 have hfl:=hf.tl
 have hgl:=hg.tl
 have h3:=fun o=>T5 [f.t,g.t] o bs (by simp) (by simp;omega)
 have h4:=fun(hl: (f.t ++ g.t).length < 1000000) o=>Np (f.t ++ g.t) 403 [] (fun t=> !Yy t) o bs hl (by simp) (fun x hx=>F1 x bs (by
  rcases List.mem_append.1 hx with h | h
  ·have:=hf.t x h;unfold big;omega
  ·have:=hg.t x h;unfold big;omega))
 have hte:Qz f=[.sl false 4 (encTs f.s),.sl false 4 (encTs f.t)]:=rfl
 have htg:Qz g=[.sl false 4 (encTs g.s),.sl false 4 (encTs g.t)]:=rfl
 rw[hte]at h1 ⊢
 rw[htg]at h2 ⊢
 simp only[List.flatten_cons,List.flatten_nil,List.append_nil]at h3
 have el: ((f.t.length:Int)=(g.t.length:Int))↔f.t.length=g.t.length:=by omega
 have e0: ((f.t ++ g.t).any fun t=> !Yy t)=(f.t.any (fun t=> !Yy t) || g.t.any (fun t=> !Yy t)):=by simp
 rw[e0]at h4
 simp only[VG,List.map_cons,List.map_nil]at h3
 rw[Qa F.tb_402 _ _ rfl]
 unfold R5
 generalize (f.t.any (fun t=> !Yy t) || g.t.any (fun t=> !Yy t))=B at *
 have w1:IntKind.i64.wrap 1=1:=rfl
 have w2:IntKind.i64.wrap 2=2:=rfl
 simp[F.f402B,F.f402C]
 rw[Qc F.f402l0.eq_1]
 by_cases c1: ¬Zu f=0
 ·simp[h1,c1,w1,w2,F.f402R,F.f402K]
 have c1:=Decidable.not_not.1 c1
 simp[h1,c1,w1,w2]
 rw[Qc F.f402l0.eq_1]
 by_cases c2: ¬Zu g=0
 ·simp[h2,c2,w1,w2,F.f402R,F.f402K]
 have c2:=Decidable.not_not.1 c2
 simp[h2,c2,w1,w2]
 have hl1:=MS c1
 have hl2:=MS c2
 have h4:=h4 (by simp;omega)
 rw[Qc F.f402l0.eq_1]
 cases B
 ·by_cases c3:f.t.length=g.t.length
  ·have c3':=el.2 c3
   simp[h3,h4,c3,c3',w1,w2,F.f402r0,F.f402R,F.f402K]
  ·have c3': ¬(f.t.length:Int)=(g.t.length:Int):=fun h=>c3 (el.1 h)
   simp[h3,h4,c3,c3',w1,w2,F.f402r0,F.f402R,F.f402K]
 ·simp[h3,h4,w1,w2,F.f402r0,F.f402R,F.f402K]
theorem QeP (f g:Fr) (hf:FOk f) (hg:FOk g) (bs:List (List AV)):call F.tb 439 [.agg (Qz f),.agg (Qz g)] bs=some (.int .i64 (R5 f g),bs):=by
 have h1:=OM f bs hf
 have h2:=OM g bs hg
 have h3:=LN f hf bs
 have h4:=LN g hg bs
 have hte:Qz f=[.sl false 4 (encTs f.s),.sl false 4 (encTs f.t)]:=rfl
 have htg:Qz g=[.sl false 4 (encTs g.s),.sl false 4 (encTs g.t)]:=rfl
 have el: ((f.t.length:Int)=(g.t.length:Int))↔f.t.length=g.t.length:=by omega
 rw[hte]at h1 h3 ⊢
 rw[htg]at h2 h4 ⊢
 rw[Qa F.tb_439 _ _ rfl]
 unfold R5
 by_cases c1: ¬Zu f=0
 ·simp[F.f439B,F.f439C,F.f439R,F.f439K,h1,c1]
 have c1:=Decidable.not_not.1 c1
 by_cases c2: ¬Zu g=0
 ·simp[F.f439B,F.f439C,F.f439R,F.f439K,h1,h2,c1,c2]
 have c2:=Decidable.not_not.1 c2
 simp only[Pt,c1,c2,ne_eq,not_true_eq_false,if_false]at h3 h4
 simp only[c1,c2,ne_eq,not_true_eq_false,if_false]
 generalize f.t.any (fun t=> !Yy t)=A at *
 generalize g.t.any (fun t=> !Yy t)=B at *
 cases A
 ·cases B
  ·by_cases c3:f.t.length=g.t.length
   ·have c3':=el.2 c3
    simp[F.f439B,F.f439C,F.f439R,F.f439K,h1,h2,h3,h4,c1,c2,c3,c3']
   ·have c3': ¬(f.t.length:Int)=(g.t.length:Int):=fun h=>c3 (el.1 h)
    simp[F.f439B,F.f439C,F.f439R,F.f439K,h1,h2,h3,h4,c1,c2,c3,c3']
  ·simp[F.f439B,F.f439C,F.f439R,F.f439K,h1,h2,h3,h4,c1,c2]
 ·simp[F.f439B,F.f439C,F.f439R,F.f439K,h1,h2,h3,h4,c1,c2]
def Hp (f g:Fr) (q:Tst):Bool:=
 decide (R5 f g=0) && (decide ((Ve f q.l q.r q.f).2=0) && decide ((Ve g q.l q.r q.f).2=0) && ((Ve f q.l q.r q.f).1 != (Ve g q.l q.r q.f).1))
theorem QeV (f g:Fr) (hf:FOk f) (hg:FOk g) (hM:massL f.t < 1000000) (hN:massL g.t < 1000000) (q:Tst) (hl:q.l.mass < 1000000) (hr:q.r.mass < 1000000) (bs:List (List AV)):
  call F.tb 469 [.agg (Qz f),.agg (Qz g),.agg (WZ q)] bs=some (.bool (Hp f g q),bs):=by
 have h0:=QeJ f g hf hg bs
 have h1:=LM f hf hM q hl hr bs
 have h2:=LM g hg hN q hl hr bs
 rw[Qa F.tb_469 _ _ rfl]
 unfold Hp
 by_cases c0: ¬R5 f g=0
 ·rw[Yt]
  simp[F.f469B,F.f469C,F.f469R,F.f469K,Qt,Qn,Qv,h0,c0]
 have c0:=Decidable.not_not.1 c0
 generalize Ve f q.l q.r q.f=V at *
 generalize Ve g q.l q.r q.f=W at *
 obtain⟨v1,v2⟩:=V
 obtain⟨w1,w2⟩:=W
 rw[Yt]at h1 h2 ⊢
 by_cases c1:v2=0
 ·by_cases c2:w2=0
  ·simp[F.f469B,F.f469C,F.f469R,F.f469K,Qt,Qn,Qv,h0,h1,h2,c0,c1,c2]
   cases v1 <;> cases w1 <;> rfl
  ·simp[F.f469B,F.f469C,F.f469R,F.f469K,Qt,Qn,Qv,h0,h1,h2,c0,c1,c2]
 ·simp[F.f469B,F.f469C,F.f469R,F.f469K,Qt,Qn,Qv,h0,h1,h2,c0,c1]
theorem QeO (f g:Fr) (hf:FOk f) (hg:FOk g) (hM:massL f.t < 1000000) (hN:massL g.t < 1000000) (q:Tst) (hl:q.l.mass < 1000000) (hr:q.r.mass < 1000000) (bs:List (List AV)):
  call F.tb 438 [.agg (Qz f),.agg (Qz g),.agg (WZ q)] bs=some (.bool (Hp f g q),bs):=by
 have h0:=QeP f g hf hg bs
 have h1:=LP f hf hM q hl hr bs
 have h2:=LP g hg hN q hl hr bs
 rw[Qa F.tb_438 _ _ rfl]
 unfold Hp
 by_cases c0: ¬R5 f g=0
 ·rw[Yt]
  simp[F.f438B,F.f438C,F.f438R,F.f438K,Qt,Qn,Qv,h0,c0]
 have c0:=Decidable.not_not.1 c0
 generalize Ve f q.l q.r q.f=V at *
 generalize Ve g q.l q.r q.f=W at *
 obtain⟨v1,v2⟩:=V
 obtain⟨w1,w2⟩:=W
 rw[Yt]at h1 h2 ⊢
 by_cases c1:v2=0
 ·by_cases c2:w2=0
  ·simp[F.f438B,F.f438C,F.f438R,F.f438K,Qt,Qn,Qv,h0,h1,h2,c0,c1,c2]
   cases v1 <;> cases w1 <;> rfl
  ·simp[F.f438B,F.f438C,F.f438R,F.f438K,Qt,Qn,Qv,h0,h1,h2,c0,c1,c2]
 ·simp[F.f438B,F.f438C,F.f438R,F.f438K,Qt,Qn,Qv,h0,h1,h2,c0,c1]
end Go.Am
namespace Go.Am
set_option maxRecDepth 8000
def atA:Tm:= .mk 2 [97] 1 []
def atB:Tm:= .mk 2 [98] 1 []
def Y5:List Tm:=[.mk 2 [110,97] 2 [],.mk 2 [110,98] 2 [],.mk 2 [107] 3 [],.mk 2 [108] 3 [],.mk 2 [103] 4 [],atA,.mk 2 [104,105] 5 [],.mk 2 [100] 0 [],.mk 3 SK 0 [atA],.mk 3 SHK 0 [atA,atB]]
theorem LL (bs:List (List AV)):call F.tb 284 [] bs=some (.sl true 4 (encTs Y5),bs):=by
 have h1:=fun s n=>N8 s n bs
 have h2: ∀o,call F.tb 120 [.str [115,107],.sl o 4 [Qb atA]] bs=some (.agg (Qb (.mk 3 SK 0 [atA])),bs):=fun o=>Vk SK [atA] o bs (by simp)
 have h3: ∀o,call F.tb 120 [.str [115,104,107],.sl o 4 [Qb atA,Qb atB]] bs=some (.agg (Qb (.mk 3 SHK 0 [atA,atB])),bs):=fun o=>Vk SHK [atA,atB] o bs (by simp)
 simp only[atA,atB]at h2 h3
 rw[Qa F.tb_284 _ _ rfl]
 simp[F.f284B,F.f284C,F.f284R,F.f284K,h1,h2,h3,Y5,atA,atB,encTs]
def VF (b:List Nat):List (List AV):=b.map fun n:Nat=>[AV.int .u8 (n:Int)]
theorem Q5 (b:List Nat): (VF b).length=b.length:=by simp[VF]
theorem Hw {b:List Nat} {i n:Nat} (h:b[i]? =some n): (VF b)[i]? =some [AV.int .u8 (n:Int)]:=by simp[VF,h]
def Lz (n:List UInt8):Bool:=n == XOR || n == EXP || n == MUL || n == INV || n == Q9 || n == ONE
def frB (t:Tm):Bool:=(QR t).all fun x=> !decide (x.kind=3) || !Lz x.name
theorem Mm (n:List UInt8) (ks:List Tm):frB (.mk 3 n 0 ks)=(!Lz n && ks.all frB):=by
 have h: ∀l:List Tm,(allL l).all (fun x=> !decide (x.kind=3) || !Lz x.name)=l.all frB:=by
  intro l
  induction l with
  | nil=>rfl
  | cons t ts ih=>simp only[allL,List.all_append,List.all_cons,ih,frB]
 simp only[frB,QR,List.all_cons,h]
 simp[frB]
def nK:Nat→Nat
 | 0=>1
 | j+1=>2*nK j+1
def nM:Nat→Nat
 | 0=>40
 | j+1=>2*nM j+20
theorem HU: ∀j,1≤nK j
 | 0=>Nat.le_refl _
 | j+1=>by simp only[nK];omega
theorem A9: ∀j,40≤nM j
 | 0=>Nat.le_refl _
 | j+1=>by have:=A9 j;simp only[nM];omega
def R0 (bs:List (List AV)) (at_ K M:Nat) (fr:Bool) (r:Out):Prop:=∃(t:Tm) (m:Nat),r=some (.tup [.agg (Qb t),.int .i64 m],bs)∧at_≤m∧m≤at_+K∧t.mass≤M∧(fr=true→frB t=true)
theorem QfA {k:Nat} {t:Tm} (h:Y5[k]? =some t):t.mass≤40∧frB t=true:=by
 have hm:t∈Y5:=List.mem_of_getElem? h
 simp only[Y5,List.mem_cons,List.mem_nil_iff,or_false]at hm
 rcases hm with rfl | rfl | rfl | rfl | rfl | rfl | rfl | rfl | rfl | rfl <;> exact⟨by decide,by decide⟩
theorem TW (b:List Nat) (at_ c d:Nat) (fr o:Bool) (bs:List (List AV)) (j:Nat) (hat:at_ < 1000) (hd:d < 100) (hb: (at_ < b.length∧b[at_]? =some c)∨(b.length≤at_∧c=0)) (hc:c < 256) (h3:4≤d∨c % 3=0):
  R0 bs at_ (nK j) (nM j) fr (call F.tb 283 [.sl o 1 (VF b),.int .i64 at_,.int .i64 d,.bool fr] bs):=by
 have h1:=LL bs
 have hw:IntKind.i64.wrap (c:Int)=c:=Qj (by omega) (by omega)
 have hw1:IntKind.i64.wrap ((at_:Int)+1)=(at_:Int)+1:=Qj (by omega) (by omega)
 obtain⟨q,hq,hq2⟩: ∃q:Nat,IntKind.i64.wrap ((c:Int) / 3)=(q:Int)∧q=c / 3:=⟨c / 3,by rw[Qj (by omega) (by omega)];omega,rfl⟩
 obtain⟨k,hk,hk2⟩: ∃k:Nat,((q:Int)).tmod 10=(k:Int)∧k < 10:=⟨q % 10,by rw[Int.tmod_eq_emod_of_nonneg (by omega)];omega,by omega⟩
 have hll:Y5.length=10:=rfl
 obtain⟨t,ht⟩: ∃t,Y5[k]? =some t:=⟨Y5[k]'(by omega),List.getElem?_eq_getElem _⟩
 obtain⟨m1,m2⟩:=QfA ht
 have hne: ¬Y5=[]:=by simp[Y5]
 have hkl:k < Y5.length:=by omega
 refine⟨t,at_+1,?_,by omega,by have:=HU j;omega,by have:=A9 j;omega,fun _=>m2⟩
 rw[Qa F.tb_283 _ _ rfl]
 have e3: ((c:Int).tmod 3=0)=(c % 3=0):=by rw[Int.tmod_eq_emod_of_nonneg (by omega)];exact propext (by omega)
 have e4: (4≤(d:Int))=(4≤d):=propext (by omega)
 have hgk:Y5[k]'hkl=t:=(List.getElem?_eq_some_iff.1 ht).2
 have hgi: (encTs Y5)[k]'(by rw[Xj];exact hkl)=Qb t:=by
  have h3: (encTs Y5)[k]? =some (Qb t):=by simp[ht]
  exact(List.getElem?_eq_some_iff.1 h3).2
 rcases hb with⟨hl,hb⟩ | ⟨hl,rfl⟩
 ·have hg:=Hw hb
  have hlt: (at_:Int) < (b.length:Int):=by omega
  by_cases h4:4≤d
  ·simp[F.f283B,F.f283C,F.f283R,F.f283K,hg,hlt,Q5,hw,hw1,e4,h4,h1,hq,hk,hll,hne,hkl,hgi,hk2]
  ·have h5:c % 3=0:=by omega
   simp[F.f283B,F.f283C,F.f283R,F.f283K,hg,hlt,Q5,hw,hw1,e3,e4,h4,h5,h1,hq,hk,hll,hne,hkl,hgi,hk2]
 ·have hlt: ¬(at_:Int) < (b.length:Int):=by omega
  have hq0:q=0:=by omega
  subst hq0
  simp only[Int.natCast_zero]at hk
  have hk0:k=0:=by have: (0:Int).tmod 10=0:=rfl;omega
  subst hk0
  have hw0:IntKind.i64.wrap 0=0:=rfl
  have ht0:t= .mk 2 [110,97] 2 []:=by simp[Y5]at ht;exact ht.symm
  by_cases h4:4≤d
  ·simp[F.f283B,F.f283C,F.f283R,F.f283K,hlt,Q5,hw1,e4,h4,h1,Y5,encTs,ht0,hw0]
  ·simp[F.f283B,F.f283C,F.f283R,F.f283K,hlt,Q5,hw1,e4,h4,h1,Y5,encTs,ht0,hw0]
set_option maxHeartbeats 20000000 in
theorem Qb0 (b:List Nat) (at_ c d:Nat) (fr o:Bool) (bs:List (List AV)) (j:Nat) (hat:at_+nK (j+1)≤1000) (hd:d < 4) (hb:b[at_]? =some c) (hc:c < 256) (h3:c % 3≠0)
  (ih: ∀(a:Nat),a+nK j≤1000→R0 bs a (nK j) (nM j) fr (call F.tb 283 [.sl false 1 (VF b),.int .i64 a,.int .i64 ((d:Int)+1),.bool fr] bs)):
  R0 bs at_ (nK (j+1)) (nM (j+1)) fr (call F.tb 283 [.sl o 1 (VF b),.int .i64 at_,.int .i64 d,.bool fr] bs):=by
 have h1:=LL bs
 have hl:=(List.getElem?_eq_some_iff.1 hb).1
 have hg:=Hw hb
 have hlt: (at_:Int) < (b.length:Int):=by omega
 have e3: ((c:Int).tmod 3=0)=(c % 3=0):=by rw[Int.tmod_eq_emod_of_nonneg (by omega)];exact propext (by omega)
 have e4: (4≤(d:Int))=(4≤d):=propext (by omega)
 have h4: ¬4≤d:=by omega
 have hw:IntKind.i64.wrap (c:Int)=c:=Qj (by omega) (by omega)
 have hw1:IntKind.i64.wrap ((at_:Int)+1)=(at_:Int)+1:=Qj (by omega) (by omega)
 have hw2:IntKind.i64.wrap ((d:Int)+1)=(d:Int)+1:=Qj (by omega) (by omega)
 obtain⟨q,hq,hq2⟩: ∃q:Nat,IntKind.i64.wrap ((c:Int) / 3)=(q:Int)∧q=c / 3:=⟨c / 3,by rw[Qj (by omega) (by omega)];omega,rfl⟩
 have hr: ((q:Int)).tmod 11=((q % 11:Nat):Int):=by rw[Int.tmod_eq_emod_of_nonneg (by omega)];omega
 have hrl:q % 11 < 11:=by omega
 generalize q % 11=r at *
 simp only[nK]at hat
 obtain⟨x,m1,a1,a2,a3,a4,a5⟩:=ih (at_+1) (by omega)
 obtain⟨y,m2,b1,b2,b3,b4,b5⟩:=ih m1 (by omega)
 simp only[Int.natCast_add,Int.natCast_one]at a1
 have hA1: ∀n z o,call F.tb 120 [.str n,.sl o 4 [Qb z]] bs=some (.agg (Qb (.mk 3 n 0 [z])),bs):=fun n z o=>Vk n [z] o bs (by simp)
 have hA2: ∀n z w o,call F.tb 120 [.str n,.sl o 4 [Qb z,Qb w]] bs=some (.agg (Qb (.mk 3 n 0 [z,w])),bs):=fun n z w o=>Vk n [z,w] o bs (by simp)
 have hone: ∀n:List UInt8,n.length≤10→(fr=true→Lz n=false)→(∀X,X=some (.tup [.agg (Qb (.mk 3 n 0 [x])),.int .i64 m1],bs)→R0 bs at_ (nK (j+1)) (nM (j+1)) fr X):=fun n hn hf X hX=>
  ⟨_,_,hX,by omega,by simp only[nK];omega,by simp only[nM,Tm.mass,massL,List.length_cons,List.length_nil];omega,fun h=>by rw[Mm,hf h];simp[a5 h]⟩
 have htwo: ∀n:List UInt8,n.length≤10→(fr=true→Lz n=false)→(∀X,X=some (.tup [.agg (Qb (.mk 3 n 0 [x,y])),.int .i64 m2],bs)→R0 bs at_ (nK (j+1)) (nM (j+1)) fr X):=fun n hn hf X hX=>
  ⟨_,_,hX,by omega,by simp only[nK];omega,by simp only[nM,Tm.mass,massL,List.length_cons,List.length_nil];omega,fun h=>by rw[Mm,hf h];simp[a5 h,b5 h]⟩
 have hpk: ∀X,X=some (.tup [.agg (Qb (.mk 3 Zo 0 [x,.mk 3 PK 0 [y]])),.int .i64 m2],bs)→R0 bs at_ (nK (j+1)) (nM (j+1)) fr X:=fun X hX=>
  ⟨_,_,hX,by omega,by simp only[nK];omega,by simp only[nM,Tm.mass,massL,List.length_cons,List.length_nil,Zo,PK];omega,fun h=>by rw[Mm];simp[a5 h,b5 h,Mm,Lz,Zo,PK,XOR,EXP,MUL,INV,Q9,ONE]⟩
 rw[Qa F.tb_283 _ _ rfl]
 have hr11:r=0∨r=1∨r=2∨r=3∨r=4∨r=5∨r=6∨r=7∨r=8∨r=9∨r=10:=by omega
 clear hq2 hrl
 cases fr <;> rcases hr11 with rfl | rfl | rfl | rfl | rfl | rfl | rfl | rfl | rfl | rfl | rfl
 ·refine hone [104,97,115,104] (by simp) (fun _=>by decide) _ ?_
  simp[F.f283B,F.f283C,F.f283R,F.f283K,hg,hlt,Q5,hw,hw1,hw2,e3,h3,e4,h4,h1,hq,hr,a1,b1,hA1,hA2,Zo,PK]
 ·refine hone [112,107] (by simp) (fun _=>by decide) _ ?_
  simp[F.f283B,F.f283C,F.f283R,F.f283K,hg,hlt,Q5,hw,hw1,hw2,e3,h3,e4,h4,h1,hq,hr,a1,b1,hA1,hA2,Zo,PK]
 ·refine hone [105,110,118] (by simp) (fun h=>by cases h) _ ?_
  simp[F.f283B,F.f283C,F.f283R,F.f283K,hg,hlt,Q5,hw,hw1,hw2,e3,h3,e4,h4,h1,hq,hr,a1,b1,hA1,hA2,Zo,PK]
 ·refine htwo [101,110,99] (by simp) (fun _=>by decide) _ ?_
  simp[F.f283B,F.f283C,F.f283R,F.f283K,hg,hlt,Q5,hw,hw1,hw2,e3,h3,e4,h4,h1,hq,hr,a1,b1,hA1,hA2,Zo,PK]
 ·refine htwo [101,110,99] (by simp) (fun _=>by decide) _ ?_
  simp[F.f283B,F.f283C,F.f283R,F.f283K,hg,hlt,Q5,hw,hw1,hw2,e3,h3,e4,h4,h1,hq,hr,a1,b1,hA1,hA2,Zo,PK]
 ·refine hpk _ ?_
  simp[F.f283B,F.f283C,F.f283R,F.f283K,hg,hlt,Q5,hw,hw1,hw2,e3,h3,e4,h4,h1,hq,hr,a1,b1,hA1,hA2,Zo,PK]
 ·refine htwo [115,105,103,110] (by simp) (fun _=>by decide) _ ?_
  simp[F.f283B,F.f283C,F.f283R,F.f283K,hg,hlt,Q5,hw,hw1,hw2,e3,h3,e4,h4,h1,hq,hr,a1,b1,hA1,hA2,Zo,PK]
 ·refine htwo [120,111,114] (by simp) (fun h=>by cases h) _ ?_
  simp[F.f283B,F.f283C,F.f283R,F.f283K,hg,hlt,Q5,hw,hw1,hw2,e3,h3,e4,h4,h1,hq,hr,a1,b1,hA1,hA2,Zo,PK]
 ·refine htwo [101,120,112] (by simp) (fun h=>by cases h) _ ?_
  simp[F.f283B,F.f283C,F.f283R,F.f283K,hg,hlt,Q5,hw,hw1,hw2,e3,h3,e4,h4,h1,hq,hr,a1,b1,hA1,hA2,Zo,PK]
 ·refine htwo [109,117,108] (by simp) (fun h=>by cases h) _ ?_
  simp[F.f283B,F.f283C,F.f283R,F.f283K,hg,hlt,Q5,hw,hw1,hw2,e3,h3,e4,h4,h1,hq,hr,a1,b1,hA1,hA2,Zo,PK]
 ·refine htwo [112,97,105,114] (by simp) (fun _=>by decide) _ ?_
  simp[F.f283B,F.f283C,F.f283R,F.f283K,hg,hlt,Q5,hw,hw1,hw2,e3,h3,e4,h4,h1,hq,hr,a1,b1,hA1,hA2,Zo,PK]
 ·refine hone [104,97,115,104] (by simp) (fun _=>by decide) _ ?_
  simp[F.f283B,F.f283C,F.f283R,F.f283K,hg,hlt,Q5,hw,hw1,hw2,e3,h3,e4,h4,h1,hq,hr,a1,b1,hA1,hA2,Zo,PK]
 ·refine hone [112,107] (by simp) (fun _=>by decide) _ ?_
  simp[F.f283B,F.f283C,F.f283R,F.f283K,hg,hlt,Q5,hw,hw1,hw2,e3,h3,e4,h4,h1,hq,hr,a1,b1,hA1,hA2,Zo,PK]
 ·refine htwo [112,97,105,114] (by simp) (fun _=>by decide) _ ?_
  simp[F.f283B,F.f283C,F.f283R,F.f283K,hg,hlt,Q5,hw,hw1,hw2,e3,h3,e4,h4,h1,hq,hr,a1,b1,hA1,hA2,Zo,PK]
 ·refine htwo [101,110,99] (by simp) (fun _=>by decide) _ ?_
  simp[F.f283B,F.f283C,F.f283R,F.f283K,hg,hlt,Q5,hw,hw1,hw2,e3,h3,e4,h4,h1,hq,hr,a1,b1,hA1,hA2,Zo,PK]
 ·refine htwo [101,110,99] (by simp) (fun _=>by decide) _ ?_
  simp[F.f283B,F.f283C,F.f283R,F.f283K,hg,hlt,Q5,hw,hw1,hw2,e3,h3,e4,h4,h1,hq,hr,a1,b1,hA1,hA2,Zo,PK]
 ·refine hpk _ ?_
  simp[F.f283B,F.f283C,F.f283R,F.f283K,hg,hlt,Q5,hw,hw1,hw2,e3,h3,e4,h4,h1,hq,hr,a1,b1,hA1,hA2,Zo,PK]
 ·refine htwo [115,105,103,110] (by simp) (fun _=>by decide) _ ?_
  simp[F.f283B,F.f283C,F.f283R,F.f283K,hg,hlt,Q5,hw,hw1,hw2,e3,h3,e4,h4,h1,hq,hr,a1,b1,hA1,hA2,Zo,PK]
 ·refine htwo [112,97,105,114] (by simp) (fun _=>by decide) _ ?_
  simp[F.f283B,F.f283C,F.f283R,F.f283K,hg,hlt,Q5,hw,hw1,hw2,e3,h3,e4,h4,h1,hq,hr,a1,b1,hA1,hA2,Zo,PK]
 ·refine htwo [112,97,105,114] (by simp) (fun _=>by decide) _ ?_
  simp[F.f283B,F.f283C,F.f283R,F.f283K,hg,hlt,Q5,hw,hw1,hw2,e3,h3,e4,h4,h1,hq,hr,a1,b1,hA1,hA2,Zo,PK]
 ·refine htwo [112,97,105,114] (by simp) (fun _=>by decide) _ ?_
  simp[F.f283B,F.f283C,F.f283R,F.f283K,hg,hlt,Q5,hw,hw1,hw2,e3,h3,e4,h4,h1,hq,hr,a1,b1,hA1,hA2,Zo,PK]
 ·refine htwo [112,97,105,114] (by simp) (fun _=>by decide) _ ?_
  simp[F.f283B,F.f283C,F.f283R,F.f283K,hg,hlt,Q5,hw,hw1,hw2,e3,h3,e4,h4,h1,hq,hr,a1,b1,hA1,hA2,Zo,PK]
end Go.Am
namespace Go.Am
set_option maxRecDepth 8000
theorem QeI (b:List Nat) (hb: ∀n∈b,n < 256) (fr:Bool) (bs:List (List AV)): ∀(j at_ d:Nat) (o:Bool),d+j=4→at_+nK j≤1000→
  R0 bs at_ (nK j) (nM j) fr (call F.tb 283 [.sl o 1 (VF b),.int .i64 at_,.int .i64 d,.bool fr] bs):=by
 intro j
 induction j with
 | zero=>
  intro at_ d o hd hat
  have:=HU 0
  rcases Nat.lt_or_ge at_ b.length with hl | hl
  ·exact TW b at_ b[at_] d fr o bs 0 (by omega) (by omega) (.inl ⟨hl,List.getElem?_eq_getElem hl⟩) (hb _ (List.getElem_mem hl)) (.inl (by omega))
  ·exact TW b at_ 0 d fr o bs 0 (by omega) (by omega) (.inr ⟨hl,rfl⟩) (by omega) (.inl (by omega))
 | succ j ih=>
  intro at_ d o hd hat
  have:=HU (j+1)
  rcases Nat.lt_or_ge at_ b.length with hl | hl
  ·have h1:b[at_]? =some b[at_]:=List.getElem?_eq_getElem hl
   have h2:=hb _ (List.getElem_mem hl)
   by_cases h3:b[at_] % 3=0
   ·exact TW b at_ b[at_] d fr o bs (j+1) (by omega) (by omega) (.inl ⟨hl,h1⟩) h2 (.inr h3)
   ·exact Qb0 b at_ b[at_] d fr o bs j hat (by omega) h1 h2 h3 fun a ha=>by
     have:=ih a (d+1) false (by omega) ha
     simpa using this
  ·exact TW b at_ 0 d fr o bs (j+1) (by omega) (by omega) (.inr ⟨hl,rfl⟩) (by omega) (.inr rfl)
def DT (fr:Bool) (t:Tm):Prop:=t.mass≤13200∧Ye t=0
def Qjs (bs:List (List AV)) (fr:Bool) (r:Out):Prop:=∃t:Tm,r=some (.agg (Qb t),bs)∧DT fr t
theorem QeH (b:List Nat) (hb: ∀n∈b,n < 256) (fr:Bool) (o:Bool) (bs:List (List AV)):Qjs bs fr (call F.tb 282 [.sl o 1 (VF b),.bool fr] bs):=by
 obtain⟨t,m,h1,h2,h3,h4,h5⟩:=QeI b hb fr bs 3 0 1 false rfl (by decide)
 have h1':call F.tb 283 [.sl false 1 (VF b),.int .i64 0,.int .i64 1,.bool fr] bs=some (.tup [.agg (Qb t),.int .i64 m],bs):=h1
 have h4':t.mass≤460:=h4
 have h6:=LI t bs (by unfold big;omega)
 have hv:=WL t
 have h7:=FV (QX t).1 bs (by omega)
 have h8:=LL bs
 simp only[QN]at h6
 rw[Qa F.tb_282 _ _ rfl]
 have hleaf:DT fr (.mk 2 [110,97] 2 []):=⟨by decide,by decide⟩
 by_cases c1: (QX t).2=0
 ·cases c2:W3 (QX t).1
  ·refine⟨_,?_,hleaf⟩
   simp[F.f282B,F.f282C,F.f282R,F.f282K,h1',h6,h7,h8,c1,c2,Y5,encTs]
  ·have he:Ye (QX t).1=0:=by
    unfold QX at c1 ⊢
    by_cases d1:thV t=0
    ·rw[if_neg (by simpa using d1)]at c1 ⊢
     by_cases d2: (Q7 t).2=0
     ·rw[if_neg (by simpa using d2)]at c1 ⊢
      by_cases d3:QK (Q7 t).1=0
      ·rw[if_neg (by simpa using d3)];exact(WS d3).1
      ·rw[if_pos d3]at c1;exact absurd c1 d3
     ·rw[if_pos d2]at c1;exact absurd c1 d2
    ·rw[if_pos d1]at c1;exact absurd c1 d1
   refine⟨(QX t).1,?_,hv,he⟩
   simp[F.f282B,F.f282C,F.f282R,F.f282K,h1',h6,h7,h8,c1,c2]
 ·refine⟨_,?_,hleaf⟩
  simp[F.f282B,F.f282C,F.f282R,F.f282K,h1',h6,h8,c1,Y5,encTs]
def YM (l:List (List Nat)):List (List AV):=l.map fun b=>[AV.sl false 1 (VF b)]
theorem Wu (l:List (List Nat)): (YM l).length=l.length:=by simp[YM]
theorem Kk {l:List (List Nat)} {i:Nat} {b:List Nat} (h:l[i]? =some b): (YM l)[i]? =some [AV.sl false 1 (VF b)]:=by simp[YM,h]
def Qgg (bs:List (List AV)) (fr:Bool) (n:Nat) (r:Out):Prop:=∃l:List Tm,r=some (.sl false 4 (encTs l),bs)∧l.length≤n∧∀t∈l,DT fr t
theorem Co (l:List (List Nat)) (hl: ∀b∈l,∀n∈b,n < 256) (fr:Bool) (bs:List (List AV)) (hln:l.length < 1000000):
  ∀(post pre:List (List Nat)) (us:List Tm) (o:Bool) (ρ:Nat→AV),l=pre ++ post→us.length=pre.length→pre.length≤8→(∀t∈us,DT fr t)→ρ 0= .sl o 1 (YM l)→ρ 1= .bool fr→ρ 5= .sl true 4 (encTs us)→ρ 6= .int .i64 pre.length→
  Qgg bs fr (min l.length 8) (R F.tb (.loop F.f281l0) ρ bs (Qk 0 (Qw F.tb F.f281r0 (QB F.f281 bs)))):=by
 intro post
 induction post with
 | nil=>
  intro pre us o ρ hk hu h8 hd h0 h1 h5 h6
  simp only[List.append_nil]at hk
  subst hk
  rw[Qc F.f281l0.eq_1]
  refine⟨us,?_,by omega,hd⟩
  simp[h0,h1,h5,h6,Wu,F.f281r0,F.f281R,F.f281K]
 | cons x post IH=>
  intro pre us o ρ hk hu h8 hd h0 h1 h5 h6
  have hg:=Kk (Qp hk)
  have hll:l.length=pre.length+ (post.length+1):=by rw[hk];simp
  have hw1:IntKind.i64.wrap ((pre.length:Int)+1)=(pre.length:Int)+1:=Qj (by omega) (by omega)
  have hlt: (pre.length:Int) < (l.length:Int):=by omega
  rw[Qc F.f281l0.eq_1]
  by_cases h8':pre.length=8
  ·refine⟨us,?_,by omega,hd⟩
   have e: (pre.length:Int)=8:=by omega
   rw[e]at h6 hlt
   simp[h0,h1,h5,h6,hlt,Wu,F.f281r0,F.f281R,F.f281K]
  ·have hlt8: (pre.length:Int) < 8:=by omega
   obtain⟨t,ht,hdt⟩:=QeH x (hl x (by rw[hk];simp)) fr false bs
   have hb: (us.length+1)*56≤140737488355328:=Yn (by omega)
   have hi:=fun ρ=>IH (pre ++ [x]) (us ++ [t]) o ρ (by rw[hk];simp) (by simp[hu]) (by simp;omega) (fun y hy=>by
    rcases List.mem_append.1 hy with hy | hy
    ·exact hd y hy
    ·simp at hy;subst hy;exact hdt)
   simp[h0,h1,h5,h6,hg,hlt,hlt8,hw1,ht,hb,Wu,Q0,QS]
   apply hi <;> simp[h0,h1]
theorem F0 (l:List (List Nat)) (hl: ∀b∈l,∀n∈b,n < 256) (fr:Bool) (bs:List (List AV)) (hln:l.length < 1000000) (o:Bool):Qgg bs fr (min l.length 8) (call F.tb 281 [.sl o 1 (YM l),.bool fr] bs):=by
 have h:=fun ρ=>Co l hl fr bs hln l [] [] false ρ rfl rfl (by simp) (by simp)
 rw[Qa F.tb_281 _ _ rfl]
 simp[F.f281B,F.f281C]
 apply h <;> simp[encTs]
end Go.Am
namespace Go.Am
set_option maxRecDepth 8000
structure MFr (f:Fr):Prop where
 t: ∀x∈f.t,x.mass≤13200
 e: ∀x∈f.t,Ye x=0
 tl:f.t.length≤6
 s: ∀x∈f.s,x.mass≤13200
 sl:f.s.length≤16
theorem A8 {f:Fr} (h:MFr f):FOk f∧massL f.t < 100000:=by
 have h1:=QbY h.t
 have h2:f.t.length*13200≤6*13200:=Nat.mul_le_mul_right _ h.tl
 exact⟨⟨fun x hx=>by have:=h.s x hx;omega,fun x hx=>by have:=h.t x hx;omega,by have:=h.sl;omega,by have:=h.tl;omega⟩,by omega⟩
theorem DA {P:Out→Prop} {c:Bool} {A B:Out} (h1:P A) (h2:P B):P (Z4 c true A B):=by
 cases c
 ·exact h2
 ·exact h1
end Go.Am
namespace Go.Am
set_option maxRecDepth 8000
structure MU where
 l:List (List Nat)
 r:List (List Nat)
 h:Nat
def TO (d:MU):List AV:=[.sl false 1 (YM d.l),.sl false 1 (YM d.r),.int .u8 (d.h:Int)]
structure Qga (d:MU):Prop where
 l: ∀b∈d.l,∀n∈b,n < 256
 r: ∀b∈d.r,∀n∈b,n < 256
 h:d.h < 256
 ll:d.l.length < 4611686018427387904
 rl:d.r.length < 4611686018427387904
def TZ:List Tm:=[.mk 2 [110,97] 2 [],.mk 2 [110,98] 2 [],.mk 2 [107] 3 [],.mk 2 [108] 3 [],.mk 2 [100] 0 []]
def E1 (bs:List (List AV)) (r:Out):Prop:=∃l:List Tm,r=some (.sl false 4 (encTs l),bs)∧l.length≤5∧∀x∈l,x.mass≤40
theorem Gk (h:Nat) (bs:List (List AV)):
  ∀(post pre acc:List Tm) (o o2:Bool) (ρ:Nat→AV),TZ=pre ++ post→acc.length≤pre.length→(∀x∈acc,x.mass≤40)→ρ 0= .int .u8 (h:Int)→ρ 3= .sl o 4 (encTs TZ)→ρ 4= .sl o2 4 (encTs acc)→ρ 5= .int .i64 pre.length→
  E1 bs (R F.tb (.loop F.f468l0) ρ bs (Qk 0 (Qw F.tb F.f468r0 (QB F.f468 bs)))):=by
 have hsl:TZ.length=5:=rfl
 have hsm: ∀x∈TZ,x.mass≤40:=by
  intro x hx
  simp only[TZ,List.mem_cons,List.mem_nil_iff,or_false]at hx
  rcases hx with rfl | rfl | rfl | rfl | rfl <;> decide
 intro post
 induction post with
 | nil=>
  intro pre acc o o2 ρ hk ha hm h0 h3 h4 h5
  simp only[List.append_nil]at hk
  rw[← hk]at h5 ha
  rw[Qc F.f468l0.eq_1]
  refine⟨acc,?_,by omega,hm⟩
  simp[h0,h3,h4,h5,hsl,F.f468r0,F.f468R,F.f468K]
 | cons x post IH=>
  intro pre acc o o2 ρ hk ha hm h0 h3 h4 h5
  have hg:=Qp hk
  have hll:TZ.length=pre.length+ (post.length+1):=by rw[hk];simp
  have hw1:IntKind.i64.wrap ((pre.length:Int)+1)=(pre.length:Int)+1:=Qj (by omega) (by omega)
  have hlt: (pre.length:Int) < 5:=by omega
  have hx:x.mass≤40:=hsm x (by rw[hk];simp)
  have hadd:=fun o=>Nr acc x o bs (by omega) (fun y hy=>by have:=hm y hy;unfold big;omega) (by unfold big;omega)
  have hal:=Tk x acc
  have hi:=fun ρ=>IH (pre ++ [x]) acc o o2 ρ (by rw[hk];simp) (by simp;omega) hm
  have hj:=fun ρ=>IH (pre ++ [x]) (ZZ x acc) o false ρ (by rw[hk];simp) (by simp;omega) (fun y hy=>by
   rcases VZ.1 hy with rfl | hy
   ·exact hx
   ·exact hm y hy)
  rw[Qc F.f468l0.eq_1]
  simp[h0,h3,h4,h5,hg,hlt,hw1,hsl]
  refine DA (P:=E1 bs) ?_ ?_
  ·simp[h0,h3,h4,h5,hg,hadd,hw1]
   apply hj <;> simp[h0,h3]
  ·apply hi <;> simp[h0,h3,h4]
theorem QeU (h:Nat) (bs:List (List AV)):E1 bs (call F.tb 468 [.int .u8 (h:Int)] bs):=by
 have h1:=fun s n=>N8 s n bs
 have hl:=fun o o2 ρ=>Gk h bs TZ [] [] o o2 ρ rfl (by simp) (by simp)
 rw[Qa F.tb_468 _ _ rfl]
 simp[F.f468B,F.f468C,h1]
 apply hl <;> first | rfl | simp[TZ,encTs]
def Md2 (bs:List (List AV)) (r:Out):Prop:=∃f g:Fr,r=some (.tup [.agg (Qz f),.agg (Qz g)],bs)∧MFr f∧MFr g
theorem QeT (d:MU) (hd:Qga d) (bs:List (List AV)):Md2 bs (call F.tb 467 [.agg (TO d)] bs):=by
 have hmin: ∀k:Nat,∃n:Nat,(if 5 < (k:Int)then(5:Int)else(k:Int))=(n:Int)∧n≤5∧n≤k:=fun k=>⟨min k 5,by split <;> omega,by omega,by omega⟩
 obtain⟨n,hn,hn5,hnl⟩:=hmin d.l.length
 obtain⟨m,hm,hm5,hml⟩:=hmin d.r.length
 obtain⟨s,s1,s2,s3⟩:=QeU d.h bs
 obtain⟨a,a1,a2,a3⟩:=F0 (d.l.take n) (fun b hb=>hd.l b (List.mem_of_mem_take hb)) true bs (by simp;omega) false
 obtain⟨b,b1,b2,b3⟩:=F0 (d.r.take m) (fun b hb=>hd.r b (List.mem_of_mem_take hb)) true bs (by simp;omega) false
 simp at a2 b2
 refine⟨⟨s,a⟩,⟨s,b⟩,?_,⟨fun x hx=>(a3 x hx).1,fun x hx=>(a3 x hx).2,by simp only;omega,fun x hx=>by have:=s3 x hx;omega,by simp only;omega⟩,
  ⟨fun x hx=>(b3 x hx).1,fun x hx=>(b3 x hx).2,by simp only;omega,fun x hx=>by have:=s3 x hx;omega,by simp only;omega⟩⟩
 have hte:TO d=[.sl false 1 (YM d.l),.sl false 1 (YM d.r),.int .u8 (d.h:Int)]:=rfl
 have etk: ∀(l:List (List Nat)) (n:Nat),(YM l).take n=YM (l.take n):=fun l n=>by simp[YM]
 rw[Qa F.tb_467 _ _ rfl,hte]
 simp[F.f467B,F.f467C,F.f467R,F.f467K,s1,a1,b1,hn,hm,Wu,etk,hnl,hml]
 exact⟨rfl,rfl⟩
def Jh (bs:List (List AV)) (r:Out):Prop:=∃b:Bool,r=some (.bool b,bs)
def Mg (L:List (List (List Nat))):List (List AV):=L.map fun l=>[AV.sl false 1 (YM l)]
theorem Ax {L:List (List (List Nat))} {i:Nat} {b:List (List Nat)} (h:L[i]? =some b): (Mg L)[i]? =some [AV.sl false 1 (YM b)]:=by simp[Mg,h]
theorem Qcx (x:List (List Nat)) (bs:List (List AV)) (hx:x.length≤4) (a b c:AV)
  (hX: ∀ρ:Nat→AV,ρ 11=a→ρ 12=b→ρ 13=c→Jh bs (R F.tb F.f466r0 ρ bs (Qw F.tb (.loop F.f466l1) (Qk 0 (Qw F.tb F.f466r1 (QB F.f466 bs)))))):
  ∀(post pre:List (List Nat)) (ρ:Nat→AV),x=pre ++ post→ρ 11=a→ρ 12=b→ρ 13=c→ρ 20= .sl false 1 (YM x)→ρ 21= .int .i64 x.length→ρ 22= .int .i64 pre.length→
  Jh bs (R F.tb (.loop F.f466l0) ρ bs (Qk 2 (Qk 1 (Qw F.tb F.f466r0 (Qw F.tb (.loop F.f466l1) (Qk 0 (Qw F.tb F.f466r1 (QB F.f466 bs)))))))):=by
 intro post
 induction post with
 | nil=>
  intro pre ρ hk h11 h12 h13 h20 h21 h22
  simp only[List.append_nil]at hk
  rw[← hk]at h22
  rw[Qc F.f466l0.eq_1]
  simp[h20,h21,h22]
  apply hX <;> simp[h11,h12,h13]
 | cons y post IH=>
  intro pre ρ hk h11 h12 h13 h20 h21 h22
  have hg:=Kk (Qp hk)
  have hll:x.length=pre.length+ (post.length+1):=by rw[hk];simp
  have hw1:IntKind.i64.wrap ((pre.length:Int)+1)=(pre.length:Int)+1:=Qj (by omega) (by omega)
  have hlt: (pre.length:Int) < (x.length:Int):=by omega
  have hi:=fun ρ=>IH (pre ++ [y]) ρ (by rw[hk];simp)
  rw[Qc F.f466l0.eq_1]
  by_cases h8: (8:Int) < (y.length:Int)
  ·refine⟨false,?_⟩
   simp[h20,h21,h22,hg,hlt,Q5,h8,F.f466R,F.f466K]
  ·simp[h20,h21,h22,hg,hlt,hw1,Q5,h8]
   apply hi <;> simp[h11,h12,h13,h20,h21]
theorem Qcy (L:List (List (List Nat))) (bs:List (List AV)) (hL:L.length < 10) (o:Bool):
  ∀(post pre:List (List (List Nat))) (ρ:Nat→AV),L=pre ++ post→ρ 11= .sl o 1 (Mg L)→ρ 12= .int .i64 L.length→ρ 13= .int .i64 pre.length→
  Jh bs (R F.tb (.loop F.f466l1) ρ bs (Qk 0 (Qw F.tb F.f466r1 (QB F.f466 bs)))):=by
 intro post
 induction post with
 | nil=>
  intro pre ρ hk h11 h12 h13
  simp only[List.append_nil]at hk
  rw[← hk]at h13
  rw[Qc F.f466l1.eq_1]
  refine⟨true,?_⟩
  simp[h11,h12,h13,F.f466r1,F.f466R,F.f466K]
 | cons y post IH=>
  intro pre ρ hk h11 h12 h13
  have hg:=Ax (Qp hk)
  have hll:L.length=pre.length+ (post.length+1):=by rw[hk];simp
  have hw1:IntKind.i64.wrap ((pre.length:Int)+1)=(pre.length:Int)+1:=Qj (by omega) (by omega)
  have hlt: (pre.length:Int) < (L.length:Int):=by omega
  have hi:=fun ρ=>IH (pre ++ [y]) ρ (by rw[hk];simp)
  rw[Qc F.f466l1.eq_1]
  by_cases h4: (4:Int) < (y.length:Int)
  ·refine⟨false,?_⟩
   simp[h11,h12,h13,hg,hlt,Wu,h4,F.f466R,F.f466K]
  ·have hy:y.length≤4:=by omega
   have hX: ∀ρ:Nat→AV,ρ 11= .sl o 1 (Mg L)→ρ 12= .int .i64 L.length→ρ 13= .int .i64 pre.length→Jh bs (R F.tb F.f466r0 ρ bs (Qw F.tb (.loop F.f466l1) (Qk 0 (Qw F.tb F.f466r1 (QB F.f466 bs))))):=by
    intro ρ g11 g12 g13
    simp[F.f466r0,g13,hw1]
    apply hi <;> simp[g11,g12]
   have h0:=fun ρ=>Qcx y bs hy _ _ _ hX y [] ρ rfl
   simp[h11,h12,h13,hg,hlt,Wu,h4]
   apply h0 <;> simp[h11,h12,h13,Wu]
theorem QeS (d:MU) (bs:List (List AV)):Jh bs (call F.tb 466 [.agg (TO d)] bs):=by
 have hte:TO d=[.sl false 1 (YM d.l),.sl false 1 (YM d.r),.int .u8 (d.h:Int)]:=rfl
 have h:=fun o ρ=>Qcy [d.l,d.r] bs (by simp) o [d.l,d.r] [] ρ rfl
 rw[Qa F.tb_466 _ _ rfl,hte]
 simp[F.f466B,F.f466C]
 apply h <;> first | rfl | simp[Mg]
theorem Mz (d:MU) (hd:Qga d) (q:Tst) (h0:call F.tb 398 [] []=some (.bool true,[])):call F.tb 465 [.agg (TO d),.agg (WZ q)] []=some (.bool true,[]):=by
 obtain⟨b,h1⟩:=QeS d []
 have h2: ∀o,call F.tb 101 [.sl o 4 [Qb q.l,Qb q.r],.int .i64 2,.int .i64 80] []=some (.bool (few [q.l,q.r] 2 80),[]):=fun o=>Tl [q.l,q.r] o 2 80 [] (by omega) (by omega) (by omega)
 have e1:=QF q.l
 have e2:=QF q.r
 have hte:TO d=[.sl false 1 (YM d.l),.sl false 1 (YM d.r),.int .u8 (d.h:Int)]:=rfl
 rw[Qa F.tb_465 _ _ rfl]
 rw[hte]at h1 ⊢
 cases b
 ·rw[Yt]
  simp[F.f465B,F.f465C,F.f465R,F.f465K,h0,h1]
 ·cases hr:few [q.l,q.r] 2 80
  ·rw[hr]at h2
   simp only[e1,e2]at h2
   rw[Yt]
   simp[F.f465B,F.f465C,F.f465R,F.f465K,h0,h1,h2]
  ·rw[hr]at h2
   obtain⟨b1,b2,_⟩:=Tq (by omega) hr
   simp only[massL]at b2
   obtain⟨f,g,h3,hf,hg⟩:=QeT d hd []
   obtain⟨f1,f2⟩:=A8 hf
   obtain⟨g1,g2⟩:=A8 hg
   have h4:=QeV f g f1 g1 (by omega) (by omega) q (by omega) (by omega) []
   have h5:=QeO f g f1 g1 (by omega) (by omega) q (by omega) (by omega) []
   generalize Hp f g q=V at *
   have htf:Qz f=[.sl false 4 (encTs f.s),.sl false 4 (encTs f.t)]:=rfl
   have htg:Qz g=[.sl false 4 (encTs g.s),.sl false 4 (encTs g.t)]:=rfl
   rw[hte,htf,htg]at h3
   rw[htf,htg]at h4 h5
   simp only[e1,e2]at h2
   rw[Yt]at h4 h5 ⊢
   simp[F.f465B,F.f465C,F.f465R,F.f465K,h0,h1,h2,h3,h4,h5]
end Go.Am
