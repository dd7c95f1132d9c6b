/-
  Rc41, Rc42, Sc1, Sc2, Sc3, Sc4, Rc43, Rc44, Rc45, Sc5.
-/
import Derived.Test.YtpgbndmkiiakaaaGreatDoorG21
set_option linter.unusedVariables false
set_option linter.unusedSimpArgs false
namespace Go.Am
set_option maxRecDepth 8000
theorem Qej:Yl.all (fun y=>(y.k == 2) == VF y.n)=true:=by decide
theorem QlA (n:List UInt8):decide (Wq n=2)=VF n:=by
 unfold Wq
 cases h:Zm n Yl with
 | none=>
  simp only
  cases hp:VF n
  ·rfl
  ·exfalso
   simp only[VF,Bool.or_eq_true,beq_iff_eq]at hp
   rcases hp with(rfl | rfl) | rfl <;> revert h <;> decide
 | some y=>
  obtain⟨h1,h2⟩:=S3 h
  have h3:=List.all_eq_true.1 Qej y h1
  simp only[beq_iff_eq]at h3
  rw[← h2,← h3]
  simp only
  by_cases c:y.k=2
  ·simp[c]
  ·simp[c]
def Sp (f a:List Tm) (x:Tm):Int:=if x.kind=3 then(if VF x.name then 10 else 0)else if x.kind=1 then(if Qm (W7 x 0 f) x=0 then 13 else 0)else if Yh x then 0 else if W8 a x then 0 else 13
def frR (f a:List Tm):List Tm→Int
 | []=>0
 | x:: xs=>if Sp f a x≠0 then Sp f a x else frR f a xs
theorem Qbv {f:List Tm} {x:Tm} {M:Nat} (hf: ∀y∈f,y.mass < M) (hx:x.mass < M): (W7 x 0 f).mass < M:=by
 unfold W7
 split
 ·rename_i p hp;exact hf p.2 (Oj hp)
 ·exact hx
theorem Ch (f a l:List Tm) (bs:List (List AV)) (hf:f.length < 1000000) (hfm: ∀x∈f,x.mass < 1000000) (ha:a.length < 1000000) (ham: ∀x∈a,x.mass < 1000000) (hl:l.length < 1000000) (hm: ∀x∈l,x.mass < 1000000):
  ∀(post pre:List Tm) (o1 o2 o3:Bool) (ρ:Nat→AV),l=pre ++ post→ρ 7= .sl o1 4 (encTs l)→ρ 8= .sl o2 4 (encTs a)→ρ 9= .sl o3 8 (hbs 0 f)→ρ 10= .int .i64 pre.length→
  R F.tb (.loop F.f268l0) ρ bs (Qk 0 (Qv F.tb F.f268r0 (Qx F.f268 bs)))=some (.int .i64 (frR f a post),bs):=by
 intro post
 induction post with
 | nil=>
  intro pre o1 o2 o3 ρ hk h7 h8 h9 h10
  simp only[List.append_nil]at hk
  rw[← hk]at h10
  rw[Qc F.f268l0.eq_1]
  simp[h7,h8,h9,h10,F.f268r0,F.f268R,F.f268K,frR]
 | cons x post IH=>
  intro pre o1 o2 o3 ρ hk h7 h8 h9 h10
  have hg:=Qp hk
  have hll:l.length=pre.length+ (post.length+1):=by rw[hk];simp
  have hw1:IntKind.i64.wrap ((pre.length:Int)+1)=(pre.length:Int)+1:=Ql (by omega) (by omega)
  have hlt: (pre.length:Int) < (l.length:Int):=by omega
  have hxm:=hm x (by rw[hk];simp)
  have hxb:x.mass < big:=by unfold big;omega
  have hc1:=T3 x.name bs
  have hc2:=fun o=>Dg f hf x hxb o bs
  have hc3:=Z8 (W7 x 0 f) x bs (by have:=Qbv hfm hxm;unfold big;omega) hxb
  have hc4:=PP x bs hxm
  have hc5:=fun o=>My a x o bs (by omega) (fun y hy=>by have:=ham y hy;unfold big;omega) hxb
  have hp:=QlA x.name
  have h2:=fun ρ=>IH (pre ++ [x]) o1 o2 o3 ρ (by rw[hk];simp)
  rw[Qc F.f268l0.eq_1]
  by_cases k3:x.kind=3
  ·cases c:VF x.name
   ·rw[c]at hp
    have e:frR f a (x:: post)=frR f a post:=by simp[frR,Sp,k3,c]
    rw[e]
    simp at hp
    simp[h7,h8,h9,h10,hg,hlt,hw1,k3,hc1,hp]
    apply h2 <;> simp[h7,h8,h9]
   ·rw[c]at hp
    have e:frR f a (x:: post)=10:=by simp[frR,Sp,k3,c]
    rw[e]
    simp at hp
    simp[h7,h8,h9,h10,hg,hlt,k3,hc1,hp,F.f268R,F.f268K]
  ·by_cases k1:x.kind=1
   ·by_cases c:Qm (W7 x 0 f) x=0
    ·have e:frR f a (x:: post)=13:=by simp[frR,Sp,k1,c]
     rw[e]
     simp[h7,h8,h9,h10,hg,hlt,k1,hc2,hc3,c,F.f268R,F.f268K]
    ·have e:frR f a (x:: post)=frR f a post:=by simp[frR,Sp,k1,c]
     rw[e]
     simp[h7,h8,h9,h10,hg,hlt,hw1,k1,hc2,hc3,c]
     apply h2 <;> simp[h7,h8,h9]
   ·cases c:Yh x
    ·cases d:W8 a x
     ·have e:frR f a (x:: post)=13:=by simp[frR,Sp,k3,k1,c,d]
      rw[e]
      simp[h7,h8,h9,h10,hg,hlt,k3,k1,hc4,hc5,c,d,F.f268R,F.f268K]
     ·have e:frR f a (x:: post)=frR f a post:=by simp[frR,Sp,k3,k1,c,d]
      rw[e]
      simp[h7,h8,h9,h10,hg,hlt,hw1,k3,k1,hc4,hc5,c,d]
      apply h2 <;> simp[h7,h8,h9]
    ·have e:frR f a (x:: post)=frR f a post:=by simp[frR,Sp,k3,k1,c]
     rw[e]
     simp[h7,h8,h9,h10,hg,hlt,hw1,k3,k1,hc4,c]
     apply h2 <;> simp[h7,h8,h9]
mutual
theorem Jt: ∀t:Tm,Yd t=0→∀x∈QY t,WJ x=0
 | .mk k n s ks,h,x,hx=>by
  simp only[Yd]at h
  by_cases c:WJ (.mk k n s ks)=0
  ·rw[if_neg (by simpa using c)]at h
   simp only[QY]at hx
   rcases List.mem_cons.1 hx with rfl | hx
   ·exact c
   ·exact err_nodesL ks h x hx
  ·rw[if_pos c]at h;exact absurd h c
theorem err_nodesL: ∀l:List Tm,errL l=0→∀x∈allL l,WJ x=0
 | [],_,x,hx=>by simp[allL]at hx
 | t:: ts,h,x,hx=>by
  simp only[errL]at h
  by_cases c:Yd t=0
  ·rw[if_neg (by simpa using c)]at h
   simp only[allL,List.mem_append]at hx
   rcases hx with hx | hx
   ·exact Jt t c x hx
   ·exact err_nodesL ts h x hx
  ·rw[if_pos c]at h;exact absurd h c
end
theorem QbM {x:Tm} (h:WJ x=0):x.kind=1∨x.kind=2∨x.kind=3:=by
 unfold WJ at h
 by_cases c:x.kind=1∨x.kind=2
 ·rcases c with c | c <;> simp[c]
 ·rw[if_neg c]at h
  by_cases d:x.kind=3
  ·simp[d]
  ·rw[if_neg d]at h;exact absurd h (by decide)
theorem OD: ∀{l:List Tm},Wo l=0→∀x∈l,YF x=0
 | [],_,x,hx=>by cases hx
 | y:: l,h,x,hx=>by
  simp only[Wo]at h
  by_cases c:YF y=0
  ·rw[if_neg (by simpa using c)]at h
   rcases List.mem_cons.1 hx with rfl | hx
   ·exact c
   ·exact OD h x hx
  ·rw[if_pos c]at h;exact absurd h c
theorem QaU (t:Tm):t∈QY t:=by cases t;simp[QY]
theorem FV {x:Tm} (h:YF x=0):x.kind≠1:=by
 intro hk
 unfold YF at h
 by_cases c:thV x=0
 ·rw[if_neg (by simpa using c)]at h
  by_cases d:VG x=[]
  ·unfold VG at d
   have h1:x∈(QY x).filter (ZZ 1):=List.mem_filter.2 ⟨QaU x,by simp[ZZ,hk]⟩
   have h2:x∈Xm ((QY x).filter (ZZ 1)):=VP.2 h1
   rw[d]at h2;cases h2
  ·rw[if_pos d]at h;exact absurd h (by decide)
 ·rw[if_pos c]at h;exact absurd h c
theorem Qkt {f a:List Tm} {x:Tm} (hg: ∀y∈f,y.kind≠1) (hk:x.kind=1∨x.kind=2∨x.kind=3):Sp f a x=Xv f a x:=by
 unfold Sp Xv
 rcases hk with hk | hk | hk
 ·simp only[hk]
  have h0: ¬(1:Int)=3:=by decide
  rw[if_neg h0,if_pos trivial,if_pos trivial]
  cases h:VM x 0 f with
  | none=>
   have h1:ixT x 0 f= -1:=by simp[ixT,h]
   have h2:W7 x 0 f=x:=by simp[W7,h]
   rw[h1,h2,Y8];rfl
  | some p=>
   have h1:ixT x 0 f=p.1:=by simp[ixT,h]
   have h2:W7 x 0 f=p.2:=by simp[W7,h]
   have h3: ¬Qm p.2 x=0:=fun e=>hg p.2 (Oj h) (by rw[Gv.1 e];exact hk)
   have h4: ¬(p.1:Int) < 0:=by omega
   rw[h1,h2,if_neg h3,if_neg h4]
 ·simp only[hk]
  rfl
 ·simp only[hk]
  rfl
theorem QeF {f a:List Tm} (hg: ∀y∈f,y.kind≠1): ∀{l:List Tm},(∀x∈l,WJ x=0)→frR f a l=frE f a l
 | [],_=>rfl
 | x:: l,h=>by
  simp only[frR,frE,Qkt hg (QbM (h x (by simp))),QeF hg (l:=l) fun y hy=>h y (by simp[hy])]
theorem D5 {t:Tm} (h:thV t=0):Yd t=0:=(Y6 (ZY h).1).1
theorem Qge (f:Fr) (hf:FOk f) (hM:massL f.t < 1000000) (r:Tm) (hr:r.mass < 1000000) (bs:List (List AV)):call F.tb 268 [.agg (Qq f),.agg (Qa r)] bs=some (.int .i64 (U6 f r),bs):=by
 have h1:=Da f bs hf
 have h2:=W4 r bs (by unfold big;omega)
 have h3:=Dd f hf hM bs
 have h5:=De f hf bs
 have h6:=Uv r bs (by omega)
 have hn:=nodesL_le_mass f.t
 have hfl:=SL f
 have hnl:=XG r
 have hnm:=Zj r
 rw[Qb F.tb_268 _ _ rfl]
 unfold U6
 by_cases c1:Za f=0
 ·by_cases c2:thV r=0
  ·have h4:=fun ρ o1 o2 o3=>Ch f.t (Zt f) (QY r) bs hf.tl hf.t (by omega) (Lv hM) (by omega) (fun x hx=>by have:=XA r x hx;omega) (QY r) [] o1 o2 o3 ρ rfl
   have hgr: ∀y∈f.t,y.kind≠1:=fun y hy=>by
    have h0:=c1
    unfold Za at h0
    split at h0
    ·exact absurd h0 (by decide)
    ·split at h0
     ·rename_i h;exact absurd h0 h
     ·exact FV (OD h0 y hy)
   rw[QeF hgr (Jt r (D5 c2))]at h4
   simp[F.f268B,F.f268C,QX,QG,Q4,h1,h2,h3,h5,h6,c1,c2]
   apply h4 <;> first | rfl | simp
  ·simp[F.f268B,F.f268C,F.f268R,F.f268K,QX,QG,Q4,h1,h2,c1,c2]
 ·simp[F.f268B,F.f268C,F.f268R,F.f268K,QX,QG,Q4,h1,c1]
theorem Qa4 (l:List Tm) (bs:List (List AV)) (hl:l.length < 1000000):
  ∀(post pre:List Tm) (o:Bool) (ρ:Nat→AV),l=pre ++ post→ρ 3= .sl o 4 (encTs l)→ρ 4= .int .i64 pre.length→
  R F.tb (.loop F.f275l0) ρ bs (Qk 0 (Qv F.tb F.f275r0 (Qx F.f275 bs)))=some (.bool (!post.all ndN),bs):=by
 intro post
 induction post with
 | nil=>
  intro pre o ρ hk h3 h4
  simp only[List.append_nil]at hk
  rw[← hk]at h4
  rw[Qc F.f275l0.eq_1]
  simp[h3,h4,F.f275r0,F.f275R,F.f275K]
 | cons x post IH=>
  intro pre o ρ hk h3 h4
  have hg:=Qp hk
  have hll:l.length=pre.length+ (post.length+1):=by rw[hk];simp
  have hw1:IntKind.i64.wrap ((pre.length:Int)+1)=(pre.length:Int)+1:=Ql (by omega) (by omega)
  have hlt: (pre.length:Int) < (l.length:Int):=by omega
  have hc1:=T3 x.name bs
  have hp:=N4 x.name
  have h2:=fun ρ=>IH (pre ++ [x]) o ρ (by rw[hk];simp)
  rw[Qc F.f275l0.eq_1]
  by_cases k3:x.kind=3
  ·cases c:Yq x.name
   ·rw[c]at hp
    have e: (x:: post).all ndN=post.all ndN:=by simp[ndN,k3,c]
    rw[e]
    simp at hp
    simp[h3,h4,hg,hlt,hw1,k3,hc1,hp,-List.all_eq_true,-List.all_eq_false]
    apply h2 <;> simp[h3]
   ·rw[c]at hp
    have e: (x:: post).all ndN=false:=by simp[ndN,k3,c]
    rw[e]
    simp at hp
    simp[h3,h4,hg,hlt,k3,hc1,hp,F.f275R,F.f275K]
  ·have e: (x:: post).all ndN=post.all ndN:=by simp[ndN,k3]
   rw[e]
   simp[h3,h4,hg,hlt,hw1,k3,-List.all_eq_true,-List.all_eq_false]
   apply h2 <;> simp[h3]
theorem Qgi (t:Tm) (bs:List (List AV)) (hm:t.mass < 1000000):call F.tb 275 [.agg (Qa t)] bs=some (.bool (!evT t),bs):=by
 have h1:=Uv t bs (by omega)
 have hnl:=XG t
 have hnm:=Zj t
 have h2:=fun ρ o=>Qa4 (QY t) bs (by omega) (QY t) [] o ρ rfl
 rw[Qb F.tb_275 _ _ rfl,KT]
 simp[F.f275B,F.f275C,h1,-List.all_eq_true,-List.all_eq_false]
 apply h2 <;> first | rfl | simp
theorem Qgd (f:Fr) (hf:FOk f) (hM:massL f.t < 1000000) (r:Tm) (hr:r.mass < 1000000) (bs:List (List AV)):call F.tb 267 [.agg (Qq f),.agg (Qa r)] bs=some (QL (Wp f r),bs):=by
 have h1:=Qge f hf hM r hr bs
 rw[Qb F.tb_267 _ _ rfl]
 by_cases c1:U6 f r=0
 ·obtain⟨v1,v2,v3,v4⟩:=DW c1
  have h0:=De f hf bs
  have h2:=fun o=>Qgh f.t hf.tl r o bs hr
  obtain⟨t1,t2,t3,t4,t5⟩:=ZY v2
  have hpm:=MU (f:=f.t) (M:=1000000) (fun x hx=>by have:=hf.t x hx;omega) r
  have h3:=Db (Z3 f.t r) bs (by have:1000000*r.nodes≤1000000*400:=Nat.mul_le_mul_left _ t5;unfold big;omega)
  have hnm:=Tk (Z3 f.t r)
  have h4:=Qgi (Zf (Z3 f.t r)).1 bs (by omega)
  simp only[QL]at h3
  by_cases c2: (Zf (Z3 f.t r)).2=0
  ·cases c3:evT (Zf (Z3 f.t r)).1
   ·have e:Wp f r=(Qy,11):=by simp[Wp,c1,c2,c3]
    rw[e]
    simp[F.f267B,F.f267C,F.f267R,F.f267K,QX,QG,Q4,h0,h1,h2,h3,h4,c1,c2,c3,QD,QA]
   ·have e:Wp f r=((Zf (Z3 f.t r)).1,0):=by simp[Wp,c1,c2,c3]
    rw[e]
    simp[F.f267B,F.f267C,F.f267R,F.f267K,QX,QG,Q4,h0,h1,h2,h3,h4,c1,c2,c3,QD]
  ·have e:Wp f r=(Qy,(Zf (Z3 f.t r)).2):=by simp[Wp,c1,c2]
   rw[e]
   simp[F.f267B,F.f267C,F.f267R,F.f267K,QX,QG,Q4,h0,h1,h2,h3,c1,c2,QD,QA]
 ·have e:Wp f r=(Qy,U6 f r):=by simp[Wp,c1]
  rw[e]
  simp[F.f267B,F.f267C,F.f267R,F.f267K,QX,QG,Q4,h1,c1,QD,QA]
end Go.Am
namespace Go.Am
set_option maxRecDepth 8000
end Go.Am
namespace Go.Am
set_option maxRecDepth 8000
def V6 (n:List UInt8):Bool:=n == XOR || n == Zq || n == EXP || n == MUL || n == INV || n == ONE
def YQ (n:List UInt8):Bool:= !V6 n && !Yq n
def evG (p:List UInt8→Bool) (t:Tm):Bool:=(QY t).all fun x=> !decide (x.kind=3) || p x.name
def ME (p:List UInt8→Bool) (ts:List Tm):Bool:=(allL ts).all fun x=> !decide (x.kind=3) || p x.name
theorem QjY (p:List UInt8→Bool) (k:Int) (n:List UInt8) (s:Int) (ks:List Tm):evG p (.mk k n s ks)=((!decide (k=3) || p n) && ME p ks):=by
 simp only[evG,ME,QY,List.all_cons]
 rfl
theorem Qbf (p:List UInt8→Bool) (t:Tm) (ts:List Tm):ME p (t:: ts)=(evG p t && ME p ts):=by simp[evG,ME,allL,List.all_append]
theorem FR (g:Nat) (p:List UInt8→Bool) (t:Tm) (bs:List (List AV)) (hm:t.mass < big) (ih: ∀x∈t.kids,∀bs,call F.tb 207 [.agg (Qa x),.fn g []] bs=some (.bool (evG p x),bs)):
  ∀(post pre:List Tm) (ρ:Nat→AV),t.kids=pre ++ post→ρ 1= .fn g []→ρ 18= .sl false 4 (encTs t.kids)→ρ 19= .int .i64 t.kids.length→ρ 20= .int .i64 pre.length→
  R F.tb (.loop F.f207l0) ρ bs (Qk 0 (Qv F.tb F.f207r0 (Qx F.f207 bs)))=some (.bool (ME p post),bs):=by
 have hm2:=Qo t
 unfold big at hm
 intro post
 induction post with
 | nil=>
  intro pre ρ hk h1 h18 h19 h20
  simp only[List.append_nil]at hk
  rw[← hk]at h20
  have e:ME p []=true:=rfl
  rw[Qc F.f207l0.eq_1,e]
  simp[h1,h18,h19,h20,F.f207r0,F.f207R,F.f207K]
 | cons x post IH=>
  intro pre ρ hk h1 h18 h19 h20
  have hg:=Qp hk
  have hll:t.kids.length=pre.length+ (post.length+1):=by rw[hk];simp
  have hw1:IntKind.i64.wrap ((pre.length:Int)+1)=(pre.length:Int)+1:=Ql (by omega) (by omega)
  have hlt: (pre.length:Int) < (t.kids.length:Int):=by omega
  have hc:=ih x (by rw[hk];simp) bs
  rw[Qc F.f207l0.eq_1,Qbf]
  cases hb:evG p x
  ·simp[h1,h18,h19,h20,hg,hlt,hc,hb,F.f207R,F.f207K]
  ·have h2:=fun ρ=>IH (pre ++ [x]) ρ (by rw[hk];simp)
   simp[h1,h18,h19,h20,hg,hlt,hw1,hc,hb]
   apply h2 <;> simp[h1,h18,h19]
theorem QcR (g:Nat) (p:List UInt8→Bool) (hp: ∀n bs,call F.tb g [.str n] bs=some (.bool (p n),bs)): ∀(t:Tm) (bs:List (List AV)),t.mass < big→call F.tb 207 [.agg (Qa t),.fn g []] bs=some (.bool (evG p t),bs):=by
 refine Zh ?_
 intro k n s ks ih bs hm
 have hl:=fun ρ=>FR g p (.mk k n s ks) bs hm (fun x hx bs=>ih x hx bs (by have h1:x.mass≤massL ks:=Qz hx;have:=Qo (.mk k n s ks);simp only[QJ]at this;omega)) ks [] ρ rfl
 have h2:=hp n bs
 simp only[QJ]at hl
 rw[Qb F.tb_207 _ _ rfl,QjY]
 by_cases hk:k=3
 ·cases hd:p n
  ·simp[F.f207B,F.f207C,hk,hd,h2,F.f207R,F.f207K]
  ·simp[F.f207B,F.f207C,hk,hd,h2]
   apply hl <;> simp
 ·simp[F.f207B,F.f207C,hk]
  apply hl <;> simp
theorem Qgm (n:List UInt8) (bs:List (List AV)):call F.tb 405 [.str n] bs=some (.bool (YQ n),bs):=by
 have h1:=YG n bs
 have hk:=N4 n
 have h2: ∃v0 v1 v2,(match Zm n Yl with | some s=>XK s | none=>[AV.str [],.int .i64 0,.int .i64 0,.int .i64 0])=[v0,v1,v2,.int .i64 (Wq n)]∧v0.strip=v0∧v1.strip=v1∧v2.strip=v2:=by
  unfold Wq
  cases Zm n Yl with
  | none=>exact⟨_,_,_,rfl,rfl,rfl,rfl⟩
  | some y=>exact⟨_,_,_,rfl,rfl,rfl,rfl⟩
 obtain⟨v0,v1,v2,h2,s0,s1,s2⟩:=h2
 have h1:=h1.trans (congrArg (fun z=>some (AV.agg z,bs)) h2)
 have key: ∀ρ:Nat→AV,V6 n=false→YQ n= !decide (Wq n=3):=fun _ h=>by simp[YQ,h,hk]
 rw[Qb F.tb_405 _ _ rfl]
 by_cases c1:n=XOR
 ·simp[F.f405B,F.f405C,F.f405R,F.f405K,YQ,V6,XOR,c1]
 by_cases c2:n=Zq
 ·simp[F.f405B,F.f405C,F.f405R,F.f405K,YQ,V6,Zq,c2]
 by_cases c3:n=EXP
 ·simp[F.f405B,F.f405C,F.f405R,F.f405K,YQ,V6,EXP,c3]
 by_cases c4:n=MUL
 ·simp[F.f405B,F.f405C,F.f405R,F.f405K,YQ,V6,MUL,c4]
 by_cases c5:n=INV
 ·simp[F.f405B,F.f405C,F.f405R,F.f405K,YQ,V6,INV,c5]
 by_cases c6:n=ONE
 ·simp[F.f405B,F.f405C,F.f405R,F.f405K,YQ,V6,ONE,c6]
 have ha:V6 n=false:=by simp[V6,c1,c2,c3,c4,c5,c6]
 rw[key (fun _=> .undef) ha]
 simp only[XOR,Zq,EXP,MUL,INV,ONE]at c1 c2 c3 c4 c5 c6
 have f1:=beq_eq_false_iff_ne.2 c1
 have f2:=beq_eq_false_iff_ne.2 c2
 have f3:=beq_eq_false_iff_ne.2 c3
 have f4:=beq_eq_false_iff_ne.2 c4
 have f5:=beq_eq_false_iff_ne.2 c5
 have f6:=beq_eq_false_iff_ne.2 c6
 simp[F.f405B,F.f405C,F.f405R,F.f405K,c1,c2,c3,c4,c5,c6,f1,f2,f3,f4,f5,f6,h1,s0,s1,s2]
def VE (t:Tm):Bool:=decide (thV t=0) && evG YQ t
theorem Qgl (t:Tm) (bs:List (List AV)) (hm:t.mass < big):call F.tb 404 [.agg (Qa t)] bs=some (.bool (VE t),bs):=by
 have h1:=W5 t bs hm
 have h2:=QcR 405 YQ Qgm t bs hm
 rw[Qb F.tb_404 _ _ rfl]
 by_cases c:thV t=0
 ·simp[F.f404B,F.f404C,F.f404R,F.f404K,h1,h2,c,VE]
 ·simp[F.f404B,F.f404C,F.f404R,F.f404K,h1,c,VE]
theorem Qgk (t:Tm) (bs:List (List AV)) (hm:t.mass < big):call F.tb 403 [.agg (Qa t)] bs=some (.bool (!VE t),bs):=by
 have h1:=Qgl t bs hm
 rw[Qb F.tb_403 _ _ rfl]
 simp[F.f403B,F.f403C,F.f403R,F.f403K,h1]
def Vu (f:Fr):Int:=if Za f≠0 then Za f else if f.t.any (fun t=> !VE t)then 10 else 0
theorem Di (f:Fr) (hf:FOk f) (bs:List (List AV)):call F.tb 412 [.agg (Qq f)] bs=some (.int .i64 (Vu f),bs):=by
 have h1:=KE f bs hf
 have h2:=fun o=>Mw f.t 403 [] (fun t=> !VE t) o bs hf.tl (by simp) (fun x hx=>Qgk x bs (by have:=hf.t x hx;unfold big;omega))
 have hte:Qq f=[.sl false 4 (encTs f.s),.sl false 4 (encTs f.t)]:=rfl
 rw[hte]at h1 ⊢
 rw[Qb F.tb_412 _ _ rfl]
 unfold Vu
 generalize f.t.any (fun t=> !VE t)=B at *
 by_cases c:Za f=0
 ·cases B
  ·simp[F.f412B,F.f412C,F.f412R,F.f412K,h1,h2,c]
  ·simp[F.f412B,F.f412C,F.f412R,F.f412K,h1,h2,c]
 ·simp[F.f412B,F.f412C,F.f412R,F.f412K,h1,c]
end Go.Am
namespace Go.Am
set_option maxRecDepth 8000
theorem KO (n:List UInt8) (bs:List (List AV)):call F.tb 442 [.str n] bs=some (.bool (V6 n),bs):=by
 rw[Qb F.tb_442 _ _ rfl]
 have e: ∀m:List UInt8,(n == m)=decide (n=m):=fun m=>by by_cases h:n=m <;> simp[h]
 have ea:V6 n=(decide (n=[120,111,114]) || decide (n=[122,101,114,111]) || decide (n=[101,120,112]) || decide (n=[109,117,108]) || decide (n=[105,110,118]) || decide (n=[111,110,101])):=by
  simp only[V6,XOR,Zq,EXP,MUL,INV,ONE,e]
 rw[ea]
 by_cases c1:n=[120,111,114]
 ·simp[F.f442B,F.f442C,F.f442R,F.f442K,c1]
 by_cases c2:n=[122,101,114,111]
 ·simp[F.f442B,F.f442C,F.f442R,F.f442K,c2]
 by_cases c3:n=[101,120,112]
 ·simp[F.f442B,F.f442C,F.f442R,F.f442K,c3]
 by_cases c4:n=[109,117,108]
 ·simp[F.f442B,F.f442C,F.f442R,F.f442K,c4]
 by_cases c5:n=[105,110,118]
 ·simp[F.f442B,F.f442C,F.f442R,F.f442K,c5]
 by_cases c6:n=[111,110,101]
 ·simp[F.f442B,F.f442C,F.f442R,F.f442K,c6]
 have f1:=beq_eq_false_iff_ne.2 c1
 have f2:=beq_eq_false_iff_ne.2 c2
 have f3:=beq_eq_false_iff_ne.2 c3
 have f4:=beq_eq_false_iff_ne.2 c4
 have f5:=beq_eq_false_iff_ne.2 c5
 have f6:=beq_eq_false_iff_ne.2 c6
 simp[F.f442B,F.f442C,F.f442R,F.f442K,c1,c2,c3,c4,c5,c6,f1,f2,f3,f4,f5,f6]
theorem C0 (l:List Tm) (bs:List (List AV)) (hl:l.length < 1000000000):
  ∀(post pre:List Tm) (ρ:Nat→AV),l=pre ++ post→ρ 3= .sl false 4 (encTs l)→ρ 4= .int .i64 pre.length→
  R F.tb (.loop F.f441l0) ρ bs (Qk 0 (Qv F.tb F.f441r0 (Qx F.f441 bs)))=some (.bool (post.all fun x=> !decide (x.kind=3) || YQ x.name),bs):=by
 intro post
 induction post with
 | nil=>
  intro pre ρ hk h3 h4
  simp only[List.append_nil]at hk
  rw[← hk]at h4
  rw[Qc F.f441l0.eq_1]
  simp[h3,h4,F.f441r0,F.f441R,F.f441K]
 | cons x post IH=>
  intro pre ρ hk h3 h4
  have hg:=Qp hk
  have hll:l.length=pre.length+ (post.length+1):=by rw[hk];simp
  have hw1:IntKind.i64.wrap ((pre.length:Int)+1)=(pre.length:Int)+1:=Ql (by omega) (by omega)
  have hlt: (pre.length:Int) < (l.length:Int):=by omega
  have h2:=fun ρ=>IH (pre ++ [x]) ρ (by rw[hk];simp)
  have hk3:=N4 x.name
  have ea: ((x:: post).all fun x=> !decide (x.kind=3) || YQ x.name)=((!decide (x.kind=3) || YQ x.name) && post.all fun x=> !decide (x.kind=3) || YQ x.name):=rfl
  rw[Qc F.f441l0.eq_1,ea]
  generalize (post.all fun x=> !decide (x.kind=3) || YQ x.name)=V at *
  by_cases c1:x.kind=3
  ·cases c2:V6 x.name
   ·by_cases c3:Wq x.name=3
    ·have c4:YQ x.name=false:=by simp[YQ,c2,← hk3,c3]
     simp[h3,h4,hg,hlt,Qj,c1,c2,c3,c4,KO,T3,F.f441R,F.f441K]
    ·have c4:YQ x.name=true:=by simp[YQ,c2,← hk3,c3]
     simp[h3,h4,hg,hlt,hw1,Qj,c1,c2,c3,c4,KO,T3,F.f441R,F.f441K]
     apply h2 <;> simp[h3]
   ·have c4:YQ x.name=false:=by simp[YQ,c2]
    simp[h3,h4,hg,hlt,Qj,c1,c2,c4,KO,F.f441R,F.f441K]
  ·simp[h3,h4,hg,hlt,hw1,Qj,c1]
   apply h2 <;> simp[h3]
theorem Qgz (t:Tm) (bs:List (List AV)) (hm:t.mass < 100000000):call F.tb 441 [.agg (Qa t)] bs=some (.bool (VE t),bs):=by
 have h1:=W4 t bs (by unfold big;omega)
 have h2:=Uv t bs hm
 have hn:=Zj t
 have hl:=fun ρ=>C0 (QY t) bs (by rw[XG];omega) (QY t) [] ρ rfl
 rw[Qb F.tb_441 _ _ rfl]
 unfold VE evG
 by_cases c:thV t=0
 ·simp[F.f441B,F.f441C,h1,h2,c]
  apply hl <;> simp
 ·simp[F.f441B,F.f441C,F.f441R,F.f441K,h1,c]
theorem FT (f:Fr) (bs:List (List AV)) (hf:FOk f):
  ∀(post pre:List Tm) (ρ:Nat→AV),f.t=pre ++ post→ρ 1= .bx (Qq f)→ρ 4= .int .i64 pre.length→
  R F.tb (.loop F.f440l0) ρ bs (Qk 0 (Qv F.tb F.f440r0 (Qx F.f440 bs)))=some (.int .i64 (if post.any (fun t=> !VE t)then 10 else 0),bs):=by
 have htl:=hf.tl
 have hte:Qq f=[.sl false 4 (encTs f.s),.sl false 4 (encTs f.t)]:=rfl
 intro post
 induction post with
 | nil=>
  intro pre ρ hk h1 h4
  simp only[List.append_nil]at hk
  rw[← hk]at h4
  rw[Qc F.f440l0.eq_1]
  simp[h1,h4,hte,F.f440r0,F.f440R,F.f440K]
 | cons x post IH=>
  intro pre ρ hk h1 h4
  have hg:=Qp hk
  have hll:f.t.length=pre.length+ (post.length+1):=by rw[hk];simp
  have hw1:IntKind.i64.wrap ((pre.length:Int)+1)=(pre.length:Int)+1:=Ql (by omega) (by omega)
  have hlt: (pre.length:Int) < (f.t.length:Int):=by omega
  have hx:x.mass < 1000000:=hf.t x (by rw[hk];simp)
  have h2:=fun ρ=>IH (pre ++ [x]) ρ (by rw[hk];simp)
  have h3:=Qgz x bs (by omega)
  rw[Qc F.f440l0.eq_1]
  cases c:VE x
  ·rw[c]at h3
   simp[h1,h4,hte,hg,hlt,h3,c,F.f440R,F.f440K]
  ·rw[c]at h3
   simp[h1,h4,hte,hg,hlt,hw1,h3,c]
   simp only[Bool.not_eq_true',List.any_eq_true]at h2
   apply h2 <;> simp[h1,hte]
theorem Dl (f:Fr) (hf:FOk f) (bs:List (List AV)):call F.tb 440 [.agg (Qq f)] bs=some (.int .i64 (Vu f),bs):=by
 have h1:=Da f bs hf
 have hl:=fun ρ=>FT f bs hf f.t [] ρ rfl
 have hte:Qq f=[.sl false 4 (encTs f.s),.sl false 4 (encTs f.t)]:=rfl
 rw[Qb F.tb_440 _ _ rfl]
 unfold Vu
 generalize (if f.t.any (fun t=> !VE t)then(10:Int)else 0)=V at *
 rw[hte]at h1 hl ⊢
 by_cases c:Za f=0
 ·simp[F.f440B,F.f440C,h1,c]
  apply hl <;> simp
 ·simp[F.f440B,F.f440C,F.f440R,F.f440K,h1,c]
def GB (f:Fr):Bool:=few f.s 45 120 && (few f.t 6 40 || (decide (40 < f.t.length) && few f.t 45 45))
theorem QgA (f:Fr) (bs:List (List AV)):call F.tb 444 [.agg (Qq f)] bs=some (.bool (GB f),bs):=by
 have h1: ∀o,call F.tb 101 [.sl o 4 (encTs f.s),.int .i64 45,.int .i64 120] bs=some (.bool (few f.s 45 120),bs):=fun o=>MA f.s o 45 120 bs (by omega) (by omega) (by omega)
 have h2: ∀o,call F.tb 101 [.sl o 4 (encTs f.t),.int .i64 6,.int .i64 40] bs=some (.bool (few f.t 6 40),bs):=fun o=>MA f.t o 6 40 bs (by omega) (by omega) (by omega)
 have h3: ∀o,call F.tb 101 [.sl o 4 (encTs f.t),.int .i64 45,.int .i64 45] bs=some (.bool (few f.t 45 45),bs):=fun o=>MA f.t o 45 45 bs (by omega) (by omega) (by omega)
 have hte:Qq f=[.sl false 4 (encTs f.s),.sl false 4 (encTs f.t)]:=rfl
 have e: ((40:Int) < (f.t.length:Int))↔40 < f.t.length:=by omega
 rw[Qb F.tb_444 _ _ rfl,hte]
 unfold GB
 cases c1:few f.s 45 120
 ·rw[c1]at h1
  simp[F.f444B,F.f444C,F.f444R,F.f444K,h1]
 ·rw[c1]at h1
  cases c2:few f.t 6 40
  ·rw[c2]at h2
   by_cases c3:40 < f.t.length
   ·have c3':=e.2 c3
    cases c4:few f.t 45 45
    ·rw[c4]at h3
     simp[F.f444B,F.f444C,F.f444R,F.f444K,h1,h2,h3,c3,c3']
    ·rw[c4]at h3
     simp[F.f444B,F.f444C,F.f444R,F.f444K,h1,h2,h3,c3,c3']
   ·have c3': ¬(40:Int) < (f.t.length:Int):=fun h=>c3 (e.1 h)
    simp[F.f444B,F.f444C,F.f444R,F.f444K,h1,h2,c3,c3']
  ·rw[c2]at h2
   simp[F.f444B,F.f444C,F.f444R,F.f444K,h1,h2]
theorem Qdm {f:Fr} (h:GB f=true):FOk f∧massL f.t < 1000000:=by
 simp only[GB,Bool.and_eq_true,Bool.or_eq_true]at h
 obtain⟨a1,a2,_⟩:=MF (by omega) h.1
 have:massL f.t < 1000000∧f.t.length≤45:=by
  rcases h.2 with h | h
  ·obtain⟨b1,b2,_⟩:=MF (by omega) h
   omega
  ·obtain⟨b1,b2,_⟩:=MF (by omega) h.2
   omega
 exact⟨⟨fun x hx=>by have:=Qz hx;omega,fun x hx=>by have:=Qz hx;omega,by omega,by omega⟩,this.1⟩
end Go.Am
namespace Go.Am
set_option maxRecDepth 8000
structure Tst where
 l:Tm
 r:Tm
 f:Bool
def ZH (q:Tst):List AV:=Qa q.l ++ Qa q.r ++ [.bool q.f]
theorem VU (q:Tst):ZH q=[.int .i64 q.l.kind,.str q.l.name,.int .i64 q.l.sort,.sl false 4 (encTs q.l.kids),.int .i64 q.r.kind,.str q.r.name,.int .i64 q.r.sort,.sl false 4 (encTs q.r.kids),.bool q.f]:=by
 simp[ZH,Qj]
theorem Dh (t u:Tm) (bs:List (List AV)) (hm:t.mass < big) (hu:u.mass < big):call F.tb 410 [.agg (Qa t),.agg (Qa u)] bs=some (.bool (decide (Qm t u=0)),bs):=by
 have h1:=call_Compare t u bs hm hu
 have e1:=Qj t
 have e2:=Qj u
 rw[Qb F.tb_410 _ _ rfl]
 simp only[e1,e2]at h1 ⊢
 simp[F.f410B,F.f410C,F.f410R,F.f410K,h1]
end Go.Am
namespace Go.Am
set_option maxRecDepth 8000
theorem OE {f:Fr} (h:Za f=0):f.t.length≤40:=by
 by_cases c:40 < f.t.length
 ·simp[Za,c]at h
 ·omega
end Go.Am
namespace Go.Am
set_option maxRecDepth 8000
end Go.Am
namespace Go.Am
set_option maxRecDepth 8000
end Go.Am
namespace Go.Am
set_option maxRecDepth 8000
theorem Qbt {f:Fr} {x:Tm}:x∈Zt f↔x∈allL f.t∧x.kind=2∧Ib f.s x:=by
 unfold Zt
 rw[Wz,ST]
 simp
end Go.Am
namespace Go.Am
set_option maxRecDepth 8000
end Go.Am
