/-
  Rc26, Rc27, Rc28, Rc29, Rc30, Rc31, Rc32, Rc33.
-/
import Derived.Test.YtpgbndmkiiakaaaGreatDoorG19
set_option linter.unusedVariables false
set_option linter.unusedSimpArgs false
namespace Go.Am
set_option maxRecDepth 8000
theorem Ui {x:Tm}: ∀{ks:List Tm},x∈ks→x.nodes≤nodesL ks
 | [],h=>by cases h
 | t:: ts,h=>by
  simp only[nodesL]
  rcases List.mem_cons.1 h with rfl | h
  ·omega
  ·have:=Ui h;omega
theorem SI {n:List UInt8} (h:Yq n=true): (n=FST∨n=SND∨n=READ)∨(n=DEC∨n=Q5∨n=QT):=by
 simp only[Yq,Bool.or_eq_true,beq_iff_eq]at h
 rcases h with((((h | h) | h) | h) | h) | h <;> simp[h]
theorem QfF {n:List UInt8} {us:List Tm} (bs:List (List AV)) (hn:Yq n=true) (ha:Q6 n us.length=true) (hg:goodL us=true) (hm:massL us < 20000000):call F.tb 176 [.agg (Qa (.mk 3 n 0 us))] bs=some (.agg (Qa (QN n us)),bs):=by
 rcases SI hn with h | h
 ·have h1:us.length=1:=by rcases h with rfl | rfl | rfl <;> simpa[Q6,PK,Q7,ENC,Zc,QW,EXP,DEC,Q5,QT,FST,SND,READ]using ha
  obtain⟨a,rfl⟩:=List.length_eq_one_iff.1 h1
  simp only[goodL,Bool.and_eq_true]at hg
  simp only[massL]at hm
  exact Qc7 n a bs h hg.1 (by unfold big;omega)
 ·have h1:us.length=2:=by rcases h with rfl | rfl | rfl <;> simpa[Q6]using ha
  match us,h1,hg,hm with
  | [a,b],_,hg,hm=>
   simp only[goodL,Bool.and_eq_true]at hg
   simp only[massL]at hm
   exact Qc8 n a b bs h hg.1 hg.2.1 (by unfold big;omega) (by unfold big;omega)
theorem Qf5 {n:List UInt8} {us:List Tm} (bs:List (List AV)) (hn:Yq n=true) (ha:Q6 n us.length=true) (hg:goodL us=true) (hm:massL us < 20000000):Qcz (QN n us) bs (call F.tb 243 [.agg (Qa (.mk 3 n 0 us))] bs):=by
 rcases SI hn with h | h
 ·have h1:us.length=1:=by rcases h with rfl | rfl | rfl <;> simpa[Q6,PK,Q7,ENC,Zc,QW,EXP,DEC,Q5,QT,FST,SND,READ]using ha
  obtain⟨a,rfl⟩:=List.length_eq_one_iff.1 h1
  simp only[goodL,Bool.and_eq_true]at hg
  simp only[massL]at hm
  exact BT n a bs h hg.1 (by unfold big;omega)
 ·have h1:us.length=2:=by rcases h with rfl | rfl | rfl <;> simpa[Q6]using ha
  match us,h1,hg,hm with
  | [a,b],_,hg,hm=>
   simp only[goodL,Bool.and_eq_true]at hg
   simp only[massL]at hm
   exact BU n a b bs h hg.1 (by unfold big;omega) (by unfold big;omega)
def MX (us:List Tm) (n:List UInt8):Prop:=massL us+n.length+us.length < 15000000
set_option maxHeartbeats 2000000 in
theorem Qhx (t:Tm) (us:List Tm) (bs:List (List AV)) (ha:Q6 t.name us.length=true) (hg:goodL us=true) (hm:MX us t.name) (ρ:Nat→AV) (h1:ρ 1= .bx (Qa t)) (h2:ρ 2= .bx [.int .i64 0,.str [],.int .i64 0,.sl true 4 []])
  (h4:ρ 4= .bx [.int .i64 3,.str t.name,.int .i64 0,.sl true 4 (encTs us)]):R F.tb F.f175r0 ρ bs (Qx F.f175 bs)=some (QL (Ya t.name us),bs):=by
 unfold MX at hm
 have hf:=X6 3 t.name 0 us
 have hgp:gpfreeE (encTs us)=true:=encTs_gp us
 obtain⟨n,hn⟩: ∃n,t.name=n:=⟨_,rfl⟩
 rw[hn]at ha hm h4 hf ⊢
 cases hd:Yq n
 ·have hd':=hd
  simp only[Yq,Bool.or_eq_false_iff]at hd'
  obtain⟨⟨⟨⟨⟨d1,d2⟩,d3⟩,d4⟩,d5⟩,d6⟩:=hd'
  simp only[FST,SND,DEC,Q5,QT,READ]at d1 d2 d3 d4 d5 d6
  by_cases hx:n=XOR
  ·subst hx
   have e:Ya XOR us=Wm us:=by simp[Ya,hd]
   have hc:=QcT us false bs (by omega) (by omega)
   rw[e]
   simp only[QL]at hc ⊢
   simp only[XOR]at *
   simp[F.f175r0,h1,h2,h4,hn,hc,F.f175R,F.f175K]
  ·by_cases hp:n=MUL∨n=INV∨n=ONE
   ·have e:Ya n us=Yg (.mk 3 n 0 us):=by simp only[Ya,hd,hx,hp,if_true,if_false];simp
    have hmass: (Tm.mk 3 n 0 us).mass < 20000000:=by simp only[Tm.mass];omega
    have hc:=KF (.mk 3 n 0 us) bs (by omega)
    have hc2:=Mv false bs (PZ (.mk 3 n 0 us) 25000000 (by omega)) (T7 _)
    rw[← hf]at hc
    rw[e]
    by_cases c:ofE (.mk 3 n 0 us)=0
    ·have e2:Yg (.mk 3 n 0 us)=ZA (ofP (.mk 3 n 0 us)):=by simp[Yg,c]
     rw[e2]
     simp only[QL]at hc2 ⊢
     rw[c]at hc
     generalize ofP (.mk 3 n 0 us)=P at *
     rcases hp with rfl | rfl | rfl
     ·simp only[MUL]at *
      simp[F.f175r0,h1,h2,h4,hn,hc,hc2,F.f175R,F.f175K]
     ·simp only[INV]at *
      simp[F.f175r0,h1,h2,h4,hn,hc,hc2,F.f175R,F.f175K]
     ·simp only[ONE]at *
      simp[F.f175r0,h1,h2,h4,hn,hc,hc2,F.f175R,F.f175K]
    ·have e2:Yg (.mk 3 n 0 us)=(Qy,ofE (.mk 3 n 0 us)):=by simp[Yg,c]
     rw[e2]
     generalize ofE (.mk 3 n 0 us)=E at *
     generalize ofP (.mk 3 n 0 us)=P at *
     rcases hp with rfl | rfl | rfl
     ·simp only[MUL]at *
      simp[F.f175r0,h1,h2,h4,hn,hc,c,F.f175R,F.f175K,QD,QA]
     ·simp only[INV]at *
      simp[F.f175r0,h1,h2,h4,hn,hc,c,F.f175R,F.f175K,QD,QA]
     ·simp only[ONE]at *
      simp[F.f175r0,h1,h2,h4,hn,hc,c,F.f175R,F.f175K,QD,QA]
   ·by_cases he:n=EXP
    ·have e:Ya n us=YO (us.getD 0 Qy) (us.getD 1 Qy):=by subst he;simp only[Ya,hd,if_neg hx,if_neg hp];simp
     subst he
     have hl:us.length=2:=by simpa[Q6]using ha
     match us,hl,hg,hm,h4,e with
     | [x,y],_,hg,hm,h4,e=>
      simp only[goodL,Bool.and_eq_true]at hg
      simp only[massL]at hm
      have hc:=QfK x y bs hg.1 (by omega) (by omega)
      rw[e]
      simp only[QL]at hc ⊢
      simp only[List.getD_cons_zero,List.getD_cons_succ]at *
      simp only[EXP]at *
      simp[F.f175r0,h1,h2,h4,hn,hc,F.f175R,F.f175K]
    ·have e:Ya n us=(.mk 3 n 0 us,0):=by simp only[Ya,hd,hx,hp,he,if_false];simp
     rw[e]
     have b1: (n == XOR)=false:=by simpa using hx
     have b2: (n == MUL)=false:=by simp at hp ⊢;exact hp.1
     have b3: (n == INV)=false:=by simp at hp ⊢;exact hp.2.1
     have b4: (n == ONE)=false:=by simp at hp ⊢;exact hp.2.2
     have b5: (n == EXP)=false:=by simpa using he
     simp only[XOR,MUL,INV,ONE,EXP]at b1 b2 b3 b4 b5
     simp[F.f175r0,h1,h2,h4,hn,d1,d2,d3,d4,d5,d6,b1,b2,b3,b4,b5,F.f175R,F.f175K,QD,Qj]
 ·have e:Ya n us=(QN n us,0):=by simp[Ya,hd]
  have hc:=QfF bs hd ha hg (by omega)
  rw[← hf]at hc
  rw[e]
  generalize QN n us=D at *
  rcases SI hd with(rfl | rfl | rfl) | (rfl | rfl | rfl)
  ·simp only[FST]at *
   simp[F.f175r0,h1,h2,h4,hn,hc,F.f175R,F.f175K,QD]
  ·simp only[SND]at *
   simp[F.f175r0,h1,h2,h4,hn,hc,F.f175R,F.f175K,QD]
  ·simp only[READ]at *
   simp[F.f175r0,h1,h2,h4,hn,hc,F.f175R,F.f175K,QD]
  ·simp only[DEC]at *
   simp[F.f175r0,h1,h2,h4,hn,hc,F.f175R,F.f175K,QD]
  ·simp only[Q5]at *
   simp[F.f175r0,h1,h2,h4,hn,hc,F.f175R,F.f175K,QD]
  ·simp only[QT]at *
   simp[F.f175r0,h1,h2,h4,hn,hc,F.f175R,F.f175K,QD]
def Xj (n:List UInt8) (us:List Tm) (r:List Tm×Int):Tm×Int:=if r.2=0 then Ya n (us ++ r.1)else(Qy,r.2)
theorem QbN (t:Tm) (bs:List (List AV)) (hg:QU t=true) (hk3:t.kind=3) (hm:t.mass+13200*t.nodes < 15000000) (ih: ∀x∈t.kids,∀bs,call F.tb 175 [.agg (Qa x)] bs=some (QL (Zn x),bs)):
  ∀(post pre us:List Tm) (ρ:Nat→AV),t.kids=pre ++ post→us.length=pre.length→goodL us=true→massL us≤massL pre+13200*nodesL pre→ρ 1= .bx (Qa t)→ρ 2= .bx [.int .i64 0,.str [],.int .i64 0,.sl true 4 []]→
   ρ 4= .bx [.int .i64 3,.str t.name,.int .i64 0,.sl true 4 (encTs us)]→ρ 19= .sl false 4 (encTs t.kids)→ρ 20= .int .i64 t.kids.length→ρ 21= .int .i64 pre.length→
  R F.tb (.loop F.f175l0) ρ bs (Qk 0 (Qv F.tb F.f175r0 (Qx F.f175 bs)))=some (QL (Xj t.name us (normL post)),bs):=by
 have hme:=Qo t
 have hne:=ZO t
 intro post
 induction post with
 | nil=>
  intro pre us ρ hk hl hgu hmu h1 h2 h4 h19 h20 h21
  simp only[List.append_nil]at hk
  rw[← hk]at h21 hl hmu
  have har:=(Wy hg hk3).2
  have hr:=Qhx t us bs (by rw[hl];exact har) hgu (by unfold MX;omega)
  have e:Xj t.name us (normL [])=Ya t.name us:=by simp[Xj,normL]
  rw[Qc F.f175l0.eq_1,e]
  simp[h1,h2,h4,h19,h20,h21]
  apply hr <;> simp[h1,h2,h4]
 | cons x post IH=>
  intro pre us ρ hk hl hgu hmu h1 h2 h4 h19 h20 h21
  have hg2:=Qp hk
  have hll:t.kids.length=pre.length+ (post.length+1):=by rw[hk];simp
  have hw1:IntKind.i64.wrap ((pre.length:Int)+1)=(pre.length:Int)+1:=Ql (by omega) (by omega)
  have hlt: (pre.length:Int) < (t.kids.length:Int):=by omega
  have hxk:x∈t.kids:=by rw[hk];simp
  have hc:=ih x hxk bs
  obtain⟨n1,n2⟩:=Sq x (YE.1 (Xc hg) x hxk)
  simp only[QL]at hc
  rw[Qc F.f175l0.eq_1]
  by_cases c: (Zn x).2=0
  ·have e:Xj t.name us (normL (x:: post))=Xj t.name (us ++ [(Zn x).1]) (normL post):=by
    simp only[Xj,normL,c,if_true]
    by_cases c2: (normL post).2=0
    ·simp[c2]
    ·simp[c2]
   have hb: (us.length+1)*56≤140737488355328:=Yr (by omega)
   have hi:=fun ρ=>IH (pre ++ [x]) (us ++ [(Zn x).1]) ρ (by rw[hk];simp) (by simp[hl]) (YE.2 fun y hy=>by
    rcases List.mem_append.1 hy with hy | hy
    ·exact YE.1 hgu y hy
    ·simp at hy;subst hy;exact n1) (by rw[XL,XL,Yj];simp only[massL,nodesL];omega)
   rw[e]
   simp[h1,h2,h4,h19,h20,h21,hg2,hlt,hw1,hc,c,hb,Zb,QQ]
   apply hi <;> simp[h1,h2,h19,h20]
  ·have e:Xj t.name us (normL (x:: post))=(Qy,(Zn x).2):=by simp[Xj,normL,c]
   rw[e]
   simp[h1,h2,h4,h19,h20,h21,hg2,hlt,hc,c,F.f175R,F.f175K,QD,QA]
theorem QfE: ∀(t:Tm) (bs:List (List AV)),QU t=true→t.mass+13200*t.nodes < 15000000→call F.tb 175 [.agg (Qa t)] bs=some (QL (Zn t),bs):=by
 refine Zh ?_
 intro k n s ks ih bs hg hm
 have hme:=Qo (.mk k n s ks)
 have hne:=ZO (.mk k n s ks)
 simp only[QJ,Q3]at hme hne
 rw[Qb F.tb_175 _ _ rfl]
 by_cases hk:k=3
 ·subst hk
  have hl:=fun ρ=>QbN (.mk 3 n s ks) bs hg rfl hm (fun x hx bs=>ih x hx bs (YE.1 (Xc hg) x hx) (by have h1:x.mass≤massL ks:=Qz hx;have h2:x.nodes≤nodesL ks:=Ui hx;omega)) ks [] [] ρ rfl rfl rfl (by simp[massL])
  have e:Zn (.mk 3 n s ks)=Xj n [] (normL ks):=by simp[Zn,Xj]
  rw[e]
  simp only[Q3,QJ]at hl
  simp[F.f175B,F.f175C]
  apply hl <;> simp[encTs]
 ·have e:Zn (.mk k n s ks)=(.mk k n s ks,0):=by simp[Zn,hk]
  rw[e]
  simp[F.f175B,F.f175C,hk,F.f175R,F.f175K,QD]
end Go.Am
namespace Go.Am
set_option maxRecDepth 8000
theorem S3 {n:List UInt8}: ∀{l:List Sy} {y:Sy},Zm n l=some y→y∈l∧y.n=n
 | [],y,h=>by simp[Zm]at h
 | s:: ss,y,h=>by
  simp only[Zm]at h
  split at h
  ·rename_i hs;injection h with h;subst h;exact⟨by simp,hs⟩
  ·obtain⟨h1,h2⟩:=S3 h;exact⟨by simp[h1],h2⟩
theorem Qei:Yl.all (fun y=> !(y.k == 3) || Yq y.n)=true:=by decide
def Wq (n:List UInt8):Int:=match Zm n Yl with | some y=>y.k | none=>0
theorem N4 (n:List UInt8):decide (Wq n=3)=Yq n:=by
 unfold Wq
 cases hd:Yq n
 ·cases hf:Zm n Yl with
  | none=>simp
  | some y=>
   obtain⟨h1,h2⟩:=S3 hf
   have h3:=List.all_eq_true.1 Qei y h1
   rw[h2,hd]at h3
   simpa using h3
 ·rcases SI hd with(rfl | rfl | rfl) | (rfl | rfl | rfl) <;> simp[FST,SND,DEC,Q5,QT,READ,Zm,Yl]
theorem T3 (n:List UInt8) (bs:List (List AV)):call F.tb 128 [.str n] bs=some (.int .i64 (Wq n),bs):=Jd n bs
set_option maxHeartbeats 4000000 in
theorem QcG (t:Tm) (us:List Tm) (bs:List (List AV)) (ha:Q6 t.name us.length=true) (hg:goodL us=true) (hm:MX us t.name) (ρ:Nat→AV) (h1:ρ 1= .bx (Qa t)) (h2:ρ 2= .bx [.int .i64 0,.str [],.int .i64 0,.sl true 4 []])
  (h4:ρ 4= .sl true 4 (encTs us)):R F.tb F.f242r0 ρ bs (Qx F.f242 bs)=some (QL (Ya t.name us),bs):=by
 unfold MX at hm
 obtain⟨n,hn⟩: ∃n,t.name=n:=⟨_,rfl⟩
 rw[hn]at ha hm ⊢
 have hap:=YD n us false bs (by omega)
 have hkn:=T3 n bs
 have hk3:=N4 n
 cases hd:Yq n
 ·rw[hd]at hk3
  have hk3': ¬Wq n=3:=by simpa using hk3
  generalize Wq n=KK at *
  by_cases hx:n=XOR
  ·subst hx
   have e:Ya XOR us=Wm us:=by simp[Ya,hd]
   have hc:=CC us false bs (by omega) (by omega)
   rw[e]
   simp only[QL]at hc ⊢
   simp only[XOR]at *
   simp[F.f242r0,h1,h2,h4,hn,hap,hkn,hk3',hc,F.f242R,F.f242K]
  ·have b1: (n == XOR)=false:=by simpa using hx
   simp only[XOR]at b1
   by_cases hp:n=MUL∨n=INV∨n=ONE
   ·have e:Ya n us=Yg (.mk 3 n 0 us):=by simp only[Ya,hd,hx,hp,if_true,if_false];simp
    have hmass: (Tm.mk 3 n 0 us).mass < 20000000:=by simp only[Tm.mass];omega
    have hc:=Qf6 (.mk 3 n 0 us) bs (by omega)
    rw[e]
    simp only[QL]at hc ⊢
    generalize Yg (.mk 3 n 0 us)=P at *
    rcases hp with rfl | rfl | rfl
    ·simp only[MUL]at *
     simp[F.f242r0,h1,h2,h4,hn,hap,hkn,hk3',hc,F.f242R,F.f242K]
    ·simp only[INV]at *
     simp[F.f242r0,h1,h2,h4,hn,hap,hkn,hk3',hc,F.f242R,F.f242K]
    ·simp only[ONE]at *
     simp[F.f242r0,h1,h2,h4,hn,hap,hkn,hk3',hc,F.f242R,F.f242K]
   ·by_cases he:n=EXP
    ·have e:Ya n us=YO (us.getD 0 Qy) (us.getD 1 Qy):=by subst he;simp only[Ya,hd,if_neg hx,if_neg hp];simp
     subst he
     have hl:us.length=2:=by simpa[Q6]using ha
     match us,hl,hg,hm,h4,e,hap with
     | [x,y],_,hg,hm,h4,e,hap=>
      simp only[goodL,Bool.and_eq_true]at hg
      simp only[massL]at hm
      have hc:=Qga x y bs hg.1 (by omega) (by omega)
      rw[e]
      simp only[QL]at hc ⊢
      simp only[List.getD_cons_zero,List.getD_cons_succ]at *
      simp only[EXP]at *
      simp[F.f242r0,h1,h2,h4,hn,hap,hkn,hk3',hc,F.f242R,F.f242K]
    ·have e:Ya n us=(.mk 3 n 0 us,0):=by simp only[Ya,hd,hx,hp,he,if_false];simp
     rw[e]
     have b2: (n == MUL)=false:=by simp at hp ⊢;exact hp.1
     have b3: (n == INV)=false:=by simp at hp ⊢;exact hp.2.1
     have b4: (n == ONE)=false:=by simp at hp ⊢;exact hp.2.2
     have b5: (n == EXP)=false:=by simpa using he
     simp only[MUL,INV,ONE,EXP]at b2 b3 b4 b5
     simp[F.f242r0,h1,h2,h4,hn,hap,hkn,hk3',b1,b2,b3,b4,b5,F.f242R,F.f242K,QD]
 ·rw[hd]at hk3
  have hk3':Wq n=3:=by simpa using hk3
  rw[hk3']at hkn
  have e:Ya n us=(QN n us,0):=by simp[Ya,hd]
  obtain⟨b,hc⟩:=Qf5 bs hd ha hg (by omega)
  rw[e]
  generalize QN n us=D at *
  simp[F.f242r0,h1,h2,h4,hn,hap,hkn,hc,F.f242R,F.f242K,QD]
theorem Ci (t:Tm) (bs:List (List AV)) (hg:QU t=true) (hk3:t.kind=3) (hm:t.mass+13200*t.nodes < 15000000) (ih: ∀x∈t.kids,∀bs,call F.tb 242 [.agg (Qa x)] bs=some (QL (Zn x),bs)):
  ∀(post pre us:List Tm) (ρ:Nat→AV),t.kids=pre ++ post→us.length=pre.length→goodL us=true→massL us≤massL pre+13200*nodesL pre→ρ 1= .bx (Qa t)→ρ 2= .bx [.int .i64 0,.str [],.int .i64 0,.sl true 4 []]→
   ρ 4= .sl true 4 (encTs us)→ρ 5= .int .i64 pre.length→
  R F.tb (.loop F.f242l0) ρ bs (Qk 0 (Qv F.tb F.f242r0 (Qx F.f242 bs)))=some (QL (Xj t.name us (normL post)),bs):=by
 have hme:=Qo t
 have hne:=ZO t
 intro post
 induction post with
 | nil=>
  intro pre us ρ hk hl hgu hmu h1 h2 h4 h5
  simp only[List.append_nil]at hk
  rw[← hk]at h5 hl hmu
  have har:=(Wy hg hk3).2
  have hr:=QcG t us bs (by rw[hl];exact har) hgu (by unfold MX;omega)
  have e:Xj t.name us (normL [])=Ya t.name us:=by simp[Xj,normL]
  rw[Qc F.f242l0.eq_1,e]
  simp[h1,h2,h4,h5]
  apply hr <;> simp[h1,h2,h4]
 | cons x post IH=>
  intro pre us ρ hk hl hgu hmu h1 h2 h4 h5
  have hg2:=Qp hk
  have hll:t.kids.length=pre.length+ (post.length+1):=by rw[hk];simp
  have hw1:IntKind.i64.wrap ((pre.length:Int)+1)=(pre.length:Int)+1:=Ql (by omega) (by omega)
  have hlt: (pre.length:Int) < (t.kids.length:Int):=by omega
  have hxk:x∈t.kids:=by rw[hk];simp
  have hc:=ih x hxk bs
  obtain⟨n1,n2⟩:=Sq x (YE.1 (Xc hg) x hxk)
  simp only[QL]at hc
  rw[Qc F.f242l0.eq_1]
  by_cases c: (Zn x).2=0
  ·have e:Xj t.name us (normL (x:: post))=Xj t.name (us ++ [(Zn x).1]) (normL post):=by
    simp only[Xj,normL,c,if_true]
    by_cases c2: (normL post).2=0
    ·simp[c2]
    ·simp[c2]
   have hb: (us.length+1)*56≤140737488355328:=Yr (by omega)
   have hi:=fun ρ=>IH (pre ++ [x]) (us ++ [(Zn x).1]) ρ (by rw[hk];simp) (by simp[hl]) (YE.2 fun y hy=>by
    rcases List.mem_append.1 hy with hy | hy
    ·exact YE.1 hgu y hy
    ·simp at hy;subst hy;exact n1) (by rw[XL,XL,Yj];simp only[massL,nodesL];omega)
   rw[e]
   simp[h1,h2,h4,h5,hg2,hlt,hw1,hc,c,hb,Zb,QQ]
   apply hi <;> simp[h1,h2]
  ·have e:Xj t.name us (normL (x:: post))=(Qy,(Zn x).2):=by simp[Xj,normL,c]
   rw[e]
   simp[h1,h2,h4,h5,hg2,hlt,hc,c,F.f242R,F.f242K,QD,QA]
theorem Qf4: ∀(t:Tm) (bs:List (List AV)),QU t=true→t.mass+13200*t.nodes < 15000000→call F.tb 242 [.agg (Qa t)] bs=some (QL (Zn t),bs):=by
 refine Zh ?_
 intro k n s ks ih bs hg hm
 have hme:=Qo (.mk k n s ks)
 have hne:=ZO (.mk k n s ks)
 simp only[QJ,Q3]at hme hne
 rw[Qb F.tb_242 _ _ rfl]
 by_cases hk:k=3
 ·subst hk
  have hl:=fun ρ=>Ci (.mk 3 n s ks) bs hg rfl hm (fun x hx bs=>ih x hx bs (YE.1 (Xc hg) x hx) (by have h1:x.mass≤massL ks:=Qz hx;have h2:x.nodes≤nodesL ks:=Ui hx;omega)) ks [] [] ρ rfl rfl rfl (by simp[massL])
  have e:Zn (.mk 3 n s ks)=Xj n [] (normL ks):=by simp[Zn,Xj]
  rw[e]
  simp only[Q3,QJ]at hl
  simp[F.f242B,F.f242C]
  apply hl <;> simp[encTs]
 ·have e:Zn (.mk k n s ks)=(.mk k n s ks,0):=by simp[Zn,hk]
  rw[e]
  simp[F.f242B,F.f242C,hk,F.f242R,F.f242K,QD]
end Go.Am
namespace Go.Am
set_option maxRecDepth 8000
def Zf (t:Tm):Tm×Int:=if thV t≠0 then(Qy,thV t)else if(Zn t).2≠0 then(Qy,(Zn t).2)else if QF (Zn t).1≠0 then(Qy,QF (Zn t).1)else((Zn t).1,0)
theorem ZY {t:Tm} (h:thV t=0):QF t=0∧Yk t=0∧QU t=true∧t.mass≤13200∧t.nodes≤400:=by
 unfold thV at h
 split at h
 ·rename_i h1;exact absurd h h1
 ·rename_i h1
  have h2:QF t=0:=by simpa using h1
  obtain⟨a,b,c⟩:=Y6 h2
  exact⟨h2,h,Lx t a h,c,b⟩
theorem Tk (t:Tm): (Zf t).1.mass≤13200:=by
 unfold Zf
 split
 ·show Qy.mass≤_;rw[Vf];omega
 ·split
  ·show Qy.mass≤_;rw[Vf];omega
  ·split
   ·show Qy.mass≤_;rw[Vf];omega
   ·rename_i h;exact(Y6 (by simpa using h)).2.2
theorem E0 (t:Tm) (bs:List (List AV)) (hm:t.mass < big):call F.tb 174 [.agg (Qa t)] bs=some (QL (Zf t),bs):=by
 have h1:=W5 t bs hm
 rw[Qb F.tb_174 _ _ rfl]
 by_cases c1:thV t=0
 ·obtain⟨_,_,hg,hma,hno⟩:=ZY c1
  have h2:=QfE t bs hg (by omega)
  obtain⟨n1,n2⟩:=Sq t hg
  have h3:=Xp (Zn t).1 bs (by unfold big;omega)
  simp only[QL]at h2
  by_cases c2: (Zn t).2=0
  ·by_cases c3:QF (Zn t).1=0
   ·have e:Zf t=((Zn t).1,0):=by simp[Zf,c1,c2,c3]
    rw[e]
    simp[F.f174B,F.f174C,F.f174R,F.f174K,h1,h2,h3,c1,c2,c3,QD]
   ·have e:Zf t=(Qy,QF (Zn t).1):=by simp[Zf,c1,c2,c3]
    rw[e]
    simp[F.f174B,F.f174C,F.f174R,F.f174K,h1,h2,h3,c1,c2,c3,QD,QA]
  ·have e:Zf t=(Qy,(Zn t).2):=by simp[Zf,c1,c2]
   rw[e]
   simp[F.f174B,F.f174C,F.f174R,F.f174K,h1,h2,c1,c2,QD,QA]
 ·have e:Zf t=(Qy,thV t):=by simp[Zf,c1]
  rw[e]
  simp[F.f174B,F.f174C,F.f174R,F.f174K,h1,c1,QD,QA]
theorem Db (t:Tm) (bs:List (List AV)) (hm:t.mass < big):call F.tb 241 [.agg (Qa t)] bs=some (QL (Zf t),bs):=by
 have h1:=W4 t bs hm
 rw[Qb F.tb_241 _ _ rfl]
 by_cases c1:thV t=0
 ·obtain⟨_,_,hg,hma,hno⟩:=ZY c1
  have h2:=Qf4 t bs hg (by omega)
  obtain⟨n1,n2⟩:=Sq t hg
  have h3:=Yv (Zn t).1 bs (by unfold big;omega)
  simp only[QL]at h2
  by_cases c2: (Zn t).2=0
  ·by_cases c3:QF (Zn t).1=0
   ·have e:Zf t=((Zn t).1,0):=by simp[Zf,c1,c2,c3]
    rw[e]
    simp[F.f241B,F.f241C,F.f241R,F.f241K,h1,h2,h3,c1,c2,c3,QD]
   ·have e:Zf t=(Qy,QF (Zn t).1):=by simp[Zf,c1,c2,c3]
    rw[e]
    simp[F.f241B,F.f241C,F.f241R,F.f241K,h1,h2,h3,c1,c2,c3,QD,QA]
  ·have e:Zf t=(Qy,(Zn t).2):=by simp[Zf,c1,c2]
   rw[e]
   simp[F.f241B,F.f241C,F.f241R,F.f241K,h1,h2,c1,c2,QD,QA]
 ·have e:Zf t=(Qy,thV t):=by simp[Zf,c1]
  rw[e]
  simp[F.f241B,F.f241C,F.f241R,F.f241K,h1,c1,QD,QA]
theorem QfQ (n:List UInt8) (bs:List (List AV)):call F.tb 206 [.str n] bs=some (.bool (!Yq n),bs):=by
 have h:=YG n bs
 have hk:=N4 n
 rw[Qb F.tb_206 _ _ rfl,← hk]
 unfold Wq
 cases hf:Zm n Yl with
 | none=>
  rw[hf]at h
  simp[F.f206B,F.f206C,F.f206R,F.f206K,h]
 | some y=>
  rw[hf]at h
  simp[F.f206B,F.f206C,F.f206R,F.f206K,h,XK]
def ndN (t:Tm):Bool:= !(decide (t.kind=3) && Yq t.name)
mutual
def evT:Tm→Bool
 | .mk k n s ks=>ndN (.mk k n s ks) && evL ks
def evL:List Tm→Bool
 | []=>true
 | t:: ts=>evT t && evL ts
end
theorem Qbg (t:Tm):evT t=(ndN t && evL t.kids):=by cases t;simp[evT]
mutual
theorem KT: ∀t:Tm,evT t=(QY t).all ndN
 | .mk k n s ks=>by simp only[evT,QY,List.all_cons,evL_all ks]
theorem evL_all: ∀ts:List Tm,evL ts=(allL ts).all ndN
 | []=>rfl
 | t:: ts=>by simp only[evL,allL,List.all_append,KT t,evL_all ts]
end
theorem CW (t:Tm) (bs:List (List AV)) (hm:t.mass < big) (ih: ∀x∈t.kids,∀bs,call F.tb 207 [.agg (Qa x),.fn 206 []] bs=some (.bool (evT x),bs)):
  ∀(post pre:List Tm) (ρ:Nat→AV),t.kids=pre ++ post→ρ 1= .fn 206 []→ρ 18= .sl false 4 (encTs t.kids)→ρ 19= .int .i64 t.kids.length→ρ 20= .int .i64 pre.length→
  R F.tb (.loop F.f207l0) ρ bs (Qk 0 (Qv F.tb F.f207r0 (Qx F.f207 bs)))=some (.bool (evL post),bs):=by
 have hm2:=Qo t
 unfold big at hm
 intro post
 induction post with
 | nil=>
  intro pre ρ hk h1 h18 h19 h20
  simp only[List.append_nil]at hk
  rw[← hk]at h20
  rw[Qc F.f207l0.eq_1]
  simp[h1,h18,h19,h20,F.f207r0,F.f207R,F.f207K,evL]
 | cons x post IH=>
  intro pre ρ hk h1 h18 h19 h20
  have hg:=Qp hk
  have hll:t.kids.length=pre.length+ (post.length+1):=by rw[hk];simp
  have hw1:IntKind.i64.wrap ((pre.length:Int)+1)=(pre.length:Int)+1:=Ql (by omega) (by omega)
  have hlt: (pre.length:Int) < (t.kids.length:Int):=by omega
  have hc:=ih x (by rw[hk];simp) bs
  rw[Qc F.f207l0.eq_1]
  cases hb:evT x
  ·simp[h1,h18,h19,h20,hg,hlt,hc,hb,F.f207R,F.f207K,evL]
  ·have h2:=fun ρ=>IH (pre ++ [x]) ρ (by rw[hk];simp)
   simp[h1,h18,h19,h20,hg,hlt,hw1,hc,hb,evL]
   apply h2 <;> simp[h1,h18,h19]
theorem QfR: ∀(t:Tm) (bs:List (List AV)),t.mass < big→call F.tb 207 [.agg (Qa t),.fn 206 []] bs=some (.bool (evT t),bs):=by
 refine Zh ?_
 intro k n s ks ih bs hm
 have hl:=fun ρ=>CW (.mk k n s ks) bs hm (fun x hx bs=>ih x hx bs (by have h1:x.mass≤massL ks:=Qz hx;have:=Qo (.mk k n s ks);simp only[QJ]at this;omega)) ks [] ρ rfl
 have h2:=QfQ n bs
 simp only[QJ]at hl
 rw[Qb F.tb_207 _ _ rfl,Qbg]
 by_cases hk:k=3
 ·cases hd:Yq n
  ·have e:ndN (.mk k n s ks)=true:=by simp[ndN,hd]
   rw[e]
   simp[F.f207B,F.f207C,hk,hd,h2]
   apply hl <;> simp
  ·have e:ndN (.mk k n s ks)=false:=by simp[ndN,hd,hk]
   rw[e]
   simp[F.f207B,F.f207C,hk,hd,h2,F.f207R,F.f207K]
 ·have e:ndN (.mk k n s ks)=true:=by simp[ndN,hk]
  rw[e]
  simp[F.f207B,F.f207C,hk]
  apply hl <;> simp
def Um (t:Tm):Bool:=decide ((Zf t).2=0) && decide (Qm (Zf t).1 t=0) && evT t
theorem QfD (t:Tm) (bs:List (List AV)) (hm:t.mass < big):call F.tb 173 [.agg (Qa t)] bs=some (.bool (Um t),bs):=by
 have h1:=E0 t bs hm
 have hnm:=Tk t
 have h2:=NU (Zf t).1 t bs (by unfold big;omega) hm
 have h3:=QfR t bs hm
 simp only[QL]at h1
 rw[Qb F.tb_173 _ _ rfl]
 by_cases c1: (Zf t).2=0
 ·by_cases c2:Qm (Zf t).1 t=0
  ·simp[F.f173B,F.f173C,F.f173R,F.f173K,h1,h2,h3,c1,c2,Um]
  ·simp[F.f173B,F.f173C,F.f173R,F.f173K,h1,h2,h3,c1,c2,Um]
 ·simp[F.f173B,F.f173C,F.f173R,F.f173K,h1,c1,Um]
theorem Fx (l:List Tm) (bs:List (List AV)) (hl:l.length < 100000000): ∀(post pre:List Tm) (o:Bool) (ρ:Nat→AV),l=pre ++ post→ρ 5= .sl o 4 (encTs l)→ρ 6= .int .i64 pre.length→
  R F.tb (.loop F.f240l0) ρ bs (Qk 0 (Qv F.tb F.f240r0 (Qx F.f240 bs)))=some (.bool (post.all ndN),bs):=by
 intro post
 induction post with
 | nil=>
  intro pre o ρ hk h5 h6
  simp only[List.append_nil]at hk
  rw[← hk]at h6
  rw[Qc F.f240l0.eq_1]
  simp[h5,h6,F.f240r0,F.f240R,F.f240K]
 | cons x post IH=>
  intro pre o ρ hk h5 h6
  have hg:=Qp hk
  have hll:l.length=pre.length+ (post.length+1):=by rw[hk];simp
  have hw1:IntKind.i64.wrap ((pre.length:Int)+1)=(pre.length:Int)+1:=Ql (by omega) (by omega)
  have hlt: (pre.length:Int) < (l.length:Int):=by omega
  have hc:=T3 x.name bs
  have hk3:=N4 x.name
  have h2:=fun ρ=>IH (pre ++ [x]) o ρ (by rw[hk];simp)
  rw[List.all_cons]
  rw[Qc F.f240l0.eq_1]
  by_cases ck:x.kind=3
  ·cases hd:Yq x.name
   ·rw[hd]at hk3
    have hk3': ¬Wq x.name=3:=by simpa using hk3
    have e:ndN x=true:=by simp[ndN,hd]
    rw[e,Bool.true_and]
    generalize Wq x.name=KK at *
    simp[h5,h6,hg,hlt,hw1,hc,ck,hk3',-List.all_eq_true]
    apply h2 <;> simp[h5]
   ·rw[hd]at hk3
    have hk3':Wq x.name=3:=by simpa using hk3
    have e:ndN x=false:=by simp[ndN,hd,ck]
    rw[e,Bool.false_and]
    simp[h5,h6,hg,hlt,hc,ck,hk3',F.f240R,F.f240K]
  ·have e:ndN x=true:=by simp[ndN,ck]
   rw[e,Bool.true_and]
   simp[h5,h6,hg,hlt,hw1,ck,-List.all_eq_true]
   apply h2 <;> simp[h5]
theorem Qf3 (t:Tm) (bs:List (List AV)) (hm:t.mass < 1000000):call F.tb 240 [.agg (Qa t)] bs=some (.bool (Um t),bs):=by
 have hmb:t.mass < big:=by unfold big;omega
 have h1:=Db t bs hmb
 have hnm:=Tk t
 have h2:=Z8 t (Zf t).1 bs hmb (by unfold big;omega)
 have hsym:decide (Qm t (Zf t).1=0)=decide (Qm (Zf t).1 t=0):=by
  have:=Y7 t (Zf t).1
  rw[decide_eq_decide];omega
 rw[hsym]at h2
 have h3:=Uv t bs (by omega)
 have hlen:=XG t
 have hnn:=Zj t
 have h4:=fun o ρ=>Fx (QY t) bs (by omega) (QY t) [] o ρ rfl
 simp only[QL]at h1
 rw[Qb F.tb_240 _ _ rfl]
 have e:Um t=(decide ((Zf t).2=0) && decide (Qm (Zf t).1 t=0) && (QY t).all ndN):=by rw[← KT];rfl
 rw[e]
 by_cases c1: (Zf t).2=0
 ·by_cases c2:Qm (Zf t).1 t=0
  ·simp[F.f240B,F.f240C,h1,h2,h3,c1,c2,-List.all_eq_true]
   refine h4 false _ ?_ ?_ <;> simp
  ·simp[F.f240B,F.f240C,F.f240R,F.f240K,h1,h2,c1,c2]
 ·simp[F.f240B,F.f240C,F.f240R,F.f240K,h1,c1]
end Go.Am
namespace Go.Am
set_option maxRecDepth 8000
def Wj (c:UInt8):Bool:=decide (48≤c.toNat) && decide (c.toNat≤57)
def Us:List UInt8:=[48,49,50,51,52,53,54,55,56,57]
theorem Qda: ∀d:Fin 256,Us.contains (UInt8.ofNat d.val)=Wj (UInt8.ofNat d.val):=by decide
theorem Qdb (c:UInt8):Us.contains c=Wj c:=by
 have h:=Qda ⟨c.toNat,c.toNat_lt⟩
 simp only[UInt8.ofNat_toNat]at h
 exact h
theorem Lq {p:UInt8→Bool}: ∀{l:List UInt8},l.dropWhile p=[]↔∀x∈l,p x=true
 | []=>by simp
 | a:: l=>by
  rw[List.dropWhile_cons]
  cases h:p a
  ·simp[h]
  ·simp[h,Lq (l:=l)]
theorem Qel (s:List UInt8): (Lib.trimS s Us == [])=s.all Wj:=by
 have hp: (fun b=>Us.contains b)=Wj:=funext Qdb
 cases hs:s.all Wj
 ·have hne:Lib.trimS s Us≠[]:=by
   intro e
   unfold Lib.trimS Lib.trimLeftS Lib.trimRightS at e
   rw[hp]at e
   have h1:=Lq.1 e
   cases hw:s.reverse.dropWhile Wj with
   | nil=>
    have h2:=Lq.1 hw
    have:s.all Wj=true:=List.all_eq_true.2 fun x hx=>h2 x (by simpa using hx)
    rw[hs]at this;cases this
   | cons x r=>
    have h2:Wj x=false:=by
     have:=List.head_dropWhile_not Wj (l:=s.reverse) (by rw[hw];simp)
     simpa[hw]using this
    have h3:=h1 x (by rw[hw];simp)
    rw[h2]at h3;cases h3
  simpa using hne
 ·have:Lib.trimS s Us=[]:=by
   unfold Lib.trimS Lib.trimLeftS Lib.trimRightS
   rw[hp]
   have:s.reverse.dropWhile Wj=[]:=Lq.2 fun x hx=>List.all_eq_true.1 hs x (by simpa using hx)
   rw[this];rfl
  simp[this]
def Vc (s:List UInt8):Bool:=match s with
 | 101:: 35:: c:: r=>(c:: r).all Wj
 | _=>false
def Yh (t:Tm):Bool:=
 if t.kind=3 then(t.name == Zq || t.name == ONE) && decide (t.kids.length=0)
 else if t.kind=2 then(if t.sort=1∨t.sort=5 then true else if t.sort=4 then t.name == [103] || Vc t.name else if t.sort=0∨t.sort=2∨t.sort=3 then Vc t.name else false)
 else false
def Gy (s:List UInt8):Bool:= !(s == []) && s.all Wj
theorem QfC (s:List UInt8) (bs:List (List AV)) (hs:s.length < 4294967281):call F.tb 163 [.str s] bs=some (.bool (Gy s),bs):=by
 have ht:call F.tb 164 [.str s,.str Us] bs=some (.str (Lib.trimS s Us),bs):=by
  rw[XH F.tb_164]
  have hc: (Us.all (· < 128) && decide (s.length < 4294967281) && decide (Us.length < 4294967281))=true:=by
   rw[show Us.all (· < 128)=true from by decide]
   simp[hs,Us]
  simp only[YZ,LY,hc,if_true]
  rfl
 have hn:=Qel s
 rw[Qb F.tb_163 _ _ rfl]
 simp only[Us]at ht hn
 cases he:s == []
 ·simp[F.f163B,F.f163C,F.f163R,F.f163K,ht,hn,he,Gy,bne,-List.all_eq_true]
 ·simp[F.f163B,F.f163C,F.f163R,F.f163K,ht,hn,he,Gy,bne,-List.all_eq_true]
def XT (s:List UInt8):Bool:=decide (2≤s.length) && (s.take 2 == [101,35])
theorem QjP (s:List UInt8) (bs:List (List AV)):call F.tb 75 [.str s,.str [101,35]] bs=some (.bool (XT s),bs):=by
 rw[Qb F.tb_75 _ _ rfl]
 by_cases h:2≤s.length
 ·have h': (2:Int)≤(s.length:Int):=by omega
  simp[F.f75B,F.f75C,F.f75R,F.f75K,XT,h,h']
 ·have h': ¬(2:Int)≤(s.length:Int):=by omega
  simp[F.f75B,F.f75C,F.f75R,F.f75K,XT,h,h']
theorem QjO (s:List UInt8) (bs:List (List AV)):call F.tb 73 [.str s,.str [101,35]] bs=some (.tup [.str (if XT s then s.drop 2 else s),.bool (XT s)],bs):=by
 have h1:=QjP s bs
 have h2:call F.tb 74 [.str s,.str [101,35]] bs=some (.tup [.str (if XT s then s.drop 2 else s),.bool (XT s)],bs):=by
  rw[Qb F.tb_74 _ _ rfl]
  cases hc:XT s
  ·simp[F.f74B,F.f74C,F.f74R,F.f74K,h1,hc]
  ·have hl:2≤s.length:=by simp[XT]at hc;exact hc.1
   have hl': (2:Int)≤(s.length:Int):=by omega
   simp[F.f74B,F.f74C,F.f74R,F.f74K,h1,hc,hl,hl']
 rw[Qb F.tb_73 _ _ rfl]
 generalize (if XT s then s.drop 2 else s)=w at *
 simp[F.f73B,F.f73C,F.f73R,F.f73K,h2]
theorem QhE (s:List UInt8): (XT s && Gy (if XT s then s.drop 2 else s))=Vc s:=by
 cases hc:XT s
 ·rw[Bool.false_and]
  unfold Vc
  split
  ·simp[XT]at hc
  ·rfl
 ·simp only[if_true,Bool.true_and]
  match s,hc with
  | [],hc=>simp[XT]at hc
  | [_],hc=>simp[XT]at hc
  | [a,b],hc=>
   simp[XT]at hc
   obtain⟨rfl,rfl⟩:=hc
   rfl
  | a:: b:: c:: r,hc=>
   simp[XT]at hc
   obtain⟨rfl,rfl⟩:=hc
   simp[Gy,Vc]
theorem Qkr (x a b:List UInt8) (bs:List (List AV)):call F.tb 162 [.sl false 1 [[.str a],[.str b]],.str x] bs=some (.int .i64 (if x == a then 0 else if x == b then 1 else -1),bs):=by
 rw[Qb F.tb_162 _ _ rfl]
 simp[F.f162B,F.f162C]
 rw[Qc F.f162l0.eq_1]
 cases h1:x == a
 ·have g1: ¬x=a:=by simpa using h1
  simp[h1,g1]
  rw[Qc F.f162l0.eq_1]
  cases h2:x == b
  ·have hw:IntKind.i64.wrap 1=1:=rfl
   have hw2:IntKind.i64.wrap 2=2:=rfl
   have g2: ¬x=b:=by simpa using h2
   simp[h2,hw,hw2,g2]
   rw[Qc F.f162l0.eq_1]
   simp[F.f162r0,F.f162R,F.f162K]
  ·have hw:IntKind.i64.wrap 1=1:=rfl
   have g2:x=b:=by simpa using h2
   simp[h2,hw,← g2,F.f162R,F.f162K]
 ·have g1:x=a:=by simpa using h1
  simp[h1,← g1,F.f162R,F.f162K]
theorem QfB (t:Tm) (bs:List (List AV)) (hk:t.kind=3):call F.tb 160 [.agg (Qa t),.sl false 1 [[.str Zq],[.str ONE]]] bs=some (.bool (t.name == Zq || t.name == ONE),bs):=by
 have h:=Qkr t.name Zq ONE bs
 have h2:call F.tb 161 [.sl false 1 [[.str Zq],[.str ONE]],.str t.name] bs=some (.bool (t.name == Zq || t.name == ONE),bs):=by
  rw[Qb F.tb_161 _ _ rfl]
  cases h1:t.name == Zq
  ·cases h3:t.name == ONE <;> simp[h1,h3]at h <;> simp[F.f161B,F.f161C,F.f161R,F.f161K,h]
  ·simp[h1]at h
   simp[F.f161B,F.f161C,F.f161R,F.f161K,h]
 rw[Qb F.tb_160 _ _ rfl]
 simp[F.f160B,F.f160C,F.f160R,F.f160K,hk,h2]
theorem PO (t:Tm) (bs:List (List AV)) (hm:t.mass < 1000000):call F.tb 159 [.agg (Qa t)] bs=some (.bool (Yh t),bs):=by
 have hme:=Qo t
 rw[Qb F.tb_159 _ _ rfl]
 by_cases hk:t.kind=3
 ·have h1:=QfB t bs hk
  simp only[Zq,ONE]at h1
  cases hz: (t.name == [122,101,114,111] || t.name == [111,110,101])
  ·rw[hz]at h1
   simp[F.f159B,F.f159C,F.f159R,F.f159K,hk,h1,Yh,Zq,ONE,hz]
   try (simp at hz;simp[hz])
  ·rw[hz]at h1
   by_cases hl:t.kids=[]
   ·simp[F.f159B,F.f159C,F.f159R,F.f159K,hk,h1,Yh,Zq,ONE,hz,hl]
   ·have hl0: ¬t.kids.length=0:=fun e=>hl (List.eq_nil_of_length_eq_zero e)
    have hl': ¬(t.kids.length:Int)=0:=by omega
    simp[F.f159B,F.f159C,F.f159R,F.f159K,hk,h1,Yh,Zq,ONE,hl,hl']
 ·by_cases hk2:t.kind=2
  ·have h1:=QjO t.name bs
   have h2:=QfC (if XT t.name then t.name.drop 2 else t.name) bs (by
    split
    ·rw[List.length_drop];omega
    ·omega)
   have ho:=QhE t.name
   generalize (if XT t.name then t.name.drop 2 else t.name)=w at *
   have hp:Yh t=if t.sort=1∨t.sort=5 then true else if t.sort=4 then t.name == [103] || Vc t.name else if t.sort=0∨t.sort=2∨t.sort=3 then Vc t.name else false:=by
    unfold Yh;rw[if_neg hk,if_pos hk2]
   rw[hp]
   generalize Vc t.name=O at *
   by_cases s1:t.sort=1
   ·simp[F.f159B,F.f159C,F.f159R,F.f159K,hk2,h1,s1]
   ·by_cases s5:t.sort=5
    ·simp[F.f159B,F.f159C,F.f159R,F.f159K,hk2,h1,s5]
    ·by_cases s4:t.sort=4
     ·cases hg:t.name == [103]
      ·cases hcu:XT t.name
       ·rw[hcu]at h1 ho
        simp at ho
        subst ho
        simp[F.f159B,F.f159C,F.f159R,F.f159K,hk2,h1,s4,hg]
       ·rw[hcu]at h1 ho
        simp at ho
        subst ho
        simp[F.f159B,F.f159C,F.f159R,F.f159K,hk2,h1,h2,s4,hg]
      ·simp[F.f159B,F.f159C,F.f159R,F.f159K,hk2,h1,s4,hg]
     ·by_cases s0:t.sort=0∨t.sort=2∨t.sort=3
      ·cases hcu:XT t.name
       ·rw[hcu]at h1 ho
        simp at ho
        subst ho
        rcases s0 with s0 | s0 | s0 <;> simp[F.f159B,F.f159C,F.f159R,F.f159K,hk2,h1,s0]
       ·rw[hcu]at h1 ho
        simp at ho
        subst ho
        rcases s0 with s0 | s0 | s0 <;> simp[F.f159B,F.f159C,F.f159R,F.f159K,hk2,h1,h2,s0]
      ·simp only[not_or]at s0
       simp[F.f159B,F.f159C,F.f159R,F.f159K,hk2,h1,s1,s5,s4,s0.1,s0.2.1,s0.2.2]
  ·have hp:Yh t=false:=by unfold Yh;rw[if_neg hk,if_neg hk2]
   rw[hp]
   simp[F.f159B,F.f159C,F.f159R,F.f159K,hk,hk2]
end Go.Am
namespace Go.Am
set_option maxRecDepth 8000
theorem Bf (s:List UInt8) (bs:List (List AV)) (hs:s.length < 1000000000): ∀(post pre:List UInt8) (ρ:Nat→AV),s=pre ++ post→ρ 0= .str s→ρ 3= .int .i64 pre.length→
  R F.tb (.loop F.f232l0) ρ bs (Qk 0 (Qv F.tb F.f232r0 (Qx F.f232 bs)))=some (.bool (post.all Wj),bs):=by
 intro post
 induction post with
 | nil=>
  intro pre ρ hk h0 h3
  simp only[List.append_nil]at hk
  rw[← hk]at h3
  rw[Qc F.f232l0.eq_1]
  simp[h0,h3,F.f232r0,F.f232R,F.f232K]
 | cons c post IH=>
  intro pre ρ hk h0 h3
  have hg:=Qp hk
  have hll:s.length=pre.length+ (post.length+1):=by rw[hk];simp
  have hw1:IntKind.i64.wrap ((pre.length:Int)+1)=(pre.length:Int)+1:=Ql (by omega) (by omega)
  have hlt: (pre.length:Int) < (s.length:Int):=by omega
  have h2:=fun ρ=>IH (pre ++ [c]) ρ (by rw[hk];simp)
  rw[List.all_cons]
  rw[Qc F.f232l0.eq_1]
  by_cases c1:c.toNat < 48
  ·have e:Wj c=false:=by simp[Wj];omega
   have c1': (c.toNat:Int) < 48:=by omega
   simp[-getElem?_pos,h0,h3,hg,hlt,c1,c1',e,F.f232R,F.f232K]
  ·have c1': ¬(c.toNat:Int) < 48:=by omega
   by_cases c2:57 < c.toNat
   ·have e:Wj c=false:=by simp[Wj];omega
    have c2': (57:Int) < (c.toNat:Int):=by omega
    simp[-getElem?_pos,h0,h3,hg,hlt,c1,c1',c2,c2',e,F.f232R,F.f232K]
   ·have e:Wj c=true:=by simp[Wj];omega
    have c2': ¬(57:Int) < (c.toNat:Int):=by omega
    rw[e,Bool.true_and]
    simp[-getElem?_pos,h0,h3,hg,hlt,hw1,c1,c1',c2,c2',-List.all_eq_true]
    apply h2 <;> simp[h0]
theorem Qf1 (s:List UInt8) (bs:List (List AV)) (hs:s.length < 1000000000):call F.tb 232 [.str s] bs=some (.bool (Vc s),bs):=by
 rw[Qb F.tb_232 _ _ rfl]
 by_cases h3:s.length < 3
 ·have h3': (s.length:Int) < 3:=by omega
  have e:Vc s=false:=by
   unfold Vc
   split
   ·exfalso;simp only[List.length_cons]at h3;omega
   ·rfl
  simp[F.f232B,F.f232C,F.f232R,F.f232K,h3,h3',e]
 ·have h3': ¬(s.length:Int) < 3:=by omega
  have hl2:2≤s.length:=by omega
  have hl2': (2:Int)≤(s.length:Int):=by omega
  cases hp:s.take 2 == [101,35]
  ·have e:Vc s=false:=by
    unfold Vc
    split
    ·simp at hp
    ·rfl
   simp[F.f232B,F.f232C,F.f232R,F.f232K,h3,h3',hl2,hl2',hp,e,bne]
  ·match s,hp,h3,hs with
   | a:: b:: c:: r,hp,h3,hs=>
    have h2:=fun ρ=>Bf (a:: b:: c:: r) bs hs (c:: r) [a,b] ρ rfl
    simp at hp
    obtain⟨rfl,rfl⟩:=hp
    have e:Vc (101:: 35:: c:: r)=(c:: r).all Wj:=rfl
    rw[e]
    simp only[List.length_cons,List.length_nil]at h3' hl2 hl2' h2
    generalize (c:: r).all Wj=O at *
    have h3'': ¬((r.length:Int)+1+1+1 < 3):=by omega
    have hl3: (2:Int)≤(r.length:Int)+1+1+1:=by omega
    simp[F.f232B,F.f232C,h3'',hl3,bne]
    apply h2 <;> simp
   | [],hp,_,_=>simp at hp
   | [_],hp,_,_=>simp at hp
   | [_,_],hp,h3,_=>simp at h3
theorem PP (t:Tm) (bs:List (List AV)) (hm:t.mass < 1000000):call F.tb 231 [.agg (Qa t)] bs=some (.bool (Yh t),bs):=by
 have hme:=Qo t
 have ho:=Qf1 t.name bs (by omega)
 rw[Qb F.tb_231 _ _ rfl]
 by_cases hk:t.kind=3
 ·have hp:Yh t=((t.name == Zq || t.name == ONE) && decide (t.kids.length=0)):=by unfold Yh;rw[if_pos hk]
  rw[hp]
  by_cases hl:t.kids=[]
  ·cases h1:t.name == Zq
   ·cases h2:t.name == ONE <;> simp only[Zq,ONE]at h1 h2 <;> simp[F.f231B,F.f231C,F.f231R,F.f231K,hk,h1,h2,hl]
   ·simp only[Zq]at h1;simp[F.f231B,F.f231C,F.f231R,F.f231K,hk,h1,hl]
  ·have hl0: ¬t.kids.length=0:=fun e=>hl (List.eq_nil_of_length_eq_zero e)
   have hl': ¬(t.kids.length:Int)=0:=by omega
   cases h1:t.name == Zq
   ·cases h2:t.name == ONE <;> simp only[Zq,ONE]at h1 h2 <;> simp[F.f231B,F.f231C,F.f231R,F.f231K,hk,h1,h2,hl,hl']
   ·simp only[Zq]at h1;simp[F.f231B,F.f231C,F.f231R,F.f231K,hk,h1,hl,hl']
 ·by_cases hk2:t.kind=2
  ·have hp:Yh t=if t.sort=1∨t.sort=5 then true else if t.sort=4 then t.name == [103] || Vc t.name else if t.sort=0∨t.sort=2∨t.sort=3 then Vc t.name else false:=by
    unfold Yh;rw[if_neg hk,if_pos hk2]
   rw[hp]
   generalize Vc t.name=O at *
   by_cases s1:t.sort=1
   ·simp[F.f231B,F.f231C,F.f231R,F.f231K,hk2,s1]
   ·by_cases s5:t.sort=5
    ·simp[F.f231B,F.f231C,F.f231R,F.f231K,hk2,s5]
    ·by_cases s4:t.sort=4
     ·cases hg:t.name == [103]
      ·simp[F.f231B,F.f231C,F.f231R,F.f231K,hk2,s4,hg,ho]
      ·simp[F.f231B,F.f231C,F.f231R,F.f231K,hk2,s4,hg]
     ·by_cases s0:t.sort=0∨t.sort=2∨t.sort=3
      ·cases hg:t.name == [103]
       ·rcases s0 with s0 | s0 | s0 <;> simp[F.f231B,F.f231C,F.f231R,F.f231K,hk2,s0,ho,hg]
       ·rcases s0 with s0 | s0 | s0 <;> simp[F.f231B,F.f231C,F.f231R,F.f231K,hk2,s0,ho,hg]
      ·simp only[not_or]at s0
       cases hg:t.name == [103]
       ·simp[F.f231B,F.f231C,F.f231R,F.f231K,hk2,s1,s5,s4,s0.1,s0.2.1,s0.2.2,hg]
       ·simp[F.f231B,F.f231C,F.f231R,F.f231K,hk2,s1,s5,s4,s0.1,s0.2.1,s0.2.2,hg]
  ·have hp:Yh t=false:=by unfold Yh;rw[if_neg hk,if_neg hk2]
   rw[hp]
   simp[F.f231B,F.f231C,F.f231R,F.f231K,hk,hk2]
end Go.Am
namespace Go.Am
set_option maxRecDepth 8000
def YF (x:Tm):Int:=if thV x≠0 then thV x else if VG x≠[]then 13 else if Um x then 0 else 10
def Wo:List Tm→Int
 | []=>0
 | x:: r=>if YF x≠0 then YF x else Wo r
def YK:Option Tm→List Tm→Int
 | _,[]=>0
 | prev,x:: r=>if QF x≠0 then QF x else if x.kind≠2∨Yh x=true then 1 else if gtO prev x then YK (some x) r else 5
structure Fr where
 s:List Tm
 t:List Tm
def Qq (f:Fr):List AV:=[.sl false 4 (encTs f.s),.sl false 4 (encTs f.t)]
def Za (f:Fr):Int:=if 40 < f.s.length∨40 < f.t.length then 3 else if YK none f.s≠0 then YK none f.s else Wo f.t
theorem Qen (l:List Tm) (bs:List (List AV)) (hl:l.length < 1000000) (hm: ∀x∈l,x.mass < 1000000):
  ∀(post pre:List Tm) (ρ:Nat→AV),l=pre ++ post→ρ 54= .sl false 4 (encTs l)→ρ 55= .int .i64 l.length→ρ 56= .int .i64 pre.length→
  R F.tb (.loop F.f158l1) ρ bs (Qk 2 (Qv F.tb F.f158r0 (Qx F.f158 bs)))=some (.int .i64 (Wo post),bs):=by
 intro post
 induction post with
 | nil=>
  intro pre ρ hk h1 h2 h3
  simp only[List.append_nil]at hk
  rw[← hk]at h3
  rw[Qc F.f158l1.eq_1]
  simp[h1,h2,h3,F.f158r0,F.f158R,F.f158K,Wo]
 | cons x post IH=>
  intro pre ρ hk h1 h2 h3
  have hg:=Qp hk
  have hll:l.length=pre.length+ (post.length+1):=by rw[hk];simp
  have hw1:IntKind.i64.wrap ((pre.length:Int)+1)=(pre.length:Int)+1:=Ql (by omega) (by omega)
  have hlt: (pre.length:Int) < (l.length:Int):=by omega
  have hxm:=hm x (by rw[hk];simp)
  have hxb:x.mass < big:=by unfold big;omega
  have c1:=W5 x bs hxb
  have c2:=QaZ x bs (by omega)
  have c3:=QfD x bs hxb
  have hh:=fun ρ=>IH (pre ++ [x]) ρ (by rw[hk];simp)
  rw[Qc F.f158l1.eq_1]
  by_cases e1:thV x=0
  ·by_cases e2:VG x=[]
   ·rw[e2]at c2
    simp only[encTs]at c2
    cases e3:Um x
    ·simp[h1,h2,h3,hg,hlt,c1,c2,c3,e1,e2,e3,F.f158R,F.f158K,Wo,YF]
    ·simp[h1,h2,h3,hg,hlt,hw1,c1,c2,c3,e1,e2,e3,Wo,YF]
     apply hh <;> simp[h1,h2]
   ·have hp:0 < (VG x).length:=List.length_pos_iff.2 e2
    have hp': (0:Int) < ((VG x).length:Int):=by omega
    simp[h1,h2,h3,hg,hlt,c1,c2,e1,e2,hp,F.f158R,F.f158K,Wo,YF]
  ·simp[h1,h2,h3,hg,hlt,c1,e1,F.f158R,F.f158K,Wo,YF]
def Ol (l:List Tm):Option Tm:=l.getLast?
theorem SR:Ol []=none:=rfl
theorem SQ (l:List Tm) (p:Tm):Ol (l ++ [p])=some p:=by simp[Ol]
theorem Qd5 (f:Fr) (bs:List (List AV)) (hl:f.s.length < 1000000) (hm: ∀x∈f.s,x.mass < 1000000) (X:Int)
  (hX: ∀ρ:Nat→AV,ρ 1= .bx (Qq f)→R F.tb F.f158r1 ρ bs (Qx F.f158 bs)=some (.int .i64 X,bs)):
  ∀(post pre:List Tm) (ρ:Nat→AV),f.s=pre ++ post→ρ 1= .bx (Qq f)→ρ 20= .sl false 4 (encTs f.s)→ρ 21= .int .i64 f.s.length→ρ 22= .int .i64 pre.length→
  R F.tb (.loop F.f158l0) ρ bs (Qk 0 (Qv F.tb F.f158r1 (Qx F.f158 bs)))=some (.int .i64 (if YK (Ol pre) post≠0 then YK (Ol pre) post else X),bs):=by
 intro post
 induction post with
 | nil=>
  intro pre ρ hk h1 h20 h21 h22
  simp only[List.append_nil]at hk
  rw[← hk]at h22
  rw[Qc F.f158l0.eq_1]
  simp[h1,h20,h21,h22,YK]
  apply hX;simp[h1]
 | cons x post IH=>
  intro pre ρ hk h1 h20 h21 h22
  have hg:=Qp hk
  have hll:f.s.length=pre.length+ (post.length+1):=by rw[hk];simp
  have hw1:IntKind.i64.wrap ((pre.length:Int)+1)=(pre.length:Int)+1:=Ql (by omega) (by omega)
  have hlt: (pre.length:Int) < (f.s.length:Int):=by omega
  have hxm:=hm x (by rw[hk];simp)
  have hxb:x.mass < big:=by unfold big;omega
  have c1:=Xp x bs hxb
  have c2:=PO x bs hxm
  have hh:=fun ρ=>IH (pre ++ [x]) ρ (by rw[hk];simp)
  rw[SQ]at hh
  rw[Qc F.f158l0.eq_1]
  by_cases e1:QF x=0
  ·by_cases e2:x.kind=2
   ·cases e3:Yh x
    ·rcases List.eq_nil_or_concat pre with rfl | ⟨pre2,q,rfl⟩
     ·have h22':ρ 22= .int .i64 0:=h22
      have hg':f.s[0]? =some x:=hg
      have hlt':0 < f.s.length:=by omega
      have hw0:IntKind.i64.wrap 1=1:=rfl
      clear h22 hg hlt hw1
      simp[-getElem?_pos,h1,h20,h21,h22',hg',hlt',hw0,c1,c2,e1,e2,e3,YK,gtO,SR]
      simp only[ite_not]at hh
      apply hh <;> simp[h1,h20,h21]
     ·simp only[List.concat_eq_append]at *
      have hg2:f.s[pre2.length]? =some q:=by rw[hk];simp
      have hq:=hm q (by rw[hk];simp)
      have h4:=call_Compare q x bs (by unfold big;omega) hxb
      have hp0: (0:Int) < (pre2.length:Int)+1:=by omega
      have hp1: (0:Int)≤(pre2.length:Int)+1:=by omega
      have hp2: ((pre2.length:Int)+1).toNat=pre2.length+1:=by omega
      have hw2:IntKind.i64.wrap (pre2.length:Int)=(pre2.length:Int):=Ql (by simp at hll;omega) (by simp at hll;omega)
      rw[SQ]
      simp only[List.length_append,List.length_singleton,Int.natCast_add,Int.natCast_one]at h22 hg hlt hw1 hh
      by_cases c6:Qm q x < 0
      ·have c6': ¬0≤Qm q x:=by omega
       simp[Qq,h1,h20,h21,h22,hg,hg2,hlt,hw1,hw2,hp0,hp1,hp2,h4,c1,c2,e1,e2,e3,c6,c6',YK,gtO]
       simp only[ite_not]at hh
       apply hh <;> simp[h1,h20,h21,Qq]
      ·have c6':0≤Qm q x:=by omega
       simp[Qq,h1,h20,h21,h22,hg,hg2,hlt,hw1,hw2,hp0,hp1,hp2,h4,c1,c2,e1,e2,e3,c6,c6',YK,gtO,F.f158R,F.f158K]
    ·simp[h1,h20,h21,h22,hg,hlt,c1,c2,e1,e2,e3,YK,F.f158R,F.f158K]
   ·simp[h1,h20,h21,h22,hg,hlt,c1,e1,e2,YK,F.f158R,F.f158K]
  ·simp[h1,h20,h21,h22,hg,hlt,c1,e1,YK,F.f158R,F.f158K]
structure FOk (f:Fr):Prop where
 s: ∀x∈f.s,x.mass < 1000000
 t: ∀x∈f.t,x.mass < 1000000
 sl:f.s.length < 1000000
 tl:f.t.length < 1000000
theorem KE (f:Fr) (bs:List (List AV)) (h:FOk f):call F.tb 158 [.agg (Qq f)] bs=some (.int .i64 (Za f),bs):=by
 have ht:=fun ρ=>Qen f.t bs h.tl h.t f.t [] ρ rfl
 have hX: ∀ρ:Nat→AV,ρ 1= .bx (Qq f)→R F.tb F.f158r1 ρ bs (Qx F.f158 bs)=some (.int .i64 (Wo f.t),bs):=by
  intro ρ h1
  simp[F.f158r1,h1,Qq]
  apply ht <;> simp
 have hs:=fun ρ=>Qd5 f bs h.sl h.s (Wo f.t) hX f.s [] ρ rfl
 rw[SR]at hs
 rw[Qb F.tb_158 _ _ rfl]
 by_cases c1:40 < f.s.length
 ·have c1': (40:Int) < (f.s.length:Int):=by omega
  simp[F.f158B,F.f158C,F.f158R,F.f158K,Qq,c1,c1',Za]
 ·have c1': ¬(40:Int) < (f.s.length:Int):=by omega
  by_cases c2:40 < f.t.length
  ·have c2': (40:Int) < (f.t.length:Int):=by omega
   simp[F.f158B,F.f158C,F.f158R,F.f158K,Qq,c1,c1',c2,c2',Za]
  ·have c2': ¬(40:Int) < (f.t.length:Int):=by omega
   have e:Za f=if YK none f.s≠0 then YK none f.s else Wo f.t:=by simp[Za,c1,c2]
   rw[e]
   generalize (if YK none f.s≠0 then YK none f.s else Wo f.t)=V at *
   simp[F.f158B,F.f158C,Qq,c1',c2']
   apply hs <;> simp[Qq]
end Go.Am
namespace Go.Am
set_option maxRecDepth 8000
theorem Qf2 (x:Tm) (bs:List (List AV)) (hm:x.mass < 1000000):call F.tb 233 [.agg (Qa x)] bs=some (.int .i64 (YF x),bs):=by
 have c1:=W4 x bs (by unfold big;omega)
 have c2:=FE x bs (by omega)
 have c3:=Qf3 x bs hm
 rw[Qb F.tb_233 _ _ rfl]
 by_cases e1:thV x=0
 ·by_cases e2:VG x=[]
  ·cases e3:Um x
   ·simp[F.f233B,F.f233C,F.f233R,F.f233K,c1,c2,c3,e1,e2,e3,YF]
   ·simp[F.f233B,F.f233C,F.f233R,F.f233K,c1,c2,c3,e1,e2,e3,YF]
  ·simp[F.f233B,F.f233C,F.f233R,F.f233K,c1,c2,e1,e2,YF]
 ·simp[F.f233B,F.f233C,F.f233R,F.f233K,c1,e1,YF]
theorem BX (f:Fr) (bs:List (List AV)) (h:FOk f): ∀(post pre:List Tm) (ρ:Nat→AV),f.t=pre ++ post→ρ 1= .bx (Qq f)→ρ 5= .int .i64 pre.length→
  R F.tb (.loop F.f230l1) ρ bs (Qk 2 (Qv F.tb F.f230r0 (Qx F.f230 bs)))=some (.int .i64 (Wo post),bs):=by
 have hl:=h.tl
 intro post
 induction post with
 | nil=>
  intro pre ρ hk h1 h5
  simp only[List.append_nil]at hk
  rw[← hk]at h5
  rw[Qc F.f230l1.eq_1]
  simp[h1,h5,Qq,F.f230r0,F.f230R,F.f230K,Wo]
 | cons x post IH=>
  intro pre ρ hk h1 h5
  have hg:=Qp hk
  have hll:f.t.length=pre.length+ (post.length+1):=by rw[hk];simp
  have hw1:IntKind.i64.wrap ((pre.length:Int)+1)=(pre.length:Int)+1:=Ql (by omega) (by omega)
  have hlt: (pre.length:Int) < (f.t.length:Int):=by omega
  have c1:=Qf2 x bs (h.t x (by rw[hk];simp))
  have hh:=fun ρ=>IH (pre ++ [x]) ρ (by rw[hk];simp)
  rw[Qc F.f230l1.eq_1]
  by_cases e1:YF x=0
  ·simp[h1,h5,Qq,hg,hlt,hw1,c1,e1,Wo]
   apply hh <;> simp[h1,Qq]
  ·simp[h1,h5,Qq,hg,hlt,c1,e1,F.f230R,F.f230K,Wo]
theorem BW (f:Fr) (bs:List (List AV)) (h:FOk f): ∀(post pre:List Tm) (ρ:Nat→AV),f.s=pre ++ post→ρ 1= .bx (Qq f)→ρ 3= .int .i64 pre.length→
  R F.tb (.loop F.f230l0) ρ bs (Qk 0 (Qv F.tb F.f230r1 (Qx F.f230 bs)))=some (.int .i64 (if YK (Ol pre) post≠0 then YK (Ol pre) post else Wo f.t),bs):=by
 have hl:=h.sl
 have ht:=fun ρ=>BX f bs h f.t [] ρ rfl
 intro post
 induction post with
 | nil=>
  intro pre ρ hk h1 h3
  simp only[List.append_nil]at hk
  rw[← hk]at h3
  rw[Qc F.f230l0.eq_1]
  simp[h1,h3,Qq,YK,F.f230r1]
  apply ht <;> simp[h1,Qq]
 | cons x post IH=>
  intro pre ρ hk h1 h3
  have hg:=Qp hk
  have hll:f.s.length=pre.length+ (post.length+1):=by rw[hk];simp
  have hw1:IntKind.i64.wrap ((pre.length:Int)+1)=(pre.length:Int)+1:=Ql (by omega) (by omega)
  have hlt: (pre.length:Int) < (f.s.length:Int):=by omega
  have hxm:=h.s x (by rw[hk];simp)
  have hxb:x.mass < big:=by unfold big;omega
  have c1:=Yv x bs hxb
  have c2:=PP x bs hxm
  have hh:=fun ρ=>IH (pre ++ [x]) ρ (by rw[hk];simp)
  rw[SQ]at hh
  rw[Qc F.f230l0.eq_1]
  by_cases e1:QF x=0
  ·by_cases e2:x.kind=2
   ·cases e3:Yh x
    ·rcases List.eq_nil_or_concat pre with rfl | ⟨pre2,q,rfl⟩
     ·have h3':ρ 3= .int .i64 0:=h3
      have hg':f.s[0]? =some x:=hg
      have hlt':0 < f.s.length:=by omega
      have hw0:IntKind.i64.wrap 1=1:=rfl
      clear h3 hg hlt hw1
      simp[-getElem?_pos,Yi,List.getElem?_cons_succ,Qq,h1,h3',hg',hlt',hw0,c1,c2,e1,e2,e3,YK,gtO,SR]
      simp only[ite_not]at hh
      apply hh <;> simp[h1,Qq]
     ·simp only[List.concat_eq_append]at *
      have hg2:f.s[pre2.length]? =some q:=by rw[hk];simp
      have hq:=h.s q (by rw[hk];simp)
      have h4:=XW q x bs (by unfold big;omega) hxb
      have hp0: (0:Int) < (pre2.length:Int)+1:=by omega
      have hp1: (0:Int)≤(pre2.length:Int)+1:=by omega
      have hp2: ((pre2.length:Int)+1).toNat=pre2.length+1:=by omega
      have hw2:IntKind.i64.wrap (pre2.length:Int)=(pre2.length:Int):=Ql (by simp at hll;omega) (by simp at hll;omega)
      rw[SQ]
      simp only[List.length_append,List.length_singleton,Int.natCast_add,Int.natCast_one]at h3 hg hlt hw1 hh
      by_cases c6:Qm q x < 0
      ·have c6': ¬0≤Qm q x:=by omega
       simp[Qq,h1,h3,hg,hg2,hlt,hw1,hw2,hp0,hp1,hp2,h4,c1,c2,e1,e2,e3,c6,c6',YK,gtO]
       simp only[ite_not]at hh
       apply hh <;> simp[h1,Qq]
      ·have c6':0≤Qm q x:=by omega
       simp[Qq,h1,h3,hg,hg2,hlt,hw1,hw2,hp0,hp1,hp2,h4,c1,c2,e1,e2,e3,c6,c6',YK,gtO,F.f230R,F.f230K]
    ·simp[h1,h3,Qq,hg,hlt,c1,c2,e1,e2,e3,YK,F.f230R,F.f230K]
   ·simp[h1,h3,Qq,hg,hlt,c1,e1,e2,YK,F.f230R,F.f230K]
  ·simp[h1,h3,Qq,hg,hlt,c1,e1,YK,F.f230R,F.f230K]
theorem Da (f:Fr) (bs:List (List AV)) (h:FOk f):call F.tb 230 [.agg (Qq f)] bs=some (.int .i64 (Za f),bs):=by
 have hs:=fun ρ=>BW f bs h f.s [] ρ rfl
 rw[SR]at hs
 rw[Qb F.tb_230 _ _ rfl]
 by_cases c1:40 < f.s.length
 ·have c1': (40:Int) < (f.s.length:Int):=by omega
  simp[F.f230B,F.f230C,F.f230R,F.f230K,Qq,c1,c1',Za]
 ·have c1': ¬(40:Int) < (f.s.length:Int):=by omega
  by_cases c2:40 < f.t.length
  ·have c2': (40:Int) < (f.t.length:Int):=by omega
   simp[F.f230B,F.f230C,F.f230R,F.f230K,Qq,c1,c1',c2,c2',Za]
  ·have c2': ¬(40:Int) < (f.t.length:Int):=by omega
   have e:Za f=if YK none f.s≠0 then YK none f.s else Wo f.t:=by simp[Za,c1,c2]
   rw[e]
   generalize (if YK none f.s≠0 then YK none f.s else Wo f.t)=V at *
   simp[F.f230B,F.f230C,Qq,c1',c2']
   apply hs <;> simp[Qq]
end Go.Am
namespace Go.Am
set_option maxRecDepth 8000
theorem E8 (x y:Tm) (bs:List (List AV)) (hx:x.mass < big) (hy:y.mass < big):call F.tb 213 [.agg (Qa x),.agg (Qa y)] bs=some (.bool (decide (Qm x y=0)),bs):=by
 have h:=call_Compare x y bs hx hy
 rw[Qb F.tb_213 _ _ rfl]
 simp[F.f213B,F.f213C,F.f213R,F.f213K,h]
theorem E7 (x y:Tm) (g:Nat) (bs:List (List AV)) (hg:bs[g]? =some (Qa y)) (hx:x.mass < big) (hy:y.mass < big):call F.tb 212 [.agg (Qa x),.gp g 0] bs=some (.bool (decide (Qm x y=0)),bs):=by
 have h:=E8 x y bs hx hy
 rw[Qb F.tb_212 _ _ rfl]
 simp[-getElem?_pos,F.f212B,F.f212C,F.f212R,F.f212K,hg,h]
def eqB (y x:Tm):Bool:=decide (Qm x y=0)
theorem QdA (l:List Tm) (y:Tm) (g:Nat) (bs:List (List AV)) (hg:bs[g]? =some (Qa y)) (hl:l.length < 1000000) (hm: ∀x∈l,x.mass < big) (hy:y.mass < big):
  ∀(post pre:List Tm) (o:Bool) (ρ:Nat→AV),l=pre ++ post→pre.any (eqB y)=false→ρ 0= .sl o 4 (encTs l)→ρ 1= .fn 212 [.gp g 0]→ρ 7= .int .i64 l.length→ρ 8= .int .i64 pre.length→
  U4 (l.any (eqB y)) bs (R F.tb (.loop F.f215l0) ρ bs (Qk 0 (Qv F.tb F.f215r0 (Qx F.f215 bs)))):=by
 intro post
 induction post with
 | nil=>
  intro pre o ρ hk hp h0 h1 h7 h8
  simp only[List.append_nil]at hk
  rw[← hk]at h8 hp
  rw[Qc F.f215l0.eq_1]
  refine⟨-1,?_,by rw[hp];simp⟩
  simp[h0,h1,h7,h8,F.f215r0,F.f215R,F.f215K]
 | cons x post IH=>
  intro pre o ρ hk hp h0 h1 h7 h8
  have hgt:=Qp hk
  have hll:l.length=pre.length+ (post.length+1):=by rw[hk];simp
  have hw1:IntKind.i64.wrap ((pre.length:Int)+1)=(pre.length:Int)+1:=Ql (by omega) (by omega)
  have hlt: (pre.length:Int) < (l.length:Int):=by omega
  have hcall:=E7 x y g bs hg (hm x (by rw[hk];simp)) hy
  have ih:=fun ρ hpp=>IH (pre ++ [x]) o ρ (by rw[hk];simp) hpp
  rw[Qc F.f215l0.eq_1]
  by_cases ho:Qm x y=0
  ·have hany:l.any (eqB y)=true:=List.any_eq_true.2 ⟨x,by rw[hk];simp,by simp[eqB,ho]⟩
   refine⟨pre.length,?_,by rw[hany];simp⟩
   simp[h0,h1,h7,h8,hlt,hgt,hcall,ho,F.f215R,F.f215K]
  ·have ih2:=fun ρ=>ih ρ (by rw[List.any_append,hp];simp[eqB,ho])
   simp[h0,h1,h7,h8,hlt,hgt,hw1,hcall,ho,-List.any_eq_false,-List.any_eq_true]
   apply ih2 <;> simp[h0,h1,h7]
theorem E6 (l:List Tm) (y:Tm) (o:Bool) (bs:List (List AV)) (hl:l.length < 1000000) (hm: ∀x∈l,x.mass < big) (hy:y.mass < big):
  call F.tb 211 [.sl o 4 (encTs l),.agg (Qa y)] bs=some (.bool (l.any (eqB y)),bs):=by
 have hg: (bs ++ [Qa y])[bs.length]? =some (Qa y):=List.getElem?_concat_length
 have h1:=fun ρ=>QdA l y bs.length (bs ++ [Qa y]) hg hl hm hy l [] false ρ rfl rfl
 have h2:U4 (l.any (eqB y)) (bs ++ [Qa y]) (call F.tb 215 [.sl false 4 (encTs l),.fn 212 [.gp bs.length 0]] (bs ++ [Qa y])):=by
  rw[Qb F.tb_215 _ _ rfl]
  simp[F.f215B,F.f215C,-List.any_eq_false,-List.any_eq_true]
  apply h1 <;> simp
 obtain⟨i,hi,hb⟩:=h2
 have htk: (bs ++ [Qa y]).take (bs.length+1)=bs ++ [Qa y]:=List.take_of_length_le (by simp)
 have h3:call F.tb 214 [.sl false 4 (encTs l),.fn 212 [.gp bs.length 0]] (bs ++ [Qa y])=some (.bool (l.any (eqB y)),bs ++ [Qa y]):=by
  rw[Qb F.tb_214 _ _ rfl]
  simp[F.f214B,F.f214C,hi,F.f214R,F.f214K,htk,-List.any_eq_false,-List.any_eq_true]
  cases hx:l.any (eqB y)
  ·rw[hx]at hb;simp at hb;simpa using hb
  ·rw[hx]at hb;simp at hb;simpa using hb
 rw[Qb F.tb_211 _ _ rfl]
 simp[F.f211B,F.f211C,F.f211R,F.f211K,h3,-List.any_eq_false,-List.any_eq_true]
def TS (B0 B:List (List AV)) (v:AV) (l:List Tm):Prop:=∃(M:List (List AV)) (id sz:Nat),B=B0 ++ M∧v= .gs id 0 sz l.length∧
 ((sz=0∧id=0∧l=[])∨(sz=4∧B0.length≤id∧l≠[]∧B[id]? =some (Qw l)))
theorem BI {B0 B:List (List AV)} {v:AV} {l:List Tm} (h:TS B0 B v l): ∃id sz,v= .gs id 0 sz l.length:=by
 obtain⟨M,id,sz,_,rfl,_⟩:=h;exact⟨id,sz,rfl⟩
theorem QkN (B0:List (List AV)):TS B0 B0 (.gs 0 0 0 0) []:=⟨[],0,0,by simp,rfl,.inl ⟨rfl,rfl,rfl⟩⟩
theorem Qdy {B:List (List AV)} {id sz:Nat} (l:List Tm) (y:Tm) (g:Nat) (hb:l≠[]→sz=4∧B[id]? =some (Qw l)) (hg:B[g]? =some (Qa y)) (hl:l.length < 1000000) (hm: ∀x∈l,x.mass < big) (hy:y.mass < big):
  ∀(post pre:List Tm) (ρ:Nat→AV),l=pre ++ post→pre.any (eqB y)=false→ρ 0= .gs id 0 sz l.length→ρ 1= .fn 212 [.gp g 0]→ρ 7= .int .i64 l.length→ρ 8= .int .i64 pre.length→
  U4 (l.any (eqB y)) B (R F.tb (.loop F.f218l0) ρ B (Qk 0 (Qv F.tb F.f218r0 (Qx F.f218 B)))):=by
 intro post
 induction post with
 | nil=>
  intro pre ρ hk hp h0 h1 h7 h8
  simp only[List.append_nil]at hk
  rw[← hk]at h8 hp
  rw[Qc F.f218l0.eq_1]
  refine⟨-1,?_,by rw[hp];simp⟩
  simp[h0,h1,h7,h8,F.f218r0,F.f218R,F.f218K]
 | cons x post IH=>
  intro pre ρ hk hp h0 h1 h7 h8
  have hgt:=Qp hk
  have hll:l.length=pre.length+ (post.length+1):=by rw[hk];simp
  have hw1:IntKind.i64.wrap ((pre.length:Int)+1)=(pre.length:Int)+1:=Ql (by omega) (by omega)
  have hlt: (pre.length:Int) < (l.length:Int):=by omega
  have hlt':pre.length < l.length:=by omega
  obtain⟨rfl,hbx⟩:=hb (by intro e;rw[e]at hlt';simp at hlt')
  have r1: (((Qw l).map AV.strip).drop (pre.length*4)).take 4=Qa x:=by
   have:=VB (f:=Qa) (k:=4) QO hk []
   rw[List.append_nil]at this
   rw[Z5 Zs];exact this
  have hle:pre.length*4+4≤(Qw l).length:=by rw[Z2 QO];omega
  have hcall:=E7 x y g B hg (hm x (by rw[hk];simp)) hy
  have ih:=fun ρ hpp=>IH (pre ++ [x]) ρ (by rw[hk];simp) hpp
  generalize Qw l=c at *
  rw[Qc F.f218l0.eq_1]
  by_cases ho:Qm x y=0
  ·have hany:l.any (eqB y)=true:=List.any_eq_true.2 ⟨x,by rw[hk];simp,by simp[eqB,ho]⟩
   refine⟨pre.length,?_,by rw[hany];simp⟩
   simp[-getElem?_pos,h0,h1,h7,h8,hlt,hlt',hbx,hle,r1,hcall,ho,F.f218R,F.f218K]
  ·have ih2:=fun ρ=>ih ρ (by rw[List.any_append,hp];simp[eqB,ho])
   simp[-getElem?_pos,h0,h1,h7,h8,hlt,hlt',hw1,hbx,hle,r1,hcall,ho,-List.any_eq_false,-List.any_eq_true]
   apply ih2 <;> simp[h0,h1,h7]
theorem QfS {B0 B:List (List AV)} {v:AV} {l:List Tm} (h:TS B0 B v l) (y:Tm) (hl:l.length < 1000000) (hm: ∀x∈l,x.mass < big) (hy:y.mass < big):
  call F.tb 216 [v,.agg (Qa y)] B=some (.bool (l.any (eqB y)),B):=by
 obtain⟨M,id,sz,rfl,rfl,hc⟩:=h
 have hg: ((B0 ++ M)++ [Qa y])[(B0 ++ M).length]? =some (Qa y):=List.getElem?_concat_length
 have hb:l≠[]→sz=4∧((B0 ++ M)++ [Qa y])[id]? =some (Qw l):=by
  intro hne
  rcases hc with⟨_,_,rfl⟩ | ⟨h1,_,_,h2⟩
  ·exact absurd rfl hne
  ·refine⟨h1,?_⟩
   rw[List.getElem?_append_left (Ug h2),h2]
 generalize B0 ++ M=B at *
 have h1:=fun ρ=>Qdy l y B.length hb hg hl hm hy l [] ρ rfl rfl
 have h2:U4 (l.any (eqB y)) (B ++ [Qa y]) (call F.tb 218 [.gs id 0 sz l.length,.fn 212 [.gp B.length 0]] (B ++ [Qa y])):=by
  rw[Qb F.tb_218 _ _ rfl]
  simp[F.f218B,F.f218C,-List.any_eq_false,-List.any_eq_true]
  apply h1 <;> simp
 obtain⟨i,hi,hb2⟩:=h2
 have htk: (B ++ [Qa y]).take (B.length+1)=B ++ [Qa y]:=List.take_of_length_le (by simp)
 have h3:call F.tb 217 [.gs id 0 sz l.length,.fn 212 [.gp B.length 0]] (B ++ [Qa y])=some (.bool (l.any (eqB y)),B ++ [Qa y]):=by
  rw[Qb F.tb_217 _ _ rfl]
  simp[F.f217B,F.f217C,hi,F.f217R,F.f217K,htk,-List.any_eq_false,-List.any_eq_true]
  cases hx:l.any (eqB y)
  ·rw[hx]at hb2;simp at hb2;simpa using hb2
  ·rw[hx]at hb2;simp at hb2;simpa using hb2
 rw[Qb F.tb_216 _ _ rfl]
 simp[F.f216B,F.f216C,F.f216R,F.f216K,h3,-List.any_eq_false,-List.any_eq_true]
theorem E4 (t:Tm) (bs:List (List AV)) (hm:t.mass < big):call F.tb 208 [.agg (Qa t)] bs=some (.agg (Qa t),bs):=by
 have h:=H8 t bs hm true
 rw[Qb F.tb_208 _ _ rfl]
 simp[F.f208B,F.f208C,F.f208R,F.f208K,h]
end Go.Am
