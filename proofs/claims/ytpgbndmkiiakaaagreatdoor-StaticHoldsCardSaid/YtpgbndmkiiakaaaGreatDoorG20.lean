/-
  Rc26, Rc27, Rc28, Rc29, Rc30, Rc31, Rc32, Rc33.
-/
import Derived.Test.YtpgbndmkiiakaaaGreatDoorG19
set_option linter.unusedVariables false
set_option linter.unusedSimpArgs false
namespace Go.Am
set_option maxRecDepth 8000
theorem Pm {x:Tm}: ∀{ks:List Tm},x∈ks→x.nodes≤nodesL ks
 | [],h=>by cases h
 | t:: ts,h=>by
  simp only[nodesL]
  rcases List.mem_cons.1 h with rfl | h
  ·omega
  ·have:=Pm h;omega
theorem TM {n:List UInt8} (h:Z7 n=true): (n=FST∨n=SND∨n=READ)∨(n=DEC∨n=Q1∨n=Zf):=by
 simp only[Z7,Bool.or_eq_true,beq_iff_eq]at h
 rcases h with((((h | h) | h) | h) | h) | h <;> simp[h]
theorem Qd2 {n:List UInt8} {us:List Tm} (bs:List (List AV)) (hn:Z7 n=true) (ha:ZB n us.length=true) (hg:goodL us=true) (hm:massL us < 20000000):call F.tb 176 [.agg (Qb (.mk 3 n 0 us))] bs=some (.agg (Qb (QJ n us)),bs):=by
 rcases TM hn with h | h
 ·have h1:us.length=1:=by rcases h with rfl | rfl | rfl <;> simpa[ZB,PK,ZX,ENC,Zo,ZY,EXP,DEC,Q1,Zf,FST,SND,READ]using ha
  obtain⟨a,rfl⟩:=List.length_eq_one_iff.1 h1
  simp only[goodL,Bool.and_eq_true]at hg
  simp only[massL]at hm
  exact Qbv n a bs h hg.1 (by unfold big;omega)
 ·have h1:us.length=2:=by rcases h with rfl | rfl | rfl <;> simpa[ZB]using ha
  match us,h1,hg,hm with
  | [a,b],_,hg,hm=>
   simp only[goodL,Bool.and_eq_true]at hg
   simp only[massL]at hm
   exact Qbw n a b bs h hg.1 hg.2.1 (by unfold big;omega) (by unfold big;omega)
theorem Qes {n:List UInt8} {us:List Tm} (bs:List (List AV)) (hn:Z7 n=true) (ha:ZB n us.length=true) (hg:goodL us=true) (hm:massL us < 20000000):QaY (QJ n us) bs (call F.tb 243 [.agg (Qb (.mk 3 n 0 us))] bs):=by
 rcases TM hn with h | h
 ·have h1:us.length=1:=by rcases h with rfl | rfl | rfl <;> simpa[ZB,PK,ZX,ENC,Zo,ZY,EXP,DEC,Q1,Zf,FST,SND,READ]using ha
  obtain⟨a,rfl⟩:=List.length_eq_one_iff.1 h1
  simp only[goodL,Bool.and_eq_true]at hg
  simp only[massL]at hm
  exact Ct n a bs h hg.1 (by unfold big;omega)
 ·have h1:us.length=2:=by rcases h with rfl | rfl | rfl <;> simpa[ZB]using ha
  match us,h1,hg,hm with
  | [a,b],_,hg,hm=>
   simp only[goodL,Bool.and_eq_true]at hg
   simp only[massL]at hm
   exact Cu n a b bs h hg.1 (by unfold big;omega) (by unfold big;omega)
def MX (us:List Tm) (n:List UInt8):Prop:=massL us+n.length+us.length < 15000000
set_option maxHeartbeats 2000000 in
theorem QfD (t:Tm) (us:List Tm) (bs:List (List AV)) (ha:ZB t.name us.length=true) (hg:goodL us=true) (hm:MX us t.name) (ρ:Nat→AV) (h1:ρ 1= .bx (Qb t)) (h2:ρ 2= .bx [.int .i64 0,.str [],.int .i64 0,.sl true 4 []])
  (h4:ρ 4= .bx [.int .i64 3,.str t.name,.int .i64 0,.sl true 4 (encTs us)]):R F.tb F.f175r0 ρ bs (QB F.f175 bs)=some (QN (ZQ t.name us),bs):=by
 unfold MX at hm
 have hf:=X2 3 t.name 0 us
 have hgp:gpfreeE (encTs us)=true:=encTs_gp us
 obtain⟨n,hn⟩: ∃n,t.name=n:=⟨_,rfl⟩
 rw[hn]at ha hm h4 hf ⊢
 cases hd:Z7 n
 ·have hd':=hd
  simp only[Z7,Bool.or_eq_false_iff]at hd'
  obtain⟨⟨⟨⟨⟨d1,d2⟩,d3⟩,d4⟩,d5⟩,d6⟩:=hd'
  simp only[FST,SND,DEC,Q1,Zf,READ]at d1 d2 d3 d4 d5 d6
  by_cases hx:n=XOR
  ·subst hx
   have e:ZQ XOR us=XP us:=by simp[ZQ,hd]
   have hc:=Qbh us false bs (by omega) (by omega)
   rw[e]
   simp only[QN]at hc ⊢
   simp only[XOR]at *
   simp[F.f175r0,h1,h2,h4,hn,hc,F.f175R,F.f175K]
  ·by_cases hp:n=MUL∨n=INV∨n=ONE
   ·have e:ZQ n us=ZV (.mk 3 n 0 us):=by simp only[ZQ,hd,hx,hp,if_true,if_false];simp
    have hmass: (Tm.mk 3 n 0 us).mass < 20000000:=by simp only[Tm.mass];omega
    have hc:=LE (.mk 3 n 0 us) bs (by omega)
    have hc2:=Nn false bs (RV (.mk 3 n 0 us) 25000000 (by omega)) (Te _)
    rw[← hf]at hc
    rw[e]
    by_cases c:ofE (.mk 3 n 0 us)=0
    ·have e2:ZV (.mk 3 n 0 us)=Zq (ofP (.mk 3 n 0 us)):=by simp[ZV,c]
     rw[e2]
     simp only[QN]at hc2 ⊢
     rw[c]at hc
     generalize ofP (.mk 3 n 0 us)=P at *
     rcases hp with rfl | rfl | rfl
     ·simp only[MUL]at *
      simp[F.f175r0,h1,h2,h4,hn,hc,hc2,F.f175R,F.f175K]
     ·simp only[INV]at *
      simp[F.f175r0,h1,h2,h4,hn,hc,hc2,F.f175R,F.f175K]
     ·simp only[ONE]at *
      simp[F.f175r0,h1,h2,h4,hn,hc,hc2,F.f175R,F.f175K]
    ·have e2:ZV (.mk 3 n 0 us)=(QC,ofE (.mk 3 n 0 us)):=by simp[ZV,c]
     rw[e2]
     generalize ofE (.mk 3 n 0 us)=E at *
     generalize ofP (.mk 3 n 0 us)=P at *
     rcases hp with rfl | rfl | rfl
     ·simp only[MUL]at *
      simp[F.f175r0,h1,h2,h4,hn,hc,c,F.f175R,F.f175K,QH,QE]
     ·simp only[INV]at *
      simp[F.f175r0,h1,h2,h4,hn,hc,c,F.f175R,F.f175K,QH,QE]
     ·simp only[ONE]at *
      simp[F.f175r0,h1,h2,h4,hn,hc,c,F.f175R,F.f175K,QH,QE]
   ·by_cases he:n=EXP
    ·have e:ZQ n us=Yw (us.getD 0 QC) (us.getD 1 QC):=by subst he;simp only[ZQ,hd,if_neg hx,if_neg hp];simp
     subst he
     have hl:us.length=2:=by simpa[ZB]using ha
     match us,hl,hg,hm,h4,e with
     | [x,y],_,hg,hm,h4,e=>
      simp only[goodL,Bool.and_eq_true]at hg
      simp only[massL]at hm
      have hc:=Qd7 x y bs hg.1 (by omega) (by omega)
      rw[e]
      simp only[QN]at hc ⊢
      simp only[List.getD_cons_zero,List.getD_cons_succ]at *
      simp only[EXP]at *
      simp[F.f175r0,h1,h2,h4,hn,hc,F.f175R,F.f175K]
    ·have e:ZQ n us=(.mk 3 n 0 us,0):=by simp only[ZQ,hd,hx,hp,he,if_false];simp
     rw[e]
     have b1: (n == XOR)=false:=by simpa using hx
     have b2: (n == MUL)=false:=by simp at hp ⊢;exact hp.1
     have b3: (n == INV)=false:=by simp at hp ⊢;exact hp.2.1
     have b4: (n == ONE)=false:=by simp at hp ⊢;exact hp.2.2
     have b5: (n == EXP)=false:=by simpa using he
     simp only[XOR,MUL,INV,ONE,EXP]at b1 b2 b3 b4 b5
     simp[F.f175r0,h1,h2,h4,hn,d1,d2,d3,d4,d5,d6,b1,b2,b3,b4,b5,F.f175R,F.f175K,QH,QF]
 ·have e:ZQ n us=(QJ n us,0):=by simp[ZQ,hd]
  have hc:=Qd2 bs hd ha hg (by omega)
  rw[← hf]at hc
  rw[e]
  generalize QJ n us=D at *
  rcases TM hd with(rfl | rfl | rfl) | (rfl | rfl | rfl)
  ·simp only[FST]at *
   simp[F.f175r0,h1,h2,h4,hn,hc,F.f175R,F.f175K,QH]
  ·simp only[SND]at *
   simp[F.f175r0,h1,h2,h4,hn,hc,F.f175R,F.f175K,QH]
  ·simp only[READ]at *
   simp[F.f175r0,h1,h2,h4,hn,hc,F.f175R,F.f175K,QH]
  ·simp only[DEC]at *
   simp[F.f175r0,h1,h2,h4,hn,hc,F.f175R,F.f175K,QH]
  ·simp only[Q1]at *
   simp[F.f175r0,h1,h2,h4,hn,hc,F.f175R,F.f175K,QH]
  ·simp only[Zf]at *
   simp[F.f175r0,h1,h2,h4,hn,hc,F.f175R,F.f175K,QH]
def YW (n:List UInt8) (us:List Tm) (r:List Tm×Int):Tm×Int:=if r.2=0 then ZQ n (us ++ r.1)else(QC,r.2)
theorem Qab (t:Tm) (bs:List (List AV)) (hg:QT t=true) (hk3:t.kind=3) (hm:t.mass+13200*t.nodes < 15000000) (ih: ∀x∈t.kids,∀bs,call F.tb 175 [.agg (Qb x)] bs=some (QN (Q7 x),bs)):
  ∀(post pre us:List Tm) (ρ:Nat→AV),t.kids=pre ++ post→us.length=pre.length→goodL us=true→massL us≤massL pre+13200*nodesL pre→ρ 1= .bx (Qb t)→ρ 2= .bx [.int .i64 0,.str [],.int .i64 0,.sl true 4 []]→
   ρ 4= .bx [.int .i64 3,.str t.name,.int .i64 0,.sl true 4 (encTs us)]→ρ 19= .sl false 4 (encTs t.kids)→ρ 20= .int .i64 t.kids.length→ρ 21= .int .i64 pre.length→
  R F.tb (.loop F.f175l0) ρ bs (Qk 0 (Qw F.tb F.f175r0 (QB F.f175 bs)))=some (QN (YW t.name us (normL post)),bs):=by
 have hme:=Qq t
 have hne:=Yo t
 intro post
 induction post with
 | nil=>
  intro pre us ρ hk hl hgu hmu h1 h2 h4 h19 h20 h21
  simp only[List.append_nil]at hk
  rw[← hk]at h21 hl hmu
  have har:=(Ww hg hk3).2
  have hr:=QfD t us bs (by rw[hl];exact har) hgu (by unfold MX;omega)
  have e:YW t.name us (normL [])=ZQ t.name us:=by simp[YW,normL]
  rw[Qc F.f175l0.eq_1,e]
  simp[h1,h2,h4,h19,h20,h21]
  apply hr <;> simp[h1,h2,h4]
 | cons x post IH=>
  intro pre us ρ hk hl hgu hmu h1 h2 h4 h19 h20 h21
  have hg2:=Qp hk
  have hll:t.kids.length=pre.length+ (post.length+1):=by rw[hk];simp
  have hw1:IntKind.i64.wrap ((pre.length:Int)+1)=(pre.length:Int)+1:=Qj (by omega) (by omega)
  have hlt: (pre.length:Int) < (t.kids.length:Int):=by omega
  have hxk:x∈t.kids:=by rw[hk];simp
  have hc:=ih x hxk bs
  obtain⟨n1,n2⟩:=Tw x (Yh.1 (XE hg) x hxk)
  simp only[QN]at hc
  rw[Qc F.f175l0.eq_1]
  by_cases c: (Q7 x).2=0
  ·have e:YW t.name us (normL (x:: post))=YW t.name (us ++ [(Q7 x).1]) (normL post):=by
    simp only[YW,normL,c,if_true]
    by_cases c2: (normL post).2=0
    ·simp[c2]
    ·simp[c2]
   have hb: (us.length+1)*56≤140737488355328:=Yn (by omega)
   have hi:=fun ρ=>IH (pre ++ [x]) (us ++ [(Q7 x).1]) ρ (by rw[hk];simp) (by simp[hl]) (Yh.2 fun y hy=>by
    rcases List.mem_append.1 hy with hy | hy
    ·exact Yh.1 hgu y hy
    ·simp at hy;subst hy;exact n1) (by rw[Xl,Xl,ZW];simp only[massL,nodesL];omega)
   rw[e]
   simp[h1,h2,h4,h19,h20,h21,hg2,hlt,hw1,hc,c,hb,Q0,QS]
   apply hi <;> simp[h1,h2,h19,h20]
  ·have e:YW t.name us (normL (x:: post))=(QC,(Q7 x).2):=by simp[YW,normL,c]
   rw[e]
   simp[h1,h2,h4,h19,h20,h21,hg2,hlt,hc,c,F.f175R,F.f175K,QH,QE]
theorem Qd1: ∀(t:Tm) (bs:List (List AV)),QT t=true→t.mass+13200*t.nodes < 15000000→call F.tb 175 [.agg (Qb t)] bs=some (QN (Q7 t),bs):=by
 refine Zd ?_
 intro k n s ks ih bs hg hm
 have hme:=Qq (.mk k n s ks)
 have hne:=Yo (.mk k n s ks)
 simp only[QO,Za]at hme hne
 rw[Qa F.tb_175 _ _ rfl]
 by_cases hk:k=3
 ·subst hk
  have hl:=fun ρ=>Qab (.mk 3 n s ks) bs hg rfl hm (fun x hx bs=>ih x hx bs (Yh.1 (XE hg) x hx) (by have h1:x.mass≤massL ks:=QA hx;have h2:x.nodes≤nodesL ks:=Pm hx;omega)) ks [] [] ρ rfl rfl rfl (by simp[massL])
  have e:Q7 (.mk 3 n s ks)=YW n [] (normL ks):=by simp[Q7,YW]
  rw[e]
  simp only[Za,QO]at hl
  simp[F.f175B,F.f175C]
  apply hl <;> simp[encTs]
 ·have e:Q7 (.mk k n s ks)=(.mk k n s ks,0):=by simp[Q7,hk]
  rw[e]
  simp[F.f175B,F.f175C,hk,F.f175R,F.f175K,QH]
end Go.Am
namespace Go.Am
set_option maxRecDepth 8000
theorem T7 {n:List UInt8}: ∀{l:List Sy} {y:Sy},Zc n l=some y→y∈l∧y.n=n
 | [],y,h=>by simp[Zc]at h
 | s:: ss,y,h=>by
  simp only[Zc]at h
  split at h
  ·rename_i hs;injection h with h;subst h;exact⟨by simp,hs⟩
  ·obtain⟨h1,h2⟩:=T7 h;exact⟨by simp[h1],h2⟩
theorem QcF:Z2.all (fun y=> !(y.k == 3) || Z7 y.n)=true:=by decide
def XS (n:List UInt8):Int:=match Zc n Z2 with | some y=>y.k | none=>0
theorem OV (n:List UInt8):decide (XS n=3)=Z7 n:=by
 unfold XS
 cases hd:Z7 n
 ·cases hf:Zc n Z2 with
  | none=>simp
  | some y=>
   obtain⟨h1,h2⟩:=T7 hf
   have h3:=List.all_eq_true.1 QcF y h1
   rw[h2,hd]at h3
   simpa using h3
 ·rcases TM hd with(rfl | rfl | rfl) | (rfl | rfl | rfl) <;> simp[FST,SND,DEC,Q1,Zf,READ,Zc,Z2]
theorem Tc (n:List UInt8) (bs:List (List AV)):call F.tb 128 [.str n] bs=some (.int .i64 (XS n),bs):=Ka n bs
set_option maxHeartbeats 4000000 in
theorem Qa5 (t:Tm) (us:List Tm) (bs:List (List AV)) (ha:ZB t.name us.length=true) (hg:goodL us=true) (hm:MX us t.name) (ρ:Nat→AV) (h1:ρ 1= .bx (Qb t)) (h2:ρ 2= .bx [.int .i64 0,.str [],.int .i64 0,.sl true 4 []])
  (h4:ρ 4= .sl true 4 (encTs us)):R F.tb F.f242r0 ρ bs (QB F.f242 bs)=some (QN (ZQ t.name us),bs):=by
 unfold MX at hm
 obtain⟨n,hn⟩: ∃n,t.name=n:=⟨_,rfl⟩
 rw[hn]at ha hm ⊢
 have hap:=Vj n us false bs (by omega)
 have hkn:=Tc n bs
 have hk3:=OV n
 cases hd:Z7 n
 ·rw[hd]at hk3
  have hk3': ¬XS n=3:=by simpa using hk3
  generalize XS n=KK at *
  by_cases hx:n=XOR
  ·subst hx
   have e:ZQ XOR us=XP us:=by simp[ZQ,hd]
   have hc:=E9 us false bs (by omega) (by omega)
   rw[e]
   simp only[QN]at hc ⊢
   simp only[XOR]at *
   simp[F.f242r0,h1,h2,h4,hn,hap,hkn,hk3',hc,F.f242R,F.f242K]
  ·have b1: (n == XOR)=false:=by simpa using hx
   simp only[XOR]at b1
   by_cases hp:n=MUL∨n=INV∨n=ONE
   ·have e:ZQ n us=ZV (.mk 3 n 0 us):=by simp only[ZQ,hd,hx,hp,if_true,if_false];simp
    have hmass: (Tm.mk 3 n 0 us).mass < 20000000:=by simp only[Tm.mass];omega
    have hc:=Qet (.mk 3 n 0 us) bs (by omega)
    rw[e]
    simp only[QN]at hc ⊢
    generalize ZV (.mk 3 n 0 us)=P at *
    rcases hp with rfl | rfl | rfl
    ·simp only[MUL]at *
     simp[F.f242r0,h1,h2,h4,hn,hap,hkn,hk3',hc,F.f242R,F.f242K]
    ·simp only[INV]at *
     simp[F.f242r0,h1,h2,h4,hn,hap,hkn,hk3',hc,F.f242R,F.f242K]
    ·simp only[ONE]at *
     simp[F.f242r0,h1,h2,h4,hn,hap,hkn,hk3',hc,F.f242R,F.f242K]
   ·by_cases he:n=EXP
    ·have e:ZQ n us=Yw (us.getD 0 QC) (us.getD 1 QC):=by subst he;simp only[ZQ,hd,if_neg hx,if_neg hp];simp
     subst he
     have hl:us.length=2:=by simpa[ZB]using ha
     match us,hl,hg,hm,h4,e,hap with
     | [x,y],_,hg,hm,h4,e,hap=>
      simp only[goodL,Bool.and_eq_true]at hg
      simp only[massL]at hm
      have hc:=Qex x y bs hg.1 (by omega) (by omega)
      rw[e]
      simp only[QN]at hc ⊢
      simp only[List.getD_cons_zero,List.getD_cons_succ]at *
      simp only[EXP]at *
      simp[F.f242r0,h1,h2,h4,hn,hap,hkn,hk3',hc,F.f242R,F.f242K]
    ·have e:ZQ n us=(.mk 3 n 0 us,0):=by simp only[ZQ,hd,hx,hp,he,if_false];simp
     rw[e]
     have b2: (n == MUL)=false:=by simp at hp ⊢;exact hp.1
     have b3: (n == INV)=false:=by simp at hp ⊢;exact hp.2.1
     have b4: (n == ONE)=false:=by simp at hp ⊢;exact hp.2.2
     have b5: (n == EXP)=false:=by simpa using he
     simp only[MUL,INV,ONE,EXP]at b2 b3 b4 b5
     simp[F.f242r0,h1,h2,h4,hn,hap,hkn,hk3',b1,b2,b3,b4,b5,F.f242R,F.f242K,QH]
 ·rw[hd]at hk3
  have hk3':XS n=3:=by simpa using hk3
  rw[hk3']at hkn
  have e:ZQ n us=(QJ n us,0):=by simp[ZQ,hd]
  obtain⟨b,hc⟩:=Qes bs hd ha hg (by omega)
  rw[e]
  generalize QJ n us=D at *
  simp[F.f242r0,h1,h2,h4,hn,hap,hkn,hc,F.f242R,F.f242K,QH]
theorem EP (t:Tm) (bs:List (List AV)) (hg:QT t=true) (hk3:t.kind=3) (hm:t.mass+13200*t.nodes < 15000000) (ih: ∀x∈t.kids,∀bs,call F.tb 242 [.agg (Qb x)] bs=some (QN (Q7 x),bs)):
  ∀(post pre us:List Tm) (ρ:Nat→AV),t.kids=pre ++ post→us.length=pre.length→goodL us=true→massL us≤massL pre+13200*nodesL pre→ρ 1= .bx (Qb t)→ρ 2= .bx [.int .i64 0,.str [],.int .i64 0,.sl true 4 []]→
   ρ 4= .sl true 4 (encTs us)→ρ 5= .int .i64 pre.length→
  R F.tb (.loop F.f242l0) ρ bs (Qk 0 (Qw F.tb F.f242r0 (QB F.f242 bs)))=some (QN (YW t.name us (normL post)),bs):=by
 have hme:=Qq t
 have hne:=Yo t
 intro post
 induction post with
 | nil=>
  intro pre us ρ hk hl hgu hmu h1 h2 h4 h5
  simp only[List.append_nil]at hk
  rw[← hk]at h5 hl hmu
  have har:=(Ww hg hk3).2
  have hr:=Qa5 t us bs (by rw[hl];exact har) hgu (by unfold MX;omega)
  have e:YW t.name us (normL [])=ZQ t.name us:=by simp[YW,normL]
  rw[Qc F.f242l0.eq_1,e]
  simp[h1,h2,h4,h5]
  apply hr <;> simp[h1,h2,h4]
 | cons x post IH=>
  intro pre us ρ hk hl hgu hmu h1 h2 h4 h5
  have hg2:=Qp hk
  have hll:t.kids.length=pre.length+ (post.length+1):=by rw[hk];simp
  have hw1:IntKind.i64.wrap ((pre.length:Int)+1)=(pre.length:Int)+1:=Qj (by omega) (by omega)
  have hlt: (pre.length:Int) < (t.kids.length:Int):=by omega
  have hxk:x∈t.kids:=by rw[hk];simp
  have hc:=ih x hxk bs
  obtain⟨n1,n2⟩:=Tw x (Yh.1 (XE hg) x hxk)
  simp only[QN]at hc
  rw[Qc F.f242l0.eq_1]
  by_cases c: (Q7 x).2=0
  ·have e:YW t.name us (normL (x:: post))=YW t.name (us ++ [(Q7 x).1]) (normL post):=by
    simp only[YW,normL,c,if_true]
    by_cases c2: (normL post).2=0
    ·simp[c2]
    ·simp[c2]
   have hb: (us.length+1)*56≤140737488355328:=Yn (by omega)
   have hi:=fun ρ=>IH (pre ++ [x]) (us ++ [(Q7 x).1]) ρ (by rw[hk];simp) (by simp[hl]) (Yh.2 fun y hy=>by
    rcases List.mem_append.1 hy with hy | hy
    ·exact Yh.1 hgu y hy
    ·simp at hy;subst hy;exact n1) (by rw[Xl,Xl,ZW];simp only[massL,nodesL];omega)
   rw[e]
   simp[h1,h2,h4,h5,hg2,hlt,hw1,hc,c,hb,Q0,QS]
   apply hi <;> simp[h1,h2]
  ·have e:YW t.name us (normL (x:: post))=(QC,(Q7 x).2):=by simp[YW,normL,c]
   rw[e]
   simp[h1,h2,h4,h5,hg2,hlt,hc,c,F.f242R,F.f242K,QH,QE]
theorem Qer: ∀(t:Tm) (bs:List (List AV)),QT t=true→t.mass+13200*t.nodes < 15000000→call F.tb 242 [.agg (Qb t)] bs=some (QN (Q7 t),bs):=by
 refine Zd ?_
 intro k n s ks ih bs hg hm
 have hme:=Qq (.mk k n s ks)
 have hne:=Yo (.mk k n s ks)
 simp only[QO,Za]at hme hne
 rw[Qa F.tb_242 _ _ rfl]
 by_cases hk:k=3
 ·subst hk
  have hl:=fun ρ=>EP (.mk 3 n s ks) bs hg rfl hm (fun x hx bs=>ih x hx bs (Yh.1 (XE hg) x hx) (by have h1:x.mass≤massL ks:=QA hx;have h2:x.nodes≤nodesL ks:=Pm hx;omega)) ks [] [] ρ rfl rfl rfl (by simp[massL])
  have e:Q7 (.mk 3 n s ks)=YW n [] (normL ks):=by simp[Q7,YW]
  rw[e]
  simp only[Za,QO]at hl
  simp[F.f242B,F.f242C]
  apply hl <;> simp[encTs]
 ·have e:Q7 (.mk k n s ks)=(.mk k n s ks,0):=by simp[Q7,hk]
  rw[e]
  simp[F.f242B,F.f242C,hk,F.f242R,F.f242K,QH]
end Go.Am
namespace Go.Am
set_option maxRecDepth 8000
def QX (t:Tm):Tm×Int:=if thV t≠0 then(QC,thV t)else if(Q7 t).2≠0 then(QC,(Q7 t).2)else if QK (Q7 t).1≠0 then(QC,QK (Q7 t).1)else((Q7 t).1,0)
theorem RZ {t:Tm} (h:thV t=0):QK t=0∧Yd t=0∧QT t=true∧t.mass≤13200∧t.nodes≤400:=by
 unfold thV at h
 split at h
 ·rename_i h1;exact absurd h h1
 ·rename_i h1
  have h2:QK t=0:=by simpa using h1
  obtain⟨a,b,c⟩:=WS h2
  exact⟨h2,h,Mp t a h,c,b⟩
theorem WL (t:Tm): (QX t).1.mass≤13200:=by
 unfold QX
 split
 ·show QC.mass≤_;rw[WF];omega
 ·split
  ·show QC.mass≤_;rw[WF];omega
  ·split
   ·show QC.mass≤_;rw[WF];omega
   ·rename_i h;exact(WS (by simpa using h)).2.2
theorem FN (t:Tm) (bs:List (List AV)) (hm:t.mass < big):call F.tb 174 [.agg (Qb t)] bs=some (QN (QX t),bs):=by
 have h1:=VC t bs hm
 rw[Qa F.tb_174 _ _ rfl]
 by_cases c1:thV t=0
 ·obtain⟨_,_,hg,hma,hno⟩:=RZ c1
  have h2:=Qd1 t bs hg (by omega)
  obtain⟨n1,n2⟩:=Tw t hg
  have h3:=Xz (Q7 t).1 bs (by unfold big;omega)
  simp only[QN]at h2
  by_cases c2: (Q7 t).2=0
  ·by_cases c3:QK (Q7 t).1=0
   ·have e:QX t=((Q7 t).1,0):=by simp[QX,c1,c2,c3]
    rw[e]
    simp[F.f174B,F.f174C,F.f174R,F.f174K,h1,h2,h3,c1,c2,c3,QH]
   ·have e:QX t=(QC,QK (Q7 t).1):=by simp[QX,c1,c2,c3]
    rw[e]
    simp[F.f174B,F.f174C,F.f174R,F.f174K,h1,h2,h3,c1,c2,c3,QH,QE]
  ·have e:QX t=(QC,(Q7 t).2):=by simp[QX,c1,c2]
   rw[e]
   simp[F.f174B,F.f174C,F.f174R,F.f174K,h1,h2,c1,c2,QH,QE]
 ·have e:QX t=(QC,thV t):=by simp[QX,c1]
  rw[e]
  simp[F.f174B,F.f174C,F.f174R,F.f174K,h1,c1,QH,QE]
theorem LI (t:Tm) (bs:List (List AV)) (hm:t.mass < big):call F.tb 241 [.agg (Qb t)] bs=some (QN (QX t),bs):=by
 have h1:=VB t bs hm
 rw[Qa F.tb_241 _ _ rfl]
 by_cases c1:thV t=0
 ·obtain⟨_,_,hg,hma,hno⟩:=RZ c1
  have h2:=Qer t bs hg (by omega)
  obtain⟨n1,n2⟩:=Tw t hg
  have h3:=Yl (Q7 t).1 bs (by unfold big;omega)
  simp only[QN]at h2
  by_cases c2: (Q7 t).2=0
  ·by_cases c3:QK (Q7 t).1=0
   ·have e:QX t=((Q7 t).1,0):=by simp[QX,c1,c2,c3]
    rw[e]
    simp[F.f241B,F.f241C,F.f241R,F.f241K,h1,h2,h3,c1,c2,c3,QH]
   ·have e:QX t=(QC,QK (Q7 t).1):=by simp[QX,c1,c2,c3]
    rw[e]
    simp[F.f241B,F.f241C,F.f241R,F.f241K,h1,h2,h3,c1,c2,c3,QH,QE]
  ·have e:QX t=(QC,(Q7 t).2):=by simp[QX,c1,c2]
   rw[e]
   simp[F.f241B,F.f241C,F.f241R,F.f241K,h1,h2,c1,c2,QH,QE]
 ·have e:QX t=(QC,thV t):=by simp[QX,c1]
  rw[e]
  simp[F.f241B,F.f241C,F.f241R,F.f241K,h1,c1,QH,QE]
theorem Qed (n:List UInt8) (bs:List (List AV)):call F.tb 206 [.str n] bs=some (.bool (!Z7 n),bs):=by
 have h:=Yj n bs
 have hk:=OV n
 rw[Qa F.tb_206 _ _ rfl,← hk]
 unfold XS
 cases hf:Zc n Z2 with
 | none=>
  rw[hf]at h
  simp[F.f206B,F.f206C,F.f206R,F.f206K,h]
 | some y=>
  rw[hf]at h
  simp[F.f206B,F.f206C,F.f206R,F.f206K,h,Xk]
def ndN (t:Tm):Bool:= !(decide (t.kind=3) && Z7 t.name)
mutual
def evT:Tm→Bool
 | .mk k n s ks=>ndN (.mk k n s ks) && evL ks
def evL:List Tm→Bool
 | []=>true
 | t:: ts=>evT t && evL ts
end
theorem AF (t:Tm):evT t=(ndN t && evL t.kids):=by cases t;simp[evT]
mutual
theorem LU: ∀t:Tm,evT t=(QR t).all ndN
 | .mk k n s ks=>by simp only[evT,QR,List.all_cons,evL_all ks]
theorem evL_all: ∀ts:List Tm,evL ts=(allL ts).all ndN
 | []=>rfl
 | t:: ts=>by simp only[evL,allL,List.all_append,LU t,evL_all ts]
end
theorem Ds (t:Tm) (bs:List (List AV)) (hm:t.mass < big) (ih: ∀x∈t.kids,∀bs,call F.tb 207 [.agg (Qb x),.fn 206 []] bs=some (.bool (evT x),bs)):
  ∀(post pre:List Tm) (ρ:Nat→AV),t.kids=pre ++ post→ρ 1= .fn 206 []→ρ 18= .sl false 4 (encTs t.kids)→ρ 19= .int .i64 t.kids.length→ρ 20= .int .i64 pre.length→
  R F.tb (.loop F.f207l0) ρ bs (Qk 0 (Qw F.tb F.f207r0 (QB F.f207 bs)))=some (.bool (evL post),bs):=by
 have hm2:=Qq t
 unfold big at hm
 intro post
 induction post with
 | nil=>
  intro pre ρ hk h1 h18 h19 h20
  simp only[List.append_nil]at hk
  rw[← hk]at h20
  rw[Qc F.f207l0.eq_1]
  simp[h1,h18,h19,h20,F.f207r0,F.f207R,F.f207K,evL]
 | cons x post IH=>
  intro pre ρ hk h1 h18 h19 h20
  have hg:=Qp hk
  have hll:t.kids.length=pre.length+ (post.length+1):=by rw[hk];simp
  have hw1:IntKind.i64.wrap ((pre.length:Int)+1)=(pre.length:Int)+1:=Qj (by omega) (by omega)
  have hlt: (pre.length:Int) < (t.kids.length:Int):=by omega
  have hc:=ih x (by rw[hk];simp) bs
  rw[Qc F.f207l0.eq_1]
  cases hb:evT x
  ·simp[h1,h18,h19,h20,hg,hlt,hc,hb,F.f207R,F.f207K,evL]
  ·have h2:=fun ρ=>IH (pre ++ [x]) ρ (by rw[hk];simp)
   simp[h1,h18,h19,h20,hg,hlt,hw1,hc,hb,evL]
   apply h2 <;> simp[h1,h18,h19]
theorem Qee: ∀(t:Tm) (bs:List (List AV)),t.mass < big→call F.tb 207 [.agg (Qb t),.fn 206 []] bs=some (.bool (evT t),bs):=by
 refine Zd ?_
 intro k n s ks ih bs hm
 have hl:=fun ρ=>Ds (.mk k n s ks) bs hm (fun x hx bs=>ih x hx bs (by have h1:x.mass≤massL ks:=QA hx;have:=Qq (.mk k n s ks);simp only[QO]at this;omega)) ks [] ρ rfl
 have h2:=Qed n bs
 simp only[QO]at hl
 rw[Qa F.tb_207 _ _ rfl,AF]
 by_cases hk:k=3
 ·cases hd:Z7 n
  ·have e:ndN (.mk k n s ks)=true:=by simp[ndN,hd]
   rw[e]
   simp[F.f207B,F.f207C,hk,hd,h2]
   apply hl <;> simp
  ·have e:ndN (.mk k n s ks)=false:=by simp[ndN,hd,hk]
   rw[e]
   simp[F.f207B,F.f207C,hk,hd,h2,F.f207R,F.f207K]
 ·have e:ndN (.mk k n s ks)=true:=by simp[ndN,hk]
  rw[e]
  simp[F.f207B,F.f207C,hk]
  apply hl <;> simp
def W3 (t:Tm):Bool:=decide ((QX t).2=0) && decide (Qm (QX t).1 t=0) && evT t
theorem Qd0 (t:Tm) (bs:List (List AV)) (hm:t.mass < big):call F.tb 173 [.agg (Qb t)] bs=some (.bool (W3 t),bs):=by
 have h1:=FN t bs hm
 have hnm:=WL t
 have h2:=OL (QX t).1 t bs (by unfold big;omega) hm
 have h3:=Qee t bs hm
 simp only[QN]at h1
 rw[Qa F.tb_173 _ _ rfl]
 by_cases c1: (QX t).2=0
 ·by_cases c2:Qm (QX t).1 t=0
  ·simp[F.f173B,F.f173C,F.f173R,F.f173K,h1,h2,h3,c1,c2,W3]
  ·simp[F.f173B,F.f173C,F.f173R,F.f173K,h1,h2,h3,c1,c2,W3]
 ·simp[F.f173B,F.f173C,F.f173R,F.f173K,h1,c1,W3]
theorem Gt (l:List Tm) (bs:List (List AV)) (hl:l.length < 100000000): ∀(post pre:List Tm) (o:Bool) (ρ:Nat→AV),l=pre ++ post→ρ 5= .sl o 4 (encTs l)→ρ 6= .int .i64 pre.length→
  R F.tb (.loop F.f240l0) ρ bs (Qk 0 (Qw F.tb F.f240r0 (QB F.f240 bs)))=some (.bool (post.all ndN),bs):=by
 intro post
 induction post with
 | nil=>
  intro pre o ρ hk h5 h6
  simp only[List.append_nil]at hk
  rw[← hk]at h6
  rw[Qc F.f240l0.eq_1]
  simp[h5,h6,F.f240r0,F.f240R,F.f240K]
 | cons x post IH=>
  intro pre o ρ hk h5 h6
  have hg:=Qp hk
  have hll:l.length=pre.length+ (post.length+1):=by rw[hk];simp
  have hw1:IntKind.i64.wrap ((pre.length:Int)+1)=(pre.length:Int)+1:=Qj (by omega) (by omega)
  have hlt: (pre.length:Int) < (l.length:Int):=by omega
  have hc:=Tc x.name bs
  have hk3:=OV x.name
  have h2:=fun ρ=>IH (pre ++ [x]) o ρ (by rw[hk];simp)
  rw[List.all_cons]
  rw[Qc F.f240l0.eq_1]
  by_cases ck:x.kind=3
  ·cases hd:Z7 x.name
   ·rw[hd]at hk3
    have hk3': ¬XS x.name=3:=by simpa using hk3
    have e:ndN x=true:=by simp[ndN,hd]
    rw[e,Bool.true_and]
    generalize XS x.name=KK at *
    simp[h5,h6,hg,hlt,hw1,hc,ck,hk3',-List.all_eq_true]
    apply h2 <;> simp[h5]
   ·rw[hd]at hk3
    have hk3':XS x.name=3:=by simpa using hk3
    have e:ndN x=false:=by simp[ndN,hd,ck]
    rw[e,Bool.false_and]
    simp[h5,h6,hg,hlt,hc,ck,hk3',F.f240R,F.f240K]
  ·have e:ndN x=true:=by simp[ndN,ck]
   rw[e,Bool.true_and]
   simp[h5,h6,hg,hlt,hw1,ck,-List.all_eq_true]
   apply h2 <;> simp[h5]
theorem FV (t:Tm) (bs:List (List AV)) (hm:t.mass < 1000000):call F.tb 240 [.agg (Qb t)] bs=some (.bool (W3 t),bs):=by
 have hmb:t.mass < big:=by unfold big;omega
 have h1:=LI t bs hmb
 have hnm:=WL t
 have h2:=Y2 t (QX t).1 bs hmb (by unfold big;omega)
 have hsym:decide (Qm t (QX t).1=0)=decide (Qm (QX t).1 t=0):=by
  have:=YP t (QX t).1
  rw[decide_eq_decide];omega
 rw[hsym]at h2
 have h3:=VU t bs (by omega)
 have hlen:=Xh t
 have hnn:=Ze t
 have h4:=fun o ρ=>Gt (QR t) bs (by omega) (QR t) [] o ρ rfl
 simp only[QN]at h1
 rw[Qa F.tb_240 _ _ rfl]
 have e:W3 t=(decide ((QX t).2=0) && decide (Qm (QX t).1 t=0) && (QR t).all ndN):=by rw[← LU];rfl
 rw[e]
 by_cases c1: (QX t).2=0
 ·by_cases c2:Qm (QX t).1 t=0
  ·simp[F.f240B,F.f240C,h1,h2,h3,c1,c2,-List.all_eq_true]
   refine h4 false _ ?_ ?_ <;> simp
  ·simp[F.f240B,F.f240C,F.f240R,F.f240K,h1,h2,c1,c2]
 ·simp[F.f240B,F.f240C,F.f240R,F.f240K,h1,c1]
end Go.Am
namespace Go.Am
set_option maxRecDepth 8000
def XM (c:UInt8):Bool:=decide (48≤c.toNat) && decide (c.toNat≤57)
def VS:List UInt8:=[48,49,50,51,52,53,54,55,56,57]
theorem Qby: ∀d:Fin 256,VS.contains (UInt8.ofNat d.val)=XM (UInt8.ofNat d.val):=by decide
theorem Qbz (c:UInt8):VS.contains c=XM c:=by
 have h:=Qby ⟨c.toNat,c.toNat_lt⟩
 simp only[UInt8.ofNat_toNat]at h
 exact h
theorem Mf {p:UInt8→Bool}: ∀{l:List UInt8},l.dropWhile p=[]↔∀x∈l,p x=true
 | []=>by simp
 | a:: l=>by
  rw[List.dropWhile_cons]
  cases h:p a
  ·simp[h]
  ·simp[h,Mf (l:=l)]
theorem QcI (s:List UInt8): (Lib.trimS s VS == [])=s.all XM:=by
 have hp: (fun b=>VS.contains b)=XM:=funext Qbz
 cases hs:s.all XM
 ·have hne:Lib.trimS s VS≠[]:=by
   intro e
   unfold Lib.trimS Lib.trimLeftS Lib.trimRightS at e
   rw[hp]at e
   have h1:=Mf.1 e
   cases hw:s.reverse.dropWhile XM with
   | nil=>
    have h2:=Mf.1 hw
    have:s.all XM=true:=List.all_eq_true.2 fun x hx=>h2 x (by simpa using hx)
    rw[hs]at this;cases this
   | cons x r=>
    have h2:XM x=false:=by
     have:=List.head_dropWhile_not XM (l:=s.reverse) (by rw[hw];simp)
     simpa[hw]using this
    have h3:=h1 x (by rw[hw];simp)
    rw[h2]at h3;cases h3
  simpa using hne
 ·have:Lib.trimS s VS=[]:=by
   unfold Lib.trimS Lib.trimLeftS Lib.trimRightS
   rw[hp]
   have:s.reverse.dropWhile XM=[]:=Mf.2 fun x hx=>List.all_eq_true.1 hs x (by simpa using hx)
   rw[this];rfl
  simp[this]
def WC (s:List UInt8):Bool:=match s with
 | 101:: 35:: c:: r=>(c:: r).all XM
 | _=>false
def YI (t:Tm):Bool:=
 if t.kind=3 then(t.name == Q9 || t.name == ONE) && decide (t.kids.length=0)
 else if t.kind=2 then(if t.sort=1∨t.sort=5 then true else if t.sort=4 then t.name == [103] || WC t.name else if t.sort=0∨t.sort=2∨t.sort=3 then WC t.name else false)
 else false
def Hu (s:List UInt8):Bool:= !(s == []) && s.all XM
theorem QdZ (s:List UInt8) (bs:List (List AV)) (hs:s.length < 4294967281):call F.tb 163 [.str s] bs=some (.bool (Hu s),bs):=by
 have ht:call F.tb 164 [.str s,.str VS] bs=some (.str (Lib.trimS s VS),bs):=by
  rw[XK F.tb_164]
  have hc: (VS.all (· < 128) && decide (s.length < 4294967281) && decide (VS.length < 4294967281))=true:=by
   rw[show VS.all (· < 128)=true from by decide]
   simp[hs,VS]
  simp only[YJ,MQ,hc,if_true]
  rfl
 have hn:=QcI s
 rw[Qa F.tb_163 _ _ rfl]
 simp only[VS]at ht hn
 cases he:s == []
 ·simp[F.f163B,F.f163C,F.f163R,F.f163K,ht,hn,he,Hu,bne,-List.all_eq_true]
 ·simp[F.f163B,F.f163C,F.f163R,F.f163K,ht,hn,he,Hu,bne,-List.all_eq_true]
def Xt (s:List UInt8):Bool:=decide (2≤s.length) && (s.take 2 == [101,35])
theorem QhS (s:List UInt8) (bs:List (List AV)):call F.tb 75 [.str s,.str [101,35]] bs=some (.bool (Xt s),bs):=by
 rw[Qa F.tb_75 _ _ rfl]
 by_cases h:2≤s.length
 ·have h': (2:Int)≤(s.length:Int):=by omega
  simp[F.f75B,F.f75C,F.f75R,F.f75K,Xt,h,h']
 ·have h': ¬(2:Int)≤(s.length:Int):=by omega
  simp[F.f75B,F.f75C,F.f75R,F.f75K,Xt,h,h']
theorem QhR (s:List UInt8) (bs:List (List AV)):call F.tb 73 [.str s,.str [101,35]] bs=some (.tup [.str (if Xt s then s.drop 2 else s),.bool (Xt s)],bs):=by
 have h1:=QhS s bs
 have h2:call F.tb 74 [.str s,.str [101,35]] bs=some (.tup [.str (if Xt s then s.drop 2 else s),.bool (Xt s)],bs):=by
  rw[Qa F.tb_74 _ _ rfl]
  cases hc:Xt s
  ·simp[F.f74B,F.f74C,F.f74R,F.f74K,h1,hc]
  ·have hl:2≤s.length:=by simp[Xt]at hc;exact hc.1
   have hl': (2:Int)≤(s.length:Int):=by omega
   simp[F.f74B,F.f74C,F.f74R,F.f74K,h1,hc,hl,hl']
 rw[Qa F.tb_73 _ _ rfl]
 generalize (if Xt s then s.drop 2 else s)=w at *
 simp[F.f73B,F.f73C,F.f73R,F.f73K,h2]
theorem QfK (s:List UInt8): (Xt s && Hu (if Xt s then s.drop 2 else s))=WC s:=by
 cases hc:Xt s
 ·rw[Bool.false_and]
  unfold WC
  split
  ·simp[Xt]at hc
  ·rfl
 ·simp only[if_true,Bool.true_and]
  match s,hc with
  | [],hc=>simp[Xt]at hc
  | [_],hc=>simp[Xt]at hc
  | [a,b],hc=>
   simp[Xt]at hc
   obtain⟨rfl,rfl⟩:=hc
   rfl
  | a:: b:: c:: r,hc=>
   simp[Xt]at hc
   obtain⟨rfl,rfl⟩:=hc
   simp[Hu,WC]
theorem Qip (x a b:List UInt8) (bs:List (List AV)):call F.tb 162 [.sl false 1 [[.str a],[.str b]],.str x] bs=some (.int .i64 (if x == a then 0 else if x == b then 1 else -1),bs):=by
 rw[Qa F.tb_162 _ _ rfl]
 simp[F.f162B,F.f162C]
 rw[Qc F.f162l0.eq_1]
 cases h1:x == a
 ·have g1: ¬x=a:=by simpa using h1
  simp[h1,g1]
  rw[Qc F.f162l0.eq_1]
  cases h2:x == b
  ·have hw:IntKind.i64.wrap 1=1:=rfl
   have hw2:IntKind.i64.wrap 2=2:=rfl
   have g2: ¬x=b:=by simpa using h2
   simp[h2,hw,hw2,g2]
   rw[Qc F.f162l0.eq_1]
   simp[F.f162r0,F.f162R,F.f162K]
  ·have hw:IntKind.i64.wrap 1=1:=rfl
   have g2:x=b:=by simpa using h2
   simp[h2,hw,← g2,F.f162R,F.f162K]
 ·have g1:x=a:=by simpa using h1
  simp[h1,← g1,F.f162R,F.f162K]
theorem QdY (t:Tm) (bs:List (List AV)) (hk:t.kind=3):call F.tb 160 [.agg (Qb t),.sl false 1 [[.str Q9],[.str ONE]]] bs=some (.bool (t.name == Q9 || t.name == ONE),bs):=by
 have h:=Qip t.name Q9 ONE bs
 have h2:call F.tb 161 [.sl false 1 [[.str Q9],[.str ONE]],.str t.name] bs=some (.bool (t.name == Q9 || t.name == ONE),bs):=by
  rw[Qa F.tb_161 _ _ rfl]
  cases h1:t.name == Q9
  ·cases h3:t.name == ONE <;> simp[h1,h3]at h <;> simp[F.f161B,F.f161C,F.f161R,F.f161K,h]
  ·simp[h1]at h
   simp[F.f161B,F.f161C,F.f161R,F.f161K,h]
 rw[Qa F.tb_160 _ _ rfl]
 simp[F.f160B,F.f160C,F.f160R,F.f160K,hk,h2]
theorem LD (t:Tm) (bs:List (List AV)) (hm:t.mass < 1000000):call F.tb 159 [.agg (Qb t)] bs=some (.bool (YI t),bs):=by
 have hme:=Qq t
 rw[Qa F.tb_159 _ _ rfl]
 by_cases hk:t.kind=3
 ·have h1:=QdY t bs hk
  simp only[Q9,ONE]at h1
  cases hz: (t.name == [122,101,114,111] || t.name == [111,110,101])
  ·rw[hz]at h1
   simp[F.f159B,F.f159C,F.f159R,F.f159K,hk,h1,YI,Q9,ONE,hz]
   try (simp at hz;simp[hz])
  ·rw[hz]at h1
   by_cases hl:t.kids=[]
   ·simp[F.f159B,F.f159C,F.f159R,F.f159K,hk,h1,YI,Q9,ONE,hz,hl]
   ·have hl0: ¬t.kids.length=0:=fun e=>hl (List.eq_nil_of_length_eq_zero e)
    have hl': ¬(t.kids.length:Int)=0:=by omega
    simp[F.f159B,F.f159C,F.f159R,F.f159K,hk,h1,YI,Q9,ONE,hl,hl']
 ·by_cases hk2:t.kind=2
  ·have h1:=QhR t.name bs
   have h2:=QdZ (if Xt t.name then t.name.drop 2 else t.name) bs (by
    split
    ·rw[List.length_drop];omega
    ·omega)
   have ho:=QfK t.name
   generalize (if Xt t.name then t.name.drop 2 else t.name)=w at *
   have hp:YI t=if t.sort=1∨t.sort=5 then true else if t.sort=4 then t.name == [103] || WC t.name else if t.sort=0∨t.sort=2∨t.sort=3 then WC t.name else false:=by
    unfold YI;rw[if_neg hk,if_pos hk2]
   rw[hp]
   generalize WC t.name=O at *
   by_cases s1:t.sort=1
   ·simp[F.f159B,F.f159C,F.f159R,F.f159K,hk2,h1,s1]
   ·by_cases s5:t.sort=5
    ·simp[F.f159B,F.f159C,F.f159R,F.f159K,hk2,h1,s5]
    ·by_cases s4:t.sort=4
     ·cases hg:t.name == [103]
      ·cases hcu:Xt t.name
       ·rw[hcu]at h1 ho
        simp at ho
        subst ho
        simp[F.f159B,F.f159C,F.f159R,F.f159K,hk2,h1,s4,hg]
       ·rw[hcu]at h1 ho
        simp at ho
        subst ho
        simp[F.f159B,F.f159C,F.f159R,F.f159K,hk2,h1,h2,s4,hg]
      ·simp[F.f159B,F.f159C,F.f159R,F.f159K,hk2,h1,s4,hg]
     ·by_cases s0:t.sort=0∨t.sort=2∨t.sort=3
      ·cases hcu:Xt t.name
       ·rw[hcu]at h1 ho
        simp at ho
        subst ho
        rcases s0 with s0 | s0 | s0 <;> simp[F.f159B,F.f159C,F.f159R,F.f159K,hk2,h1,s0]
       ·rw[hcu]at h1 ho
        simp at ho
        subst ho
        rcases s0 with s0 | s0 | s0 <;> simp[F.f159B,F.f159C,F.f159R,F.f159K,hk2,h1,h2,s0]
      ·simp only[not_or]at s0
       simp[F.f159B,F.f159C,F.f159R,F.f159K,hk2,h1,s1,s5,s4,s0.1,s0.2.1,s0.2.2]
  ·have hp:YI t=false:=by unfold YI;rw[if_neg hk,if_neg hk2]
   rw[hp]
   simp[F.f159B,F.f159C,F.f159R,F.f159K,hk,hk2]
end Go.Am
namespace Go.Am
set_option maxRecDepth 8000
theorem DO (s:List UInt8) (bs:List (List AV)) (hs:s.length < 1000000000): ∀(post pre:List UInt8) (ρ:Nat→AV),s=pre ++ post→ρ 0= .str s→ρ 3= .int .i64 pre.length→
  R F.tb (.loop F.f232l0) ρ bs (Qk 0 (Qw F.tb F.f232r0 (QB F.f232 bs)))=some (.bool (post.all XM),bs):=by
 intro post
 induction post with
 | nil=>
  intro pre ρ hk h0 h3
  simp only[List.append_nil]at hk
  rw[← hk]at h3
  rw[Qc F.f232l0.eq_1]
  simp[h0,h3,F.f232r0,F.f232R,F.f232K]
 | cons c post IH=>
  intro pre ρ hk h0 h3
  have hg:=Qp hk
  have hll:s.length=pre.length+ (post.length+1):=by rw[hk];simp
  have hw1:IntKind.i64.wrap ((pre.length:Int)+1)=(pre.length:Int)+1:=Qj (by omega) (by omega)
  have hlt: (pre.length:Int) < (s.length:Int):=by omega
  have h2:=fun ρ=>IH (pre ++ [c]) ρ (by rw[hk];simp)
  rw[List.all_cons]
  rw[Qc F.f232l0.eq_1]
  by_cases c1:c.toNat < 48
  ·have e:XM c=false:=by simp[XM];omega
   have c1': (c.toNat:Int) < 48:=by omega
   simp[-getElem?_pos,h0,h3,hg,hlt,c1,c1',e,F.f232R,F.f232K]
  ·have c1': ¬(c.toNat:Int) < 48:=by omega
   by_cases c2:57 < c.toNat
   ·have e:XM c=false:=by simp[XM];omega
    have c2': (57:Int) < (c.toNat:Int):=by omega
    simp[-getElem?_pos,h0,h3,hg,hlt,c1,c1',c2,c2',e,F.f232R,F.f232K]
   ·have e:XM c=true:=by simp[XM];omega
    have c2': ¬(57:Int) < (c.toNat:Int):=by omega
    rw[e,Bool.true_and]
    simp[-getElem?_pos,h0,h3,hg,hlt,hw1,c1,c1',c2,c2',-List.all_eq_true]
    apply h2 <;> simp[h0]
theorem Qep (s:List UInt8) (bs:List (List AV)) (hs:s.length < 1000000000):call F.tb 232 [.str s] bs=some (.bool (WC s),bs):=by
 rw[Qa F.tb_232 _ _ rfl]
 by_cases h3:s.length < 3
 ·have h3': (s.length:Int) < 3:=by omega
  have e:WC s=false:=by
   unfold WC
   split
   ·exfalso;simp only[List.length_cons]at h3;omega
   ·rfl
  simp[F.f232B,F.f232C,F.f232R,F.f232K,h3,h3',e]
 ·have h3': ¬(s.length:Int) < 3:=by omega
  have hl2:2≤s.length:=by omega
  have hl2': (2:Int)≤(s.length:Int):=by omega
  cases hp:s.take 2 == [101,35]
  ·have e:WC s=false:=by
    unfold WC
    split
    ·simp at hp
    ·rfl
   simp[F.f232B,F.f232C,F.f232R,F.f232K,h3,h3',hl2,hl2',hp,e,bne]
  ·match s,hp,h3,hs with
   | a:: b:: c:: r,hp,h3,hs=>
    have h2:=fun ρ=>DO (a:: b:: c:: r) bs hs (c:: r) [a,b] ρ rfl
    simp at hp
    obtain⟨rfl,rfl⟩:=hp
    have e:WC (101:: 35:: c:: r)=(c:: r).all XM:=rfl
    rw[e]
    simp only[List.length_cons,List.length_nil]at h3' hl2 hl2' h2
    generalize (c:: r).all XM=O at *
    have h3'': ¬((r.length:Int)+1+1+1 < 3):=by omega
    have hl3: (2:Int)≤(r.length:Int)+1+1+1:=by omega
    simp[F.f232B,F.f232C,h3'',hl3,bne]
    apply h2 <;> simp
   | [],hp,_,_=>simp at hp
   | [_],hp,_,_=>simp at hp
   | [_,_],hp,h3,_=>simp at h3
theorem LH (t:Tm) (bs:List (List AV)) (hm:t.mass < 1000000):call F.tb 231 [.agg (Qb t)] bs=some (.bool (YI t),bs):=by
 have hme:=Qq t
 have ho:=Qep t.name bs (by omega)
 rw[Qa F.tb_231 _ _ rfl]
 by_cases hk:t.kind=3
 ·have hp:YI t=((t.name == Q9 || t.name == ONE) && decide (t.kids.length=0)):=by unfold YI;rw[if_pos hk]
  rw[hp]
  by_cases hl:t.kids=[]
  ·cases h1:t.name == Q9
   ·cases h2:t.name == ONE <;> simp only[Q9,ONE]at h1 h2 <;> simp[F.f231B,F.f231C,F.f231R,F.f231K,hk,h1,h2,hl]
   ·simp only[Q9]at h1;simp[F.f231B,F.f231C,F.f231R,F.f231K,hk,h1,hl]
  ·have hl0: ¬t.kids.length=0:=fun e=>hl (List.eq_nil_of_length_eq_zero e)
   have hl': ¬(t.kids.length:Int)=0:=by omega
   cases h1:t.name == Q9
   ·cases h2:t.name == ONE <;> simp only[Q9,ONE]at h1 h2 <;> simp[F.f231B,F.f231C,F.f231R,F.f231K,hk,h1,h2,hl,hl']
   ·simp only[Q9]at h1;simp[F.f231B,F.f231C,F.f231R,F.f231K,hk,h1,hl,hl']
 ·by_cases hk2:t.kind=2
  ·have hp:YI t=if t.sort=1∨t.sort=5 then true else if t.sort=4 then t.name == [103] || WC t.name else if t.sort=0∨t.sort=2∨t.sort=3 then WC t.name else false:=by
    unfold YI;rw[if_neg hk,if_pos hk2]
   rw[hp]
   generalize WC t.name=O at *
   by_cases s1:t.sort=1
   ·simp[F.f231B,F.f231C,F.f231R,F.f231K,hk2,s1]
   ·by_cases s5:t.sort=5
    ·simp[F.f231B,F.f231C,F.f231R,F.f231K,hk2,s5]
    ·by_cases s4:t.sort=4
     ·cases hg:t.name == [103]
      ·simp[F.f231B,F.f231C,F.f231R,F.f231K,hk2,s4,hg,ho]
      ·simp[F.f231B,F.f231C,F.f231R,F.f231K,hk2,s4,hg]
     ·by_cases s0:t.sort=0∨t.sort=2∨t.sort=3
      ·cases hg:t.name == [103]
       ·rcases s0 with s0 | s0 | s0 <;> simp[F.f231B,F.f231C,F.f231R,F.f231K,hk2,s0,ho,hg]
       ·rcases s0 with s0 | s0 | s0 <;> simp[F.f231B,F.f231C,F.f231R,F.f231K,hk2,s0,ho,hg]
      ·simp only[not_or]at s0
       cases hg:t.name == [103]
       ·simp[F.f231B,F.f231C,F.f231R,F.f231K,hk2,s1,s5,s4,s0.1,s0.2.1,s0.2.2,hg]
       ·simp[F.f231B,F.f231C,F.f231R,F.f231K,hk2,s1,s5,s4,s0.1,s0.2.1,s0.2.2,hg]
  ·have hp:YI t=false:=by unfold YI;rw[if_neg hk,if_neg hk2]
   rw[hp]
   simp[F.f231B,F.f231C,F.f231R,F.f231K,hk,hk2]
end Go.Am
namespace Go.Am
set_option maxRecDepth 8000
def Ys (x:Tm):Int:=if thV x≠0 then thV x else if W8 x≠[]then 13 else if W3 x then 0 else 10
def XR:List Tm→Int
 | []=>0
 | x:: r=>if Ys x≠0 then Ys x else XR r
def Yr:Option Tm→List Tm→Int
 | _,[]=>0
 | prev,x:: r=>if QK x≠0 then QK x else if x.kind≠2∨YI x=true then 1 else if gtO prev x then Yr (some x) r else 5
structure Fr where
 s:List Tm
 t:List Tm
def Qz (f:Fr):List AV:=[.sl false 4 (encTs f.s),.sl false 4 (encTs f.t)]
def Zu (f:Fr):Int:=if 40 < f.s.length∨40 < f.t.length then 3 else if Yr none f.s≠0 then Yr none f.s else XR f.t
theorem QcK (l:List Tm) (bs:List (List AV)) (hl:l.length < 1000000) (hm: ∀x∈l,x.mass < 1000000):
  ∀(post pre:List Tm) (ρ:Nat→AV),l=pre ++ post→ρ 54= .sl false 4 (encTs l)→ρ 55= .int .i64 l.length→ρ 56= .int .i64 pre.length→
  R F.tb (.loop F.f158l1) ρ bs (Qk 2 (Qw F.tb F.f158r0 (QB F.f158 bs)))=some (.int .i64 (XR post),bs):=by
 intro post
 induction post with
 | nil=>
  intro pre ρ hk h1 h2 h3
  simp only[List.append_nil]at hk
  rw[← hk]at h3
  rw[Qc F.f158l1.eq_1]
  simp[h1,h2,h3,F.f158r0,F.f158R,F.f158K,XR]
 | cons x post IH=>
  intro pre ρ hk h1 h2 h3
  have hg:=Qp hk
  have hll:l.length=pre.length+ (post.length+1):=by rw[hk];simp
  have hw1:IntKind.i64.wrap ((pre.length:Int)+1)=(pre.length:Int)+1:=Qj (by omega) (by omega)
  have hlt: (pre.length:Int) < (l.length:Int):=by omega
  have hxm:=hm x (by rw[hk];simp)
  have hxb:x.mass < big:=by unfold big;omega
  have c1:=VC x bs hxb
  have c2:=Ar x bs (by omega)
  have c3:=Qd0 x bs hxb
  have hh:=fun ρ=>IH (pre ++ [x]) ρ (by rw[hk];simp)
  rw[Qc F.f158l1.eq_1]
  by_cases e1:thV x=0
  ·by_cases e2:W8 x=[]
   ·rw[e2]at c2
    simp only[encTs]at c2
    cases e3:W3 x
    ·simp[h1,h2,h3,hg,hlt,c1,c2,c3,e1,e2,e3,F.f158R,F.f158K,XR,Ys]
    ·simp[h1,h2,h3,hg,hlt,hw1,c1,c2,c3,e1,e2,e3,XR,Ys]
     apply hh <;> simp[h1,h2]
   ·have hp:0 < (W8 x).length:=List.length_pos_iff.2 e2
    have hp': (0:Int) < ((W8 x).length:Int):=by omega
    simp[h1,h2,h3,hg,hlt,c1,c2,e1,e2,hp,F.f158R,F.f158K,XR,Ys]
  ·simp[h1,h2,h3,hg,hlt,c1,e1,F.f158R,F.f158K,XR,Ys]
def Pi (l:List Tm):Option Tm:=l.getLast?
theorem TU:Pi []=none:=rfl
theorem TT (l:List Tm) (p:Tm):Pi (l ++ [p])=some p:=by simp[Pi]
theorem Qcq (f:Fr) (bs:List (List AV)) (hl:f.s.length < 1000000) (hm: ∀x∈f.s,x.mass < 1000000) (X:Int)
  (hX: ∀ρ:Nat→AV,ρ 1= .bx (Qz f)→R F.tb F.f158r1 ρ bs (QB F.f158 bs)=some (.int .i64 X,bs)):
  ∀(post pre:List Tm) (ρ:Nat→AV),f.s=pre ++ post→ρ 1= .bx (Qz f)→ρ 20= .sl false 4 (encTs f.s)→ρ 21= .int .i64 f.s.length→ρ 22= .int .i64 pre.length→
  R F.tb (.loop F.f158l0) ρ bs (Qk 0 (Qw F.tb F.f158r1 (QB F.f158 bs)))=some (.int .i64 (if Yr (Pi pre) post≠0 then Yr (Pi pre) post else X),bs):=by
 intro post
 induction post with
 | nil=>
  intro pre ρ hk h1 h20 h21 h22
  simp only[List.append_nil]at hk
  rw[← hk]at h22
  rw[Qc F.f158l0.eq_1]
  simp[h1,h20,h21,h22,Yr]
  apply hX;simp[h1]
 | cons x post IH=>
  intro pre ρ hk h1 h20 h21 h22
  have hg:=Qp hk
  have hll:f.s.length=pre.length+ (post.length+1):=by rw[hk];simp
  have hw1:IntKind.i64.wrap ((pre.length:Int)+1)=(pre.length:Int)+1:=Qj (by omega) (by omega)
  have hlt: (pre.length:Int) < (f.s.length:Int):=by omega
  have hxm:=hm x (by rw[hk];simp)
  have hxb:x.mass < big:=by unfold big;omega
  have c1:=Xz x bs hxb
  have c2:=LD x bs hxm
  have hh:=fun ρ=>IH (pre ++ [x]) ρ (by rw[hk];simp)
  rw[TT]at hh
  rw[Qc F.f158l0.eq_1]
  by_cases e1:QK x=0
  ·by_cases e2:x.kind=2
   ·cases e3:YI x
    ·rcases List.eq_nil_or_concat pre with rfl | ⟨pre2,q,rfl⟩
     ·have h22':ρ 22= .int .i64 0:=h22
      have hg':f.s[0]? =some x:=hg
      have hlt':0 < f.s.length:=by omega
      have hw0:IntKind.i64.wrap 1=1:=rfl
      clear h22 hg hlt hw1
      simp[-getElem?_pos,h1,h20,h21,h22',hg',hlt',hw0,c1,c2,e1,e2,e3,Yr,gtO,TU]
      simp only[ite_not]at hh
      apply hh <;> simp[h1,h20,h21]
     ·simp only[List.concat_eq_append]at *
      have hg2:f.s[pre2.length]? =some q:=by rw[hk];simp
      have hq:=hm q (by rw[hk];simp)
      have h4:=call_Compare q x bs (by unfold big;omega) hxb
      have hp0: (0:Int) < (pre2.length:Int)+1:=by omega
      have hp1: (0:Int)≤(pre2.length:Int)+1:=by omega
      have hp2: ((pre2.length:Int)+1).toNat=pre2.length+1:=by omega
      have hw2:IntKind.i64.wrap (pre2.length:Int)=(pre2.length:Int):=Qj (by simp at hll;omega) (by simp at hll;omega)
      rw[TT]
      simp only[List.length_append,List.length_singleton,Int.natCast_add,Int.natCast_one]at h22 hg hlt hw1 hh
      by_cases c6:Qm q x < 0
      ·have c6': ¬0≤Qm q x:=by omega
       simp[Qz,h1,h20,h21,h22,hg,hg2,hlt,hw1,hw2,hp0,hp1,hp2,h4,c1,c2,e1,e2,e3,c6,c6',Yr,gtO]
       simp only[ite_not]at hh
       apply hh <;> simp[h1,h20,h21,Qz]
      ·have c6':0≤Qm q x:=by omega
       simp[Qz,h1,h20,h21,h22,hg,hg2,hlt,hw1,hw2,hp0,hp1,hp2,h4,c1,c2,e1,e2,e3,c6,c6',Yr,gtO,F.f158R,F.f158K]
    ·simp[h1,h20,h21,h22,hg,hlt,c1,c2,e1,e2,e3,Yr,F.f158R,F.f158K]
   ·simp[h1,h20,h21,h22,hg,hlt,c1,e1,e2,Yr,F.f158R,F.f158K]
  ·simp[h1,h20,h21,h22,hg,hlt,c1,e1,Yr,F.f158R,F.f158K]
structure FOk (f:Fr):Prop where
 s: ∀x∈f.s,x.mass < 1000000
 t: ∀x∈f.t,x.mass < 1000000
 sl:f.s.length < 1000000
 tl:f.t.length < 1000000
theorem OK (f:Fr) (bs:List (List AV)) (h:FOk f):call F.tb 158 [.agg (Qz f)] bs=some (.int .i64 (Zu f),bs):=by
 have ht:=fun ρ=>QcK f.t bs h.tl h.t f.t [] ρ rfl
 have hX: ∀ρ:Nat→AV,ρ 1= .bx (Qz f)→R F.tb F.f158r1 ρ bs (QB F.f158 bs)=some (.int .i64 (XR f.t),bs):=by
  intro ρ h1
  simp[F.f158r1,h1,Qz]
  apply ht <;> simp
 have hs:=fun ρ=>Qcq f bs h.sl h.s (XR f.t) hX f.s [] ρ rfl
 rw[TU]at hs
 rw[Qa F.tb_158 _ _ rfl]
 by_cases c1:40 < f.s.length
 ·have c1': (40:Int) < (f.s.length:Int):=by omega
  simp[F.f158B,F.f158C,F.f158R,F.f158K,Qz,c1,c1',Zu]
 ·have c1': ¬(40:Int) < (f.s.length:Int):=by omega
  by_cases c2:40 < f.t.length
  ·have c2': (40:Int) < (f.t.length:Int):=by omega
   simp[F.f158B,F.f158C,F.f158R,F.f158K,Qz,c1,c1',c2,c2',Zu]
  ·have c2': ¬(40:Int) < (f.t.length:Int):=by omega
   have e:Zu f=if Yr none f.s≠0 then Yr none f.s else XR f.t:=by simp[Zu,c1,c2]
   rw[e]
   generalize (if Yr none f.s≠0 then Yr none f.s else XR f.t)=V at *
   simp[F.f158B,F.f158C,Qz,c1',c2']
   apply hs <;> simp[Qz]
end Go.Am
namespace Go.Am
set_option maxRecDepth 8000
theorem Qeq (x:Tm) (bs:List (List AV)) (hm:x.mass < 1000000):call F.tb 233 [.agg (Qb x)] bs=some (.int .i64 (Ys x),bs):=by
 have c1:=VB x bs (by unfold big;omega)
 have c2:=Gz x bs (by omega)
 have c3:=FV x bs hm
 rw[Qa F.tb_233 _ _ rfl]
 by_cases e1:thV x=0
 ·by_cases e2:W8 x=[]
  ·cases e3:W3 x
   ·simp[F.f233B,F.f233C,F.f233R,F.f233K,c1,c2,c3,e1,e2,e3,Ys]
   ·simp[F.f233B,F.f233C,F.f233R,F.f233K,c1,c2,c3,e1,e2,e3,Ys]
  ·simp[F.f233B,F.f233C,F.f233R,F.f233K,c1,c2,e1,e2,Ys]
 ·simp[F.f233B,F.f233C,F.f233R,F.f233K,c1,e1,Ys]
theorem Cx (f:Fr) (bs:List (List AV)) (h:FOk f): ∀(post pre:List Tm) (ρ:Nat→AV),f.t=pre ++ post→ρ 1= .bx (Qz f)→ρ 5= .int .i64 pre.length→
  R F.tb (.loop F.f230l1) ρ bs (Qk 2 (Qw F.tb F.f230r0 (QB F.f230 bs)))=some (.int .i64 (XR post),bs):=by
 have hl:=h.tl
 intro post
 induction post with
 | nil=>
  intro pre ρ hk h1 h5
  simp only[List.append_nil]at hk
  rw[← hk]at h5
  rw[Qc F.f230l1.eq_1]
  simp[h1,h5,Qz,F.f230r0,F.f230R,F.f230K,XR]
 | cons x post IH=>
  intro pre ρ hk h1 h5
  have hg:=Qp hk
  have hll:f.t.length=pre.length+ (post.length+1):=by rw[hk];simp
  have hw1:IntKind.i64.wrap ((pre.length:Int)+1)=(pre.length:Int)+1:=Qj (by omega) (by omega)
  have hlt: (pre.length:Int) < (f.t.length:Int):=by omega
  have c1:=Qeq x bs (h.t x (by rw[hk];simp))
  have hh:=fun ρ=>IH (pre ++ [x]) ρ (by rw[hk];simp)
  rw[Qc F.f230l1.eq_1]
  by_cases e1:Ys x=0
  ·simp[h1,h5,Qz,hg,hlt,hw1,c1,e1,XR]
   apply hh <;> simp[h1,Qz]
  ·simp[h1,h5,Qz,hg,hlt,c1,e1,F.f230R,F.f230K,XR]
theorem Cw (f:Fr) (bs:List (List AV)) (h:FOk f): ∀(post pre:List Tm) (ρ:Nat→AV),f.s=pre ++ post→ρ 1= .bx (Qz f)→ρ 3= .int .i64 pre.length→
  R F.tb (.loop F.f230l0) ρ bs (Qk 0 (Qw F.tb F.f230r1 (QB F.f230 bs)))=some (.int .i64 (if Yr (Pi pre) post≠0 then Yr (Pi pre) post else XR f.t),bs):=by
 have hl:=h.sl
 have ht:=fun ρ=>Cx f bs h f.t [] ρ rfl
 intro post
 induction post with
 | nil=>
  intro pre ρ hk h1 h3
  simp only[List.append_nil]at hk
  rw[← hk]at h3
  rw[Qc F.f230l0.eq_1]
  simp[h1,h3,Qz,Yr,F.f230r1]
  apply ht <;> simp[h1,Qz]
 | cons x post IH=>
  intro pre ρ hk h1 h3
  have hg:=Qp hk
  have hll:f.s.length=pre.length+ (post.length+1):=by rw[hk];simp
  have hw1:IntKind.i64.wrap ((pre.length:Int)+1)=(pre.length:Int)+1:=Qj (by omega) (by omega)
  have hlt: (pre.length:Int) < (f.s.length:Int):=by omega
  have hxm:=h.s x (by rw[hk];simp)
  have hxb:x.mass < big:=by unfold big;omega
  have c1:=Yl x bs hxb
  have c2:=LH x bs hxm
  have hh:=fun ρ=>IH (pre ++ [x]) ρ (by rw[hk];simp)
  rw[TT]at hh
  rw[Qc F.f230l0.eq_1]
  by_cases e1:QK x=0
  ·by_cases e2:x.kind=2
   ·cases e3:YI x
    ·rcases List.eq_nil_or_concat pre with rfl | ⟨pre2,q,rfl⟩
     ·have h3':ρ 3= .int .i64 0:=h3
      have hg':f.s[0]? =some x:=hg
      have hlt':0 < f.s.length:=by omega
      have hw0:IntKind.i64.wrap 1=1:=rfl
      clear h3 hg hlt hw1
      simp[-getElem?_pos,NR,List.getElem?_cons_succ,Qz,h1,h3',hg',hlt',hw0,c1,c2,e1,e2,e3,Yr,gtO,TU]
      simp only[ite_not]at hh
      apply hh <;> simp[h1,Qz]
     ·simp only[List.concat_eq_append]at *
      have hg2:f.s[pre2.length]? =some q:=by rw[hk];simp
      have hq:=h.s q (by rw[hk];simp)
      have h4:=Xv q x bs (by unfold big;omega) hxb
      have hp0: (0:Int) < (pre2.length:Int)+1:=by omega
      have hp1: (0:Int)≤(pre2.length:Int)+1:=by omega
      have hp2: ((pre2.length:Int)+1).toNat=pre2.length+1:=by omega
      have hw2:IntKind.i64.wrap (pre2.length:Int)=(pre2.length:Int):=Qj (by simp at hll;omega) (by simp at hll;omega)
      rw[TT]
      simp only[List.length_append,List.length_singleton,Int.natCast_add,Int.natCast_one]at h3 hg hlt hw1 hh
      by_cases c6:Qm q x < 0
      ·have c6': ¬0≤Qm q x:=by omega
       simp[Qz,h1,h3,hg,hg2,hlt,hw1,hw2,hp0,hp1,hp2,h4,c1,c2,e1,e2,e3,c6,c6',Yr,gtO]
       simp only[ite_not]at hh
       apply hh <;> simp[h1,Qz]
      ·have c6':0≤Qm q x:=by omega
       simp[Qz,h1,h3,hg,hg2,hlt,hw1,hw2,hp0,hp1,hp2,h4,c1,c2,e1,e2,e3,c6,c6',Yr,gtO,F.f230R,F.f230K]
    ·simp[h1,h3,Qz,hg,hlt,c1,c2,e1,e2,e3,Yr,F.f230R,F.f230K]
   ·simp[h1,h3,Qz,hg,hlt,c1,e1,e2,Yr,F.f230R,F.f230K]
  ·simp[h1,h3,Qz,hg,hlt,c1,e1,Yr,F.f230R,F.f230K]
theorem OM (f:Fr) (bs:List (List AV)) (h:FOk f):call F.tb 230 [.agg (Qz f)] bs=some (.int .i64 (Zu f),bs):=by
 have hs:=fun ρ=>Cw f bs h f.s [] ρ rfl
 rw[TU]at hs
 rw[Qa F.tb_230 _ _ rfl]
 by_cases c1:40 < f.s.length
 ·have c1': (40:Int) < (f.s.length:Int):=by omega
  simp[F.f230B,F.f230C,F.f230R,F.f230K,Qz,c1,c1',Zu]
 ·have c1': ¬(40:Int) < (f.s.length:Int):=by omega
  by_cases c2:40 < f.t.length
  ·have c2': (40:Int) < (f.t.length:Int):=by omega
   simp[F.f230B,F.f230C,F.f230R,F.f230K,Qz,c1,c1',c2,c2',Zu]
  ·have c2': ¬(40:Int) < (f.t.length:Int):=by omega
   have e:Zu f=if Yr none f.s≠0 then Yr none f.s else XR f.t:=by simp[Zu,c1,c2]
   rw[e]
   generalize (if Yr none f.s≠0 then Yr none f.s else XR f.t)=V at *
   simp[F.f230B,F.f230C,Qz,c1',c2']
   apply hs <;> simp[Qz]
end Go.Am
namespace Go.Am
set_option maxRecDepth 8000
theorem FS (x y:Tm) (bs:List (List AV)) (hx:x.mass < big) (hy:y.mass < big):call F.tb 213 [.agg (Qb x),.agg (Qb y)] bs=some (.bool (decide (Qm x y=0)),bs):=by
 have h:=call_Compare x y bs hx hy
 rw[Qa F.tb_213 _ _ rfl]
 simp[F.f213B,F.f213C,F.f213R,F.f213K,h]
theorem FR (x y:Tm) (g:Nat) (bs:List (List AV)) (hg:bs[g]? =some (Qb y)) (hx:x.mass < big) (hy:y.mass < big):call F.tb 212 [.agg (Qb x),.gp g 0] bs=some (.bool (decide (Qm x y=0)),bs):=by
 have h:=FS x y bs hx hy
 rw[Qa F.tb_212 _ _ rfl]
 simp[-getElem?_pos,F.f212B,F.f212C,F.f212R,F.f212K,hg,h]
def eqB (y x:Tm):Bool:=decide (Qm x y=0)
theorem QbW (l:List Tm) (y:Tm) (g:Nat) (bs:List (List AV)) (hg:bs[g]? =some (Qb y)) (hl:l.length < 1000000) (hm: ∀x∈l,x.mass < big) (hy:y.mass < big):
  ∀(post pre:List Tm) (o:Bool) (ρ:Nat→AV),l=pre ++ post→pre.any (eqB y)=false→ρ 0= .sl o 4 (encTs l)→ρ 1= .fn 212 [.gp g 0]→ρ 7= .int .i64 l.length→ρ 8= .int .i64 pre.length→
  PH (l.any (eqB y)) bs (R F.tb (.loop F.f215l0) ρ bs (Qk 0 (Qw F.tb F.f215r0 (QB F.f215 bs)))):=by
 intro post
 induction post with
 | nil=>
  intro pre o ρ hk hp h0 h1 h7 h8
  simp only[List.append_nil]at hk
  rw[← hk]at h8 hp
  rw[Qc F.f215l0.eq_1]
  refine⟨-1,?_,by rw[hp];simp⟩
  simp[h0,h1,h7,h8,F.f215r0,F.f215R,F.f215K]
 | cons x post IH=>
  intro pre o ρ hk hp h0 h1 h7 h8
  have hgt:=Qp hk
  have hll:l.length=pre.length+ (post.length+1):=by rw[hk];simp
  have hw1:IntKind.i64.wrap ((pre.length:Int)+1)=(pre.length:Int)+1:=Qj (by omega) (by omega)
  have hlt: (pre.length:Int) < (l.length:Int):=by omega
  have hcall:=FR x y g bs hg (hm x (by rw[hk];simp)) hy
  have ih:=fun ρ hpp=>IH (pre ++ [x]) o ρ (by rw[hk];simp) hpp
  rw[Qc F.f215l0.eq_1]
  by_cases ho:Qm x y=0
  ·have hany:l.any (eqB y)=true:=List.any_eq_true.2 ⟨x,by rw[hk];simp,by simp[eqB,ho]⟩
   refine⟨pre.length,?_,by rw[hany];simp⟩
   simp[h0,h1,h7,h8,hlt,hgt,hcall,ho,F.f215R,F.f215K]
  ·have ih2:=fun ρ=>ih ρ (by rw[List.any_append,hp];simp[eqB,ho])
   simp[h0,h1,h7,h8,hlt,hgt,hw1,hcall,ho,-List.any_eq_false,-List.any_eq_true]
   apply ih2 <;> simp[h0,h1,h7]
theorem FQ (l:List Tm) (y:Tm) (o:Bool) (bs:List (List AV)) (hl:l.length < 1000000) (hm: ∀x∈l,x.mass < big) (hy:y.mass < big):
  call F.tb 211 [.sl o 4 (encTs l),.agg (Qb y)] bs=some (.bool (l.any (eqB y)),bs):=by
 have hg: (bs ++ [Qb y])[bs.length]? =some (Qb y):=List.getElem?_concat_length
 have h1:=fun ρ=>QbW l y bs.length (bs ++ [Qb y]) hg hl hm hy l [] false ρ rfl rfl
 have h2:PH (l.any (eqB y)) (bs ++ [Qb y]) (call F.tb 215 [.sl false 4 (encTs l),.fn 212 [.gp bs.length 0]] (bs ++ [Qb y])):=by
  rw[Qa F.tb_215 _ _ rfl]
  simp[F.f215B,F.f215C,-List.any_eq_false,-List.any_eq_true]
  apply h1 <;> simp
 obtain⟨i,hi,hb⟩:=h2
 have htk: (bs ++ [Qb y]).take (bs.length+1)=bs ++ [Qb y]:=List.take_of_length_le (by simp)
 have h3:call F.tb 214 [.sl false 4 (encTs l),.fn 212 [.gp bs.length 0]] (bs ++ [Qb y])=some (.bool (l.any (eqB y)),bs ++ [Qb y]):=by
  rw[Qa F.tb_214 _ _ rfl]
  simp[F.f214B,F.f214C,hi,F.f214R,F.f214K,htk,-List.any_eq_false,-List.any_eq_true]
  cases hx:l.any (eqB y)
  ·rw[hx]at hb;simp at hb;simpa using hb
  ·rw[hx]at hb;simp at hb;simpa using hb
 rw[Qa F.tb_211 _ _ rfl]
 simp[F.f211B,F.f211C,F.f211R,F.f211K,h3,-List.any_eq_false,-List.any_eq_true]
def TS (B0 B:List (List AV)) (v:AV) (l:List Tm):Prop:=∃(M:List (List AV)) (id sz:Nat),B=B0 ++ M∧v= .gs id 0 sz l.length∧
 ((sz=0∧id=0∧l=[])∨(sz=4∧B0.length≤id∧l≠[]∧B[id]? =some (Qu l)))
theorem Ch {B0 B:List (List AV)} {v:AV} {l:List Tm} (h:TS B0 B v l): ∃id sz,v= .gs id 0 sz l.length:=by
 obtain⟨M,id,sz,_,rfl,_⟩:=h;exact⟨id,sz,rfl⟩
theorem QiF (B0:List (List AV)):TS B0 B0 (.gs 0 0 0 0) []:=⟨[],0,0,by simp,rfl,.inl ⟨rfl,rfl,rfl⟩⟩
theorem QbU {B:List (List AV)} {id sz:Nat} (l:List Tm) (y:Tm) (g:Nat) (hb:l≠[]→sz=4∧B[id]? =some (Qu l)) (hg:B[g]? =some (Qb y)) (hl:l.length < 1000000) (hm: ∀x∈l,x.mass < big) (hy:y.mass < big):
  ∀(post pre:List Tm) (ρ:Nat→AV),l=pre ++ post→pre.any (eqB y)=false→ρ 0= .gs id 0 sz l.length→ρ 1= .fn 212 [.gp g 0]→ρ 7= .int .i64 l.length→ρ 8= .int .i64 pre.length→
  PH (l.any (eqB y)) B (R F.tb (.loop F.f218l0) ρ B (Qk 0 (Qw F.tb F.f218r0 (QB F.f218 B)))):=by
 intro post
 induction post with
 | nil=>
  intro pre ρ hk hp h0 h1 h7 h8
  simp only[List.append_nil]at hk
  rw[← hk]at h8 hp
  rw[Qc F.f218l0.eq_1]
  refine⟨-1,?_,by rw[hp];simp⟩
  simp[h0,h1,h7,h8,F.f218r0,F.f218R,F.f218K]
 | cons x post IH=>
  intro pre ρ hk hp h0 h1 h7 h8
  have hgt:=Qp hk
  have hll:l.length=pre.length+ (post.length+1):=by rw[hk];simp
  have hw1:IntKind.i64.wrap ((pre.length:Int)+1)=(pre.length:Int)+1:=Qj (by omega) (by omega)
  have hlt: (pre.length:Int) < (l.length:Int):=by omega
  have hlt':pre.length < l.length:=by omega
  obtain⟨rfl,hbx⟩:=hb (by intro e;rw[e]at hlt';simp at hlt')
  have r1: (((Qu l).map AV.strip).drop (pre.length*4)).take 4=Qb x:=by
   have:=VO (f:=Qb) (k:=4) QP hk []
   rw[List.append_nil]at this
   rw[Yi Zz];exact this
  have hle:pre.length*4+4≤(Qu l).length:=by rw[Z1 QP];omega
  have hcall:=FR x y g B hg (hm x (by rw[hk];simp)) hy
  have ih:=fun ρ hpp=>IH (pre ++ [x]) ρ (by rw[hk];simp) hpp
  generalize Qu l=c at *
  rw[Qc F.f218l0.eq_1]
  by_cases ho:Qm x y=0
  ·have hany:l.any (eqB y)=true:=List.any_eq_true.2 ⟨x,by rw[hk];simp,by simp[eqB,ho]⟩
   refine⟨pre.length,?_,by rw[hany];simp⟩
   simp[-getElem?_pos,h0,h1,h7,h8,hlt,hlt',hbx,hle,r1,hcall,ho,F.f218R,F.f218K]
  ·have ih2:=fun ρ=>ih ρ (by rw[List.any_append,hp];simp[eqB,ho])
   simp[-getElem?_pos,h0,h1,h7,h8,hlt,hlt',hw1,hbx,hle,r1,hcall,ho,-List.any_eq_false,-List.any_eq_true]
   apply ih2 <;> simp[h0,h1,h7]
theorem Qeh {B0 B:List (List AV)} {v:AV} {l:List Tm} (h:TS B0 B v l) (y:Tm) (hl:l.length < 1000000) (hm: ∀x∈l,x.mass < big) (hy:y.mass < big):
  call F.tb 216 [v,.agg (Qb y)] B=some (.bool (l.any (eqB y)),B):=by
 obtain⟨M,id,sz,rfl,rfl,hc⟩:=h
 have hg: ((B0 ++ M)++ [Qb y])[(B0 ++ M).length]? =some (Qb y):=List.getElem?_concat_length
 have hb:l≠[]→sz=4∧((B0 ++ M)++ [Qb y])[id]? =some (Qu l):=by
  intro hne
  rcases hc with⟨_,_,rfl⟩ | ⟨h1,_,_,h2⟩
  ·exact absurd rfl hne
  ·refine⟨h1,?_⟩
   rw[List.getElem?_append_left (VH h2),h2]
 generalize B0 ++ M=B at *
 have h1:=fun ρ=>QbU l y B.length hb hg hl hm hy l [] ρ rfl rfl
 have h2:PH (l.any (eqB y)) (B ++ [Qb y]) (call F.tb 218 [.gs id 0 sz l.length,.fn 212 [.gp B.length 0]] (B ++ [Qb y])):=by
  rw[Qa F.tb_218 _ _ rfl]
  simp[F.f218B,F.f218C,-List.any_eq_false,-List.any_eq_true]
  apply h1 <;> simp
 obtain⟨i,hi,hb2⟩:=h2
 have htk: (B ++ [Qb y]).take (B.length+1)=B ++ [Qb y]:=List.take_of_length_le (by simp)
 have h3:call F.tb 217 [.gs id 0 sz l.length,.fn 212 [.gp B.length 0]] (B ++ [Qb y])=some (.bool (l.any (eqB y)),B ++ [Qb y]):=by
  rw[Qa F.tb_217 _ _ rfl]
  simp[F.f217B,F.f217C,hi,F.f217R,F.f217K,htk,-List.any_eq_false,-List.any_eq_true]
  cases hx:l.any (eqB y)
  ·rw[hx]at hb2;simp at hb2;simpa using hb2
  ·rw[hx]at hb2;simp at hb2;simpa using hb2
 rw[Qa F.tb_216 _ _ rfl]
 simp[F.f216B,F.f216C,F.f216R,F.f216K,h3,-List.any_eq_false,-List.any_eq_true]
theorem Qef (t:Tm) (bs:List (List AV)) (hm:t.mass < big):call F.tb 208 [.agg (Qb t)] bs=some (.agg (Qb t),bs):=by
 have h:=Qbg t bs hm true
 rw[Qa F.tb_208 _ _ rfl]
 simp[F.f208B,F.f208C,F.f208R,F.f208K,h]
end Go.Am
