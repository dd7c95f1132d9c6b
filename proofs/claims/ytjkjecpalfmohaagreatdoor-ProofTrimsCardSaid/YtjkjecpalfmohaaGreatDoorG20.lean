/-
  Rc26, Rc27, Rc28, Rc29, Rc30, Rc31, Rc32, Rc33, Rc34, Rc35, Rc36, Rc37, Rc38, Rc39, Rc40, Rc41, Rc42, En1, En2, En3, En4, En5, En6, En7, En8, En9, En10, En11, En12, En13, En14, En15, En16.
-/
import Derived.Test.YtjkjecpalfmohaaGreatDoorG19
set_option linter.all false
open Go.Am.F
namespace Go.Am
set_option maxRecDepth 20000
def Pk {x:Tm}: ∀{ks:Qc},x∈ks->x.nodes<=Qx ks
 | [],h=>by cases h
 | t:: ts,h=>by
  simp only[Qx];rcases ZE.1 h with rfl | h
  ·omega
  ·have:=Pk h;omega
def OE {n:Qu} (h:Ul n=true): (n=FST\/n=SND\/n=READ)\/(n=DEC\/n=Yj\/n=YD):=by
 simp only[Ul,VG,Up]at h;rcases h with((((h | h) | h) | h) | h) | h <;> simp[h]
def QiD {n:Qu} {us:Qc} (bs:Qa) (hn:Ul n=true) (ha:YF n us.length=true) (hg:Z8 us=true) (hm:Qv us < 20000000):call tb 176 [.agg (Qf (.mk 3 n 0 us))] bs=some (.agg (Qf (Q9 n us)),bs):=by
 rcases OE hn with h | h
 ·have h1:us.length=1:=by rcases h with rfl | rfl | rfl <;> simpa[YF,PK,YE,ENC,Xw,YZ,EXP,DEC,Yj,YD,FST,SND,READ]using ha
  obtain⟨a,rfl⟩:=M1.1 h1;simp only[Z8,Qp]at hg;simp only[Qv]at hm;exact Qgq n a bs h hg.1 (by unfold big;omega)
 ·have h1:us.length=2:=by rcases h with rfl | rfl | rfl <;> simpa[YF]using ha
  match us,h1,hg,hm with
  | [a,b],_,hg,hm=>
   simp only[Z8,Qp]at hg;simp only[Qv]at hm;exact Qgr n a b bs h hg.1 hg.2.1 (by unfold big;omega) (by unfold big;omega)
def QiT {n:Qu} {us:Qc} (bs:Qa) (hn:Ul n=true) (ha:YF n us.length=true) (hg:Z8 us=true) (hm:Qv us < 20000000):QfL (Q9 n us) bs (call tb 243 [.agg (Qf (.mk 3 n 0 us))] bs):=by
 rcases OE hn with h | h
 ·have h1:us.length=1:=by rcases h with rfl | rfl | rfl <;> simpa[YF,PK,YE,ENC,Xw,YZ,EXP,DEC,Yj,YD,FST,SND,READ]using ha
  obtain⟨a,rfl⟩:=M1.1 h1;simp only[Z8,Qp]at hg;simp only[Qv]at hm;exact QdL n a bs h hg.1 (by unfold big;omega)
 ·have h1:us.length=2:=by rcases h with rfl | rfl | rfl <;> simpa[YF]using ha
  match us,h1,hg,hm with
  | [a,b],_,hg,hm=>
   simp only[Z8,Qp]at hg;simp only[Qv]at hm;exact QdM n a b bs h hg.1 (by unfold big;omega) (by unfold big;omega)
def MX (us:Qc) (n:Qu):Prop:=Qv us+n.length+us.length < 15000000
set_option maxHeartbeats 2000000 in
def QkK (t:Tm) (us:Qc) (bs:Qa) (ha:YF t.name us.length=true) (hg:Z8 us=true) (hm:MX us t.name) (ρ:Ql) (h1:ρ 1= .bx (Qf t)) (h2:ρ 2= .bx [.int .i64 0,.str [],.int .i64 0,.sl true 4 []])
  (h4:ρ 4= .bx [.int .i64 3,.str t.name,.int .i64 0,.sl true 4 (Qb us)]):R tb f175r0 ρ bs (QN f175 bs)=some (Zs (Xi t.name us),bs):=by
 unfold MX at hm;have hf:=Tq 3 t.name 0 us;have hgp:ZV (Qb us)=true:=Xh us;obtain⟨n,hn⟩: ∃n,t.name=n:=⟨_,rfl⟩;rw[hn]at ha hm h4 hf ⊢;cases hd:Ul n
 ·have hd':=hd;simp only[Ul,Nl]at hd';obtain⟨⟨⟨⟨⟨d1,d2⟩,d3⟩,d4⟩,d5⟩,d6⟩:=hd';simp only[FST,SND,DEC,Yj,YD,READ]at d1 d2 d3 d4 d5 d6;by_cases hx:n=XOR
  ·subst hx;have e:Xi XOR us=Ww us:=by simp[Xi,hd]
   have hc:=Dm us false bs (by omega) (by omega);rw[e];simp only[Zs]at hc ⊢;simp only[XOR]at *;simp[f175r0,h1,h2,h4,hn,hc]
  ·by_cases hp:n=MUL\/n=INV\/n=ONE
   ·have e:Xi n us=Xp (.mk 3 n 0 us):=by simp only[Xi,hd,hx,hp,Zj,Zi];simp
    have hmass: (Tm.mk 3 n 0 us).mass < 20000000:=by simp only[Tm.mass];omega
    have hc:=Si (.mk 3 n 0 us) bs (by omega);have hc2:=KT false bs (Of (.mk 3 n 0 us) 25000000 (by omega)) (Uv _);rw[<- hf]at hc;rw[e];by_cases c:ofE (.mk 3 n 0 us)=0
    ·have e2:Xp (.mk 3 n 0 us)=Yn (ofP (.mk 3 n 0 us)):=by simp[Xp,c]
     rw[e2];simp only[Zs]at hc2 ⊢;rw[c]at hc;generalize ofP (.mk 3 n 0 us)=P at *;rcases hp with rfl | rfl | rfl
     ·simp only[MUL]at *;simp[f175r0,h1,h2,h4,hn,hc,hc2]
     ·simp only[INV]at *;simp[f175r0,h1,h2,h4,hn,hc,hc2]
     ·simp only[ONE]at *;simp[f175r0,h1,h2,h4,hn,hc,hc2]
    ·have e2:Xp (.mk 3 n 0 us)=(QM,ofE (.mk 3 n 0 us)):=by simp[Xp,c]
     rw[e2];generalize ofE (.mk 3 n 0 us)=E at *;generalize ofP (.mk 3 n 0 us)=P at *;rcases hp with rfl | rfl | rfl
     ·simp only[MUL]at *;simp[f175r0,h1,h2,h4,hn,hc,c,Zw,Q7]
     ·simp only[INV]at *;simp[f175r0,h1,h2,h4,hn,hc,c,Zw,Q7]
     ·simp only[ONE]at *;simp[f175r0,h1,h2,h4,hn,hc,c,Zw,Q7]
   ·by_cases he:n=EXP
    ·have e:Xi n us=Wm (us.getD 0 QM) (us.getD 1 QM):=by subst he;simp only[Xi,hd,Qm hx,Qm hp];simp
     subst he;have hl:us.length=2:=by simpa[YF]using ha
     match us,hl,hg,hm,h4,e with
     | [x,y],_,hg,hm,h4,e=>
      simp only[Z8,Qp]at hg;simp only[Qv]at hm;have hc:=QiI x y bs hg.1 (by omega) (by omega);rw[e];simp only[Zs]at hc ⊢;simp only[List.getD_cons_zero,List.getD_cons_succ]at *;simp only[EXP]at *;simp[f175r0,h1,h2,h4,hn,hc]
    ·have e:Xi n us=(.mk 3 n 0 us,0):=by simp only[Xi,hd,hx,hp,he,Zi];simp
     rw[e];have b1: (n == XOR)=false:=by simpa using hx
     have b2: (n == MUL)=false:=by simp at hp ⊢;exact hp.1
     have b3: (n == INV)=false:=by simp at hp ⊢;exact hp.2.1
     have b4: (n == ONE)=false:=by simp at hp ⊢;exact hp.2.2
     have b5: (n == EXP)=false:=by simpa using he
     simp only[XOR,MUL,INV,ONE,EXP]at b1 b2 b3 b4 b5;simp[f175r0,h1,h2,h4,hn,d1,d2,d3,d4,d5,d6,b1,b2,b3,b4,b5,Zw,Zt]
 ·have e:Xi n us=(Q9 n us,0):=by simp[Xi,hd]
  have hc:=QiD bs hd ha hg (by omega);rw[<- hf]at hc;rw[e];generalize Q9 n us=D at *;rcases OE hd with(rfl | rfl | rfl) | (rfl | rfl | rfl)
  ·simp only[FST]at *;simp[f175r0,h1,h2,h4,hn,hc,Zw]
  ·simp only[SND]at *;simp[f175r0,h1,h2,h4,hn,hc,Zw]
  ·simp only[READ]at *;simp[f175r0,h1,h2,h4,hn,hc,Zw]
  ·simp only[DEC]at *;simp[f175r0,h1,h2,h4,hn,hc,Zw]
  ·simp only[Yj]at *;simp[f175r0,h1,h2,h4,hn,hc,Zw]
  ·simp only[YD]at *;simp[f175r0,h1,h2,h4,hn,hc,Zw]
def Vf (n:Qu) (us:Qc) (r:Qc×Int):Tm×Int:=if r.2=0 then Xi n (us ++ r.1)else(QM,r.2)
def QeK (t:Tm) (bs:Qa) (hg:Zh t=true) (hk3:t.kind=3) (hm:t.mass+13200*t.nodes < 15000000) (ih: ∀x∈t.kids,∀bs,call tb 175 [.agg (Qf x)] bs=some (Zs (ZW x),bs)):
  ∀(post pre us:Qc) (ρ:Ql),t.kids=pre ++ post->us.length=pre.length->Z8 us=true->Qv us<=Qv pre+13200*Qx pre->ρ 1= .bx (Qf t)->ρ 2= .bx [.int .i64 0,.str [],.int .i64 0,.sl true 4 []]->
   ρ 4= .bx [.int .i64 3,.str t.name,.int .i64 0,.sl true 4 (Qb us)]->ρ 19= .sl false 4 (Qb t.kids)->ρ 20= .int .i64 t.kids.length->ρ 21= .int .i64 pre.length->
  R tb (.loop f175l0) ρ bs (Qo 0 (QB tb f175r0 (QN f175 bs)))=some (Zs (Vf t.name us (YM post)),bs):=by
 have hme:=QK t;have hne:=X5 t;intro post
 induction post with
 | nil=>
  intro pre us ρ hk hl hgu hmu h1 h2 h4 h19 h20 h21;simp only[QH]at hk;rw[<- hk]at h21 hl hmu;have har:=(Tr hg hk3).2;have hr:=QkK t us bs (by rw[hl];exact har) hgu (by unfold MX;omega);have e:Vf t.name us (YM [])=Xi t.name us:=by simp[Vf,YM]
  rw[Qe f175l0.eq_1,e];simp[h1,h2,h4,h19,h20,h21];apply hr <;> simp[h1,h2,h4]
 | cons x post IH=>
  intro pre us ρ hk hl hgu hmu h1 h2 h4 h19 h20 h21;have hg2:=Qw hk;have hll:=QE hk;have hw1:=wr1 pre.length (by omega);have hlt:=QI hk;have hxk:x∈t.kids:=by rw[hk];simp
  have hc:=ih x hxk bs;obtain⟨n1,n2⟩:=Oi x (X9.1 (V8 hg) x hxk);simp only[Zs]at hc;rw[Qe f175l0.eq_1];by_cases c: (ZW x).2=0
  ·have e:Vf t.name us (YM (x:: post))=Vf t.name (us ++ [(ZW x).1]) (YM post):=by
    simp only[Vf,YM,c,Zj];by_cases c2: (YM post).2=0
    ·simp[c2]
    ·simp[c2]
   have hb: (us.length+1)*56<=140737488355328:=WV (by omega);have hi:=fun ρ=>IH (pre ++ [x]) (us ++ [(ZW x).1]) ρ (by rw[hk];simp) (by simp[hl]) (X9.2 fun y hy=>by
    rcases Xe.1 hy with hy | hy
    ·exact X9.1 hgu y hy
    ·simp at hy;subst hy;exact n1) (by rw[W7,W7,XC];simp only[Qv,Qx];omega)
   rw[e];simp[h1,h2,h4,h19,h20,h21,hg2,hlt,hw1,hc,c,hb,Z4,ZL];apply hi <;> simp[h1,h2,h19,h20]
  ·have e:Vf t.name us (YM (x:: post))=(QM,(ZW x).2):=by simp[Vf,YM,c]
   rw[e];simp[h1,h2,h4,h19,h20,h21,hg2,hlt,hc,c,Zw,Q7]
def QiC: ∀(t:Tm) (bs:Qa),Zh t=true->t.mass+13200*t.nodes < 15000000->call tb 175 [.agg (Qf t)] bs=some (Zs (ZW t),bs):=by
 refine Yq ?_;intro k n s ks ih bs hg hm;have hme:=QK (.mk k n s ks);have hne:=X5 (.mk k n s ks);simp only[Zz,Ya]at hme hne;rw[zcc 175 rfl rfl];by_cases hk:k=3
 ·subst hk;have hl:=fun ρ=>QeK (.mk 3 n s ks) bs hg rfl hm (fun x hx bs=>ih x hx bs (X9.1 (V8 hg) x hx) (by have h1:x.mass<=Qv ks:=Q3 hx;have h2:x.nodes<=Qx ks:=Pk hx;omega)) ks [] [] ρ rfl rfl rfl (by simp[Qv]);have e:ZW (.mk 3 n s ks)=Vf n [] (YM ks):=by simp[ZW,Vf]
  rw[e];simp only[Ya,Zz]at hl;simp[f175C];apply hl <;> simp[Qb]
 ·have e:ZW (.mk k n s ks)=(.mk k n s ks,0):=by simp[ZW,hk]
  rw[e];simp[f175C,hk,Zw]
def Kw {n:Qu}: ∀{l:List Sy} {y:Sy},Yp n l=some y->y∈l/\y.n=n
 | [],y,h=>by simp[Yp]at h
 | s:: ss,y,h=>by
  simp only[Yp]at h;split at h
  ·rename_i hs;injection h with h;subst h;exact⟨by simp,hs⟩
  ·obtain⟨h1,h2⟩:=Kw h;exact⟨by simp[h1],h2⟩
def QhM:Wn.all (fun y=> !(y.k == 3) || Ul y.n)=true:=by decide
def RF (n:Qu):Int:=match Yp n Wn with | some y=>y.k | none=>0
def Qbk (n:Qu):decide (RF n=3)=Ul n:=by
 unfold RF;cases hd:Ul n
 ·cases hf:Yp n Wn with
  | none=>simp
  | some y=>
   obtain⟨h1,h2⟩:=Kw hf;have h3:=XO.1 QhM y h1;rw[h2,hd]at h3;simpa using h3
 ·rcases OE hd with(rfl | rfl | rfl) | (rfl | rfl | rfl) <;> simp[FST,SND,DEC,Yj,YD,READ,Yp,Wn]
def BZ (n:Qu) (bs:Qa):call tb 128 [.str n] bs=some (.int .i64 (RF n),bs):=HB n bs
set_option maxHeartbeats 4000000 in
def QfQ (t:Tm) (us:Qc) (bs:Qa) (ha:YF t.name us.length=true) (hg:Z8 us=true) (hm:MX us t.name) (ρ:Ql) (h1:ρ 1= .bx (Qf t)) (h2:ρ 2= .bx [.int .i64 0,.str [],.int .i64 0,.sl true 4 []])
  (h4:ρ 4= .sl true 4 (Qb us)):R tb f242r0 ρ bs (QN f242 bs)=some (Zs (Xi t.name us),bs):=by
 unfold MX at hm;obtain⟨n,hn⟩: ∃n,t.name=n:=⟨_,rfl⟩;rw[hn]at ha hm ⊢;have hap:=U1 n us false bs (by omega);have hkn:=BZ n bs;have hk3:=Qbk n;cases hd:Ul n
 ·rw[hd]at hk3;have hk3': ¬RF n=3:=by simpa using hk3
  generalize RF n=KK at *;by_cases hx:n=XOR
  ·subst hx;have e:Xi XOR us=Ww us:=by simp[Xi,hd]
   have hc:=JZ us false bs (by omega) (by omega);rw[e];simp only[Zs]at hc ⊢;simp only[XOR]at *;simp[f242r0,h1,h2,h4,hn,hap,hkn,hk3',hc]
  ·have b1: (n == XOR)=false:=by simpa using hx
   simp only[XOR]at b1;by_cases hp:n=MUL\/n=INV\/n=ONE
   ·have e:Xi n us=Xp (.mk 3 n 0 us):=by simp only[Xi,hd,hx,hp,Zj,Zi];simp
    have hmass: (Tm.mk 3 n 0 us).mass < 20000000:=by simp only[Tm.mass];omega
    have hc:=QiU (.mk 3 n 0 us) bs (by omega);rw[e];simp only[Zs]at hc ⊢;generalize Xp (.mk 3 n 0 us)=P at *;rcases hp with rfl | rfl | rfl
    ·simp only[MUL]at *;simp[f242r0,h1,h2,h4,hn,hap,hkn,hk3',hc]
    ·simp only[INV]at *;simp[f242r0,h1,h2,h4,hn,hap,hkn,hk3',hc]
    ·simp only[ONE]at *;simp[f242r0,h1,h2,h4,hn,hap,hkn,hk3',hc]
   ·by_cases he:n=EXP
    ·have e:Xi n us=Wm (us.getD 0 QM) (us.getD 1 QM):=by subst he;simp only[Xi,hd,Qm hx,Qm hp];simp
     subst he;have hl:us.length=2:=by simpa[YF]using ha
     match us,hl,hg,hm,h4,e,hap with
     | [x,y],_,hg,hm,h4,e,hap=>
      simp only[Z8,Qp]at hg;simp only[Qv]at hm;have hc:=QiY x y bs hg.1 (by omega) (by omega);rw[e];simp only[Zs]at hc ⊢;simp only[List.getD_cons_zero,List.getD_cons_succ]at *;simp only[EXP]at *;simp[f242r0,h1,h2,h4,hn,hap,hkn,hk3',hc]
    ·have e:Xi n us=(.mk 3 n 0 us,0):=by simp only[Xi,hd,hx,hp,he,Zi];simp
     rw[e];have b2: (n == MUL)=false:=by simp at hp ⊢;exact hp.1
     have b3: (n == INV)=false:=by simp at hp ⊢;exact hp.2.1
     have b4: (n == ONE)=false:=by simp at hp ⊢;exact hp.2.2
     have b5: (n == EXP)=false:=by simpa using he
     simp only[MUL,INV,ONE,EXP]at b2 b3 b4 b5;simp[f242r0,h1,h2,h4,hn,hap,hkn,hk3',b1,b2,b3,b4,b5,Zw]
 ·rw[hd]at hk3;have hk3':RF n=3:=by simpa using hk3
  rw[hk3']at hkn;have e:Xi n us=(Q9 n us,0):=by simp[Xi,hd]
  obtain⟨b,hc⟩:=QiT bs hd ha hg (by omega);rw[e];generalize Q9 n us=D at *;simp[f242r0,h1,h2,h4,hn,hap,hkn,hc,Zw]
def QaF (t:Tm) (bs:Qa) (hg:Zh t=true) (hk3:t.kind=3) (hm:t.mass+13200*t.nodes < 15000000) (ih: ∀x∈t.kids,∀bs,call tb 242 [.agg (Qf x)] bs=some (Zs (ZW x),bs)):
  ∀(post pre us:Qc) (ρ:Ql),t.kids=pre ++ post->us.length=pre.length->Z8 us=true->Qv us<=Qv pre+13200*Qx pre->ρ 1= .bx (Qf t)->ρ 2= .bx [.int .i64 0,.str [],.int .i64 0,.sl true 4 []]->
   ρ 4= .sl true 4 (Qb us)->ρ 5= .int .i64 pre.length->
  R tb (.loop f242l0) ρ bs (Qo 0 (QB tb f242r0 (QN f242 bs)))=some (Zs (Vf t.name us (YM post)),bs):=by
 have hme:=QK t;have hne:=X5 t;intro post
 induction post with
 | nil=>
  intro pre us ρ hk hl hgu hmu h1 h2 h4 h5;simp only[QH]at hk;rw[<- hk]at h5 hl hmu;have har:=(Tr hg hk3).2;have hr:=QfQ t us bs (by rw[hl];exact har) hgu (by unfold MX;omega);have e:Vf t.name us (YM [])=Xi t.name us:=by simp[Vf,YM]
  rw[Qe f242l0.eq_1,e];simp[h1,h2,h4,h5];apply hr <;> simp[h1,h2,h4]
 | cons x post IH=>
  intro pre us ρ hk hl hgu hmu h1 h2 h4 h5;have hg2:=Qw hk;have hll:=QE hk;have hw1:=wr1 pre.length (by omega);have hlt:=QI hk;have hxk:x∈t.kids:=by rw[hk];simp
  have hc:=ih x hxk bs;obtain⟨n1,n2⟩:=Oi x (X9.1 (V8 hg) x hxk);simp only[Zs]at hc;rw[Qe f242l0.eq_1];by_cases c: (ZW x).2=0
  ·have e:Vf t.name us (YM (x:: post))=Vf t.name (us ++ [(ZW x).1]) (YM post):=by
    simp only[Vf,YM,c,Zj];by_cases c2: (YM post).2=0
    ·simp[c2]
    ·simp[c2]
   have hb: (us.length+1)*56<=140737488355328:=WV (by omega);have hi:=fun ρ=>IH (pre ++ [x]) (us ++ [(ZW x).1]) ρ (by rw[hk];simp) (by simp[hl]) (X9.2 fun y hy=>by
    rcases Xe.1 hy with hy | hy
    ·exact X9.1 hgu y hy
    ·simp at hy;subst hy;exact n1) (by rw[W7,W7,XC];simp only[Qv,Qx];omega)
   rw[e];simp[h1,h2,h4,h5,hg2,hlt,hw1,hc,c,hb,Z4,ZL];apply hi <;> simp[h1,h2]
  ·have e:Vf t.name us (YM (x:: post))=(QM,(ZW x).2):=by simp[Vf,YM,c]
   rw[e];simp[h1,h2,h4,h5,hg2,hlt,hc,c,Zw,Q7]
def QiS: ∀(t:Tm) (bs:Qa),Zh t=true->t.mass+13200*t.nodes < 15000000->call tb 242 [.agg (Qf t)] bs=some (Zs (ZW t),bs):=by
 refine Yq ?_;intro k n s ks ih bs hg hm;have hme:=QK (.mk k n s ks);have hne:=X5 (.mk k n s ks);simp only[Zz,Ya]at hme hne;rw[zcc 242 rfl rfl];by_cases hk:k=3
 ·subst hk;have hl:=fun ρ=>QaF (.mk 3 n s ks) bs hg rfl hm (fun x hx bs=>ih x hx bs (X9.1 (V8 hg) x hx) (by have h1:x.mass<=Qv ks:=Q3 hx;have h2:x.nodes<=Qx ks:=Pk hx;omega)) ks [] [] ρ rfl rfl rfl (by simp[Qv]);have e:ZW (.mk 3 n s ks)=Vf n [] (YM ks):=by simp[ZW,Vf]
  rw[e];simp only[Ya,Zz]at hl;simp[f242C];apply hl <;> simp[Qb]
 ·have e:ZW (.mk k n s ks)=(.mk k n s ks,0):=by simp[ZW,hk]
  rw[e];simp[f242C,hk,Zw]
def YR (t:Tm):Tm×Int:=if thV t≠0 then(QM,thV t)else if(ZW t).2≠0 then(QM,(ZW t).2)else if Q4 (ZW t).1≠0 then(QM,Q4 (ZW t).1)else((ZW t).1,0)
def Kp {t:Tm} (h:thV t=0):Q4 t=0/\X2 t=0/\Zh t=true/\t.mass<=13200/\t.nodes<=400:=by
 unfold thV at h;split at h
 ·rename_i h1;exact absurd h h1
 ·rename_i h1;have h2:Q4 t=0:=by simpa using h1
  obtain⟨a,b,c⟩:=Uc h2;exact⟨h2,h,Ie t a h,c,b⟩
def IA (t:Tm): (YR t).1.mass<=13200:=by
 unfold YR;split
 ·show QM.mass<=_;rw[Sz];omega
 ·split
  ·show QM.mass<=_;rw[Sz];omega
  ·split
   ·show QM.mass<=_;rw[Sz];omega
   ·rename_i h;exact(Uc (by simpa using h)).2.2
def QiB (t:Tm) (bs:Qa) (hm:t.mass < big):call tb 174 [.agg (Qf t)] bs=some (Zs (YR t),bs):=by
 have h1:=P9 t bs hm;rw[zcc 174 rfl rfl];by_cases c1:thV t=0
 ·obtain⟨_,_,hg,hma,hno⟩:=Kp c1;have h2:=QiC t bs hg (by omega);obtain⟨n1,n2⟩:=Oi t hg;have h3:=UJ (ZW t).1 bs (by unfold big;omega);simp only[Zs]at h2;by_cases c2: (ZW t).2=0
  ·by_cases c3:Q4 (ZW t).1=0
   ·have e:YR t=((ZW t).1,0):=by simp[YR,c1,c2,c3]
    rw[e];simp[f174C,h1,h2,h3,c1,c2,c3,Zw]
   ·have e:YR t=(QM,Q4 (ZW t).1):=by simp[YR,c1,c2,c3]
    rw[e];simp[f174C,h1,h2,h3,c1,c2,c3,Zw,Q7]
  ·have e:YR t=(QM,(ZW t).2):=by simp[YR,c1,c2]
   rw[e];simp[f174C,h1,h2,c1,c2,Zw,Q7]
 ·have e:YR t=(QM,thV t):=by simp[YR,c1]
  rw[e];simp[f174C,h1,c1,Zw,Q7]
def QiR (t:Tm) (bs:Qa) (hm:t.mass < big):call tb 241 [.agg (Qf t)] bs=some (Zs (YR t),bs):=by
 have h1:=Lp t bs hm;rw[zcc 241 rfl rfl];by_cases c1:thV t=0
 ·obtain⟨_,_,hg,hma,hno⟩:=Kp c1;have h2:=QiS t bs hg (by omega);obtain⟨n1,n2⟩:=Oi t hg;have h3:=W2 (ZW t).1 bs (by unfold big;omega);simp only[Zs]at h2;by_cases c2: (ZW t).2=0
  ·by_cases c3:Q4 (ZW t).1=0
   ·have e:YR t=((ZW t).1,0):=by simp[YR,c1,c2,c3]
    rw[e];simp[f241C,h1,h2,h3,c1,c2,c3,Zw]
   ·have e:YR t=(QM,Q4 (ZW t).1):=by simp[YR,c1,c2,c3]
    rw[e];simp[f241C,h1,h2,h3,c1,c2,c3,Zw,Q7]
  ·have e:YR t=(QM,(ZW t).2):=by simp[YR,c1,c2]
   rw[e];simp[f241C,h1,h2,c1,c2,Zw,Q7]
 ·have e:YR t=(QM,thV t):=by simp[YR,c1]
  rw[e];simp[f241C,h1,c1,Zw,Q7]
def QiM (n:Qu) (bs:Qa):call tb 206 [.str n] bs=some (.bool (!Ul n),bs):=by
 have h:=WR n bs;have hk:=Qbk n;rw[zcc 206 rfl rfl,<- hk];unfold RF;cases hf:Yp n Wn with
 | none=>
  rw[hf]at h;simp[f206C,h]
 | some y=>
  rw[hf]at h;simp[f206C,h,VP]
def ndN (t:Tm):Bool:= !(decide (t.kind=3) && Ul t.name)
mutual
def evT:Tm->Bool
 | .mk k n s ks=>ndN (.mk k n s ks) && evL ks
def evL:List Tm->Bool
 | []=>true
 | t:: ts=>evT t && evL ts
end
def QoT (t:Tm):evT t=(ndN t && evL t.kids):=by cases t;simp[evT]
mutual
theorem AH: ∀t:Tm,evT t=(ZB t).all ndN
 | .mk k n s ks=>by simp only[evT,ZB,SL,AG ks]
theorem AG: ∀ts:List Tm,evL ts=(ZA ts).all ndN
 | []=>rfl
 | t:: ts=>by simp only[evL,ZA,Lb,AH t,AG ts]
end
def Qa9 (t:Tm) (bs:Qa) (hm:t.mass < big) (ih: ∀x∈t.kids,∀bs,call tb 207 [.agg (Qf x),.fn 206 []] bs=some (.bool (evT x),bs)):
  ∀(post pre:Qc) (ρ:Ql),t.kids=pre ++ post->ρ 1= .fn 206 []->ρ 18= .sl false 4 (Qb t.kids)->ρ 19= .int .i64 t.kids.length->ρ 20= .int .i64 pre.length->
  R tb (.loop f207l0) ρ bs (Qo 0 (QB tb f207r0 (QN f207 bs)))=some (.bool (evL post),bs):=by
 have hm2:=QK t;unfold big at hm;intro post
 induction post with
 | nil=>
  intro pre ρ hk h1 h18 h19 h20;simp only[QH]at hk;rw[<- hk]at h20;rw[Qe f207l0.eq_1];simp[h1,h18,h19,h20,f207r0,evL]
 | cons x post IH=>
  intro pre ρ hk h1 h18 h19 h20;have hg:=Qw hk;have hll:=QE hk;have hw1:=wr1 pre.length (by omega);have hlt:=QI hk;have hc:=ih x (by rw[hk];simp) bs;rw[Qe f207l0.eq_1];cases hb:evT x
  ·simp[h1,h18,h19,h20,hg,hlt,hc,hb,evL]
  ·have h2:=fun ρ=>IH (pre ++ [x]) ρ (by rw[hk];simp);simp[h1,h18,h19,h20,hg,hlt,hw1,hc,hb,evL];apply h2 <;> simp[h1,h18,h19]
def QiN: ∀(t:Tm) (bs:Qa),t.mass < big->call tb 207 [.agg (Qf t),.fn 206 []] bs=some (.bool (evT t),bs):=by
 refine Yq ?_;intro k n s ks ih bs hm;have hl:=fun ρ=>Qa9 (.mk k n s ks) bs hm (fun x hx bs=>ih x hx bs (by have h1:x.mass<=Qv ks:=Q3 hx;have:=QK (.mk k n s ks);simp only[Zz]at this;omega)) ks [] ρ rfl;have h2:=QiM n bs;simp only[Zz]at hl;rw[zcc 207 rfl rfl,QoT];by_cases hk:k=3
 ·cases hd:Ul n
  ·have e:ndN (.mk k n s ks)=true:=by simp[ndN,hd]
   rw[e];simp[f207C,hk,hd,h2];apply hl <;> simp
  ·have e:ndN (.mk k n s ks)=false:=by simp[ndN,hd,hk]
   rw[e];simp[f207C,hk,hd,h2]
 ·have e:ndN (.mk k n s ks)=true:=by simp[ndN,hk]
  rw[e];simp[f207C,hk];apply hl <;> simp
def Uw (t:Tm):Bool:=decide ((YR t).2=0) && decide (Qq (YR t).1 t=0) && evT t
def B4 (t:Tm) (bs:Qa) (hm:t.mass < big):call tb 173 [.agg (Qf t)] bs=some (.bool (Uw t),bs):=by
 have h1:=QiB t bs hm;have hnm:=IA t;have h2:=Kb (YR t).1 t bs (by unfold big;omega) hm;have h3:=QiN t bs hm;simp only[Zs]at h1;rw[zcc 173 rfl rfl];by_cases c1: (YR t).2=0
 ·by_cases c2:Qq (YR t).1 t=0
  ·simp[f173C,h1,h2,h3,c1,c2,Uw]
  ·simp[f173C,h1,h2,h3,c1,c2,Uw]
 ·simp[f173C,h1,c1,Uw]
def JS:=@Bool.false_and
def C4 (l:Qc) (bs:Qa) (hl:l.length < 100000000): ∀(post pre:Qc) (o:Bool) (ρ:Ql),l=pre ++ post->ρ 5= .sl o 4 (Qb l)->ρ 6= .int .i64 pre.length->
  R tb (.loop f240l0) ρ bs (Qo 0 (QB tb f240r0 (QN f240 bs)))=some (.bool (post.all ndN),bs):=by
 intro post
 induction post with
 | nil=>
  intro pre o ρ hk h5 h6;simp only[QH]at hk;rw[<- hk]at h6;rw[Qe f240l0.eq_1];simp[h5,h6,f240r0]
 | cons x post IH=>
  intro pre o ρ hk h5 h6;have hg:=Qw hk;have hll:=QE hk;have hw1:=wr1 pre.length (by omega);have hlt:=QI hk;have hc:=BZ x.name bs;have hk3:=Qbk x.name;have h2:=fun ρ=>IH (pre ++ [x]) o ρ (by rw[hk];simp);rw[SL];rw[Qe f240l0.eq_1];by_cases ck:x.kind=3
  ·cases hd:Ul x.name
   ·rw[hd]at hk3;have hk3': ¬RF x.name=3:=by simpa using hk3
    have e:ndN x=true:=by simp[ndN,hd]
    rw[e,VZ];generalize RF x.name=KK at *;simp[h5,h6,hg,hlt,hw1,hc,ck,hk3',-List.all_eq_true];apply h2 <;> simp[h5]
   ·rw[hd]at hk3;have hk3':RF x.name=3:=by simpa using hk3
    have e:ndN x=false:=by simp[ndN,hd,ck]
    rw[e,JS];simp[h5,h6,hg,hlt,hc,ck,hk3']
  ·have e:ndN x=true:=by simp[ndN,ck]
   rw[e,VZ];simp[h5,h6,hg,hlt,hw1,ck,-List.all_eq_true];apply h2 <;> simp[h5]
def E0:=@decide_eq_decide
def QiQ (t:Tm) (bs:Qa) (hm:t.mass < 1000000):call tb 240 [.agg (Qf t)] bs=some (.bool (Uw t),bs):=by
 have hmb:t.mass < big:=by unfold big;omega
 have h1:=QiR t bs hmb;have hnm:=IA t;have h2:=Xs t (YR t).1 bs hmb (by unfold big;omega);have hsym:decide (Qq t (YR t).1=0)=decide (Qq (YR t).1 t=0):=by
  have:=Xn t (YR t).1;rw[E0];omega
 rw[hsym]at h2;have h3:=Dh t bs (by omega);have hlen:=UH t;have hnn:=YK t;have h4:=fun o ρ=>C4 (ZB t) bs (by omega) (ZB t) [] o ρ rfl;simp only[Zs]at h1;rw[zcc 240 rfl rfl];have e:Uw t=(decide ((YR t).2=0) && decide (Qq (YR t).1 t=0) && (ZB t).all ndN):=by rw[<- AH];rfl
 rw[e];by_cases c1: (YR t).2=0
 ·by_cases c2:Qq (YR t).1 t=0
  ·simp[f240C,h1,h2,h3,c1,c2,-List.all_eq_true];refine h4 false _ ?_ ?_ <;> simp
  ·simp[f240C,h1,h2,c1,c2]
 ·simp[f240C,h1,c1]
def Uf (c:UInt8):Bool:=decide (48<=c.toNat) && decide (c.toNat<=57)
def Rf:Qu:=[48,49,50,51,52,53,54,55,56,57]
def Qgs: ∀d:Fin 256,Rf.contains (UInt8.ofNat d.val)=Uf (UInt8.ofNat d.val):=by decide
def Qgt (c:UInt8):Rf.contains c=Uf c:=by
 have h:=Qgs ⟨c.toNat,c.toNat_lt⟩;simp only[UInt8.ofNat_toNat]at h;exact h
def J7 {p:UInt8->Bool}: ∀{l:Qu},l.dropWhile p=[]↔∀x∈l,p x=true
 | []=>by simp
 | a:: l=>by
  rw[List.dropWhile_cons];cases h:p a
  ·simp[h]
  ·simp[h,J7 (l:=l)]
def QhQ (s:Qu): (Lib.trimS s Rf == [])=s.all Uf:=by
 have hp: (fun b=>Rf.contains b)=Uf:=funext Qgt;cases hs:s.all Uf
 ·have hne:Lib.trimS s Rf≠[]:=by
   intro e;unfold Lib.trimS Lib.trimLeftS Lib.trimRightS at e;rw[hp]at e;have h1:=J7.1 e;cases hw:s.reverse.dropWhile Uf with
   | nil=>
    have h2:=J7.1 hw;have:s.all Uf=true:=XO.2 fun x hx=>h2 x (by simpa using hx);rw[hs]at this;cases this
   | cons x r=>
    have h2:Uf x=false:=by
     have:=List.head_dropWhile_not Uf (l:=s.reverse) (by rw[hw];simp);simpa[hw]using this
    have h3:=h1 x (by rw[hw];simp);rw[h2]at h3;cases h3
  simpa using hne
 ·have:Lib.trimS s Rf=[]:=by
   unfold Lib.trimS Lib.trimLeftS Lib.trimRightS;rw[hp];have:s.reverse.dropWhile Uf=[]:=J7.2 fun x hx=>XO.1 hs x (by simpa using hx);rw[this];rfl
  simp[this]
def Tt (s:Qu):Bool:=match s with
 | 101:: 35:: c:: r=>(c:: r).all Uf
 | _=>false
def TR (t:Tm):Bool:=
 if t.kind=3 then(t.name == Yt || t.name == ONE) && decide (t.kids.length=0)
 else if t.kind=2 then(if t.sort=1\/t.sort=5 then true else if t.sort=4 then t.name == [103] || Tt t.name else if t.sort=0\/t.sort=2\/t.sort=3 then Tt t.name else false)
 else false
def DH (s:Qu):Bool:= !(s == []) && s.all Uf
def QiA (s:Qu) (bs:Qa) (hs:s.length < 4294967281):call tb 163 [.str s] bs=some (.bool (DH s),bs):=by
 have ht:call tb 164 [.str s,.str Rf] bs=some (.str (Lib.trimS s Rf),bs):=by
  rw[Ws tb_164];have hc: (Rf.all (· < 128) && decide (s.length < 4294967281) && decide (Rf.length < 4294967281))=true:=by
   rw[show Rf.all (· < 128)=true from by decide];simp[hs,Rf]
  simp only[YS,IP,hc,Zj];rfl
 have hn:=QhQ s;rw[zcc 163 rfl rfl];simp only[Rf]at ht hn;cases he:s == []
 ·simp[f163C,ht,hn,he,DH,bne,-List.all_eq_true]
 ·simp[f163C,ht,hn,he,DH,bne,-List.all_eq_true]
def VO (s:Qu):Bool:=decide (2<=s.length) && (s.take 2 == [101,35])
def Qoz (s:Qu) (bs:Qa):call tb 75 [.str s,.str [101,35]] bs=some (.bool (VO s),bs):=by
 rw[zcc 75 rfl rfl];by_cases h:2<=s.length
 ·have h': (2:Int)<=(s.length:Int):=by omega
  simp[f75C,VO,h,h']
 ·have h': ¬(2:Int)<=(s.length:Int):=by omega
  simp[f75C,VO,h,h']
def Qoy (s:Qu) (bs:Qa):call tb 73 [.str s,.str [101,35]] bs=some (.tup [.str (if VO s then s.drop 2 else s),.bool (VO s)],bs):=by
 have h1:=Qoz s bs;have h2:call tb 74 [.str s,.str [101,35]] bs=some (.tup [.str (if VO s then s.drop 2 else s),.bool (VO s)],bs):=by
  rw[zcc 74 rfl rfl];cases hc:VO s
  ·simp[f74C,h1,hc]
  ·have hl:2<=s.length:=by simp[VO]at hc;exact hc.1
   have hl': (2:Int)<=(s.length:Int):=by omega
   simp[f74C,h1,hc,hl,hl']
 rw[zcc 73 rfl rfl];generalize (if VO s then s.drop 2 else s)=w at *;simp[f73C,h2]
def Qk0 (s:Qu): (VO s && DH (if VO s then s.drop 2 else s))=Tt s:=by
 cases hc:VO s
 ·rw[JS];unfold Tt;split
  ·simp[VO]at hc
  ·rfl
 ·simp only[Zj,VZ]
  match s,hc with
  | [],hc=>simp[VO]at hc
  | [_],hc=>simp[VO]at hc
  | [a,b],hc=>
   simp[VO]at hc;obtain⟨rfl,rfl⟩:=hc;rfl
  | a:: b:: c:: r,hc=>
   simp[VO]at hc;obtain⟨rfl,rfl⟩:=hc;simp[DH,Tt]
def Qpv (x a b:Qu) (bs:Qa):call tb 162 [.sl false 1 [[.str a],[.str b]],.str x] bs=some (.int .i64 (if x == a then 0 else if x == b then 1 else -1),bs):=by
 rw[zcc 162 rfl rfl];simp[f162C];rw[Qe f162l0.eq_1];cases h1:x == a
 ·have g1: ¬x=a:=by simpa using h1
  simp[h1,g1];rw[Qe f162l0.eq_1];cases h2:x == b
  ·have hw:IntKind.i64.wrap 1=1:=rfl;have hw2:IntKind.i64.wrap 2=2:=rfl;have g2: ¬x=b:=by simpa using h2
   simp[h2,hw,hw2,g2];rw[Qe f162l0.eq_1];simp[f162r0]
  ·have hw:IntKind.i64.wrap 1=1:=rfl;have g2:x=b:=by simpa using h2
   simp[h2,hw,<- g2]
 ·have g1:x=a:=by simpa using h1
  simp[h1,<- g1]
def Qiz (t:Tm) (bs:Qa) (hk:t.kind=3):call tb 160 [.agg (Qf t),.sl false 1 [[.str Yt],[.str ONE]]] bs=some (.bool (t.name == Yt || t.name == ONE),bs):=by
 have h:=Qpv t.name Yt ONE bs;have h2:call tb 161 [.sl false 1 [[.str Yt],[.str ONE]],.str t.name] bs=some (.bool (t.name == Yt || t.name == ONE),bs):=by
  rw[zcc 161 rfl rfl];cases h1:t.name == Yt
  ·cases h3:t.name == ONE <;> simp[h1,h3]at h <;> simp[f161C,h]
  ·simp[h1]at h;simp[f161C,h]
 rw[zcc 160 rfl rfl];simp[f160C,hk,h2]
def Qiy (t:Tm) (bs:Qa) (hm:t.mass < 1000000):call tb 159 [.agg (Qf t)] bs=some (.bool (TR t),bs):=by
 have hme:=QK t;rw[zcc 159 rfl rfl];by_cases hk:t.kind=3
 ·have h1:=Qiz t bs hk;simp only[Yt,ONE]at h1;cases hz: (t.name == [122,101,114,111] || t.name == [111,110,101])
  ·rw[hz]at h1;simp[f159C,hk,h1,TR,Yt,ONE,hz]
   try (simp at hz;simp[hz])
  ·rw[hz]at h1;by_cases hl:t.kids=[]
   ·simp[f159C,hk,h1,TR,Yt,ONE,hz,hl]
   ·have hl0: ¬t.kids.length=0:=fun e=>hl (YX e);have hl': ¬(t.kids.length:Int)=0:=by omega
    simp[f159C,hk,h1,TR,Yt,ONE,hl,hl']
 ·by_cases hk2:t.kind=2
  ·have h1:=Qoy t.name bs;have h2:=QiA (if VO t.name then t.name.drop 2 else t.name) bs (by
    split
    ·rw[UW];omega
    ·omega)
   have ho:=Qk0 t.name;generalize (if VO t.name then t.name.drop 2 else t.name)=w at *;have hp:TR t=if t.sort=1\/t.sort=5 then true else if t.sort=4 then t.name == [103] || Tt t.name else if t.sort=0\/t.sort=2\/t.sort=3 then Tt t.name else false:=by
    unfold TR;rw[Qm hk,Qn hk2]
   rw[hp];generalize Tt t.name=O at *;by_cases s1:t.sort=1
   ·simp[f159C,hk2,h1,s1]
   ·by_cases s5:t.sort=5
    ·simp[f159C,hk2,h1,s5]
    ·by_cases s4:t.sort=4
     ·cases hg:t.name == [103]
      ·cases hcu:VO t.name
       ·rw[hcu]at h1 ho;simp at ho;subst ho;simp[f159C,hk2,h1,s4,hg]
       ·rw[hcu]at h1 ho;simp at ho;subst ho;simp[f159C,hk2,h1,h2,s4,hg]
      ·simp[f159C,hk2,h1,s4,hg]
     ·by_cases s0:t.sort=0\/t.sort=2\/t.sort=3
      ·cases hcu:VO t.name
       ·rw[hcu]at h1 ho;simp at ho;subst ho;rcases s0 with s0 | s0 | s0 <;> simp[f159C,hk2,h1,s0]
       ·rw[hcu]at h1 ho;simp at ho;subst ho;rcases s0 with s0 | s0 | s0 <;> simp[f159C,hk2,h1,h2,s0]
      ·simp only[not_or]at s0;simp[f159C,hk2,h1,s1,s5,s4,s0.1,s0.2.1,s0.2.2]
  ·have hp:TR t=false:=by unfold TR;rw[Qm hk,Qm hk2]
   rw[hp];simp[f159C,hk,hk2]
def Qbv (s:Qu) (bs:Qa) (hs:s.length < 1000000000): ∀(post pre:Qu) (ρ:Ql),s=pre ++ post->ρ 0= .str s->ρ 3= .int .i64 pre.length->
  R tb (.loop f232l0) ρ bs (Qo 0 (QB tb f232r0 (QN f232 bs)))=some (.bool (post.all Uf),bs):=by
 intro post
 induction post with
 | nil=>
  intro pre ρ hk h0 h3;simp only[QH]at hk;rw[<- hk]at h3;rw[Qe f232l0.eq_1];simp[h0,h3,f232r0]
 | cons c post IH=>
  intro pre ρ hk h0 h3;have hg:=Qw hk;have hll:=QE hk;have hw1:=wr1 pre.length (by omega);have hlt:=QI hk;have h2:=fun ρ=>IH (pre ++ [c]) ρ (by rw[hk];simp);rw[SL];rw[Qe f232l0.eq_1];by_cases c1:c.toNat < 48
  ·have e:Uf c=false:=by simp[Uf];omega
   have c1': (c.toNat:Int) < 48:=by omega
   simp[-getElem?_pos,h0,h3,hg,hlt,c1,c1',e]
  ·have c1': ¬(c.toNat:Int) < 48:=by omega
   by_cases c2:57 < c.toNat
   ·have e:Uf c=false:=by simp[Uf];omega
    have c2': (57:Int) < (c.toNat:Int):=by omega
    simp[-getElem?_pos,h0,h3,hg,hlt,c1,c1',c2,c2',e]
   ·have e:Uf c=true:=by simp[Uf];omega
    have c2': ¬(57:Int) < (c.toNat:Int):=by omega
    rw[e,VZ];simp[-getElem?_pos,h0,h3,hg,hlt,hw1,c1,c1',c2,c2',-List.all_eq_true];apply h2 <;> simp[h0]
def QiP (s:Qu) (bs:Qa) (hs:s.length < 1000000000):call tb 232 [.str s] bs=some (.bool (Tt s),bs):=by
 rw[zcc 232 rfl rfl];by_cases h3:s.length < 3
 ·have h3': (s.length:Int) < 3:=by omega
  have e:Tt s=false:=by
   unfold Tt;split
   ·exfalso;simp only[ZQ]at h3;omega
   ·rfl
  simp[f232C,h3,h3',e]
 ·have h3': ¬(s.length:Int) < 3:=by omega
  have hl2:2<=s.length:=by omega
  have hl2': (2:Int)<=(s.length:Int):=by omega
  cases hp:s.take 2 == [101,35]
  ·have e:Tt s=false:=by
    unfold Tt;split
    ·simp at hp
    ·rfl
   simp[f232C,h3,h3',hl2,hl2',hp,e,bne]
  ·match s,hp,h3,hs with
   | a:: b:: c:: r,hp,h3,hs=>
    have h2:=fun ρ=>Qbv (a:: b:: c:: r) bs hs (c:: r) [a,b] ρ rfl;simp at hp;obtain⟨rfl,rfl⟩:=hp;have e:Tt (101:: 35:: c:: r)=(c:: r).all Uf:=rfl;rw[e];simp only[ZQ,Xd]at h3' hl2 hl2' h2;generalize (c:: r).all Uf=O at *;have h3'': ¬((r.length:Int)+1+1+1 < 3):=by omega
    have hl3: (2:Int)<=(r.length:Int)+1+1+1:=by omega
    simp[f232C,h3'',hl3,bne];apply h2 <;> simp
   | [],hp,_,_=>simp at hp
   | [_],hp,_,_=>simp at hp
   | [_,_],hp,h3,_=>simp at h3
def QiO (t:Tm) (bs:Qa) (hm:t.mass < 1000000):call tb 231 [.agg (Qf t)] bs=some (.bool (TR t),bs):=by
 have hme:=QK t;have ho:=QiP t.name bs (by omega);rw[zcc 231 rfl rfl];by_cases hk:t.kind=3
 ·have hp:TR t=((t.name == Yt || t.name == ONE) && decide (t.kids.length=0)):=by unfold TR;rw[Qn hk]
  rw[hp];by_cases hl:t.kids=[]
  ·cases h1:t.name == Yt
   ·cases h2:t.name == ONE <;> simp only[Yt,ONE]at h1 h2 <;> simp[f231C,hk,h1,h2,hl]
   ·simp only[Yt]at h1;simp[f231C,hk,h1,hl]
  ·have hl0: ¬t.kids.length=0:=fun e=>hl (YX e);have hl': ¬(t.kids.length:Int)=0:=by omega
   cases h1:t.name == Yt
   ·cases h2:t.name == ONE <;> simp only[Yt,ONE]at h1 h2 <;> simp[f231C,hk,h1,h2,hl,hl']
   ·simp only[Yt]at h1;simp[f231C,hk,h1,hl,hl']
 ·by_cases hk2:t.kind=2
  ·have hp:TR t=if t.sort=1\/t.sort=5 then true else if t.sort=4 then t.name == [103] || Tt t.name else if t.sort=0\/t.sort=2\/t.sort=3 then Tt t.name else false:=by
    unfold TR;rw[Qm hk,Qn hk2]
   rw[hp];generalize Tt t.name=O at *;by_cases s1:t.sort=1
   ·simp[f231C,hk2,s1]
   ·by_cases s5:t.sort=5
    ·simp[f231C,hk2,s5]
    ·by_cases s4:t.sort=4
     ·cases hg:t.name == [103]
      ·simp[f231C,hk2,s4,hg,ho]
      ·simp[f231C,hk2,s4,hg]
     ·by_cases s0:t.sort=0\/t.sort=2\/t.sort=3
      ·cases hg:t.name == [103]
       ·rcases s0 with s0 | s0 | s0 <;> simp[f231C,hk2,s0,ho,hg]
       ·rcases s0 with s0 | s0 | s0 <;> simp[f231C,hk2,s0,ho,hg]
      ·simp only[not_or]at s0;cases hg:t.name == [103]
       ·simp[f231C,hk2,s1,s5,s4,s0.1,s0.2.1,s0.2.2,hg]
       ·simp[f231C,hk2,s1,s5,s4,s0.1,s0.2.1,s0.2.2,hg]
  ·have hp:TR t=false:=by unfold TR;rw[Qm hk,Qm hk2]
   rw[hp];simp[f231C,hk,hk2]
def Zc (x:Tm):Int:=if thV x≠0 then thV x else if WX x≠[]then 13 else if Uw x then 0 else 10
def Ty:Qc->Int
 | []=>0
 | x:: r=>if Zc x≠0 then Zc x else Ty r
def I6 (x:Tm) (bs:Qa) (hm:x.mass < 1000000):call tb 233 [.agg (Qf x)] bs=some (.int .i64 (Zc x),bs):=by
 have c1:=Lp x bs (by unfold big;omega);have c2:=Ba x bs (by omega);have c3:=QiQ x bs hm;rw[zcc 233 rfl rfl];by_cases e1:thV x=0
 ·by_cases e2:WX x=[]
  ·cases e3:Uw x
   ·simp[f233C,c1,c2,c3,e1,e2,e3,Zc]
   ·simp[f233C,c1,c2,c3,e1,e2,e3,Zc]
  ·simp[f233C,c1,c2,e1,e2,Zc]
 ·simp[f233C,c1,e1,Zc]
def TS (B0 B:Qa) (v:AV) (l:Qc):Prop:=∃(M:Qa) (id sz:Nat),B=B0 ++ M/\v= .gs id 0 sz l.length/\
 ((sz=0/\id=0/\l=[])\/(sz=4/\B0.length<=id/\l≠[]/\B[id]? =some (Qr l)))
def GS {B0 B:Qa} {v:AV} {l:Qc} (h:TS B0 B v l): ∃id sz,v= .gs id 0 sz l.length:=by
 obtain⟨M,id,sz,_,rfl,_⟩:=h;exact⟨id,sz,rfl⟩
def QpU (B0:Qa):TS B0 B0 (.gs 0 0 0 0) []:=⟨[],0,0,by simp,rfl,.inl ⟨rfl,rfl,rfl⟩⟩
def Qsm (i:Nat):Tm:= .mk 1 (119:: N2 i) 0 []
def hbs:Nat->Qc->Qa
 | _,[]=>[]
 | k,t:: ts=>(Qf (Qsm k)++ Qf t):: hbs (k+1) ts
def Hw (t:Tm):t∈ZB t:=by cases t;simp[ZB]
def Bq {x:Tm} (h:Zc x=0):x.kind≠1:=by
 intro hk;unfold Zc at h;by_cases c:thV x=0
 ·rw[Qm (by simpa using c)]at h;by_cases d:WX x=[]
  ·unfold WX at d;have h1:x∈(ZB x).filter (Xt 1):=PV.2 ⟨Hw x,by simp[Xt,hk]⟩;have h2:x∈Yv ((ZB x).filter (Xt 1)):=UO.2 h1;rw[d]at h2;cases h2
  ·rw[Qn d]at h;exact absurd h (by decide)
 ·rw[Qn c]at h;exact absurd h c
def EqF (f:Nat):Prop:=∀(x y:Tm) (bs:Qa),x.mass < big->y.mass < big->call tb f [.agg (Qf x),.agg (Qf y)] bs=some (.bool (decide (Qq x y=0)),bs)
def Ka (L:Qc) (B:Qa) (id:Nat) (r:Option (AV×Qa)):Prop:=r=some (.sl true 4 (Qb L),B.set id [])
def QfK (B:Qa) (id n:Nat) (D:Qc) (c:Qh) (hB:id < B.length) (hc:c.length=n*4) (hD:D.length<=n) (hn:n < 100000000) (ht:c.take (D.length*4)=Qr D) (hDne:D≠[])
  (ρ:Ql) (h0:ρ 0= .gs id 0 4 n) (h5:ρ 5= .int .i64 D.length):
  R tb f497r0 ρ (B.set id c) (Qo 1 (QB tb f497r1 (QB tb (.loop f497l1) (Qo 0 (QB tb f497r2 (QN f497 B))))))=
   some (.sl true 4 (Qb D),B.set id []):=by
 have e1: (0:Int)<=(D.length:Int):=by omega
 have e2: (D.length:Int)<=(n:Int):=by omega
 have hl0: ¬D.length=0:=fun e=>hDne (YX e);have hg:=Xh D;have hch: ∀t,Z3 (Qr D ++ t) 0 4 D.length=Qb D:=fun t=>by
  have:=XZ (f:=Qf) (k:=4) QR ZI D t;rw[Sd]at this;exact this
 have hlen: (Qr D).length=D.length*4:=YC QR D;have hput:c.take (D.length*4)++ (List.replicate ((n - D.length)*4) AV.undef ++ c.drop (D.length*4+ (n - D.length)*4))=Qr D ++ List.replicate ((n - D.length)*4) .undef:=by
  rw[ht,Nf (by rw[hc,<- Z2];exact Yg _ (by omega))];simp
 have hle:D.length*4+ (n - D.length)*4<=n*4:=by rw[<- Z2];exact Yg _ (by omega)
 by_cases hz:n - D.length=0
 ·have hDn:D.length=n:=by omega
  have hcc:c=Qr D:=by rw[<- ht,YH (by omega)]
  have hch0:=hch [];rw[QH]at hch0;rw[<- hcc]at hch0 hlen;have hlc:D.length*4<=c.length:=by omega
  generalize Qb D=E at *;simp[f497r0,h0,h5,e1,e2,hD,hz,hl0,Yr,hB,hlc,hch0,hg,YH]
 ·have hchr:=hch (List.replicate ((n - D.length)*4) .undef);have hlr:D.length*4<=(Qr D ++ List.replicate ((n - D.length)*4) AV.undef).length:=by rw[Zk];omega
  rw[<- hput]at hchr hlr;generalize Qb D=E at *;generalize hX:c.take (D.length*4)++ (List.replicate ((n - D.length)*4) AV.undef ++ c.drop (D.length*4+ (n - D.length)*4))=X at *;simp[f497r0,h0,h5,e1,e2,hD,hz,hB,hc,hle,hX,hl0,Yr,hlr,hchr,hg,YH]
def QfI (f:Nat) (hf:EqF f) (B:Qa) (id n k0:Nat) (hB:id < B.length) (hn:n < 100000000): ∀(post D mid:Qc) (prev:Tm) (k2:Nat) (ρ:Ql),D≠[]->D.length+mid.length+1+post.length=n->k0+k2=D.length+mid.length+1->0 < k2->
   (∀x∈prev:: post,x.mass < big)->ρ 0= .gs id 0 4 n->ρ 1= .fn f []->ρ 5= .int .i64 D.length->ρ 6= .gs id (k0*4) 4 (n - k0)->ρ 7= .int .i64 k2->
  Ka (D ++ YA prev post) B id (R tb (.loop f497l0) ρ (B.set id (Qr (D ++ mid ++ prev:: post)))
   (Qo 2 (QB tb f497r0 (Qo 1 (QB tb f497r1 (QB tb (.loop f497l1) (Qo 0 (QB tb f497r2 (QN f497 B))))))))):=by
 intro post
 induction post with
 | nil=>
  intro D mid prev k2 ρ hDne hl hk hk2 hm h0 h1 h5 h6 h7;have hlen: (Qr (D ++ mid ++ [prev])).length=n*4:=by rw[YC QR];simp at hl ⊢;omega
  have ht: (Qr (D ++ mid ++ [prev])).take (D.length*4)=Qr D:=by
   have:=Rv (f:=Qf) (k:=4) QR (l:=D ++ mid ++ [prev]) (pre:=D) (post:=mid ++ [prev]) (by simp) [];simpa using this
  have hr:=fun ρ a b=>QfK B id n D (Qr (D ++ mid ++ [prev])) hB hlen (by omega) hn ht hDne ρ a b;have hl':D.length+mid.length+1=n:=by simpa using hl
  have hnl: ¬((k2:Int) < ((n - k0:Nat):Int)):=by omega
  have hnl2: ¬(k2 < n - k0):=by omega
  rw[Qe f497l0.eq_1];simp only[YA,QH];unfold Ka;simp[h0,h1,h5,h6,h7,hnl,hnl2];simp only[ZY]at hr;refine hr _ ?_ ?_ <;> simp[h0,h5]
 | cons x post IH=>
  intro D mid prev k2 ρ hDne hl hk hk2 hm h0 h1 h5 h6 h7;have hlen: (Qr (D ++ mid ++ prev:: x:: post)).length=n*4:=by rw[YC QR];simp at hl ⊢;omega
  have hst: (Qr (D ++ mid ++ prev:: x:: post)).map AV.strip=Qr (D ++ mid ++ prev:: x:: post):=YV ZI _;have r1: ((Qr (D ++ mid ++ prev:: x:: post)).drop (k0*4+k2*4)).take 4=Qf x:=by
   have:=U0 (f:=Qf) (k:=4) QR (l:=D ++ mid ++ prev:: x:: post) (pre:=D ++ mid ++ [prev]) (post:=post) (x:=x) (by simp) [];rw[<- Z2,hk];simpa[Uo]using this
  have r2: ((Qr (D ++ mid ++ prev:: x:: post)).drop (k0*4+ (k2 - 1)*4)).take 4=Qf prev:=by
   have:=U0 (f:=Qf) (k:=4) QR (l:=D ++ mid ++ prev:: x:: post) (pre:=D ++ mid) (post:=x:: post) (x:=prev) (by simp) [];rw[<- Z2,show k0+ (k2 - 1)=D.length+mid.length by omega];simpa[Uo]using this
  have hput: (Qr (D ++ mid ++ prev:: x:: post)).take (D.length*4)++ (Qf x ++ (Qr (D ++ mid ++ prev:: x:: post)).drop (D.length*4+4))=Qr ((D ++ [x])++ (mid ++ [prev]).tail ++ x:: post):=by
   obtain⟨y,m2,hy⟩: ∃y m2,mid ++ [prev]=y:: m2:=by cases mid <;> simp
   have:=PC (f:=Qf) (k:=4) QR (l:=D ++ mid ++ prev:: x:: post) (pre:=D) (post:=m2 ++ x:: post) (x:=y) x (by
    have:D ++ mid ++ prev:: x:: post=D ++ (mid ++ [prev])++ x:: post:=by simp
    rw[this,hy];simp) []
   rw[hy];simpa using this
  have hw1:IntKind.i64.wrap ((k2:Int) - 1)=((k2 - 1:Nat):Int):=by rw[Zf (by omega) (by omega)];omega
  have hw2:IntKind.i64.wrap ((k2:Int)+1)=((k2+1:Nat):Int):=by rw[Zf (by simp at hl;omega) (by simp at hl;omega)];omega
  have hw3:IntKind.i64.wrap ((D.length:Int)+1)=((D.length+1:Nat):Int):=by rw[Zf (by simp at hl;omega) (by simp at hl;omega)];omega
  have hlt: (k2:Int) < ((n - k0:Nat):Int):=by simp at hl;omega
  have hlt1:k2 < n - k0:=by simp at hl;omega
  have hlt2: ((k2 - 1:Nat):Int) < ((n - k0:Nat):Int):=by simp at hl;omega
  have hlt2':k2 - 1 < n - k0:=by simp at hl;omega
  have hlt3: (D.length:Int) < (n:Int):=by simp at hl;omega
  have hlt3':D.length < n:=by simp at hl;omega
  have hb1:k0*4+k2*4+4<=n*4:=by simp at hl;omega
  have hb2:k0*4+ (k2 - 1)*4+4<=n*4:=by simp at hl;omega
  have hb3:D.length*4+4<=n*4:=by simp at hl;omega
  have hnn: (0:Int)<=((k2 - 1:Nat):Int):=by omega
  have hc:=fun bs=>hf x prev bs (hm x (by simp)) (hm prev (by simp));have hcast: ((k2 - 1:Nat):Int).toNat=k2 - 1:=by omega
  have ih1:=IH D (mid ++ [prev]) x (k2+1);have ih2:=IH (D ++ [x]) (mid ++ [prev]).tail x (k2+1);have htl: ((mid ++ [prev]).tail).length=mid.length:=by simp
  rw[show D ++ (mid ++ [prev])++ x:: post=D ++ mid ++ prev:: x:: post by simp]at ih1;rw[Qe f497l0.eq_1];generalize Qr (D ++ mid ++ prev:: x:: post)=c at *;generalize hkm:k2 - 1=km at *;generalize n - k0=nk at *;by_cases he:Qq x prev=0
  ·have e:YA prev (x:: post)=YA x post:=by simp[YA,he]
   rw[e];simp[h0,h1,h5,h6,h7,hlt,hlt1,hlt2,hlt2',hnn,hw1,hw2,hb1,hb2,hB,hlen,hst,r1,r2,hc,he,hcast];refine ih1 _ hDne (by simp at hl ⊢;omega) (by simp;omega) (by omega) (fun y hy=>hm y (by simp at hy ⊢;rcases hy with h | h <;> simp[h])) ?_ ?_ ?_ ?_ ?_ <;> simp[h0,h1,h5,h6]
  ·have e:D ++ YA prev (x:: post)=D ++ x:: YA x post:=by simp[YA,he]
   rw[e];simp only[ZY,WC,XP]at ih2;simp[h0,h1,h5,h6,h7,hlt,hlt1,hlt2,hlt2',hlt3,hlt3',hnn,hw1,hw2,hw3,hb1,hb2,hb3,hB,hlen,hst,r1,r2,hc,he,hcast,hput];refine ih2 _ (by simp) (by simp at hl ⊢;omega) (by simp;omega) (by omega) (fun y hy=>hm y (by simp at hy ⊢;rcases hy with h | h <;> simp[h])) ?_ ?_ ?_ ?_ ?_ <;> simp[h0,h1,h5,h6]
def QfJ (f:Nat) (hf:EqF f) (B:Qa) (id n:Nat) (hB:id < B.length) (hn:n < 100000000): ∀(post pre:Qc) (prev:Tm) (ρ:Ql),pre.length+1+post.length=n->
   (∀x∈prev:: post,x.mass < big)->ρ 0= .gs id 0 4 n->ρ 1= .fn f []->ρ 5= .int .i64 (pre.length+1:Nat)->
  Ka (pre ++ prev:: YA prev post) B id (R tb (.loop f497l1) ρ (B.set id (Qr (pre ++ prev:: post)))
   (Qo 0 (QB tb f497r2 (QN f497 B)))):=by
 intro post
 induction post with
 | nil=>
  intro pre prev ρ hl hm h0 h1 h5;have hl':pre.length+1=n:=by simpa using hl
  have hnl: ¬((pre.length:Int)+1 < (n:Int)):=by omega
  rw[Qe f497l1.eq_1];have hlen: (Qr (pre ++ [prev])).length=n*4:=by rw[YC QR];simp;omega
  have hn0: ¬n=0:=by omega
  have hch:Z3 (Qr (pre ++ [prev])) 0 4 n=Qb (pre ++ [prev]):=by
   have:=XZ (f:=Qf) (k:=4) QR ZI (pre ++ [prev]) [];rw[QH,Sd]at this;rw[<- this,<- hl'];simp
  have hg:=Xh (pre ++ [prev]);simp only[Ka,YA];generalize Qr (pre ++ [prev])=c at *;generalize Qb (pre ++ [prev])=e at *;simp[h0,h1,h5,hnl,f497r2,hl',Yr,hn0,hB,hlen,hch,hg,YH]
 | cons x post IH=>
  intro pre prev ρ hl hm h0 h1 h5;have hl':pre.length+1+ (post.length+1)=n:=by simpa using hl
  have hlen: (Qr (pre ++ prev:: x:: post)).length=n*4:=by rw[YC QR];simp;omega
  have hst: (Qr (pre ++ prev:: x:: post)).map AV.strip=Qr (pre ++ prev:: x:: post):=YV ZI _;have r1: ((Qr (pre ++ prev:: x:: post)).drop ((pre.length+1)*4)).take 4=Qf x:=by
   have:=U0 (f:=Qf) (k:=4) QR (l:=pre ++ prev:: x:: post) (pre:=pre ++ [prev]) (post:=post) (x:=x) (by simp) [];simpa using this
  have r2: ((Qr (pre ++ prev:: x:: post)).drop (pre.length*4)).take 4=Qf prev:=by
   have:=U0 (f:=Qf) (k:=4) QR (l:=pre ++ prev:: x:: post) (pre:=pre) (post:=x:: post) (x:=prev) (by simp) [];simpa using this
  have hw1:IntKind.i64.wrap (pre.length:Int)=(pre.length:Int):=Zf (by omega) (by omega);have hw2:IntKind.i64.wrap ((pre.length:Int)+1+1)=(pre.length:Int)+1+1:=Zf (by omega) (by omega);have hlt: (pre.length:Int)+1 < (n:Int):=by omega
  have hlt2: (pre.length:Int) < (n:Int):=by omega
  have hb1: (pre.length+1)*4+4<=n*4:=by omega
  have hb2:pre.length*4+4<=n*4:=by omega
  have hnn: (0:Int)<=(pre.length:Int)+1:=by omega
  have hle: (pre.length:Int)+1<=(n:Int):=by omega
  have hcast: ((pre.length:Int)+1).toNat=pre.length+1:=by omega
  have hc:=fun bs=>hf x prev bs (hm x (by simp)) (hm prev (by simp));have ih1:=IH (pre ++ [prev]) x;have ih2:=QfI f hf B id n (pre.length+1) hB hn post (pre ++ [prev]) [] x 1;simp only[ZY,WC,XP]at ih1 ih2;rw[Qe f497l1.eq_1];generalize Qr (pre ++ prev:: x:: post)=c at *;by_cases he:Qq x prev=0
  ·have e:YA prev (x:: post)=YA x post:=by simp[YA,he]
   rw[e];simp[h0,h1,h5,hlt,hlt2,hnn,hle,hw1,hw2,hb1,hb2,hB,hlen,hst,r1,r2,hc,he,hcast];refine ih2 _ (by simp) (by simp;omega) (by simp) (by omega) (fun y hy=>hm y (by simp at hy ⊢;rcases hy with h | h <;> simp[h])) ?_ ?_ ?_ ?_ ?_ <;> simp[h0,h1,h5]
  ·have e:pre ++ prev:: YA prev (x:: post)=pre ++ prev:: x:: YA x post:=by simp[YA,he]
   rw[e];simp[h0,h1,h5,hlt,hlt2,hnn,hle,hw1,hw2,hb1,hb2,hB,hlen,hst,r1,r2,hc,he,hcast,f497r1];refine ih1 _ (by simp;omega) (fun y hy=>hm y (by simp at hy ⊢;rcases hy with h | h <;> simp[h])) ?_ ?_ ?_ <;> simp[h0,h1,h5]
def Qjr (f:Nat) (hf:EqF f) (L:Qc) (B:Qa) (id:Nat) (hid:B[id]? =some (Qr L)) (hne:L≠[]) (hn:L.length < 100000000) (hm: ∀x∈L,x.mass < big):
  Ka (Vc L) B id (call tb 497 [.gs id 0 4 L.length,.fn f []] B):=by
 have hB:=YT hid;have hset:B.set id (Qr L)=B:=Rw hid
 match L with
 | []=>exact absurd rfl hne
 | [x]=>
  have hch:Z3 (Qr [x]) 0 4 1=Qb [x]:=by
   have:=XZ (f:=Qf) (k:=4) QR ZI [x] [];rw[QH,Sd]at this;exact this
  have hlen: (Qr [x]).length=4:=YC QR [x];have hg:=Xh [x];rw[zcc 497 rfl rfl]
  show _=some (_,_);rw[show Vc [x]=[x] by simp[Vc]];generalize Qb [x]=E at *;generalize Qr [x]=c at *;simp[-getElem?_pos,f497C,Yr,hid,hlen,hch,hg,hB,YH]
 | x:: y:: r=>
  have h:=QfJ f hf B id (r.length+2) hB (by simpa using hn) (y:: r) [] x;rw[zcc 497 rfl rfl,Pg];simp only[XP,hset]at h;have hge: ¬((r.length:Int)+1+1 < 2):=by omega
  simp[f497C,hge];refine h _ (by simp;omega) (fun z hz=>hm z hz) ?_ ?_ ?_ <;> simp
def Qf9 (f:Nat) (B:Qa):call tb 497 [.gs 0 0 0 0,.fn f []] B=some (.sl true 4 [],B):=by
 rw[zcc 497 rfl rfl];simp[f497C,Yr]
def Ch (B1 B:Qa):Prop:=B1.length<=B.length/\∀(i:Nat) (x y:Qh),B1[i]? =some x->B[i]? =some y->x=y\/QY y=true
def Ch.refl (B:Qa):Ch B B:=⟨Zm _,fun i x y h1 h2=> .inl (by rw[h1]at h2;injection h2)⟩
def Ch.trans {B1 B2 B3:Qa} (h:Ch B1 B2) (k:Ch B2 B3):Ch B1 B3:=⟨VU h.1 k.1,fun i x z h1 h3=>by
 have hlt:i < B1.length:=by
  rcases QT i B1.length with g | g
  ·exact g
  ·rw[Q2 g]at h1;cases h1
 have hlt2:i < B2.length:=PT hlt h.1;obtain⟨y,hy⟩: ∃y,B2[i]? =some y:=⟨_,Zq hlt2⟩;rcases k.2 i y z hy h3 with e | e
 ·subst e;exact h.2 i x y h1 hy
 ·exact .inr e⟩
def Ch.set {B1 B:Qa} (h:Ch B1 B) {c:Qh} (hc:QY c=true) (id:Nat):Ch B1 (B.set id c):=⟨by rw[La];exact h.1,fun i x y h1 h2=>by
 rw[Xq]at h2;split at h2
 ·split at h2
  ·injection h2 with h2;subst h2;exact .inr hc
  ·cases h2
 ·exact h.2 i x y h1 h2⟩
def Ch.app {B1 B:Qa} (h:Ch B1 B) (M:Qa):Ch B1 (B ++ M):=⟨by rw[Zk];have:=h.1;omega,fun i x y h1 h2=>by
 have hlt:i < B1.length:=by
  rcases QT i B1.length with g | g
  ·exact g
  ·rw[Q2 g]at h1;cases h1
 rw[ZH (PT hlt h.1)]at h2;exact h.2 i x y h1 h2⟩
def Ch.take {B1 B:Qa} (h:Ch B1 B):Wk B1 (B.take B1.length)=true:=Hb (by rw[Xr];have:=h.1;omega) fun i x y h1 h2=>by
 have hlt:i < B1.length:=by
  rcases QT i B1.length with g | g
  ·exact g
  ·rw[Q2 g]at h1;cases h1
 rw[WO hlt]at h2;exact h.2 i x y h1 h2
def Qlv {B0 B:Qa} {v:AV} {l:Qc} (x:Tm) (o:Bool) (h:TS B0 B v l) (hl:l.length < 1000000): ∃v' B',appM 56 4 v (.sl o 4 [Qf x]) B=some (v',B')/\TS B0 B' v' (l ++ [x])/\∀B1,Ch B1 B->Ch B1 B':=by
 obtain⟨M,id,sz,rfl,rfl,hc⟩:=h;have hb: (l.length+1)*56<=140737488355328:=WV (by omega);have hs:Wh 4 (.sl o 4 [Qf x]) (B0 ++ M)=some (1,Qf x):=by simp[Wh]
 rcases hc with⟨rfl,rfl,rfl⟩ | ⟨rfl,hid,hne0,hbx⟩
 ·refine⟨.gs (B0 ++ M).length 0 4 1,B0 ++ (M ++ [Qf x]),?_,⟨M ++ [Qf x],(B0 ++ M).length,4,rfl,rfl,.inr ⟨rfl,by simp,by simp,?_⟩⟩,fun B1 hB=>by rw[<- ZY];exact hB.app _⟩
  ·simp[appM,hs]
  ·rw[<- ZY,Ye];simp[Qr,YI]
 ·have hr: (Qr l).length=l.length*4:=YC QR l;have hrow:Qr (l ++ [x])=Qr l ++ Qf x:=by simp[Qr,Vx,PB]
  have hst: (Qr l).map AV.strip=Qr l:=YV ZI l;have hne:Qr l≠[]:=by
   intro e;rw[e]at hr;simp at hr
   exact hne0 (YX (by omega))
  have hroom: ¬(l.length+1)*4<=(Qr l).length:=by omega
  refine⟨.gs (B0 ++ M).length 0 4 (l.length+1),(B0 ++ M).set id []++ [Qr l ++ Qf x],?_,⟨M.set (id - B0.length) []++ [Qr l ++ Qf x],(B0 ++ M).length,4,?_,by simp,.inr ⟨rfl,by simp,by simp,?_⟩⟩,fun B1 hB=>(hB.set rfl _).app _⟩
  ·simp only[appM,hs,QC];rw[Qn ⟨by omega,hb⟩,Qm (by omega),Qm (by omega),Qn ⟨trivial,trivial⟩,hbx];simp only[QC];rw[Qn ⟨hne,by omega⟩,Qm hroom,YH (by omega),hst]
  ·rw[X7 hid,ZY]
  ·have e: (B0 ++ M).length=((B0 ++ M).set id []).length:=by simp
   rw[hrow,e,Ye]
abbrev Nm:=List UInt8
def OH (l:List Nm):Qa:=l.map fun s=>[AV.str s]
def Qea (l:List Nm): (OH l).length=l.length:=by simp[OH]
def Qd9 {l:List Nm} {i:Nat} {s:Nm} (h:l[i]? =some s): (OH l)[i]? =some [AV.str s]:=by simp[OH,h]
def ixF (l:List Nm) (x:Nm):Int:=if l.contains x then(l.idxOf x:Int)else -1
def Qez {x:Nm} {post:List Nm}: ∀{pre:List Nm},x ∉ pre->(pre ++ x:: post).idxOf x=pre.length
 | [],_=>by simp[List.idxOf_cons]
 | a:: pre,h=>by
  have h1: (a == x)=false:=by simpa using fun e=>h (by simp[e])
  have h2:=Qez (x:=x) (post:=post) (pre:=pre) fun e=>h (by simp[e]);rw[WC,List.idxOf_cons,h1,h2];simp
def Qpr {l pre post:List Nm} {x:Nm} (h:l=pre ++ x:: post) (hp:pre.contains x=false):ixF l x=pre.length:=by
 have hn:x ∉ pre:=by simpa using hp
 subst h;have: (pre ++ x:: post).contains x=true:=by simp
 rw[ixF,Qn this,Qez hn]
def Qpt {l:List Nm} {x:Nm} (hp:l.contains x=false):ixF l x= -1:=by rw[ixF,hp];simp
def Qps {l:List Nm} {x:Nm}:decide (0<=ixF l x)=l.contains x:=by
 unfold ixF;cases h:l.contains x <;> simp
def QpJ {pre:List Nm} {x a:Nm} (hp:pre.contains x=false) (ho: ¬x=a): (pre ++ [a]).contains x=false:=by
 simp only[List.contains_eq_mem,TC,Xe,Vp]at hp ⊢;exact fun h=>h.elim hp ho
def Qbj (l:List Nm) (x:Nm) (bs:Qa) (hl:l.length < 1000000):
  ∀(post pre:List Nm) (o:Bool) (ρ:Ql),l=pre ++ post->pre.contains x=false->ρ 0= .sl o 1 (OH l)->ρ 1= .str x->ρ 7= .int .i64 l.length->ρ 8= .int .i64 pre.length->
  R tb (.loop f162l0) ρ bs (Qo 0 (QB tb f162r0 (QN f162 bs)))=some (.int .i64 (ixF l x),bs):=by
 intro post
 induction post with
 | nil=>
  intro pre o ρ hk hpp h0 h1 h7 h8;simp only[QH]at hk;rw[<- hk]at h8 hpp;rw[Qe f162l0.eq_1,Qpt hpp];simp[h0,h1,h7,h8,f162r0]
 | cons a post IH=>
  intro pre o ρ hk hpp h0 h1 h7 h8;have hgt:=Qd9 (Qw hk);have hll:=QE hk;have hw1:=wr1 pre.length (by omega);have hlt:=QI hk;have ih:=fun ρ hpp=>IH (pre ++ [a]) o ρ (by rw[hk];simp) hpp;rw[Qe f162l0.eq_1];by_cases ho:x=a
  ·rw[Qpr (by rw[hk,ho]) hpp];simp[h0,h1,h7,h8,hlt,hgt,<- ho]
  ·have hb: (x == a)=false:=by simpa using ho
   have ih2:=fun ρ=>ih ρ (QpJ hpp ho);simp[h0,h1,h7,h8,hlt,hgt,hw1,hb,-List.contains_eq_mem];apply ih2 <;> simp[h0,h1,h7]
def Qf7 (l:List Nm) (x:Nm) (o:Bool) (bs:Qa) (hl:l.length < 1000000):call tb 162 [.sl o 1 (OH l),.str x] bs=some (.int .i64 (ixF l x),bs):=by
 have h1:=fun ρ=>Qbj l x bs hl l [] false ρ rfl rfl;rw[zcc 162 rfl rfl];simp[f162C,-List.contains_eq_mem];apply h1 <;> simp[Qea]
def Qf6 (l:List Nm) (x:Nm) (o:Bool) (bs:Qa) (hl:l.length < 1000000):call tb 161 [.sl o 1 (OH l),.str x] bs=some (.bool (l.contains x),bs):=by
 have h:=Qf7 l x false bs hl;rw[zcc 161 rfl rfl];simp[f161C,h,Qps,-List.contains_eq_mem]
def QgX (f g:Nat) (p:Tm->Bool) (l:Qc) (bs:Qa) (hc: ∀x∈l,call tb f [.agg (Qf x),.gp g 0] bs=some (.bool (p x),bs)) (hl:l.length < 1000000):
  ∀(post pre:Qc) (o:Bool) (ρ:Ql),l=pre ++ post->pre.any p=false->ρ 0= .sl o 4 (Qb l)->ρ 1= .fn f [.gp g 0]->ρ 7= .int .i64 l.length->ρ 8= .int .i64 pre.length->
  R8 (l.any p) bs (R tb (.loop f215l0) ρ bs (Qo 0 (QB tb f215r0 (QN f215 bs)))):=by
 intro post
 induction post with
 | nil=>
  intro pre o ρ hk hp h0 h1 h7 h8;simp only[QH]at hk;rw[<- hk]at h8 hp;rw[Qe f215l0.eq_1];refine⟨-1,?_,by rw[hp];simp⟩;simp[h0,h1,h7,h8,f215r0]
 | cons x post IH=>
  intro pre o ρ hk hp h0 h1 h7 h8;have hgt:=Qw hk;have hll:=QE hk;have hw1:=wr1 pre.length (by omega);have hlt:=QI hk;have hcall:=hc x (by rw[hk];simp);have ih:=fun ρ hpp=>IH (pre ++ [x]) o ρ (by rw[hk];simp) hpp;rw[Qe f215l0.eq_1];cases ho:p x
  ·rw[ho]at hcall;have ih2:=fun ρ=>ih ρ (by rw[SJ,hp];simp[ho]);simp[h0,h1,h7,h8,hlt,hgt,hw1,hcall,-List.any_eq_false,-List.any_eq_true];apply ih2 <;> simp[h0,h1,h7]
  ·rw[ho]at hcall;have hany:l.any p=true:=UX.2 ⟨x,by rw[hk];simp,ho⟩;refine⟨pre.length,?_,by rw[hany];simp⟩;simp[h0,h1,h7,h8,hlt,hgt,hcall]
def Qf8 (f g:Nat) (p:Tm->Bool) (l:Qc) (o:Bool) (bs:Qa) (hc: ∀x∈l,call tb f [.agg (Qf x),.gp g 0] bs=some (.bool (p x),bs)) (hl:l.length < 1000000):
  call tb 214 [.sl o 4 (Qb l),.fn f [.gp g 0]] bs=some (.bool (l.any p),bs):=by
 have h1:=fun ρ=>QgX f g p l bs hc hl l [] false ρ rfl rfl;have h2:R8 (l.any p) bs (call tb 215 [.sl false 4 (Qb l),.fn f [.gp g 0]] bs):=by
  rw[zcc 215 rfl rfl];simp[f215C,-List.any_eq_false,-List.any_eq_true];apply h1 <;> simp
 obtain⟨i,hi,hb⟩:=h2;rw[zcc 214 rfl rfl];simp[f214C,hi,-List.any_eq_false,-List.any_eq_true];cases hx:l.any p
 ·rw[hx]at hb;simp at hb;simpa using hb
 ·rw[hx]at hb;simp at hb;simpa using hb
end Go.Am
