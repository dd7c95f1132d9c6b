/-
  Rc26, Rc27, Rc28, Rc29, Rc30, Rc31, Rc32, Rc33, Rc34, Rc35, Rc36, Rc37, Rc38, Rc39, Rc40, Rc41, Rc42, En1, En2, En3, En4, En5, En6, En7, En8, En9, En10, En11, En12, En13, En14, En15, En16, En17, En18, En19, En20, En21, En22, En23, En24, En25, En26, En30, En31.
-/
import Derived.Test.YtmlbijpbecpjoaaGreatDoorG19
set_option linter.all false
open Go.Am.F
namespace Go.Am
set_option maxRecDepth 20000
def NF {x:Tm}: ∀{ks:Qe},x∈ks->x.nodes<=QB ks
 | [],h=>by cases h
 | t:: ts,h=>by
  simp only[QB];rcases ZS.1 h with rfl | h
  ·omega
  ·have:=NF h;omega
def P5 {n:Qu} (h:Ul n=true): (n=FST\/n=SND\/n=READ)\/(n=DEC\/n=Ya\/n=Yt):=by
 simp only[Ul,Vu,V7]at h;rcases h with((((h | h) | h) | h) | h) | h <;> simp[h]
def Qg2 {n:Qu} {us:Qe} (bs:Qa) (hn:Ul n=true) (ha:Yv n us.length=true) (hg:ZZ us=true) (hm:Qt us < 20000000):call tb 176 [.agg (Qf (.mk 3 n 0 us))] bs=some (.agg (Qf (Za n us)),bs):=by
 rcases P5 hn with h | h
 ·have h1:us.length=1:=by rcases h with rfl | rfl | rfl <;> simpa[Yv,PK,Yu,ENC,Xi,YL,EXP,DEC,Ya,Yt,FST,SND,READ]using ha
  obtain⟨a,rfl⟩:=Mi.1 h1;simp only[ZZ,Qo]at hg;simp only[Qt]at hm;exact QeX n a bs h hg.1 (by unfold big;omega)
 ·have h1:us.length=2:=by rcases h with rfl | rfl | rfl <;> simpa[Yv]using ha
  match us,h1,hg,hm with
  | [a,b],_,hg,hm=>
   simp only[ZZ,Qo]at hg;simp only[Qt]at hm;exact QeY n a b bs h hg.1 hg.2.1 (by unfold big;omega) (by unfold big;omega)
def Qhi {n:Qu} {us:Qe} (bs:Qa) (hn:Ul n=true) (ha:Yv n us.length=true) (hg:ZZ us=true) (hm:Qt us < 20000000):Qen (Za n us) bs (call tb 243 [.agg (Qf (.mk 3 n 0 us))] bs):=by
 rcases P5 hn with h | h
 ·have h1:us.length=1:=by rcases h with rfl | rfl | rfl <;> simpa[Yv,PK,Yu,ENC,Xi,YL,EXP,DEC,Ya,Yt,FST,SND,READ]using ha
  obtain⟨a,rfl⟩:=Mi.1 h1;simp only[ZZ,Qo]at hg;simp only[Qt]at hm;exact Qcv n a bs h hg.1 (by unfold big;omega)
 ·have h1:us.length=2:=by rcases h with rfl | rfl | rfl <;> simpa[Yv]using ha
  match us,h1,hg,hm with
  | [a,b],_,hg,hm=>
   simp only[ZZ,Qo]at hg;simp only[Qt]at hm;exact Qcw n a b bs h hg.1 (by unfold big;omega) (by unfold big;omega)
def MX (us:Qe) (n:Qu):Prop:=Qt us+n.length+us.length < 15000000
set_option maxHeartbeats 2000000 in
def QiT (t:Tm) (us:Qe) (bs:Qa) (ha:Yv t.name us.length=true) (hg:ZZ us=true) (hm:MX us t.name) (ρ:Ql) (h1:ρ 1= .bx (Qf t)) (h2:ρ 2= .bx [.int .i64 0,.str [],.int .i64 0,.sl true 4 []])
  (h4:ρ 4= .bx [.int .i64 3,.str t.name,.int .i64 0,.sl true 4 (Qb us)]):R tb f175r0 ρ bs (QP f175 bs)=some (Zm (Xa t.name us),bs):=by
 unfold MX at hm;have hf:=UV 3 t.name 0 us;have hgp:Zw (Qb us)=true:=XT us;obtain⟨n,hn⟩: ∃n,t.name=n:=⟨_,rfl⟩;rw[hn]at ha hm h4 hf ⊢;cases hd:Ul n
 ·have hd':=hd;simp only[Ul,Ph]at hd';obtain⟨⟨⟨⟨⟨d1,d2⟩,d3⟩,d4⟩,d5⟩,d6⟩:=hd';simp only[FST,SND,DEC,Ya,Yt,READ]at d1 d2 d3 d4 d5 d6;by_cases hx:n=XOR
  ·subst hx;have e:Xa XOR us=WA us:=by simp[Xa,hd]
   have hc:=Ed us false bs (by omega) (by omega);rw[e];simp only[Zm]at hc ⊢;simp only[XOR]at *;simp[f175r0,h1,h2,h4,hn,hc]
  ·by_cases hp:n=MUL\/n=INV\/n=ONE
   ·have e:Xa n us=Xm (.mk 3 n 0 us):=by simp only[Xa,hd,hx,hp,Zl,Zd];simp
    have hmass: (Tm.mk 3 n 0 us).mass < 20000000:=by simp only[Tm.mass];omega
    have hc:=RP (.mk 3 n 0 us) bs (by omega);have hc2:=L0 false bs (PG (.mk 3 n 0 us) 25000000 (by omega)) (S2 _);rw[<- hf]at hc;rw[e];by_cases c:ofE (.mk 3 n 0 us)=0
    ·have e2:Xm (.mk 3 n 0 us)=Yl (ofP (.mk 3 n 0 us)):=by simp[Xm,c]
     rw[e2];simp only[Zm]at hc2 ⊢;rw[c]at hc;generalize ofP (.mk 3 n 0 us)=P at *;rcases hp with rfl | rfl | rfl
     ·simp only[MUL]at *;simp[f175r0,h1,h2,h4,hn,hc,hc2]
     ·simp only[INV]at *;simp[f175r0,h1,h2,h4,hn,hc,hc2]
     ·simp only[ONE]at *;simp[f175r0,h1,h2,h4,hn,hc,hc2]
    ·have e2:Xm (.mk 3 n 0 us)=(QG,ofE (.mk 3 n 0 us)):=by simp[Xm,c]
     rw[e2];generalize ofE (.mk 3 n 0 us)=E at *;generalize ofP (.mk 3 n 0 us)=P at *;rcases hp with rfl | rfl | rfl
     ·simp only[MUL]at *;simp[f175r0,h1,h2,h4,hn,hc,c,Zp,Q8]
     ·simp only[INV]at *;simp[f175r0,h1,h2,h4,hn,hc,c,Zp,Q8]
     ·simp only[ONE]at *;simp[f175r0,h1,h2,h4,hn,hc,c,Zp,Q8]
   ·by_cases he:n=EXP
    ·have e:Xa n us=Wp (us.getD 0 QG) (us.getD 1 QG):=by subst he;simp only[Xa,hd,Qm hx,Qm hp];simp
     subst he;have hl:us.length=2:=by simpa[Yv]using ha
     match us,hl,hg,hm,h4,e with
     | [x,y],_,hg,hm,h4,e=>
      simp only[ZZ,Qo]at hg;simp only[Qt]at hm;have hc:=Qg7 x y bs hg.1 (by omega) (by omega);rw[e];simp only[Zm]at hc ⊢;simp only[List.getD_cons_zero,List.getD_cons_succ]at *;simp only[EXP]at *;simp[f175r0,h1,h2,h4,hn,hc]
    ·have e:Xa n us=(.mk 3 n 0 us,0):=by simp only[Xa,hd,hx,hp,he,Zd];simp
     rw[e];have b1: (n == XOR)=false:=by simpa using hx
     have b2: (n == MUL)=false:=by simp at hp ⊢;exact hp.1
     have b3: (n == INV)=false:=by simp at hp ⊢;exact hp.2.1
     have b4: (n == ONE)=false:=by simp at hp ⊢;exact hp.2.2
     have b5: (n == EXP)=false:=by simpa using he
     simp only[XOR,MUL,INV,ONE,EXP]at b1 b2 b3 b4 b5;simp[f175r0,h1,h2,h4,hn,d1,d2,d3,d4,d5,d6,b1,b2,b3,b4,b5,Zp,Zr]
 ·have e:Xa n us=(Za n us,0):=by simp[Xa,hd]
  have hc:=Qg2 bs hd ha hg (by omega);rw[<- hf]at hc;rw[e];generalize Za n us=D at *;rcases P5 hd with(rfl | rfl | rfl) | (rfl | rfl | rfl)
  ·simp only[FST]at *;simp[f175r0,h1,h2,h4,hn,hc,Zp]
  ·simp only[SND]at *;simp[f175r0,h1,h2,h4,hn,hc,Zp]
  ·simp only[READ]at *;simp[f175r0,h1,h2,h4,hn,hc,Zp]
  ·simp only[DEC]at *;simp[f175r0,h1,h2,h4,hn,hc,Zp]
  ·simp only[Ya]at *;simp[f175r0,h1,h2,h4,hn,hc,Zp]
  ·simp only[Yt]at *;simp[f175r0,h1,h2,h4,hn,hc,Zp]
def W0 (n:Qu) (us:Qe) (r:Qe×Int):Tm×Int:=if r.2=0 then Xa n (us ++ r.1)else(QG,r.2)
def Qdo (t:Tm) (bs:Qa) (hg:Zh t=true) (hk3:t.kind=3) (hm:t.mass+13200*t.nodes < 15000000) (ih: ∀x∈t.kids,∀bs,call tb 175 [.agg (Qf x)] bs=some (Zm (Z0 x),bs)):
  ∀(post pre us:Qe) (ρ:Ql),t.kids=pre ++ post->us.length=pre.length->ZZ us=true->Qt us<=Qt pre+13200*QB pre->ρ 1= .bx (Qf t)->ρ 2= .bx [.int .i64 0,.str [],.int .i64 0,.sl true 4 []]->
   ρ 4= .bx [.int .i64 3,.str t.name,.int .i64 0,.sl true 4 (Qb us)]->ρ 19= .sl false 4 (Qb t.kids)->ρ 20= .int .i64 t.kids.length->ρ 21= .int .i64 pre.length->
  R tb (.loop f175l0) ρ bs (Qq 0 (QH tb f175r0 (QP f175 bs)))=some (Zm (W0 t.name us (YT post)),bs):=by
 have hme:=QF t;have hne:=Wg t;intro post
 induction post with
 | nil=>
  intro pre us ρ hk hl hgu hmu h1 h2 h4 h19 h20 h21;simp only[QN]at hk;rw[<- hk]at h21 hl hmu;have har:=(UY hg hk3).2;have hr:=QiT t us bs (by rw[hl];exact har) hgu (by unfold MX;omega);have e:W0 t.name us (YT [])=Xa t.name us:=by simp[W0,YT]
  rw[Qg f175l0.eq_1,e];simp[h1,h2,h4,h19,h20,h21];apply hr <;> simp[h1,h2,h4]
 | cons x post IH=>
  intro pre us ρ hk hl hgu hmu h1 h2 h4 h19 h20 h21;have hg2:=Qx hk;have hll:=QL hk;have hw1:=wr1 pre.length (by omega);have hlt:=QO hk;have hxk:x∈t.kids:=by rw[hk];simp
  have hc:=ih x hxk bs;obtain⟨n1,n2⟩:=PJ x (XX.1 (VR hg) x hxk);simp only[Zm]at hc;rw[Qg f175l0.eq_1];by_cases c: (Z0 x).2=0
  ·have e:W0 t.name us (YT (x:: post))=W0 t.name (us ++ [(Z0 x).1]) (YT post):=by
    simp only[W0,YT,c,Zl];by_cases c2: (YT post).2=0
    ·simp[c2]
    ·simp[c2]
   have hb: (us.length+1)*56<=140737488355328:=WI (by omega);have hi:=fun ρ=>IH (pre ++ [x]) (us ++ [(Z0 x).1]) ρ (by rw[hk];simp) (by simp[hl]) (XX.2 fun y hy=>by
    rcases Wc.1 hy with hy | hy
    ·exact XX.1 hgu y hy
    ·simp at hy;subst hy;exact n1) (by rw[Vr,Vr,XO];simp only[Qt,QB];omega)
   rw[e];simp[h1,h2,h4,h19,h20,h21,hg2,hlt,hw1,hc,c,hb,ZV,ZB];apply hi <;> simp[h1,h2,h19,h20]
  ·have e:W0 t.name us (YT (x:: post))=(QG,(Z0 x).2):=by simp[W0,YT,c]
   rw[e];simp[h1,h2,h4,h19,h20,h21,hg2,hlt,hc,c,Zp,Q8]
def Qg1: ∀(t:Tm) (bs:Qa),Zh t=true->t.mass+13200*t.nodes < 15000000->call tb 175 [.agg (Qf t)] bs=some (Zm (Z0 t),bs):=by
 refine Yn ?_;intro k n s ks ih bs hg hm;have hme:=QF (.mk k n s ks);have hne:=Wg (.mk k n s ks);simp only[Zx,Z7]at hme hne;rw[zcc 175 rfl rfl];by_cases hk:k=3
 ·subst hk;have hl:=fun ρ=>Qdo (.mk 3 n s ks) bs hg rfl hm (fun x hx bs=>ih x hx bs (XX.1 (VR hg) x hx) (by have h1:x.mass<=Qt ks:=Q4 hx;have h2:x.nodes<=QB ks:=NF hx;omega)) ks [] [] ρ rfl rfl rfl (by simp[Qt]);have e:Z0 (.mk 3 n s ks)=W0 n [] (YT ks):=by simp[Z0,W0]
  rw[e];simp only[Z7,Zx]at hl;simp[f175C];apply hl <;> simp[Qb]
 ·have e:Z0 (.mk k n s ks)=(.mk k n s ks,0):=by simp[Z0,hk]
  rw[e];simp[f175C,hk,Zp]
def LI {n:Qu}: ∀{l:List Sy} {y:Sy},Yd n l=some y->y∈l/\y.n=n
 | [],y,h=>by simp[Yd]at h
 | s:: ss,y,h=>by
  simp only[Yd]at h;split at h
  ·rename_i hs;injection h with h;subst h;exact⟨by simp,hs⟩
  ·obtain⟨h1,h2⟩:=LI h;exact⟨by simp[h1],h2⟩
def Qgb:X7.all (fun y=> !(y.k == 3) || Ul y.n)=true:=by decide
def Rc (n:Qu):Int:=match Yd n X7 with | some y=>y.k | none=>0
def A8 (n:Qu):decide (Rc n=3)=Ul n:=by
 unfold Rc;cases hd:Ul n
 ·cases hf:Yd n X7 with
  | none=>simp
  | some y=>
   obtain⟨h1,h2⟩:=LI hf;have h3:=XK.1 Qgb y h1;rw[h2,hd]at h3;simpa using h3
 ·rcases P5 hd with(rfl | rfl | rfl) | (rfl | rfl | rfl) <;> simp[FST,SND,DEC,Ya,Yt,READ,Yd,X7]
def CQ (n:Qu) (bs:Qa):call tb 128 [.str n] bs=some (.int .i64 (Rc n),bs):=Iz n bs
set_option maxHeartbeats 4000000 in
def Qer (t:Tm) (us:Qe) (bs:Qa) (ha:Yv t.name us.length=true) (hg:ZZ us=true) (hm:MX us t.name) (ρ:Ql) (h1:ρ 1= .bx (Qf t)) (h2:ρ 2= .bx [.int .i64 0,.str [],.int .i64 0,.sl true 4 []])
  (h4:ρ 4= .sl true 4 (Qb us)):R tb f242r0 ρ bs (QP f242 bs)=some (Zm (Xa t.name us),bs):=by
 unfold MX at hm;obtain⟨n,hn⟩: ∃n,t.name=n:=⟨_,rfl⟩;rw[hn]at ha hm ⊢;have hap:=Uy n us false bs (by omega);have hkn:=CQ n bs;have hk3:=A8 n;cases hd:Ul n
 ·rw[hd]at hk3;have hk3': ¬Rc n=3:=by simpa using hk3
  generalize Rc n=KK at *;by_cases hx:n=XOR
  ·subst hx;have e:Xa XOR us=WA us:=by simp[Xa,hd]
   have hc:=Ja us false bs (by omega) (by omega);rw[e];simp only[Zm]at hc ⊢;simp only[XOR]at *;simp[f242r0,h1,h2,h4,hn,hap,hkn,hk3',hc]
  ·have b1: (n == XOR)=false:=by simpa using hx
   simp only[XOR]at b1;by_cases hp:n=MUL\/n=INV\/n=ONE
   ·have e:Xa n us=Xm (.mk 3 n 0 us):=by simp only[Xa,hd,hx,hp,Zl,Zd];simp
    have hmass: (Tm.mk 3 n 0 us).mass < 20000000:=by simp only[Tm.mass];omega
    have hc:=Qhj (.mk 3 n 0 us) bs (by omega);rw[e];simp only[Zm]at hc ⊢;generalize Xm (.mk 3 n 0 us)=P at *;rcases hp with rfl | rfl | rfl
    ·simp only[MUL]at *;simp[f242r0,h1,h2,h4,hn,hap,hkn,hk3',hc]
    ·simp only[INV]at *;simp[f242r0,h1,h2,h4,hn,hap,hkn,hk3',hc]
    ·simp only[ONE]at *;simp[f242r0,h1,h2,h4,hn,hap,hkn,hk3',hc]
   ·by_cases he:n=EXP
    ·have e:Xa n us=Wp (us.getD 0 QG) (us.getD 1 QG):=by subst he;simp only[Xa,hd,Qm hx,Qm hp];simp
     subst he;have hl:us.length=2:=by simpa[Yv]using ha
     match us,hl,hg,hm,h4,e,hap with
     | [x,y],_,hg,hm,h4,e,hap=>
      simp only[ZZ,Qo]at hg;simp only[Qt]at hm;have hc:=Qhn x y bs hg.1 (by omega) (by omega);rw[e];simp only[Zm]at hc ⊢;simp only[List.getD_cons_zero,List.getD_cons_succ]at *;simp only[EXP]at *;simp[f242r0,h1,h2,h4,hn,hap,hkn,hk3',hc]
    ·have e:Xa n us=(.mk 3 n 0 us,0):=by simp only[Xa,hd,hx,hp,he,Zd];simp
     rw[e];have b2: (n == MUL)=false:=by simp at hp ⊢;exact hp.1
     have b3: (n == INV)=false:=by simp at hp ⊢;exact hp.2.1
     have b4: (n == ONE)=false:=by simp at hp ⊢;exact hp.2.2
     have b5: (n == EXP)=false:=by simpa using he
     simp only[MUL,INV,ONE,EXP]at b2 b3 b4 b5;simp[f242r0,h1,h2,h4,hn,hap,hkn,hk3',b1,b2,b3,b4,b5,Zp]
 ·rw[hd]at hk3;have hk3':Rc n=3:=by simpa using hk3
  rw[hk3']at hkn;have e:Xa n us=(Za n us,0):=by simp[Xa,hd]
  obtain⟨b,hc⟩:=Qhi bs hd ha hg (by omega);rw[e];generalize Za n us=D at *;simp[f242r0,h1,h2,h4,hn,hap,hkn,hc,Zp]
def Aj (t:Tm) (bs:Qa) (hg:Zh t=true) (hk3:t.kind=3) (hm:t.mass+13200*t.nodes < 15000000) (ih: ∀x∈t.kids,∀bs,call tb 242 [.agg (Qf x)] bs=some (Zm (Z0 x),bs)):
  ∀(post pre us:Qe) (ρ:Ql),t.kids=pre ++ post->us.length=pre.length->ZZ us=true->Qt us<=Qt pre+13200*QB pre->ρ 1= .bx (Qf t)->ρ 2= .bx [.int .i64 0,.str [],.int .i64 0,.sl true 4 []]->
   ρ 4= .sl true 4 (Qb us)->ρ 5= .int .i64 pre.length->
  R tb (.loop f242l0) ρ bs (Qq 0 (QH tb f242r0 (QP f242 bs)))=some (Zm (W0 t.name us (YT post)),bs):=by
 have hme:=QF t;have hne:=Wg t;intro post
 induction post with
 | nil=>
  intro pre us ρ hk hl hgu hmu h1 h2 h4 h5;simp only[QN]at hk;rw[<- hk]at h5 hl hmu;have har:=(UY hg hk3).2;have hr:=Qer t us bs (by rw[hl];exact har) hgu (by unfold MX;omega);have e:W0 t.name us (YT [])=Xa t.name us:=by simp[W0,YT]
  rw[Qg f242l0.eq_1,e];simp[h1,h2,h4,h5];apply hr <;> simp[h1,h2,h4]
 | cons x post IH=>
  intro pre us ρ hk hl hgu hmu h1 h2 h4 h5;have hg2:=Qx hk;have hll:=QL hk;have hw1:=wr1 pre.length (by omega);have hlt:=QO hk;have hxk:x∈t.kids:=by rw[hk];simp
  have hc:=ih x hxk bs;obtain⟨n1,n2⟩:=PJ x (XX.1 (VR hg) x hxk);simp only[Zm]at hc;rw[Qg f242l0.eq_1];by_cases c: (Z0 x).2=0
  ·have e:W0 t.name us (YT (x:: post))=W0 t.name (us ++ [(Z0 x).1]) (YT post):=by
    simp only[W0,YT,c,Zl];by_cases c2: (YT post).2=0
    ·simp[c2]
    ·simp[c2]
   have hb: (us.length+1)*56<=140737488355328:=WI (by omega);have hi:=fun ρ=>IH (pre ++ [x]) (us ++ [(Z0 x).1]) ρ (by rw[hk];simp) (by simp[hl]) (XX.2 fun y hy=>by
    rcases Wc.1 hy with hy | hy
    ·exact XX.1 hgu y hy
    ·simp at hy;subst hy;exact n1) (by rw[Vr,Vr,XO];simp only[Qt,QB];omega)
   rw[e];simp[h1,h2,h4,h5,hg2,hlt,hw1,hc,c,hb,ZV,ZB];apply hi <;> simp[h1,h2]
  ·have e:W0 t.name us (YT (x:: post))=(QG,(Z0 x).2):=by simp[W0,YT,c]
   rw[e];simp[h1,h2,h4,h5,hg2,hlt,hc,c,Zp,Q8]
def Qhh: ∀(t:Tm) (bs:Qa),Zh t=true->t.mass+13200*t.nodes < 15000000->call tb 242 [.agg (Qf t)] bs=some (Zm (Z0 t),bs):=by
 refine Yn ?_;intro k n s ks ih bs hg hm;have hme:=QF (.mk k n s ks);have hne:=Wg (.mk k n s ks);simp only[Zx,Z7]at hme hne;rw[zcc 242 rfl rfl];by_cases hk:k=3
 ·subst hk;have hl:=fun ρ=>Aj (.mk 3 n s ks) bs hg rfl hm (fun x hx bs=>ih x hx bs (XX.1 (VR hg) x hx) (by have h1:x.mass<=Qt ks:=Q4 hx;have h2:x.nodes<=QB ks:=NF hx;omega)) ks [] [] ρ rfl rfl rfl (by simp[Qt]);have e:Z0 (.mk 3 n s ks)=W0 n [] (YT ks):=by simp[Z0,W0]
  rw[e];simp only[Z7,Zx]at hl;simp[f242C];apply hl <;> simp[Qb]
 ·have e:Z0 (.mk k n s ks)=(.mk k n s ks,0):=by simp[Z0,hk]
  rw[e];simp[f242C,hk,Zp]
def YK (t:Tm):Tm×Int:=if thV t≠0 then(QG,thV t)else if(Z0 t).2≠0 then(QG,(Z0 t).2)else if Zg (Z0 t).1≠0 then(QG,Zg (Z0 t).1)else((Z0 t).1,0)
def Is {t:Tm} (h:thV t=0):Zg t=0/\XQ t=0/\Zh t=true/\t.mass<=13200/\t.nodes<=400:=by
 unfold thV at h;split at h
 ·rename_i h1;exact absurd h h1
 ·rename_i h1;have h2:Zg t=0:=by simpa using h1
  obtain⟨a,b,c⟩:=RN h2;exact⟨h2,h,Jn t a h,c,b⟩
def JE (t:Tm): (YK t).1.mass<=13200:=by
 unfold YK;split
 ·show QG.mass<=_;rw[T8];omega
 ·split
  ·show QG.mass<=_;rw[T8];omega
  ·split
   ·show QG.mass<=_;rw[T8];omega
   ·rename_i h;exact(RN (by simpa using h)).2.2
def Qg0 (t:Tm) (bs:Qa) (hm:t.mass < big):call tb 174 [.agg (Qf t)] bs=some (Zm (YK t),bs):=by
 have h1:=MG t bs hm;rw[zcc 174 rfl rfl];by_cases c1:thV t=0
 ·obtain⟨_,_,hg,hma,hno⟩:=Is c1;have h2:=Qg1 t bs hg (by omega);obtain⟨n1,n2⟩:=PJ t hg;have h3:=Ui (Z0 t).1 bs (by unfold big;omega);simp only[Zm]at h2;by_cases c2: (Z0 t).2=0
  ·by_cases c3:Zg (Z0 t).1=0
   ·have e:YK t=((Z0 t).1,0):=by simp[YK,c1,c2,c3]
    rw[e];simp[f174C,h1,h2,h3,c1,c2,c3,Zp]
   ·have e:YK t=(QG,Zg (Z0 t).1):=by simp[YK,c1,c2,c3]
    rw[e];simp[f174C,h1,h2,h3,c1,c2,c3,Zp,Q8]
  ·have e:YK t=(QG,(Z0 t).2):=by simp[YK,c1,c2]
   rw[e];simp[f174C,h1,h2,c1,c2,Zp,Q8]
 ·have e:YK t=(QG,thV t):=by simp[YK,c1]
  rw[e];simp[f174C,h1,c1,Zp,Q8]
def Qhg (t:Tm) (bs:Qa) (hm:t.mass < big):call tb 241 [.agg (Qf t)] bs=some (Zm (YK t),bs):=by
 have h1:=MC t bs hm;rw[zcc 241 rfl rfl];by_cases c1:thV t=0
 ·obtain⟨_,_,hg,hma,hno⟩:=Is c1;have h2:=Qhh t bs hg (by omega);obtain⟨n1,n2⟩:=PJ t hg;have h3:=WM (Z0 t).1 bs (by unfold big;omega);simp only[Zm]at h2;by_cases c2: (Z0 t).2=0
  ·by_cases c3:Zg (Z0 t).1=0
   ·have e:YK t=((Z0 t).1,0):=by simp[YK,c1,c2,c3]
    rw[e];simp[f241C,h1,h2,h3,c1,c2,c3,Zp]
   ·have e:YK t=(QG,Zg (Z0 t).1):=by simp[YK,c1,c2,c3]
    rw[e];simp[f241C,h1,h2,h3,c1,c2,c3,Zp,Q8]
  ·have e:YK t=(QG,(Z0 t).2):=by simp[YK,c1,c2]
   rw[e];simp[f241C,h1,h2,c1,c2,Zp,Q8]
 ·have e:YK t=(QG,thV t):=by simp[YK,c1]
  rw[e];simp[f241C,h1,c1,Zp,Q8]
def Qhb (n:Qu) (bs:Qa):call tb 206 [.str n] bs=some (.bool (!Ul n),bs):=by
 have h:=WE n bs;have hk:=A8 n;rw[zcc 206 rfl rfl,<- hk];unfold Rc;cases hf:Yd n X7 with
 | none=>
  rw[hf]at h;simp[f206C,h]
 | some y=>
  rw[hf]at h;simp[f206C,h,VC]
def ndN (t:Tm):Bool:= !(decide (t.kind=3) && Ul t.name)
mutual
def evT:Tm->Bool
 | .mk k n s ks=>ndN (.mk k n s ks) && evL ks
def evL:List Tm->Bool
 | []=>true
 | t:: ts=>evT t && evL ts
end
def Qm1 (t:Tm):evT t=(ndN t && evL t.kids):=by cases t;simp[evT]
mutual
theorem Bt: ∀t:Tm,evT t=(YH t).all ndN
 | .mk k n s ks=>by simp only[evT,YH,Sh,Bs ks]
theorem Bs: ∀ts:List Tm,evL ts=(XA ts).all ndN
 | []=>rfl
 | t:: ts=>by simp only[evL,XA,Mq,Bt t,Bs ts]
end
def AU (t:Tm) (bs:Qa) (hm:t.mass < big) (ih: ∀x∈t.kids,∀bs,call tb 207 [.agg (Qf x),.fn 206 []] bs=some (.bool (evT x),bs)):
  ∀(post pre:Qe) (ρ:Ql),t.kids=pre ++ post->ρ 1= .fn 206 []->ρ 18= .sl false 4 (Qb t.kids)->ρ 19= .int .i64 t.kids.length->ρ 20= .int .i64 pre.length->
  R tb (.loop f207l0) ρ bs (Qq 0 (QH tb f207r0 (QP f207 bs)))=some (.bool (evL post),bs):=by
 have hm2:=QF t;unfold big at hm;intro post
 induction post with
 | nil=>
  intro pre ρ hk h1 h18 h19 h20;simp only[QN]at hk;rw[<- hk]at h20;rw[Qg f207l0.eq_1];simp[h1,h18,h19,h20,f207r0,evL]
 | cons x post IH=>
  intro pre ρ hk h1 h18 h19 h20;have hg:=Qx hk;have hll:=QL hk;have hw1:=wr1 pre.length (by omega);have hlt:=QO hk;have hc:=ih x (by rw[hk];simp) bs;rw[Qg f207l0.eq_1];cases hb:evT x
  ·simp[h1,h18,h19,h20,hg,hlt,hc,hb,evL]
  ·have h2:=fun ρ=>IH (pre ++ [x]) ρ (by rw[hk];simp);simp[h1,h18,h19,h20,hg,hlt,hw1,hc,hb,evL];apply h2 <;> simp[h1,h18,h19]
def Qhc: ∀(t:Tm) (bs:Qa),t.mass < big->call tb 207 [.agg (Qf t),.fn 206 []] bs=some (.bool (evT t),bs):=by
 refine Yn ?_;intro k n s ks ih bs hm;have hl:=fun ρ=>AU (.mk k n s ks) bs hm (fun x hx bs=>ih x hx bs (by have h1:x.mass<=Qt ks:=Q4 hx;have:=QF (.mk k n s ks);simp only[Zx]at this;omega)) ks [] ρ rfl;have h2:=Qhb n bs;simp only[Zx]at hl;rw[zcc 207 rfl rfl,Qm1];by_cases hk:k=3
 ·cases hd:Ul n
  ·have e:ndN (.mk k n s ks)=true:=by simp[ndN,hd]
   rw[e];simp[f207C,hk,hd,h2];apply hl <;> simp
  ·have e:ndN (.mk k n s ks)=false:=by simp[ndN,hd,hk]
   rw[e];simp[f207C,hk,hd,h2]
 ·have e:ndN (.mk k n s ks)=true:=by simp[ndN,hk]
  rw[e];simp[f207C,hk];apply hl <;> simp
def Sx (t:Tm):Bool:=decide ((YK t).2=0) && decide (Qp (YK t).1 t=0) && evT t
def QgZ (t:Tm) (bs:Qa) (hm:t.mass < big):call tb 173 [.agg (Qf t)] bs=some (.bool (Sx t),bs):=by
 have h1:=Qg0 t bs hm;have hnm:=JE t;have h2:=Lm (YK t).1 t bs (by unfold big;omega) hm;have h3:=Qhc t bs hm;simp only[Zm]at h1;rw[zcc 173 rfl rfl];by_cases c1: (YK t).2=0
 ·by_cases c2:Qp (YK t).1 t=0
  ·simp[f173C,h1,h2,h3,c1,c2,Sx]
  ·simp[f173C,h1,h2,h3,c1,c2,Sx]
 ·simp[f173C,h1,c1,Sx]
def K1:=@Bool.false_and
def DY (l:Qe) (bs:Qa) (hl:l.length < 100000000): ∀(post pre:Qe) (o:Bool) (ρ:Ql),l=pre ++ post->ρ 5= .sl o 4 (Qb l)->ρ 6= .int .i64 pre.length->
  R tb (.loop f240l0) ρ bs (Qq 0 (QH tb f240r0 (QP f240 bs)))=some (.bool (post.all ndN),bs):=by
 intro post
 induction post with
 | nil=>
  intro pre o ρ hk h5 h6;simp only[QN]at hk;rw[<- hk]at h6;rw[Qg f240l0.eq_1];simp[h5,h6,f240r0]
 | cons x post IH=>
  intro pre o ρ hk h5 h6;have hg:=Qx hk;have hll:=QL hk;have hw1:=wr1 pre.length (by omega);have hlt:=QO hk;have hc:=CQ x.name bs;have hk3:=A8 x.name;have h2:=fun ρ=>IH (pre ++ [x]) o ρ (by rw[hk];simp);rw[Sh];rw[Qg f240l0.eq_1];by_cases ck:x.kind=3
  ·cases hd:Ul x.name
   ·rw[hd]at hk3;have hk3': ¬Rc x.name=3:=by simpa using hk3
    have e:ndN x=true:=by simp[ndN,hd]
    rw[e,VL];generalize Rc x.name=KK at *;simp[h5,h6,hg,hlt,hw1,hc,ck,hk3',-List.all_eq_true];apply h2 <;> simp[h5]
   ·rw[hd]at hk3;have hk3':Rc x.name=3:=by simpa using hk3
    have e:ndN x=false:=by simp[ndN,hd,ck]
    rw[e,K1];simp[h5,h6,hg,hlt,hc,ck,hk3']
  ·have e:ndN x=true:=by simp[ndN,ck]
   rw[e,VL];simp[h5,h6,hg,hlt,hw1,ck,-List.all_eq_true];apply h2 <;> simp[h5]
def Qhf (t:Tm) (bs:Qa) (hm:t.mass < 1000000):call tb 240 [.agg (Qf t)] bs=some (.bool (Sx t),bs):=by
 have hmb:t.mass < big:=by unfold big;omega
 have h1:=Qhg t bs hmb;have hnm:=JE t;have h2:=Y3 t (YK t).1 bs hmb (by unfold big;omega);have hsym:decide (Qp t (YK t).1=0)=decide (Qp (YK t).1 t=0):=by
  have:=WN t (YK t).1;rw[decide_eq_decide];omega
 rw[hsym]at h2;have h3:=F8 t bs (by omega);have hlen:=SP t;have hnn:=Yx t;have h4:=fun o ρ=>DY (YH t) bs (by omega) (YH t) [] o ρ rfl;simp only[Zm]at h1;rw[zcc 240 rfl rfl];have e:Sx t=(decide ((YK t).2=0) && decide (Qp (YK t).1 t=0) && (YH t).all ndN):=by rw[<- Bt];rfl
 rw[e];by_cases c1: (YK t).2=0
 ·by_cases c2:Qp (YK t).1 t=0
  ·simp[f240C,h1,h2,h3,c1,c2,-List.all_eq_true];refine h4 false _ ?_ ?_ <;> simp
  ·simp[f240C,h1,h2,c1,c2]
 ·simp[f240C,h1,c1]
def VZ (c:UInt8):Bool:=decide (48<=c.toNat) && decide (c.toNat<=57)
def SK:Qu:=[48,49,50,51,52,53,54,55,56,57]
def QeZ: ∀d:Fin 256,SK.contains (UInt8.ofNat d.val)=VZ (UInt8.ofNat d.val):=by decide
def Qe0 (c:UInt8):SK.contains c=VZ c:=by
 have h:=QeZ ⟨c.toNat,c.toNat_lt⟩;simp only[UInt8.ofNat_toNat]at h;exact h
def Jh {p:UInt8->Bool}: ∀{l:Qu},l.dropWhile p=[]↔∀x∈l,p x=true
 | []=>by simp
 | a:: l=>by
  rw[List.dropWhile_cons];cases h:p a
  ·simp[h]
  ·simp[h,Jh (l:=l)]
def Qge (s:Qu): (Lib.trimS s SK == [])=s.all VZ:=by
 have hp: (fun b=>SK.contains b)=VZ:=funext Qe0;cases hs:s.all VZ
 ·have hne:Lib.trimS s SK≠[]:=by
   intro e;unfold Lib.trimS Lib.trimLeftS Lib.trimRightS at e;rw[hp]at e;have h1:=Jh.1 e;cases hw:s.reverse.dropWhile VZ with
   | nil=>
    have h2:=Jh.1 hw;have:s.all VZ=true:=XK.2 fun x hx=>h2 x (by simpa using hx);rw[hs]at this;cases this
   | cons x r=>
    have h2:VZ x=false:=by
     have:=List.head_dropWhile_not VZ (l:=s.reverse) (by rw[hw];simp);simpa[hw]using this
    have h3:=h1 x (by rw[hw];simp);rw[h2]at h3;cases h3
  simpa using hne
 ·have:Lib.trimS s SK=[]:=by
   unfold Lib.trimS Lib.trimLeftS Lib.trimRightS;rw[hp];have:s.reverse.dropWhile VZ=[]:=Jh.2 fun x hx=>XK.1 hs x (by simpa using hx);rw[this];rfl
  simp[this]
def U2 (s:Qu):Bool:=match s with
 | 101:: 35:: c:: r=>(c:: r).all VZ
 | _=>false
def Tt (t:Tm):Bool:=
 if t.kind=3 then(t.name == Yh || t.name == ONE) && decide (t.kids.length=0)
 else if t.kind=2 then(if t.sort=1\/t.sort=5 then true else if t.sort=4 then t.name == [103] || U2 t.name else if t.sort=0\/t.sort=2\/t.sort=3 then U2 t.name else false)
 else false
def EG (s:Qu):Bool:= !(s == []) && s.all VZ
def QgY (s:Qu) (bs:Qa) (hs:s.length < 4294967281):call tb 163 [.str s] bs=some (.bool (EG s),bs):=by
 have ht:call tb 164 [.str s,.str SK] bs=some (.str (Lib.trimS s SK),bs):=by
  rw[Wx tb_164];have hc: (SK.all (· < 128) && decide (s.length < 4294967281) && decide (SK.length < 4294967281))=true:=by
   rw[show SK.all (· < 128)=true from by decide];simp[hs,SK]
  simp only[YF,JP,hc,Zl];rfl
 have hn:=Qge s;rw[zcc 163 rfl rfl];simp only[SK]at ht hn;cases he:s == []
 ·simp[f163C,ht,hn,he,EG,bne,-List.all_eq_true]
 ·simp[f163C,ht,hn,he,EG,bne,-List.all_eq_true]
def VB (s:Qu):Bool:=decide (2<=s.length) && (s.take 2 == [101,35])
def QmG (s:Qu) (bs:Qa):call tb 75 [.str s,.str [101,35]] bs=some (.bool (VB s),bs):=by
 rw[zcc 75 rfl rfl];by_cases h:2<=s.length
 ·have h': (2:Int)<=(s.length:Int):=by omega
  simp[f75C,VB,h,h']
 ·have h': ¬(2:Int)<=(s.length:Int):=by omega
  simp[f75C,VB,h,h']
def QmF (s:Qu) (bs:Qa):call tb 73 [.str s,.str [101,35]] bs=some (.tup [.str (if VB s then s.drop 2 else s),.bool (VB s)],bs):=by
 have h1:=QmG s bs;have h2:call tb 74 [.str s,.str [101,35]] bs=some (.tup [.str (if VB s then s.drop 2 else s),.bool (VB s)],bs):=by
  rw[zcc 74 rfl rfl];cases hc:VB s
  ·simp[f74C,h1,hc]
  ·have hl:2<=s.length:=by simp[VB]at hc;exact hc.1
   have hl': (2:Int)<=(s.length:Int):=by omega
   simp[f74C,h1,hc,hl,hl']
 rw[zcc 73 rfl rfl];generalize (if VB s then s.drop 2 else s)=w at *;simp[f73C,h2]
def Qjb (s:Qu): (VB s && EG (if VB s then s.drop 2 else s))=U2 s:=by
 cases hc:VB s
 ·rw[K1];unfold U2;split
  ·simp[VB]at hc
  ·rfl
 ·simp only[Zl,VL]
  match s,hc with
  | [],hc=>simp[VB]at hc
  | [_],hc=>simp[VB]at hc
  | [a,b],hc=>
   simp[VB]at hc;obtain⟨rfl,rfl⟩:=hc;rfl
  | a:: b:: c:: r,hc=>
   simp[VB]at hc;obtain⟨rfl,rfl⟩:=hc;simp[EG,U2]
def Qnz (x a b:Qu) (bs:Qa):call tb 162 [.sl false 1 [[.str a],[.str b]],.str x] bs=some (.int .i64 (if x == a then 0 else if x == b then 1 else -1),bs):=by
 rw[zcc 162 rfl rfl];simp[f162C];rw[Qg f162l0.eq_1];cases h1:x == a
 ·have g1: ¬x=a:=by simpa using h1
  simp[h1,g1];rw[Qg f162l0.eq_1];cases h2:x == b
  ·have hw:IntKind.i64.wrap 1=1:=rfl;have hw2:IntKind.i64.wrap 2=2:=rfl;have g2: ¬x=b:=by simpa using h2
   simp[h2,hw,hw2,g2];rw[Qg f162l0.eq_1];simp[f162r0]
  ·have hw:IntKind.i64.wrap 1=1:=rfl;have g2:x=b:=by simpa using h2
   simp[h2,hw,<- g2]
 ·have g1:x=a:=by simpa using h1
  simp[h1,<- g1]
def QgX (t:Tm) (bs:Qa) (hk:t.kind=3):call tb 160 [.agg (Qf t),.sl false 1 [[.str Yh],[.str ONE]]] bs=some (.bool (t.name == Yh || t.name == ONE),bs):=by
 have h:=Qnz t.name Yh ONE bs;have h2:call tb 161 [.sl false 1 [[.str Yh],[.str ONE]],.str t.name] bs=some (.bool (t.name == Yh || t.name == ONE),bs):=by
  rw[zcc 161 rfl rfl];cases h1:t.name == Yh
  ·cases h3:t.name == ONE <;> simp[h1,h3]at h <;> simp[f161C,h]
  ·simp[h1]at h;simp[f161C,h]
 rw[zcc 160 rfl rfl];simp[f160C,hk,h2]
def QgW (t:Tm) (bs:Qa) (hm:t.mass < 1000000):call tb 159 [.agg (Qf t)] bs=some (.bool (Tt t),bs):=by
 have hme:=QF t;rw[zcc 159 rfl rfl];by_cases hk:t.kind=3
 ·have h1:=QgX t bs hk;simp only[Yh,ONE]at h1;cases hz: (t.name == [122,101,114,111] || t.name == [111,110,101])
  ·rw[hz]at h1;simp[f159C,hk,h1,Tt,Yh,ONE,hz]
   try (simp at hz;simp[hz])
  ·rw[hz]at h1;by_cases hl:t.kids=[]
   ·simp[f159C,hk,h1,Tt,Yh,ONE,hz,hl]
   ·have hl0: ¬t.kids.length=0:=fun e=>hl (YE e);have hl': ¬(t.kids.length:Int)=0:=by omega
    simp[f159C,hk,h1,Tt,Yh,ONE,hl,hl']
 ·by_cases hk2:t.kind=2
  ·have h1:=QmF t.name bs;have h2:=QgY (if VB t.name then t.name.drop 2 else t.name) bs (by
    split
    ·rw[Ut];omega
    ·omega)
   have ho:=Qjb t.name;generalize (if VB t.name then t.name.drop 2 else t.name)=w at *;have hp:Tt t=if t.sort=1\/t.sort=5 then true else if t.sort=4 then t.name == [103] || U2 t.name else if t.sort=0\/t.sort=2\/t.sort=3 then U2 t.name else false:=by
    unfold Tt;rw[Qm hk,Qn hk2]
   rw[hp];generalize U2 t.name=O at *;by_cases s1:t.sort=1
   ·simp[f159C,hk2,h1,s1]
   ·by_cases s5:t.sort=5
    ·simp[f159C,hk2,h1,s5]
    ·by_cases s4:t.sort=4
     ·cases hg:t.name == [103]
      ·cases hcu:VB t.name
       ·rw[hcu]at h1 ho;simp at ho;subst ho;simp[f159C,hk2,h1,s4,hg]
       ·rw[hcu]at h1 ho;simp at ho;subst ho;simp[f159C,hk2,h1,h2,s4,hg]
      ·simp[f159C,hk2,h1,s4,hg]
     ·by_cases s0:t.sort=0\/t.sort=2\/t.sort=3
      ·cases hcu:VB t.name
       ·rw[hcu]at h1 ho;simp at ho;subst ho;rcases s0 with s0 | s0 | s0 <;> simp[f159C,hk2,h1,s0]
       ·rw[hcu]at h1 ho;simp at ho;subst ho;rcases s0 with s0 | s0 | s0 <;> simp[f159C,hk2,h1,h2,s0]
      ·simp only[not_or]at s0;simp[f159C,hk2,h1,s1,s5,s4,s0.1,s0.2.1,s0.2.2]
  ·have hp:Tt t=false:=by unfold Tt;rw[Qm hk,Qm hk2]
   rw[hp];simp[f159C,hk,hk2]
def Qai (s:Qu) (bs:Qa) (hs:s.length < 1000000000): ∀(post pre:Qu) (ρ:Ql),s=pre ++ post->ρ 0= .str s->ρ 3= .int .i64 pre.length->
  R tb (.loop f232l0) ρ bs (Qq 0 (QH tb f232r0 (QP f232 bs)))=some (.bool (post.all VZ),bs):=by
 intro post
 induction post with
 | nil=>
  intro pre ρ hk h0 h3;simp only[QN]at hk;rw[<- hk]at h3;rw[Qg f232l0.eq_1];simp[h0,h3,f232r0]
 | cons c post IH=>
  intro pre ρ hk h0 h3;have hg:=Qx hk;have hll:=QL hk;have hw1:=wr1 pre.length (by omega);have hlt:=QO hk;have h2:=fun ρ=>IH (pre ++ [c]) ρ (by rw[hk];simp);rw[Sh];rw[Qg f232l0.eq_1];by_cases c1:c.toNat < 48
  ·have e:VZ c=false:=by simp[VZ];omega
   have c1': (c.toNat:Int) < 48:=by omega
   simp[-getElem?_pos,h0,h3,hg,hlt,c1,c1',e]
  ·have c1': ¬(c.toNat:Int) < 48:=by omega
   by_cases c2:57 < c.toNat
   ·have e:VZ c=false:=by simp[VZ];omega
    have c2': (57:Int) < (c.toNat:Int):=by omega
    simp[-getElem?_pos,h0,h3,hg,hlt,c1,c1',c2,c2',e]
   ·have e:VZ c=true:=by simp[VZ];omega
    have c2': ¬(57:Int) < (c.toNat:Int):=by omega
    rw[e,VL];simp[-getElem?_pos,h0,h3,hg,hlt,hw1,c1,c1',c2,c2',-List.all_eq_true];apply h2 <;> simp[h0]
def Qhe (s:Qu) (bs:Qa) (hs:s.length < 1000000000):call tb 232 [.str s] bs=some (.bool (U2 s),bs):=by
 rw[zcc 232 rfl rfl];by_cases h3:s.length < 3
 ·have h3': (s.length:Int) < 3:=by omega
  have e:U2 s=false:=by
   unfold U2;split
   ·exfalso;simp only[ZL]at h3;omega
   ·rfl
  simp[f232C,h3,h3',e]
 ·have h3': ¬(s.length:Int) < 3:=by omega
  have hl2:2<=s.length:=by omega
  have hl2': (2:Int)<=(s.length:Int):=by omega
  cases hp:s.take 2 == [101,35]
  ·have e:U2 s=false:=by
    unfold U2;split
    ·simp at hp
    ·rfl
   simp[f232C,h3,h3',hl2,hl2',hp,e,bne]
  ·match s,hp,h3,hs with
   | a:: b:: c:: r,hp,h3,hs=>
    have h2:=fun ρ=>Qai (a:: b:: c:: r) bs hs (c:: r) [a,b] ρ rfl;simp at hp;obtain⟨rfl,rfl⟩:=hp;have e:U2 (101:: 35:: c:: r)=(c:: r).all VZ:=rfl;rw[e];simp only[ZL,Yz]at h3' hl2 hl2' h2;generalize (c:: r).all VZ=O at *;have h3'': ¬((r.length:Int)+1+1+1 < 3):=by omega
    have hl3: (2:Int)<=(r.length:Int)+1+1+1:=by omega
    simp[f232C,h3'',hl3,bne];apply h2 <;> simp
   | [],hp,_,_=>simp at hp
   | [_],hp,_,_=>simp at hp
   | [_,_],hp,h3,_=>simp at h3
def Qhd (t:Tm) (bs:Qa) (hm:t.mass < 1000000):call tb 231 [.agg (Qf t)] bs=some (.bool (Tt t),bs):=by
 have hme:=QF t;have ho:=Qhe t.name bs (by omega);rw[zcc 231 rfl rfl];by_cases hk:t.kind=3
 ·have hp:Tt t=((t.name == Yh || t.name == ONE) && decide (t.kids.length=0)):=by unfold Tt;rw[Qn hk]
  rw[hp];by_cases hl:t.kids=[]
  ·cases h1:t.name == Yh
   ·cases h2:t.name == ONE <;> simp only[Yh,ONE]at h1 h2 <;> simp[f231C,hk,h1,h2,hl]
   ·simp only[Yh]at h1;simp[f231C,hk,h1,hl]
  ·have hl0: ¬t.kids.length=0:=fun e=>hl (YE e);have hl': ¬(t.kids.length:Int)=0:=by omega
   cases h1:t.name == Yh
   ·cases h2:t.name == ONE <;> simp only[Yh,ONE]at h1 h2 <;> simp[f231C,hk,h1,h2,hl,hl']
   ·simp only[Yh]at h1;simp[f231C,hk,h1,hl,hl']
 ·by_cases hk2:t.kind=2
  ·have hp:Tt t=if t.sort=1\/t.sort=5 then true else if t.sort=4 then t.name == [103] || U2 t.name else if t.sort=0\/t.sort=2\/t.sort=3 then U2 t.name else false:=by
    unfold Tt;rw[Qm hk,Qn hk2]
   rw[hp];generalize U2 t.name=O at *;by_cases s1:t.sort=1
   ·simp[f231C,hk2,s1]
   ·by_cases s5:t.sort=5
    ·simp[f231C,hk2,s5]
    ·by_cases s4:t.sort=4
     ·cases hg:t.name == [103]
      ·simp[f231C,hk2,s4,hg,ho]
      ·simp[f231C,hk2,s4,hg]
     ·by_cases s0:t.sort=0\/t.sort=2\/t.sort=3
      ·cases hg:t.name == [103]
       ·rcases s0 with s0 | s0 | s0 <;> simp[f231C,hk2,s0,ho,hg]
       ·rcases s0 with s0 | s0 | s0 <;> simp[f231C,hk2,s0,ho,hg]
      ·simp only[not_or]at s0;cases hg:t.name == [103]
       ·simp[f231C,hk2,s1,s5,s4,s0.1,s0.2.1,s0.2.2,hg]
       ·simp[f231C,hk2,s1,s5,s4,s0.1,s0.2.1,s0.2.2,hg]
  ·have hp:Tt t=false:=by unfold Tt;rw[Qm hk,Qm hk2]
   rw[hp];simp[f231C,hk,hk2]
def Zs (x:Tm):Int:=if thV x≠0 then thV x else if SG x≠[]then 13 else if Sx x then 0 else 10
def J5 (x:Tm) (bs:Qa) (hm:x.mass < 1000000):call tb 233 [.agg (Qf x)] bs=some (.int .i64 (Zs x),bs):=by
 have c1:=MC x bs (by unfold big;omega);have c2:=D7 x bs (by omega);have c3:=Qhf x bs hm;rw[zcc 233 rfl rfl];by_cases e1:thV x=0
 ·by_cases e2:SG x=[]
  ·cases e3:Sx x
   ·simp[f233C,c1,c2,c3,e1,e2,e3,Zs]
   ·simp[f233C,c1,c2,c3,e1,e2,e3,Zs]
  ·simp[f233C,c1,c2,e1,e2,Zs]
 ·simp[f233C,c1,e1,Zs]
def TS (B0 B:Qa) (v:AV) (l:Qe):Prop:=∃(M:Qa) (id sz:Nat),B=B0 ++ M/\v= .gs id 0 sz l.length/\
 ((sz=0/\id=0/\l=[])\/(sz=4/\B0.length<=id/\l≠[]/\B[id]? =some (Qy l)))
def HS {B0 B:Qa} {v:AV} {l:Qe} (h:TS B0 B v l): ∃id sz,v= .gs id 0 sz l.length:=by
 obtain⟨M,id,sz,_,rfl,_⟩:=h;exact⟨id,sz,rfl⟩
def QnT (B0:Qa):TS B0 B0 (.gs 0 0 0 0) []:=⟨[],0,0,by simp,rfl,.inl ⟨rfl,rfl,rfl⟩⟩
def Qp7 (i:Nat):Tm:= .mk 1 (119:: Nj i) 0 []
def hbs:Nat->Qe->Qa
 | _,[]=>[]
 | k,t:: ts=>(Qf (Qp7 k)++ Qf t):: hbs (k+1) ts
def EqF (f:Nat):Prop:=∀(x y:Tm) (bs:Qa),x.mass < big->y.mass < big->call tb f [.agg (Qf x),.agg (Qf y)] bs=some (.bool (decide (Qp x y=0)),bs)
def Ll (L:Qe) (B:Qa) (id:Nat) (r:Option (AV×Qa)):Prop:=r=some (.sl true 4 (Qb L),B.set id [])
def Qem (B:Qa) (id n:Nat) (D:Qe) (c:Qh) (hB:id < B.length) (hc:c.length=n*4) (hD:D.length<=n) (hn:n < 100000000) (ht:c.take (D.length*4)=Qy D) (hDne:D≠[])
  (ρ:Ql) (h0:ρ 0= .gs id 0 4 n) (h5:ρ 5= .int .i64 D.length):
  R tb f497r0 ρ (B.set id c) (Qq 1 (QH tb f497r1 (QH tb (.loop f497l1) (Qq 0 (QH tb f497r2 (QP f497 B))))))=
   some (.sl true 4 (Qb D),B.set id []):=by
 have e1: (0:Int)<=(D.length:Int):=by omega
 have e2: (D.length:Int)<=(n:Int):=by omega
 have hl0: ¬D.length=0:=fun e=>hDne (YE e);have hg:=XT D;have hch: ∀t,ZX (Qy D ++ t) 0 4 D.length=Qb D:=fun t=>by
  have:=Wh (f:=Qf) (k:=4) QZ Z6 D t;rw[TP]at this;exact this
 have hlen: (Qy D).length=D.length*4:=YR QZ D;have hput:c.take (D.length*4)++ (List.replicate ((n - D.length)*4) AV.undef ++ c.drop (D.length*4+ (n - D.length)*4))=Qy D ++ List.replicate ((n - D.length)*4) .undef:=by
  rw[ht,Mh (by rw[hc,<- ZT];exact Z5 _ (by omega))];simp
 have hle:D.length*4+ (n - D.length)*4<=n*4:=by rw[<- ZT];exact Z5 _ (by omega)
 by_cases hz:n - D.length=0
 ·have hDn:D.length=n:=by omega
  have hcc:c=Qy D:=by rw[<- ht,Yy (by omega)]
  have hch0:=hch [];rw[QN]at hch0;rw[<- hcc]at hch0 hlen;have hlc:D.length*4<=c.length:=by omega
  generalize Qb D=E at *;simp[f497r0,h0,h5,e1,e2,hD,hz,hl0,Yk,hB,hlc,hch0,hg,Yy]
 ·have hchr:=hch (List.replicate ((n - D.length)*4) .undef);have hlr:D.length*4<=(Qy D ++ List.replicate ((n - D.length)*4) AV.undef).length:=by rw[Zo];omega
  rw[<- hput]at hchr hlr;generalize Qb D=E at *;generalize hX:c.take (D.length*4)++ (List.replicate ((n - D.length)*4) AV.undef ++ c.drop (D.length*4+ (n - D.length)*4))=X at *;simp[f497r0,h0,h5,e1,e2,hD,hz,hB,hc,hle,hX,hl0,Yk,hlr,hchr,hg,Yy]
def Qek (f:Nat) (hf:EqF f) (B:Qa) (id n k0:Nat) (hB:id < B.length) (hn:n < 100000000): ∀(post D mid:Qe) (prev:Tm) (k2:Nat) (ρ:Ql),D≠[]->D.length+mid.length+1+post.length=n->k0+k2=D.length+mid.length+1->0 < k2->
   (∀x∈prev:: post,x.mass < big)->ρ 0= .gs id 0 4 n->ρ 1= .fn f []->ρ 5= .int .i64 D.length->ρ 6= .gs id (k0*4) 4 (n - k0)->ρ 7= .int .i64 k2->
  Ll (D ++ Yq prev post) B id (R tb (.loop f497l0) ρ (B.set id (Qy (D ++ mid ++ prev:: post)))
   (Qq 2 (QH tb f497r0 (Qq 1 (QH tb f497r1 (QH tb (.loop f497l1) (Qq 0 (QH tb f497r2 (QP f497 B))))))))):=by
 intro post
 induction post with
 | nil=>
  intro D mid prev k2 ρ hDne hl hk hk2 hm h0 h1 h5 h6 h7;have hlen: (Qy (D ++ mid ++ [prev])).length=n*4:=by rw[YR QZ];simp at hl ⊢;omega
  have ht: (Qy (D ++ mid ++ [prev])).take (D.length*4)=Qy D:=by
   have:=PM (f:=Qf) (k:=4) QZ (l:=D ++ mid ++ [prev]) (pre:=D) (post:=mid ++ [prev]) (by simp) [];simpa using this
  have hr:=fun ρ a b=>Qem B id n D (Qy (D ++ mid ++ [prev])) hB hlen (by omega) hn ht hDne ρ a b;have hl':D.length+mid.length+1=n:=by simpa using hl
  have hnl: ¬((k2:Int) < ((n - k0:Nat):Int)):=by omega
  have hnl2: ¬(k2 < n - k0):=by omega
  rw[Qg f497l0.eq_1];simp only[Yq,QN];unfold Ll;simp[h0,h1,h5,h6,h7,hnl,hnl2];simp only[ZR]at hr;refine hr _ ?_ ?_ <;> simp[h0,h5]
 | cons x post IH=>
  intro D mid prev k2 ρ hDne hl hk hk2 hm h0 h1 h5 h6 h7;have hlen: (Qy (D ++ mid ++ prev:: x:: post)).length=n*4:=by rw[YR QZ];simp at hl ⊢;omega
  have hst: (Qy (D ++ mid ++ prev:: x:: post)).map AV.strip=Qy (D ++ mid ++ prev:: x:: post):=Xx Z6 _;have r1: ((Qy (D ++ mid ++ prev:: x:: post)).drop (k0*4+k2*4)).take 4=Qf x:=by
   have:=Ux (f:=Qf) (k:=4) QZ (l:=D ++ mid ++ prev:: x:: post) (pre:=D ++ mid ++ [prev]) (post:=post) (x:=x) (by simp) [];rw[<- ZT,hk];simpa[V6]using this
  have r2: ((Qy (D ++ mid ++ prev:: x:: post)).drop (k0*4+ (k2 - 1)*4)).take 4=Qf prev:=by
   have:=Ux (f:=Qf) (k:=4) QZ (l:=D ++ mid ++ prev:: x:: post) (pre:=D ++ mid) (post:=x:: post) (x:=prev) (by simp) [];rw[<- ZT,show k0+ (k2 - 1)=D.length+mid.length by omega];simpa[V6]using this
  have hput: (Qy (D ++ mid ++ prev:: x:: post)).take (D.length*4)++ (Qf x ++ (Qy (D ++ mid ++ prev:: x:: post)).drop (D.length*4+4))=Qy ((D ++ [x])++ (mid ++ [prev]).tail ++ x:: post):=by
   obtain⟨y,m2,hy⟩: ∃y m2,mid ++ [prev]=y:: m2:=by cases mid <;> simp
   have:=R0 (f:=Qf) (k:=4) QZ (l:=D ++ mid ++ prev:: x:: post) (pre:=D) (post:=m2 ++ x:: post) (x:=y) x (by
    have:D ++ mid ++ prev:: x:: post=D ++ (mid ++ [prev])++ x:: post:=by simp
    rw[this,hy];simp) []
   rw[hy];simpa using this
  have hw1:IntKind.i64.wrap ((k2:Int) - 1)=((k2 - 1:Nat):Int):=by rw[Zb (by omega) (by omega)];omega
  have hw2:IntKind.i64.wrap ((k2:Int)+1)=((k2+1:Nat):Int):=by rw[Zb (by simp at hl;omega) (by simp at hl;omega)];omega
  have hw3:IntKind.i64.wrap ((D.length:Int)+1)=((D.length+1:Nat):Int):=by rw[Zb (by simp at hl;omega) (by simp at hl;omega)];omega
  have hlt: (k2:Int) < ((n - k0:Nat):Int):=by simp at hl;omega
  have hlt1:k2 < n - k0:=by simp at hl;omega
  have hlt2: ((k2 - 1:Nat):Int) < ((n - k0:Nat):Int):=by simp at hl;omega
  have hlt2':k2 - 1 < n - k0:=by simp at hl;omega
  have hlt3: (D.length:Int) < (n:Int):=by simp at hl;omega
  have hlt3':D.length < n:=by simp at hl;omega
  have hb1:k0*4+k2*4+4<=n*4:=by simp at hl;omega
  have hb2:k0*4+ (k2 - 1)*4+4<=n*4:=by simp at hl;omega
  have hb3:D.length*4+4<=n*4:=by simp at hl;omega
  have hnn: (0:Int)<=((k2 - 1:Nat):Int):=by omega
  have hc:=fun bs=>hf x prev bs (hm x (by simp)) (hm prev (by simp));have hcast: ((k2 - 1:Nat):Int).toNat=k2 - 1:=by omega
  have ih1:=IH D (mid ++ [prev]) x (k2+1);have ih2:=IH (D ++ [x]) (mid ++ [prev]).tail x (k2+1);have htl: ((mid ++ [prev]).tail).length=mid.length:=by simp
  rw[show D ++ (mid ++ [prev])++ x:: post=D ++ mid ++ prev:: x:: post by simp]at ih1;rw[Qg f497l0.eq_1];generalize Qy (D ++ mid ++ prev:: x:: post)=c at *;generalize hkm:k2 - 1=km at *;generalize n - k0=nk at *;by_cases he:Qp x prev=0
  ·have e:Yq prev (x:: post)=Yq x post:=by simp[Yq,he]
   rw[e];simp[h0,h1,h5,h6,h7,hlt,hlt1,hlt2,hlt2',hnn,hw1,hw2,hb1,hb2,hB,hlen,hst,r1,r2,hc,he,hcast];refine ih1 _ hDne (by simp at hl ⊢;omega) (by simp;omega) (by omega) (fun y hy=>hm y (by simp at hy ⊢;rcases hy with h | h <;> simp[h])) ?_ ?_ ?_ ?_ ?_ <;> simp[h0,h1,h5,h6]
  ·have e:D ++ Yq prev (x:: post)=D ++ x:: Yq x post:=by simp[Yq,he]
   rw[e];simp only[ZR,WV,X3]at ih2;simp[h0,h1,h5,h6,h7,hlt,hlt1,hlt2,hlt2',hlt3,hlt3',hnn,hw1,hw2,hw3,hb1,hb2,hb3,hB,hlen,hst,r1,r2,hc,he,hcast,hput];refine ih2 _ (by simp) (by simp at hl ⊢;omega) (by simp;omega) (by omega) (fun y hy=>hm y (by simp at hy ⊢;rcases hy with h | h <;> simp[h])) ?_ ?_ ?_ ?_ ?_ <;> simp[h0,h1,h5,h6]
def Qel (f:Nat) (hf:EqF f) (B:Qa) (id n:Nat) (hB:id < B.length) (hn:n < 100000000): ∀(post pre:Qe) (prev:Tm) (ρ:Ql),pre.length+1+post.length=n->
   (∀x∈prev:: post,x.mass < big)->ρ 0= .gs id 0 4 n->ρ 1= .fn f []->ρ 5= .int .i64 (pre.length+1:Nat)->
  Ll (pre ++ prev:: Yq prev post) B id (R tb (.loop f497l1) ρ (B.set id (Qy (pre ++ prev:: post)))
   (Qq 0 (QH tb f497r2 (QP f497 B)))):=by
 intro post
 induction post with
 | nil=>
  intro pre prev ρ hl hm h0 h1 h5;have hl':pre.length+1=n:=by simpa using hl
  have hnl: ¬((pre.length:Int)+1 < (n:Int)):=by omega
  rw[Qg f497l1.eq_1];have hlen: (Qy (pre ++ [prev])).length=n*4:=by rw[YR QZ];simp;omega
  have hn0: ¬n=0:=by omega
  have hch:ZX (Qy (pre ++ [prev])) 0 4 n=Qb (pre ++ [prev]):=by
   have:=Wh (f:=Qf) (k:=4) QZ Z6 (pre ++ [prev]) [];rw[QN,TP]at this;rw[<- this,<- hl'];simp
  have hg:=XT (pre ++ [prev]);simp only[Ll,Yq];generalize Qy (pre ++ [prev])=c at *;generalize Qb (pre ++ [prev])=e at *;simp[h0,h1,h5,hnl,f497r2,hl',Yk,hn0,hB,hlen,hch,hg,Yy]
 | cons x post IH=>
  intro pre prev ρ hl hm h0 h1 h5;have hl':pre.length+1+ (post.length+1)=n:=by simpa using hl
  have hlen: (Qy (pre ++ prev:: x:: post)).length=n*4:=by rw[YR QZ];simp;omega
  have hst: (Qy (pre ++ prev:: x:: post)).map AV.strip=Qy (pre ++ prev:: x:: post):=Xx Z6 _;have r1: ((Qy (pre ++ prev:: x:: post)).drop ((pre.length+1)*4)).take 4=Qf x:=by
   have:=Ux (f:=Qf) (k:=4) QZ (l:=pre ++ prev:: x:: post) (pre:=pre ++ [prev]) (post:=post) (x:=x) (by simp) [];simpa using this
  have r2: ((Qy (pre ++ prev:: x:: post)).drop (pre.length*4)).take 4=Qf prev:=by
   have:=Ux (f:=Qf) (k:=4) QZ (l:=pre ++ prev:: x:: post) (pre:=pre) (post:=x:: post) (x:=prev) (by simp) [];simpa using this
  have hw1:IntKind.i64.wrap (pre.length:Int)=(pre.length:Int):=Zb (by omega) (by omega);have hw2:IntKind.i64.wrap ((pre.length:Int)+1+1)=(pre.length:Int)+1+1:=Zb (by omega) (by omega);have hlt: (pre.length:Int)+1 < (n:Int):=by omega
  have hlt2: (pre.length:Int) < (n:Int):=by omega
  have hb1: (pre.length+1)*4+4<=n*4:=by omega
  have hb2:pre.length*4+4<=n*4:=by omega
  have hnn: (0:Int)<=(pre.length:Int)+1:=by omega
  have hle: (pre.length:Int)+1<=(n:Int):=by omega
  have hcast: ((pre.length:Int)+1).toNat=pre.length+1:=by omega
  have hc:=fun bs=>hf x prev bs (hm x (by simp)) (hm prev (by simp));have ih1:=IH (pre ++ [prev]) x;have ih2:=Qek f hf B id n (pre.length+1) hB hn post (pre ++ [prev]) [] x 1;simp only[ZR,WV,X3]at ih1 ih2;rw[Qg f497l1.eq_1];generalize Qy (pre ++ prev:: x:: post)=c at *;by_cases he:Qp x prev=0
  ·have e:Yq prev (x:: post)=Yq x post:=by simp[Yq,he]
   rw[e];simp[h0,h1,h5,hlt,hlt2,hnn,hle,hw1,hw2,hb1,hb2,hB,hlen,hst,r1,r2,hc,he,hcast];refine ih2 _ (by simp) (by simp;omega) (by simp) (by omega) (fun y hy=>hm y (by simp at hy ⊢;rcases hy with h | h <;> simp[h])) ?_ ?_ ?_ ?_ ?_ <;> simp[h0,h1,h5]
  ·have e:pre ++ prev:: Yq prev (x:: post)=pre ++ prev:: x:: Yq x post:=by simp[Yq,he]
   rw[e];simp[h0,h1,h5,hlt,hlt2,hnn,hle,hw1,hw2,hb1,hb2,hB,hlen,hst,r1,r2,hc,he,hcast,f497r1];refine ih1 _ (by simp;omega) (fun y hy=>hm y (by simp at hy ⊢;rcases hy with h | h <;> simp[h])) ?_ ?_ ?_ <;> simp[h0,h1,h5]
def QhN (f:Nat) (hf:EqF f) (L:Qe) (B:Qa) (id:Nat) (hid:B[id]? =some (Qy L)) (hne:L≠[]) (hn:L.length < 100000000) (hm: ∀x∈L,x.mass < big):
  Ll (WW L) B id (call tb 497 [.gs id 0 4 L.length,.fn f []] B):=by
 have hB:=WQ hid;have hset:B.set id (Qy L)=B:=DJ hid
 match L with
 | []=>exact absurd rfl hne
 | [x]=>
  have hch:ZX (Qy [x]) 0 4 1=Qb [x]:=by
   have:=Wh (f:=Qf) (k:=4) QZ Z6 [x] [];rw[QN,TP]at this;exact this
  have hlen: (Qy [x]).length=4:=YR QZ [x];have hg:=XT [x];rw[zcc 497 rfl rfl]
  show _=some (_,_);rw[show WW [x]=[x] by simp[WW]];generalize Qb [x]=E at *;generalize Qy [x]=c at *;simp[-getElem?_pos,f497C,Yk,hid,hlen,hch,hg,hB,Yy]
 | x:: y:: r=>
  have h:=Qel f hf B id (r.length+2) hB (by simpa using hn) (y:: r) [] x;rw[zcc 497 rfl rfl,RF];simp only[X3,hset]at h;have hge: ¬((r.length:Int)+1+1 < 2):=by omega
  simp[f497C,hge];refine h _ (by simp;omega) (fun z hz=>hm z hz) ?_ ?_ ?_ <;> simp
def QeF (f:Nat) (B:Qa):call tb 497 [.gs 0 0 0 0,.fn f []] B=some (.sl true 4 [],B):=by
 rw[zcc 497 rfl rfl];simp[f497C,Yk]
def Ch (B1 B:Qa):Prop:=B1.length<=B.length/\∀(i:Nat) (x y:Qh),B1[i]? =some x->B[i]? =some y->x=y\/QY y=true
def Ch.refl (B:Qa):Ch B B:=⟨ZJ _,fun i x y h1 h2=> .inl (by rw[h1]at h2;injection h2)⟩
def Ch.trans {B1 B2 B3:Qa} (h:Ch B1 B2) (k:Ch B2 B3):Ch B1 B3:=⟨Uu h.1 k.1,fun i x z h1 h3=>by
 have hlt:i < B1.length:=by
  rcases QR i B1.length with g | g
  ·exact g
  ·rw[Q3 g]at h1;cases h1
 have hlt2:i < B2.length:=Pj hlt h.1;obtain⟨y,hy⟩: ∃y,B2[i]? =some y:=⟨_,Zv hlt2⟩;rcases k.2 i y z hy h3 with e | e
 ·subst e;exact h.2 i x y h1 hy
 ·exact .inr e⟩
def Ch.set {B1 B:Qa} (h:Ch B1 B) {c:Qh} (hc:QY c=true) (id:Nat):Ch B1 (B.set id c):=⟨by rw[Mp];exact h.1,fun i x y h1 h2=>by
 rw[Y8]at h2;split at h2
 ·split at h2
  ·injection h2 with h2;subst h2;exact .inr hc
  ·cases h2
 ·exact h.2 i x y h1 h2⟩
def Ch.app {B1 B:Qa} (h:Ch B1 B) (M:Qa):Ch B1 (B ++ M):=⟨by rw[Zo];have:=h.1;omega,fun i x y h1 h2=>by
 have hlt:i < B1.length:=by
  rcases QR i B1.length with g | g
  ·exact g
  ·rw[Q3 g]at h1;cases h1
 rw[ZM (Pj hlt h.1)]at h2;exact h.2 i x y h1 h2⟩
def Ch.take {B1 B:Qa} (h:Ch B1 B):X6 B1 (B.take B1.length)=true:=Ib (by rw[Xf];have:=h.1;omega) fun i x y h1 h2=>by
 have hlt:i < B1.length:=by
  rcases QR i B1.length with g | g
  ·exact g
  ·rw[Q3 g]at h1;cases h1
 rw[WB hlt]at h2;exact h.2 i x y h1 h2
def QjE {B0 B:Qa} {v:AV} {l:Qe} (x:Tm) (o:Bool) (h:TS B0 B v l) (hl:l.length < 1000000): ∃v' B',appM 56 4 v (.sl o 4 [Qf x]) B=some (v',B')/\TS B0 B' v' (l ++ [x])/\∀B1,Ch B1 B->Ch B1 B':=by
 obtain⟨M,id,sz,rfl,rfl,hc⟩:=h;have hb: (l.length+1)*56<=140737488355328:=WI (by omega);have hs:Wt 4 (.sl o 4 [Qf x]) (B0 ++ M)=some (1,Qf x):=by simp[Wt]
 rcases hc with⟨rfl,rfl,rfl⟩ | ⟨rfl,hid,hne0,hbx⟩
 ·refine⟨.gs (B0 ++ M).length 0 4 1,B0 ++ (M ++ [Qf x]),?_,⟨M ++ [Qf x],(B0 ++ M).length,4,rfl,rfl,.inr ⟨rfl,by simp,by simp,?_⟩⟩,fun B1 hB=>by rw[<- ZR];exact hB.app _⟩
  ·simp[appM,hs]
  ·rw[<- ZR,YZ];simp[Qy,YG]
 ·have hr: (Qy l).length=l.length*4:=YR QZ l;have hrow:Qy (l ++ [x])=Qy l ++ Qf x:=by simp[Qy,Ua,OZ]
  have hst: (Qy l).map AV.strip=Qy l:=Xx Z6 l;have hne:Qy l≠[]:=by
   intro e;rw[e]at hr;simp at hr
   exact hne0 (YE (by omega))
  have hroom: ¬(l.length+1)*4<=(Qy l).length:=by omega
  refine⟨.gs (B0 ++ M).length 0 4 (l.length+1),(B0 ++ M).set id []++ [Qy l ++ Qf x],?_,⟨M.set (id - B0.length) []++ [Qy l ++ Qf x],(B0 ++ M).length,4,?_,by simp,.inr ⟨rfl,by simp,by simp,?_⟩⟩,fun B1 hB=>(hB.set rfl _).app _⟩
  ·simp only[appM,hs,QC];rw[Qn ⟨by omega,hb⟩,Qm (by omega),Qm (by omega),Qn ⟨trivial,trivial⟩,hbx];simp only[QC];rw[Qn ⟨hne,by omega⟩,Qm hroom,Yy (by omega),hst]
  ·rw[Wj hid,ZR]
  ·have e: (B0 ++ M).length=((B0 ++ M).set id []).length:=by simp
   rw[hrow,e,YZ]
structure Ded where
 r:Int
 n:Int
 a:List Int
 c:List Int
 t:Tm
def Q7 (l:QJ):Qa:=l.map fun i=>[AV.int .i64 i]
@[simp] def EI (l:QJ): (Q7 l).length=l.length:=by simp[Q7]
@[simp] def Vq (l:QJ) (i:Nat): (Q7 l)[i]? =(l[i]?).map fun i=>[AV.int .i64 i]:=by simp[Q7]
@[simp] def OS: ∀l:QJ,Zw (Q7 l)=true
 | []=>rfl
 | i:: l=>by
  have:=OS l;simp only[Q7]at this ⊢;simp[Zw,QY,AV.gpfree,this]
def QK (d:Ded):Qh:=[.int .i64 d.r,.int .i64 d.n,.sl false 1 (Q7 d.a),.sl false 1 (Q7 d.c)]++ Qf d.t
def XS (d:Ded):QK d=[.int .i64 d.r,.int .i64 d.n,.sl false 1 (Q7 d.a),.sl false 1 (Q7 d.c),.int .i64 d.t.kind,.str d.t.name,.int .i64 d.t.sort,.sl false 4 (Qb d.t.kids)]:=by
 simp[QK,Zr]
@[simp] def Wo (d:Ded): (QK d).length=8:=by simp[XS]
@[simp] def TB (d:Ded): (QK d).map AV.strip=QK d:=by simp[XS]
@[simp] def Om (d:Ded): (QK d).take 8=QK d:=Yy (by simp)
@[simp] def XE (d:Ded): (QK d).drop 4=Qf d.t:=by simp[QK]
@[simp] def QnU (d:Ded): (QK d).drop 8=[]:=by simp[XS]
@[simp] def Lq (d:Ded): (QK d)[0]? =some (.int .i64 d.r):=by simp[XS]
@[simp] def Qh3 (d:Ded): (QK d)[1]? =some (.int .i64 d.n):=by simp[XS]
@[simp] def Qh4 (d:Ded): (QK d)[2]? =some (.sl false 1 (Q7 d.a)):=by simp[XS]
@[simp] def Qh5 (d:Ded): (QK d)[3]? =some (.sl false 1 (Q7 d.c)):=by simp[XS]
@[simp] def QpS (d:Ded) (h:0 < (QK d).length): (QK d)[0]= .int .i64 d.r:=by simp[XS]
@[simp] def QpT (d:Ded) (h:1 < (QK d).length): (QK d)[1]= .int .i64 d.n:=by simp[XS]
@[simp] def QpU (d:Ded) (h:2 < (QK d).length): (QK d)[2]= .sl false 1 (Q7 d.a):=by simp[XS]
@[simp] def QpV (d:Ded) (h:3 < (QK d).length): (QK d)[3]= .sl false 1 (Q7 d.c):=by simp[XS]
@[simp] def QpW (d:Ded):QY (QK d)=true:=by simp[QK,QY,AV.gpfree,Lr]
abbrev QQ:=List Ded
def Qz (l:QQ):Qa:=l.map QK
@[simp] def XM (l:QQ): (Qz l).length=l.length:=by simp[Qz]
@[simp] def Yr (l:QQ) (i:Nat): (Qz l)[i]? =(l[i]?).map QK:=by simp[Qz]
@[simp] def P7: ∀l:QQ,Zw (Qz l)=true
 | []=>rfl
 | p:: l=>by
  have:=P7 l;simp only[Qz]at this ⊢;simp[Zw,this]
def Tb (x y:Tm) (bs:Qa) (hx:x.mass < big) (hy:y.mass < big):call tb 350 [.agg (Qf x),.agg (Qf y)] bs=some (.bool (decide (Qp x y=0)),bs):=by
 have h:=call_Compare x y bs hx hy;rw[zcc 350 rfl rfl];simp[f350C,h]
abbrev isN (t:Tm) (n:List UInt8):Bool:=isB t n
def C2 (t:Tm) (n:Qu) (bs:Qa):call tb 360 [.agg (Qf t),.str n] bs=some (.bool (isN t n),bs):=by
 rw[zcc 360 rfl rfl,Zr];unfold isN isB;by_cases c:t.kind=3
 ·simp[f360C,c]
 ·simp[f360C,c]
def WJ (t:Tm) (n:Qu) (i:Nat) (u:Tm):Bool:=isN t n && (match t.kids[i]? with | some k=>decide (Qp k u=0) | none=>false)
def RT (t:Tm) (n:Qu) (i:Nat) (u:Tm) (bs:Qa) (hi:isN t n=true->i < t.kids.length) (hm:t.mass < big) (hu:u.mass < big) (hi2:i < 10):
  call tb 359 [.agg (Qf t),.str n,.int .i64 i,.agg (Qf u)] bs=some (.bool (WJ t n i u),bs):=by
 have h1:=C2 t n bs;rw[zcc 359 rfl rfl];unfold WJ;cases c:isN t n
 ·rw[c]at h1;simp[f359C,h1]
 ·rw[c]at h1;have hil:=hi c;have hk:t.kids[i]? =some t.kids[i]:=Zv hil;have hkm:t.kids[i].mass < big:=NC hm (Pk _);have h2:=Tb t.kids[i] u bs hkm hu;have e1:=Zr t;rw[hk];generalize t.kids[i]=k at *;simp only[e1]at h1 ⊢;simp[-getElem?_pos,Zf,Zt,ZI,f359C,h1,h2,e1,hk]
def JJ:List (Qu×Int):=[([],0),([103,105,118,101,110],0),([112,117,98,108,105,99],0),([112,97,105,114],2),([102,105,114,115,116],1),([115,101,99,111,110,100],1),([101,110,99],2),([100,101,99],2),([97,101,110,99],2),([97,100,101,99],2),([112,107],1),([115,105,103,110],2),([114,101,97,100],1),([104,97,115,104],1),([115,117,109],-1),([112,111,119,101,114],-2),([112,114,111,100,117,99,116],-1)]
def rOk (r:Int):Bool:=decide (1<=r) && decide (r<=16)
def XP (r:Int):Qu:=if rOk r then(JJ[r.toNat]?.getD ([],0)).1 else []
def Xg (r:Int):Int:=if rOk r then(JJ[r.toNat]?.getD ([],0)).2 else 0
def Ru {r:Int} (h:rOk r=true):r=1\/r=2\/r=3\/r=4\/r=5\/r=6\/r=7\/r=8\/r=9\/r=10\/r=11\/r=12\/r=13\/r=14\/r=15\/r=16:=by
 simp[rOk]at h;omega
def CZ (r:Int) (bs:Qa):call tb 353 [.int .i64 r] bs=some (.tup [.agg [.str (XP r),.int .i64 (Xg r)],.bool (rOk r)],bs):=by
 cases h:rOk r
 ·rw[zcc 353 rfl rfl];have h2:r < 1\/17<=r:=by
   simp[rOk]at h;omega
  have ew:XP r=[]:=by simp[XP,h]
  have ea:Xg r=0:=by simp[Xg,h]
  rw[ew,ea];by_cases c:r < 1
  ·simp[f353C,c]
  ·have c2: (17:Int)<=r:=by omega
   simp[f353C,c,c2]
 ·rcases Ru h with rfl | rfl | rfl | rfl | rfl | rfl | rfl | rfl | rfl | rfl | rfl | rfl | rfl | rfl | rfl | rfl <;>
   (rw[zcc 353 rfl rfl];simp[f353C,XP,Xg,rOk,JJ])
def QhJ (r:Int) (bs:Qa):call tb 386 [.int .i64 r] bs=some (.tup [.str (XP r),.int .i64 (Xg r)],bs):=by
 cases h:rOk r
 ·rw[zcc 386 rfl rfl];have h2:r < 1\/17<=r:=by
   simp[rOk]at h;omega
  have ew:XP r=[]:=by simp[XP,h]
  have ea:Xg r=0:=by simp[Xg,h]
  rw[ew,ea];by_cases c:r < 1
  ·simp[f386C,c]
  ·have c2: (16:Int) < r:=by omega
   simp[f386C,c,c2]
 ·rcases Ru h with rfl | rfl | rfl | rfl | rfl | rfl | rfl | rfl | rfl | rfl | rfl | rfl | rfl | rfl | rfl | rfl <;>
   (rw[zcc 386 rfl rfl];simp[f386C,XP,Xg,rOk,JJ,show IntKind.i64.wrap 0=0 from rfl,show IntKind.i64.wrap 1=1 from rfl,show IntKind.i64.wrap 2=2 from rfl,show IntKind.i64.wrap 3=3 from rfl,show IntKind.i64.wrap 4=4 from rfl,show IntKind.i64.wrap 5=5 from rfl,show IntKind.i64.wrap 6=6 from rfl,show IntKind.i64.wrap 7=7 from rfl,show IntKind.i64.wrap 8=8 from rfl,show IntKind.i64.wrap 9=9 from rfl,show IntKind.i64.wrap 10=10 from rfl,show IntKind.i64.wrap 11=11 from rfl,show IntKind.i64.wrap 12=12 from rfl,show IntKind.i64.wrap 13=13 from rfl,show IntKind.i64.wrap 14=14 from rfl,show IntKind.i64.wrap 15=15 from rfl])
def So (d:Ded):Int:=if d.r=15 then(d.a.length:Int) - 1 else if d.r=16 then d.a.length else 0
def Qhv (d:Ded) (bs:Qa) (hl:d.a.length < 1000000):call tb 354 [.agg (QK d)] bs=some (.int .i64 (So d),bs):=by
 have hw:IntKind.i64.wrap ((d.a.length:Int) - 1)=(d.a.length:Int) - 1:=Zb (by omega) (by omega);rw[zcc 354 rfl rfl];unfold So;by_cases c:d.r=15
 ·simp[f354C,c,hw]
 ·by_cases c2:d.r=16
  ·simp[f354C,c2]
  ·simp[f354C,c,c2]
def QhK (d:Ded) (bs:Qa) (hl:d.a.length < 1000000):call tb 387 [.agg (QK d)] bs=some (.int .i64 (So d),bs):=by
 have hw:IntKind.i64.wrap ((d.a.length:Int) - 1)=(d.a.length:Int) - 1:=Zb (by omega) (by omega);rw[zcc 387 rfl rfl];unfold So;by_cases c:d.r=15
 ·simp[f387C,c,hw]
 ·by_cases c2:d.r=16
  ·simp[f387C,c2]
  ·simp[f387C,c,c2]
def Qfq (f:Nat) (cs:Qh) (p:Int->Bool) (l:QJ) (bs:Qa) (hc: ∀x∈l,call tb f (.int .i64 x:: cs) bs=some (.bool (p x),bs)) (hl:l.length < 1000000) (hok: ∀x∈cs,x.ok=true):
  ∀(post pre:QJ) (o:Bool) (ρ:Ql),l=pre ++ post->pre.any p=false->ρ 0= .sl o 1 (Q7 l)->ρ 1= .fn f cs->ρ 7= .int .i64 l.length->ρ 8= .int .i64 pre.length->
  N5 (l.any p) bs (R tb (.loop f357l0) ρ bs (Qq 0 (QH tb f357r0 (QP f357 bs)))):=by
 intro post
 induction post with
 | nil=>
  intro pre o ρ hk hp h0 h1 h7 h8;simp only[QN]at hk;rw[<- hk]at h8 hp;rw[Qg f357l0.eq_1];refine⟨-1,?_,by rw[hp];simp⟩;simp[h0,h1,h7,h8,f357r0]
 | cons x post IH=>
  intro pre o ρ hk hp h0 h1 h7 h8;have hgt:=Qx hk;have hll:=QL hk;have hw1:=wr1 pre.length (by omega);have hlt:=QO hk;have hcall:=hc x (by rw[hk];simp);have ih:=fun ρ hpp=>IH (pre ++ [x]) o ρ (by rw[hk];simp) hpp;rw[Qg f357l0.eq_1];cases ho:p x
  ·rw[ho]at hcall;have ih2:=fun ρ=>ih ρ (by rw[Pn,hp];simp[ho]);simp[h0,h1,h7,h8,hlt,hgt,hw1,hcall,eq_true hok,-List.any_eq_false,-List.any_eq_true];apply ih2 <;> simp[h0,h1,h7]
  ·rw[ho]at hcall;have hany:l.any p=true:=Rn.2 ⟨x,by rw[hk];simp,ho⟩;refine⟨pre.length,?_,by rw[hany];simp⟩;simp[h0,h1,h7,h8,hlt,hgt,hcall,eq_true hok]
def J8 (f:Nat) (cs:Qh) (p:Int->Bool) (l:QJ) (o:Bool) (bs:Qa) (hc: ∀x∈l,call tb f (.int .i64 x:: cs) bs=some (.bool (p x),bs)) (hl:l.length < 1000000) (hok: ∀x∈cs,x.ok=true):
  call tb 356 [.sl o 1 (Q7 l),.fn f cs] bs=some (.bool (l.any p),bs):=by
 have h1:=fun ρ=>Qfq f cs p l bs hc hl hok l [] false ρ rfl rfl;have h2:N5 (l.any p) bs (call tb 357 [.sl false 1 (Q7 l),.fn f cs] bs):=by
  rw[zcc 357 rfl rfl];simp[f357C,eq_true hok,-List.any_eq_false,-List.any_eq_true];apply h1 <;> simp
 obtain⟨i,hi,hb⟩:=h2;rw[zcc 356 rfl rfl];simp[f356C,eq_true hok,hi,-List.any_eq_false,-List.any_eq_true];cases hx:l.any p
 ·rw[hx]at hb;simp at hb;simpa using hb
 ·rw[hx]at hb;simp at hb;simpa using hb
def Yi (c:Int):Bool:=decide (c < -35184372088832) || decide (35184372088832 < c)
def Qhx (c:Int) (bs:Qa):call tb 358 [.int .i64 c] bs=some (.bool (Yi c),bs):=by
 rw[zcc 358 rfl rfl];unfold Yi;by_cases h:c < -35184372088832
 ·simp[f358C,h]
 ·simp[f358C,h]
def QhC (c:Int) (bs:Qa):call tb 368 [.int .i64 c] bs=some (.bool (Yi c),bs):=by
 rw[zcc 368 rfl rfl];unfold Yi;by_cases h:c < -35184372088832
 ·simp[f368C,h]
 ·simp[f368C,h]
def VD (i a:Int):Bool:=decide (a < 0) || decide (i<=a)
def Qhw (a i:Int) (g:Nat) (bs:Qa) (hg:bs[g]? =some [.int .i64 i]):call tb 355 [.int .i64 a,.gp g 0] bs=some (.bool (VD i a),bs):=by
 rw[zcc 355 rfl rfl];unfold VD;by_cases h:a < 0
 ·simp[-getElem?_pos,Zf,Zt,f355C,h,hg]
 ·simp[-getElem?_pos,Zf,Zt,f355C,h,hg]
end Go.Am
