/-
  Rc23, Rc24, Rc25, Rc26, Rc27, Rc28, Rc29, Rc30, Rc31, Rc32, Rc33, Rc34, Rc35, Rc36, Rc37, Rc38, Rc39, Rc40, Rc41, Rc42, Rc43.
-/
import Derived.Test.YtgjaamacjmjjcaaGreatDoorG14
set_option linter.all false
open Go.Am.F
namespace Go.Am
set_option maxRecDepth 20000
def KM (l:Q9) (M:Nat):Prop:=∀q∈l,q.1.mass<=M
def Qec {l t m M} (h:KM l M) (b:t.mass<=M):KM (XE l t m) M:=by
 intro q a;rcases SE a with a | rfl | ⟨_,_,rfl,_⟩;exact h q a;exact b;exact b
def Qqf: ∀t l m M,KM l M->t.mass<=M->KM (Vh l t m) M:=by
 refine Yp ?_;intro k n s c g l m M h e;have d:=QL (.mk k n s c);simp only[ZJ,Yy]at d;have j: ∀(b:Qj) (l:Q9) (m:Int),(∀x∈b,x∈c)->KM l M->KM (Wk l b m) M:=by intro b;induction b with | nil=>intro l m _ h;simpa[Wk]using h | cons x b i=>intro l m a h;simp only[Wk];exact i _ m (fun y f=>a y (by simp[f])) (g x (a x (by simp)) l m M h (by have:=QR (a x (by simp));omega))
 rw[Ug];split;exact j c l _ (fun x a=>a) h;exact Qec h e
def FO: ∀b a M,KM a M->KM b M->KM (Vc a b) M
 | [],a,M,h,_=>h
 | q:: b,a,M,h,c=>FO b _ M (Qec h (c q (by simp))) fun x d=>c x (by simp[d])
def MA (t M) (h:t.mass<=M):KM (ofP t) M:=by
 unfold ofP;split;exact Qqf t [] 1 M (fun q a=>by simp at a) h;intro q a;simp at a
def VR (t): (ofP t).length<=200:=by
 unfold ofP;split;rename_i h;unfold ofE at h;split at h;rename_i a;exact absurd h a;split at h;split at h;cases h;omega;cases h;simp
def Qgk {l} (h:Xx l=0):l.length<=200:=by
 unfold Xx at h;split at h;cases h;split at h;cases h;omega
def Ga (a b): (WD a b).length<=200:=by
 unfold WD;split;rename_i h;unfold VV at h;split at h;rename_i c;exact absurd h c;split at h;rename_i c;exact absurd h c;exact Qgk h;simp
def E8 {a b M} (c:KM a M) (e:KM b M):KM (WD a b) M:=by
 unfold WD;split;exact FO b a M c e;intro q d;simp at d
def D0 (n t):Qw (List.replicate n t)=n*t.mass:=by
 induction n with | zero=>simp[Qw] | succ n a=>rw[Rx,Qw,a,Tn];omega
def Qi4 (t): (Tt t).mass=t.mass+5:=by simp only[Tt,Tm.mass,Qw,INV,Zu,Xc];omega
def LR:=@Nat.mul_le_mul
def FX: ∀{l M},KM l M->(∀q∈l,q.2<=8)->Qw (Vv l)<=l.length* (8*M)
 | [],M,_,_=>by simp[Vv,Qw]
 | p:: l,M,h,b=>by
  have f:=FX (l:=l) (M:=M) (fun q a=>h q (by simp[a])) fun q a=>b q (by simp[a]);have c:=b p (by simp);have d:p.2.toNat* p.1.mass<=8*M:=LR (by omega) (h p (by simp));have e:Vv (p:: l)=List.replicate p.2.toNat p.1 ++ Vv l:=by simp[Vv]
  rw[e,Y3,D0,Zu,Tn];omega
def FV: ∀{l M},KM l M->(∀q∈l,-8<=q.2)->Qw (VW l)<=l.length* (8* (M+5))
 | [],M,_,_=>by simp[VW,Qw]
 | p:: l,M,h,b=>by
  have d:=FV (l:=l) (M:=M) (fun q a=>h q (by simp[a])) fun q a=>b q (by simp[a]);have g:=h p (by simp);have f:=b p (by simp);have c: (-p.2).toNat* (Tt p.1).mass<=8* (M+5):=LR (by omega) (by rw[Qi4];omega);have e:VW (p:: l)=List.replicate (-p.2).toNat (Tt p.1)++ VW l:=by simp[VW]
  rw[e,Y3,D0,Zu,Tn];omega
def FW {l} (h:KM l 25000000) (b:l.length<=200) (c: ∀q∈l,-8<=q.2/\q.2<=8):Qw (YK l) < big - 100:=by
 have f:=FX h fun q a=>(c q a).2;have e:=FV h fun q a=>(c q a).1;have d:l.length* (8*25000000)<=200* (8*25000000):=YE _ b;have g:l.length* (8* (25000000+5))<=200* (8* (25000000+5)):=YE _ b;unfold YK;rw[Y3];unfold big;omega
def HJ {l} (o a) (h:KM l 25000000) (b:l.length<=200):call tb 196 [.sl o 5 (Qz l)] a=some (ZB (YT l),a):=
 Qn0 l o a (by omega) (fun q c=>by have:=h q c;unfold big;omega) (FW h b)
def HK {l} (o a) (h:KM l 25000000) (b:l.length<=200):call tb 258 [.sl o 5 (Qz l)] a=some (ZB (YT l),a):=
 Qod l o a (by omega) (fun q c=>by have:=h q c;unfold big;omega) (FW h b)
def Ur (b:Tm) (p:Q9):Tm×Int:=if p=[]then(b,0)else if(YT p).2≠0 then(Q7,(YT p).2)else(.mk 3 EXP 0 [b,(YT p).1],0)
def WW (b e:Tm):Tm×Int:=
 if ofE e≠0 then(Q7,ofE e)
 else if isB b EXP then
  if ofE (kid b 1)≠0 then(Q7,ofE (kid b 1))else if VV (ofP (kid b 1)) (ofP e)≠0 then(Q7,VV (ofP (kid b 1)) (ofP e))else Ur (kid b 0) (WD (ofP (kid b 1)) (ofP e))
 else Ur b (ofP e)
def XZ (t:Tm):Tm×Int:=if ofE t≠0 then(Q7,ofE t)else YT (ofP t)
def ZG (t e):ZB (t,e)= .tup [.agg (Qd t),.int .i64 e]:=rfl
def Qob (t a) (f:t.mass < 20000000):call tb 252 [.agg (Qd t)] a=some (ZB (XZ t),a):=by
 have b:=R5 t a (by omega);have d:=HK false a (MA t 25000000 (by omega)) (VR t);rw[zcc 252 rfl rfl];by_cases c:ofE t=0;have e:XZ t=YT (ofP t):=by simp[XZ,c]
 rw[e];simp only[ZB]at d ⊢;simp[f252C,b,d,c];have e:XZ t=(Q7,ofE t):=by simp[XZ,c]
 rw[e];simp[f252C,b,c,ZG,Zi]
def Qn1 (b e g) (D:Zf b=true) (E:b.mass < 20000000) (H:e.mass < 20000000):call tb 199 [.agg (Qd b),.agg (Qd e)] g=some (ZB (WW b e),g):=by
 have h:=R4 e g (by omega);have c:=R7 b EXP g;have w:=MA e 25000000 (by omega);have C:=VR e;rw[zcc 199 rfl rfl];by_cases a:ofE e=0;cases k:isB b EXP;rw[k]at c;simp only[EXP]at c;have f:=HJ false g w C;have i:WW b e=Ur b (ofP e):=by simp[WW,a,k]
 rw[i];generalize ofP e=p at *;match p with | []=>simp only[VF]at h;simp[f199C,h,c,a,Ur,ZG] | q:: r=>(have s: ¬(r.length:Int)+1=0:=by omega);by_cases d: (YT (q:: r)).2=0;have l:=A3 EXP [b,(YT (q:: r)).1] false g;simp only[ZB,Qa]at f l;simp only[EXP]at l;simp[f199C,h,c,f,l,a,d,s,Ur,ZG,EXP];simp only[ZB]at f;simp[f199C,h,c,f,a,d,s,Ur,ZG,Zi]
 obtain⟨x,y,j⟩:=W8 D k (by simp[Y2]);rw[k]at c;simp only[EXP]at c;have o:=QL b;rw[j]at o;simp only[Qw]at o;have B:kid b 0=x:=by simp[kid,j]
 have v:kid b 1=y:=by simp[kid,j]
 have n:=R4 y g (by omega);have A:=MA y 25000000 (by omega);have G:=VR y;by_cases d:ofE y=0;have f:=QcY (ofP y) (ofP e) false false g (by omega) (by omega) (fun q u=>by have:=A q u;unfold big;omega) (fun q u=>by have:=w q u;unfold big;omega);by_cases m:VV (ofP y) (ofP e)=0;have t:=HJ false g (E8 A w) (Ga (ofP y) (ofP e));have i:WW b e=Ur x (WD (ofP y) (ofP e)):=by simp[WW,a,k,B,v,d,m]
 rw[i];generalize WD (ofP y) (ofP e)=p at *;match p with | []=>simp only[VF]at f;simp[f199C,h,c,n,f,j,a,d,m,Ur,ZG] | q:: r=>(have s: ¬(r.length:Int)+1=0:=by omega);by_cases z: (YT (q:: r)).2=0;have l:=A3 EXP [x,(YT (q:: r)).1] false g;simp only[ZB,Qa]at t l;simp only[EXP]at l;simp[f199C,h,c,n,f,l,t,j,a,d,m,z,s,Ur,ZG,EXP];simp only[ZB]at t;simp[f199C,h,c,n,f,t,j,a,d,m,z,s,Ur,ZG,Zi]
 have i:WW b e=(Q7,VV (ofP y) (ofP e)):=by simp[WW,a,k,v,d,m]
 rw[i];simp[f199C,h,c,n,f,j,a,d,m,ZG,Zi];have i:WW b e=(Q7,ofE y):=by simp[WW,a,k,v,d]
 rw[i];simp[f199C,h,c,n,j,a,d,ZG,Zi];have i:WW b e=(Q7,ofE e):=by simp[WW,a]
 rw[i];simp[f199C,h,a,ZG,Zi]
def Qof (b e g) (D:Zf b=true) (E:b.mass < 20000000) (H:e.mass < 20000000):call tb 261 [.agg (Qd b),.agg (Qd e)] g=some (ZB (WW b e),g):=by
 have h:=R5 e g (by omega);have c:=Xw b EXP g;have w:=MA e 25000000 (by omega);have C:=VR e;rw[zcc 261 rfl rfl];by_cases a:ofE e=0;cases k:isB b EXP;rw[k]at c;simp only[EXP]at c;have f:=HK false g w C;have i:WW b e=Ur b (ofP e):=by simp[WW,a,k]
 rw[i];generalize ofP e=p at *;match p with | []=>simp only[VF]at h;simp[f261C,h,c,a,Ur,ZG] | q:: r=>(have s: ¬(r.length:Int)+1=0:=by omega);by_cases d: (YT (q:: r)).2=0;have l:=R3 EXP [b,(YT (q:: r)).1] false g (by simp);simp only[ZB,Qa]at f l;simp only[EXP]at l;simp[f261C,h,c,f,l,a,d,s,Ur,ZG,EXP];simp only[ZB]at f;simp[f261C,h,c,f,a,d,s,Ur,ZG,Zi]
 obtain⟨x,y,j⟩:=W8 D k (by simp[Y2]);rw[k]at c;simp only[EXP]at c;have o:=QL b;rw[j]at o;simp only[Qw]at o;have B:kid b 0=x:=by simp[kid,j]
 have v:kid b 1=y:=by simp[kid,j]
 have n:=R5 y g (by omega);have A:=MA y 25000000 (by omega);have G:=VR y;by_cases d:ofE y=0;have f:=Qc4 (ofP y) (ofP e) false false g (by omega) (by omega) (fun q u=>by have:=A q u;unfold big;omega) (fun q u=>by have:=w q u;unfold big;omega);by_cases m:VV (ofP y) (ofP e)=0;have t:=HK false g (E8 A w) (Ga (ofP y) (ofP e));have i:WW b e=Ur x (WD (ofP y) (ofP e)):=by simp[WW,a,k,B,v,d,m]
 rw[i];generalize WD (ofP y) (ofP e)=p at *;match p with | []=>simp only[VF]at f;simp[f261C,h,c,n,f,j,a,d,m,Ur,ZG] | q:: r=>(have s: ¬(r.length:Int)+1=0:=by omega);by_cases z: (YT (q:: r)).2=0;have l:=R3 EXP [x,(YT (q:: r)).1] false g (by simp);simp only[ZB,Qa]at t l;simp only[EXP]at l;simp[f261C,h,c,n,f,l,t,j,a,d,m,z,s,Ur,ZG,EXP];simp only[ZB]at t;simp[f261C,h,c,n,f,t,j,a,d,m,z,s,Ur,ZG,Zi]
 have i:WW b e=(Q7,VV (ofP y) (ofP e)):=by simp[WW,a,k,v,d,m]
 rw[i];simp[f261C,h,c,n,f,j,a,d,m,ZG,Zi];have i:WW b e=(Q7,ofE y):=by simp[WW,a,k,v,d]
 rw[i];simp[f261C,h,c,n,j,a,d,ZG,Zi];have i:WW b e=(Q7,ofE e):=by simp[WW,a]
 rw[i];simp[f261C,h,a,ZG,Zi]
def Hu {n} (h:VQ n=true):n.length<=24:=by
 rcases n with _ | ⟨c,r⟩;simp;simp only[VQ,Qu,QM]at h;simp only[Zu];omega
def Gf {t} (h:RD t=0):t.name.length<=24/\t.kids.length<=8/\(t.kind=3->t.sort=0)/\(t.kind≠3->t.kids=[]):=by
 unfold RD at h;split at h;rename_i b;split at h;cases h;rename_i c;split at h;cases h;rename_i a;exact⟨Hu (by simpa using a),by omega,fun e=>by omega,fun _=>Yf (by omega)⟩;split at h;rename_i b;split at h;cases h;rename_i c;split at h;cases h;rename_i a;split at h;cases h;exact⟨Hu (by simpa using a),by omega,fun _=>by simpa using c,fun e=>absurd b e⟩;cases h
mutual
theorem DK: ∀t:Tm,Y6 t=0->t.mass<=33*t.nodes
 | .mk k n s ks,h=>by
  simp only[Y6]at h;split at h
  ·rename_i h1;exact absurd h h1
  ·rename_i h1;obtain⟨a,b,_⟩:=Gf (t:= .mk k n s ks) (by simpa using h1);have:=DJ ks h;simp only[Yy,ZJ]at a b;simp only[Tm.mass,Tm.nodes];omega
theorem DJ: ∀ts:List Tm,Uq ts=0->Qw ts<=33*Qp ts
 | [],_=>by simp[Qw,Qp]
 | t:: ts,h=>by
  simp only[Uq]at h;split at h
  ·rename_i h1;exact absurd h h1
  ·rename_i h1;have a:=DK t (by simpa using h1);have b:=DJ ts h;simp only[Qw,Qp];omega
end
def Xu {t} (h:QZ t=0):Y6 t=0/\t.nodes<=400/\t.mass<=13200:=by
 unfold QZ at h;split at h;rename_i a;exact absurd h a;rename_i a;split at h;cases h;have:=DK t (by simpa using a);exact⟨by simpa using a,by omega,by omega⟩
def QiN {n y} (h:YU n WX=some y) (m:Nat) (b: ¬((m:Int) < y.l\/y.m < m)):Y2 n m=true:=by
 unfold Y2;split;rename_i a;have:y.l=2/\y.m=2:=by rcases a with rfl | rfl | rfl | rfl | rfl | rfl | rfl | rfl <;> simp[Zx,ENC,Zv,Zw,EXP,DEC,YI,Y1,YU,WX]at h <;> subst h <;> simp
 simp;omega;split;rename_i a;have:y.l=1/\y.m=1:=by rcases a with rfl | rfl | rfl | rfl <;> simp[PK,FST,SND,READ,YU,WX]at h <;> subst h <;> simp
 simp;omega;rfl
mutual
theorem FA: ∀t:Tm,Y6 t=0->Wy t=0->Zf t=true
 | .mk k n s ks,h,hc=>by
  simp only[Y6]at h;split at h
  ·rename_i h1;exact absurd h h1
  ·rename_i h1;obtain⟨_,_,a,b⟩:=Gf (t:= .mk k n s ks) (by simpa using h1);simp only[UI,S8,ZJ]at a b;simp only[Wy]at hc;by_cases hk:k=3
   ·subst hk;rw[Qe (by simp)]at hc;cases hy:YU n WX with
    | none=>rw[hy]at hc;simp at hc
    | some y=>
     rw[hy]at hc;simp only at hc;split at hc
     ·cases hc
     ·rename_i h2;have har:=QiN hy ks.length h2;split at hc
      ·cases hc
      ·split at hc
       ·cases hc
       ·have:=Hs ks h hc;simp[Zf,a rfl,har,this]
   ·have:=b hk;subst this;simp[Zf,hk,Yw]
theorem Hs: ∀ts:List Tm,Uq ts=0->PU ts=0->Yw ts=true
 | [],_,_=>rfl
 | t:: ts,h,hc=>by
  simp only[Uq]at h;simp only[PU]at hc;split at h
  ·rename_i h1;exact absurd h h1
  ·rename_i h1;split at hc
   ·rename_i h2;exact absurd hc h2
   ·rename_i h2;simp[Yw,FA t (by simpa using h1) (by simpa using h2),Hs ts h hc]
end
mutual
theorem Is: ∀(t y:Tm),Zf t=true->y∈Zs t->Zf y=true
 | .mk k n s ks,y,h,hy=>by
  simp only[Zs,Zl]at hy;rcases hy with rfl | hy
  ·exact h
  ·exact Ir ks y (VG h) hy
theorem Ir: ∀(ts:List Tm) (y:Tm),Yw ts=true->y∈Q3 ts->Zf y=true
 | [],y,_,hy=>by simp[Q3]at hy
 | t:: ts,y,h,hy=>by
  simp only[Yw,Qu]at h;simp only[Q3,Zp]at hy;rcases hy with hy | hy
  ·exact Is t y h.1 hy
  ·exact Ir ts y h.2 hy
end
def VH:Zf Q7=true:=by simp[Q7,Zf,Yw]
def RO {n a} (b:Y2 n a.length=true) (h:Yw a=true):Zf (.mk 3 n 0 a)=true:=by simp[Zf,b,h]
def H1 {t} (h:Zf t=true) (i):Zf (kid t i)=true:=by
 unfold kid;rw[ZT];rcases a:t.kids[i]? with _ | x;simpa using VH;exact X9.1 (VG h) x (TD a)
def Vu (t i): (kid t i).mass<=t.mass:=by
 unfold kid;rw[ZT];have:=QL t;rcases a:t.kids[i]? with _ | x;simp[Q7,Tm.mass,Qw];omega;have:=QR (TD a);simp;omega
def QiV {a} (h:Yw a=true):Zf (Uv a).1=true:=by
 unfold Uv;split;exact VH;split;exact VH;have c: ∀y∈Ym [] a,Zf y=true:=fun y e=>by rcases K2 a [] y e with b | b;simp at b;exact Ir a y h b
 show Zf (tmX (Ym [] a))=true;match d:Ym [] a with | []=>simp[tmX,Zf,Yw,Y2,Yl,Zx,ENC,Zv,Zw,EXP,DEC,YI,Y1,PK,FST,SND,READ] | [p]=>simp only[tmX];exact c p (by rw[d];simp) | p:: q:: r=>simp only[tmX];refine RO (by simp[Y2,XOR,Zx,ENC,Zv,Zw,EXP,DEC,YI,Y1,PK,FST,SND,READ]) (X9.2 fun x f=>c x (by rwa[d]))
def Qi9 (a): (Uv a).1.mass<=13200:=by
 unfold Uv;split;simp[Q7,Tm.mass,Qw];split;simp[Q7,Tm.mass,Qw];rename_i h;exact(Xu (by simpa using h)).2.2
def Pr:Q7.mass=1:=by simp[Q7,Tm.mass,Qw]
def KG (l:Q9):Prop:=∀q∈l,Zf q.1=true
def Qd7 {l t m} (h:KG l) (b:Zf t=true):KG (XE l t m):=by
 intro q a;rcases SE a with a | rfl | ⟨_,_,rfl,_⟩;exact h q a;exact b;exact b
def Qqc: ∀t l m,KG l->Zf t=true->KG (Vh l t m):=by
 refine Yp ?_;intro k n s d e l m h c;have i: ∀(b:Qj) (l:Q9) (m:Int),(∀x∈b,x∈d)->KG l->KG (Wk l b m):=by intro b;induction b with | nil=>intro l m _ h;simpa[Wk]using h | cons x b g=>intro l m a h;simp only[Wk];exact g _ m (fun y f=>a y (by simp[f])) (e x (a x (by simp)) l m h ((X9.1 (VG c)) x (a x (by simp))))
 rw[Ug];split;exact i d l _ (fun x a=>a) h;exact Qd7 h c
def FL: ∀b a,KG a->KG b->KG (Vc a b)
 | [],a,h,_=>h
 | q:: b,a,h,c=>FL b _ (Qd7 h (c q (by simp))) fun x d=>c x (by simp[d])
def FM {t} (h:Zf t=true):KG (ofP t):=by
 unfold ofP;split;exact Qqc t [] 1 (fun q a=>by simp at a) h;intro q a;simp at a
def Qqd {a b} (c:KG a) (e:KG b):KG (WD a b):=by
 unfold WD;split;exact FL b a c e;intro q d;simp at d
def Nd:=@List.mem_flatten
def LH:=@List.eq_of_mem_replicate
def QiU {l} (h:KG l):Yw (YK l)=true:=by
 refine X9.2 fun x a=> ?_;simp only[YK,Vv,VW,Zp,Nd,YL]at a;rcases a with⟨_,⟨q,b,rfl⟩,a⟩ | ⟨_,⟨q,b,rfl⟩,a⟩;rw[LH a];exact h q b;rw[LH a];exact RO (by simp[Y2,INV,Zx,ENC,Zv,Zw,EXP,DEC,YI,Y1,PK,FST,SND,READ]) (by simp[Yw,h q b])
def Fz {l} (h:KG l):Zf (YT l).1=true:=by
 unfold YT;split;exact VH;split;exact VH;split;exact VH;have a:=QiU h;show Zf (YG (YK l))=true;match b:YK l with | []=>simp[YG,Zf,Yw,Y2,ONE,Zx,ENC,Zv,Zw,EXP,DEC,YI,Y1,PK,FST,SND,READ] | [p]=>simp only[YG];rw[b]at a;simpa[Yw]using a | p:: q:: r=>simp only[YG];rw[b]at a;exact RO (by simp[Y2,MUL,Zx,ENC,Zv,Zw,EXP,DEC,YI,Y1,PK,FST,SND,READ]) a
def FY (l): (YT l).1.mass<=13200:=by
 unfold YT;split;simp[Q7,Tm.mass,Qw];split;simp[Q7,Tm.mass,Qw];split;simp[Q7,Tm.mass,Qw];rename_i h;exact(Xu (by simpa using h)).2.2
def Ct {t} (h:Zf t=true):Zf (XZ t).1=true:=by
 unfold XZ;split;exact VH;exact Fz (FM h)
def Cw (t): (XZ t).1.mass<=13200:=by
 unfold XZ;split;simp[Q7,Tm.mass,Qw];exact FY _
def QdX {b p} (a:Zf b=true) (c:KG p):Zf (Ur b p).1=true/\(Ur b p).1.mass<=6+b.mass+13200:=by
 have d:=FY p;unfold Ur;split;exact⟨a,by simp;omega⟩;split;exact⟨VH,by show Q7.mass<=_;rw[Pr];omega⟩;exact⟨RO (by simp[Y2]) (by simp[Yw,a,Fz c]),by simp only[Tm.mass,Qw,EXP,Zu,Xc];omega⟩
def QqE {b e} (c:Zf b=true) (d:Zf e=true):Zf (WW b e).1=true/\(WW b e).1.mass<=6+b.mass+13200:=by
 have a:Zf Q7=true/\Q7.mass<=6+b.mass+13200:=⟨VH,by show Q7.mass<=_;rw[Pr];omega⟩;have h:=Vu b 0;unfold WW;split;exact a;split;split;exact a;split;exact a;obtain⟨f,g⟩:=QdX (H1 c 0) (Qqd (FM (H1 c 1)) (FM d));exact⟨f,by omega⟩;exact QdX c (FM d)
def Qlu {n a} (d:Y2 n a.length=true) (h:Yw a=true):Zf (Zj n a)=true/\(Zj n a).mass<=1+n.length+a.length+Qw a:=by
 have c:Zf (a.getD 0 Q7)=true/\(a.getD 0 Q7).mass<=1+Qw a:=by rcases a with _ | ⟨x,r⟩;exact⟨VH,by simp[Q7,Tm.mass,Qw]⟩;simp only[Yw,Qu]at h;exact⟨h.1,by simp[Qw];omega⟩
 have b: ∀i,Zf (kid (a.getD 0 Q7) i)=true/\(kid (a.getD 0 Q7) i).mass<=1+n.length+a.length+Qw a:=fun i=>⟨H1 c.1 i,by have:=Vu (a.getD 0 Q7) i;omega⟩;simp only[Zj];repeat' split
 all_goals first | exact(⟨RO d h,by simp[Tm.mass]⟩) | exact b _
def XK (n:Yi) (us:Qj):Tm×Int:=
 if Tj n then(Zj n us,0)else if n=XOR then Uv us else if n=MUL\/n=INV\/n=ONE then XZ (.mk 3 n 0 us)
 else if n=EXP then WW (us.getD 0 Q7) (us.getD 1 Q7)else(.mk 3 n 0 us,0)
mutual
def Z8:Tm->Tm×Int
 | .mk k n s ks=>if k=3 then(if(Xg ks).2=0 then XK n (Xg ks).1 else(Q7,(Xg ks).2))else(.mk k n s ks,0)
def Xg:List Tm->List Tm×Int
 | []=>([],0)
 | t:: ts=>if(Z8 t).2=0 then(if(Xg ts).2=0 then((Z8 t).1:: (Xg ts).1,0)else([],(Xg ts).2))else([],(Z8 t).2)
end
def QlU {n a} (b:Y2 n a.length=true) (h:Yw a=true):Zf (XK n a).1=true/\(XK n a).1.mass<=1+n.length+a.length+Qw a+13200:=by
 unfold XK;split;obtain⟨g,c⟩:=Qlu b h;exact⟨g,by simp;omega⟩;split;exact⟨QiV h,by have:=Qi9 a;omega⟩;split;exact⟨Ct (RO b h),by have:=Cw (.mk 3 n 0 a);omega⟩;split;rename_i d;subst d;have c:a.length=2:=by simpa[Y2]using b
 match a,c,h with | [x,y],_,h=>simp only[Yw,Qu]at h;obtain⟨e,f⟩:=QqE h.1 h.2.1;exact⟨e,by simp only[Qw,EXP,Zu,Xc]at *;simp at f ⊢;omega⟩
 exact⟨RO b h,by simp[Tm.mass]⟩
mutual
theorem MD: ∀t:Tm,Zf t=true->Zf (Z8 t).1=true/\(Z8 t).1.mass<=t.mass+13200*t.nodes
 | .mk k n s ks,h=>by
  have hk:=Qa4 ks (VG h);simp only[Z8];split
  ·rename_i hk3;subst hk3;split
   ·rename_i h2;obtain⟨h3,h4,h5⟩:=hk;have h5:=h5 h2;have har:=(U2 h rfl).2;simp only[Yy,ZJ]at har;obtain⟨h6,h7⟩:=QlU (by rw[h5];exact har) h3;exact⟨h6,by simp only[Tm.mass,Tm.nodes];rw[h5]at h7;omega⟩
   ·exact⟨VH,by show Q7.mass<=_;rw[Pr];simp only[Tm.mass];omega⟩
  ·exact⟨h,Nat.le_add_right _ _⟩
theorem Qa4: ∀ts:List Tm,Yw ts=true->Yw (Xg ts).1=true/\Qw (Xg ts).1<=Qw ts+13200*Qp ts/\((Xg ts).2=0->(Xg ts).1.length=ts.length)
 | [],_=>by simp[Xg,Yw,Qw]
 | t:: ts,h=>by
  simp only[Yw,Qu]at h;obtain⟨a1,a2⟩:=MD t h.1;obtain⟨b1,b2,b3⟩:=Qa4 ts h.2;simp only[Xg];split
  ·split
   ·rename_i h2;refine⟨by simp[Yw,a1,b1],by simp only[Qw,Qp];omega,fun _=>by simp[b3 h2]⟩
   ·rename_i h2;exact⟨rfl,by simp[Qw],fun e=>absurd e h2⟩
  ·rename_i h2;exact⟨rfl,by simp[Qw],fun e=>absurd e h2⟩
end
def NO {x}: ∀{a},x∈a->x.nodes<=Qp a
 | [],h=>by cases h
 | t:: b,h=>by
  simp only[Qp];rcases Zl.1 h with rfl | h;omega;have:=NO h;omega
def M1 {n} (h:Tj n=true): (n=FST\/n=SND\/n=READ)\/(n=DEC\/n=YI\/n=Y1):=by
 simp only[Tj,Wo,Tp]at h;rcases h with((((h | h) | h) | h) | h) | h <;> simp[h]
def QnW {n c} (f) (j:Tj n=true) (i:Y2 n c.length=true) (d:Yw c=true) (e:Qw c < 20000000):call tb 176 [.agg (Qd (.mk 3 n 0 c))] f=some (.agg (Qd (Zj n c)),f):=by
 rcases M1 j with h | h;have g:c.length=1:=by rcases h with rfl | rfl | rfl <;> simpa[Y2,PK,Zx,ENC,Zv,Zw,EXP,DEC,YI,Y1,FST,SND,READ]using i
 obtain⟨a,rfl⟩:=JA.1 g;simp only[Yw,Qu]at d;simp only[Qw]at e;exact Qlv n a f h d.1 (by unfold big;omega);have g:c.length=2:=by rcases h with rfl | rfl | rfl <;> simpa[Y2]using i
 match c,g,d,e with | [a,b],_,d,e=>simp only[Yw,Qu]at d;simp only[Qw]at e;exact Qlw n a b f h d.1 d.2.1 (by unfold big;omega) (by unfold big;omega)
def Qoa {n c} (f) (j:Tj n=true) (i:Y2 n c.length=true) (d:Yw c=true) (e:Qw c < 20000000):QkF (Zj n c) f (call tb 243 [.agg (Qd (.mk 3 n 0 c))] f):=by
 rcases M1 j with h | h;have g:c.length=1:=by rcases h with rfl | rfl | rfl <;> simpa[Y2,PK,Zx,ENC,Zv,Zw,EXP,DEC,YI,Y1,FST,SND,READ]using i
 obtain⟨a,rfl⟩:=JA.1 g;simp only[Yw,Qu]at d;simp only[Qw]at e;exact Qh3 n a f h d.1 (by unfold big;omega);have g:c.length=2:=by rcases h with rfl | rfl | rfl <;> simpa[Y2]using i
 match c,g,d,e with | [a,b],_,d,e=>simp only[Yw,Qu]at d;simp only[Qw]at e;exact Qh4 n a b f h d.1 (by unfold big;omega) (by unfold big;omega)
def MX (us:Qj) (n:Yi):Prop:=Qw us+n.length+us.length < 15000000
def Af:=@List.getD_cons_succ
set_option maxHeartbeats 2000000 in
def Qqn (t a k) (v:Y2 t.name a.length=true) (p:Yw a=true) (o:MX a t.name) (s) (h:s 1= .bx (Qd t)) (g:s 2= .bx [.int .i64 0,.str [],.int .i64 0,.sl true 4 []])
  (d:s 4= .bx [.int .i64 3,.str t.name,.int .i64 0,.sl true 4 (Qa a)]):R tb f175r0 s k (QA f175 k)=some (ZB (XK t.name a),k):=by
 unfold MX at o;have z:=SG 3 t.name 0 a;have O:=ZL a;obtain⟨n,f⟩: ∃n,t.name=n:=⟨_,rfl⟩;rw[f]at v o d z ⊢;cases l:Tj n;have q:=l;simp only[Tj,Ad]at q;obtain⟨⟨⟨⟨⟨J,M⟩,N⟩,K⟩,A⟩,G⟩:=q;simp only[FST,SND,DEC,YI,Y1,READ]at J M N K A G;by_cases m:n=XOR;subst m;have e:XK XOR a=Uv a:=by simp[XK,l]
 have b:=Qlh a false k (by omega) (by omega);rw[e];simp only[ZB]at b ⊢;simp only[XOR]at *;simp[f175r0,h,g,d,f,b];by_cases i:n=MUL\/n=INV\/n=ONE;have e:XK n a=XZ (.mk 3 n 0 a):=by simp only[XK,l,m,i,QU,ZM];simp
 have u: (Tm.mk 3 n 0 a).mass < 20000000:=by simp only[Tm.mass];omega
 have b:=R4 (.mk 3 n 0 a) k (by omega);have j:=HJ false k (MA (.mk 3 n 0 a) 25000000 (by omega)) (VR _);rw[<- z]at b;rw[e];by_cases c:ofE (.mk 3 n 0 a)=0;have w:XZ (.mk 3 n 0 a)=YT (ofP (.mk 3 n 0 a)):=by simp[XZ,c]
 rw[w];simp only[ZB]at j ⊢;rw[c]at b;generalize ofP (.mk 3 n 0 a)=P at *;rcases i with rfl | rfl | rfl;simp only[MUL]at *;simp[f175r0,h,g,d,f,b,j];simp only[INV]at *;simp[f175r0,h,g,d,f,b,j];simp only[ONE]at *;simp[f175r0,h,g,d,f,b,j];have w:XZ (.mk 3 n 0 a)=(Q7,ofE (.mk 3 n 0 a)):=by simp[XZ,c]
 rw[w];generalize ofE (.mk 3 n 0 a)=E at *;generalize ofP (.mk 3 n 0 a)=P at *;rcases i with rfl | rfl | rfl;simp only[MUL]at *;simp[f175r0,h,g,d,f,b,c,ZG,Zi];simp only[INV]at *;simp[f175r0,h,g,d,f,b,c,ZG,Zi];simp only[ONE]at *;simp[f175r0,h,g,d,f,b,c,ZG,Zi];by_cases r:n=EXP;have e:XK n a=WW (a.getD 0 Q7) (a.getD 1 Q7):=by subst r;simp only[XK,l,Qe m,Qe i];simp
 subst r;have Q:a.length=2:=by simpa[Y2]using v
 match a,Q,p,o,d,e with | [x,y],_,p,o,d,e=>simp only[Yw,Qu]at p;simp only[Qw]at o;have b:=Qn1 x y k p.1 (by omega) (by omega);rw[e];simp only[ZB]at b ⊢;simp only[List.getD_cons_zero,Af]at *;simp only[EXP]at *;simp[f175r0,h,g,d,f,b]
 have e:XK n a=(.mk 3 n 0 a,0):=by simp only[XK,l,m,i,r,ZM];simp
 rw[e];have L: (n == XOR)=false:=by simpa using m
 have C: (n == MUL)=false:=by simp at i ⊢;exact i.1
 have B: (n == INV)=false:=by simp at i ⊢;exact i.2.1
 have H: (n == ONE)=false:=by simp at i ⊢;exact i.2.2
 have I: (n == EXP)=false:=by simpa using r
 simp only[XOR,MUL,INV,ONE,EXP]at L C B H I;simp[f175r0,h,g,d,f,J,M,N,K,A,G,L,C,B,H,I,ZG,ZN];have e:XK n a=(Zj n a,0):=by simp[XK,l]
 have b:=QnW k l v p (by omega);rw[<- z]at b;rw[e];generalize Zj n a=D at *;rcases M1 l with(rfl | rfl | rfl) | (rfl | rfl | rfl);simp only[FST]at *;simp[f175r0,h,g,d,f,b,ZG];simp only[SND]at *;simp[f175r0,h,g,d,f,b,ZG];simp only[READ]at *;simp[f175r0,h,g,d,f,b,ZG];simp only[DEC]at *;simp[f175r0,h,g,d,f,b,ZG];simp only[YI]at *;simp[f175r0,h,g,d,f,b,ZG];simp only[Y1]at *;simp[f175r0,h,g,d,f,b,ZG]
def VS (n:Yi) (us:Qj) (r:Qj×Int):Tm×Int:=if r.2=0 then XK n (us ++ r.1)else(Q7,r.2)
def Qjd (t k) (A:Zf t=true) (v:t.kind=3) (M:t.mass+13200*t.nodes < 15000000) (I: ∀x∈t.kids,∀k,call tb 175 [.agg (Qd x)] k=some (ZB (Z8 x),k)):
  ∀a b d i,t.kids=b ++ a->d.length=b.length->Yw d=true->Qw d<=Qw b+13200*Qp b->i 1= .bx (Qd t)->i 2= .bx [.int .i64 0,.str [],.int .i64 0,.sl true 4 []]->
   i 4= .bx [.int .i64 3,.str t.name,.int .i64 0,.sl true 4 (Qa d)]->i 19= .sl false 4 (Qa t.kids)->i 20= .int .i64 t.kids.length->i 21= .int .i64 b.length->
  R tb (.loop f175l0) i k (Qh 0 (Qs tb f175r0 (QA f175 k)))=some (ZB (VS t.name d (Xg a)),k):=by
 have E:=QL t;have D:=WE t;intro a;induction a with | nil=>intro b d i j u l o w q s g h f;simp only[Qy]at j;rw[<- j]at f u o;have J:=(U2 A v).2;(have e:VS t.name d (Xg [])=XK t.name d:=by simp[VS,Xg]);rw[Qb f175l0.eq_1,e];simp[g,h,f];apply(Qqn t d k (by rwa[u]) l (by unfold MX;omega)) <;> simp[w,q,s] | cons x a C=>intro b d i j u l o w q s g h f;have r:=Qv j;have K:=QD j;have p:=QF j;(have n:x∈t.kids:=by rw[j];simp);have z:=I x n k;obtain⟨G,L⟩:=MD x (X9.1 (VG A) x n);simp only[ZB]at z;rw[Qb f175l0.eq_1];by_cases c: (Z8 x).2=0;(have e:VS t.name d (Xg (x:: a))=VS t.name (d ++ [(Z8 x).1]) (Xg a):=by simp only[VS,Xg,c,QU];by_cases B: (Xg a).2=0;simp[B];simp[B]);have H: (d.length+1)*56<=140737488355328:=X7 (by omega);rw[e];simp[q,s,g,h,f,r,p,(wr1 b.length (by omega)),z,c,H,ZH,QQ];apply(fun i=>C (b ++ [x]) (d ++ [(Z8 x).1]) i (by rw[j];simp) (by simp[u]) (X9.2 fun y m=>by rcases Zp.1 m with m | m;exact X9.1 l y m;simp at m;subst m;exact G) (by rw[Y3,Y3,ZK];simp only[Qw,Qp];omega)) <;> simp[w,q,g,h];(have e:VS t.name d (Xg (x:: a))=(Q7,(Z8 x).2):=by simp[VS,Xg,c]);rw[e];simp[q,s,g,h,f,r,p,z,c,ZG,Zi]
def QnV: ∀t b,Zf t=true->t.mass+13200*t.nodes < 15000000->call tb 175 [.agg (Qd t)] b=some (ZB (Z8 t),b):=by
 refine Yp ?_;intro k n s a j b h l;have g:=QL (.mk k n s a);have f:=WE (.mk k n s a);simp only[ZJ,Yy]at g f;rw[zcc 175 rfl rfl];by_cases d:k=3;subst d;have i:=fun m=>Qjd (.mk 3 n s a) b h rfl l (fun x c b=>j x c b (X9.1 (VG h) x c) (by have o:x.mass<=Qw a:=QR c;have p:x.nodes<=Qp a:=NO c;omega)) a [] [] m rfl rfl rfl (by simp[Qw]);have e:Z8 (.mk 3 n s a)=VS n [] (Xg a):=by simp[Z8,VS]
 rw[e];simp only[Yy,ZJ]at i;simp[f175C];apply i <;> simp[Qa];have e:Z8 (.mk k n s a)=(.mk k n s a,0):=by simp[Z8,d]
 rw[e];simp[f175C,d,ZG]
def Hr {n}: ∀{l y},YU n l=some y->y∈l/\y.n=n
 | [],y,h=>by simp[YU]at h
 | s:: d,y,h=>by
  simp only[YU]at h;split at h;rename_i a;cases h;exact⟨by simp,a⟩;obtain⟨c,b⟩:=Hr h;exact⟨by simp[c],b⟩
def QmW:WX.all (fun y=> !(y.k == 3) || Tj y.n)=true:=by decide
def OT (n:Yi):Int:=match YU n WX with | some y=>y.k | none=>0
def Qf2 (n):decide (OT n=3)=Tj n:=by
 unfold OT;cases a:Tj n;rcases d:YU n WX with _ | y;simp;obtain⟨e,c⟩:=Hr d;have b:=Wc.1 QmW y e;rw[c,a]at b;simpa using b;rcases M1 a with(rfl | rfl | rfl) | (rfl | rfl | rfl) <;> simp[FST,SND,DEC,YI,Y1,READ,YU,WX]
def QcV (n a):call tb 128 [.str n] a=some (.int .i64 (OT n),a):=Ds n a
set_option maxHeartbeats 4000000 in
def QkM (t c k) (z:Y2 t.name c.length=true) (s:Yw c=true) (r:MX c t.name) (v) (o:v 1= .bx (Qd t)) (p:v 2= .bx [.int .i64 0,.str [],.int .i64 0,.sl true 4 []])
  (j:v 4= .sl true 4 (Qa c)):R tb f242r0 v k (QA f242 k)=some (ZB (XK t.name c),k):=by
 unfold MX at r;obtain⟨n,l⟩: ∃n,t.name=n:=⟨_,rfl⟩;rw[l]at z r ⊢;have d:=R3 n c false k (by omega);have f:=QcV n k;have i:=Qf2 n;cases m:Tj n;rw[m]at i;have a: ¬OT n=3:=by simpa using i
 generalize OT n=I at *;by_cases q:n=XOR;subst q;have e:XK XOR c=Uv c:=by simp[XK,m]
 have g:=Qfp c false k (by omega) (by omega);rw[e];simp only[ZB]at g ⊢;simp only[XOR]at *;simp[f242r0,o,p,j,l,d,f,a,g];have A: (n == XOR)=false:=by simpa using q
 simp only[XOR]at A;by_cases h:n=MUL\/n=INV\/n=ONE;have e:XK n c=XZ (.mk 3 n 0 c):=by simp only[XK,m,q,h,QU,ZM];simp
 have w: (Tm.mk 3 n 0 c).mass < 20000000:=by simp only[Tm.mass];omega
 have g:=Qob (.mk 3 n 0 c) k (by omega);rw[e];simp only[ZB]at g ⊢;generalize XZ (.mk 3 n 0 c)=P at *;rcases h with rfl | rfl | rfl;simp only[MUL]at *;simp[f242r0,o,p,j,l,d,f,a,g];simp only[INV]at *;simp[f242r0,o,p,j,l,d,f,a,g];simp only[ONE]at *;simp[f242r0,o,p,j,l,d,f,a,g];by_cases u:n=EXP;have e:XK n c=WW (c.getD 0 Q7) (c.getD 1 Q7):=by subst u;simp only[XK,m,Qe q,Qe h];simp
 subst u;have H:c.length=2:=by simpa[Y2]using z
 match c,H,s,r,j,e,d with | [x,y],_,s,r,j,e,d=>simp only[Yw,Qu]at s;simp only[Qw]at r;have g:=Qof x y k s.1 (by omega) (by omega);rw[e];simp only[ZB]at g ⊢;simp only[List.getD_cons_zero,Af]at *;simp only[EXP]at *;simp[f242r0,o,p,j,l,d,f,a,g]
 have e:XK n c=(.mk 3 n 0 c,0):=by simp only[XK,m,q,h,u,ZM];simp
 rw[e];have G: (n == MUL)=false:=by simp at h ⊢;exact h.1
 have E: (n == INV)=false:=by simp at h ⊢;exact h.2.1
 have C: (n == ONE)=false:=by simp at h ⊢;exact h.2.2
 have B: (n == EXP)=false:=by simpa using u
 simp only[MUL,INV,ONE,EXP]at G E C B;simp[f242r0,o,p,j,l,d,f,a,A,G,E,C,B,ZG];rw[m]at i;have a:OT n=3:=by simpa using i
 rw[a]at f;have e:XK n c=(Zj n c,0):=by simp[XK,m]
 obtain⟨b,g⟩:=Qoa k m z s (by omega);rw[e];generalize Zj n c=D at *;simp[f242r0,o,p,j,l,d,f,g,ZG]
def Qfe (t g) (w:Zf t=true) (u:t.kind=3) (K:t.mass+13200*t.nodes < 15000000) (H: ∀x∈t.kids,∀g,call tb 242 [.agg (Qd x)] g=some (ZB (Z8 x),g)):
  ∀a b d f,t.kids=b ++ a->d.length=b.length->Yw d=true->Qw d<=Qw b+13200*Qp b->f 1= .bx (Qd t)->f 2= .bx [.int .i64 0,.str [],.int .i64 0,.sl true 4 []]->
   f 4= .sl true 4 (Qa d)->f 5= .int .i64 b.length->
  R tb (.loop f242l0) f g (Qh 0 (Qs tb f242r0 (QA f242 g)))=some (ZB (VS t.name d (Xg a)),g):=by
 have D:=QL t;have C:=WE t;intro a;induction a with | nil=>intro b d f h s i o k p r l;simp only[Qy]at h;rw[<- h]at l s o;have I:=(U2 w u).2;(have e:VS t.name d (Xg [])=XK t.name d:=by simp[VS,Xg]);rw[Qb f242l0.eq_1,e];simp[k,l];apply(QkM t d g (by rwa[s]) i (by unfold MX;omega)) <;> simp[k,p,r] | cons x a A=>intro b d f h s i o k p r l;have m:=Qv h;have G:=QD h;have q:=QF h;(have n:x∈t.kids:=by rw[h];simp);have v:=H x n g;obtain⟨E,J⟩:=MD x (X9.1 (VG w) x n);simp only[ZB]at v;rw[Qb f242l0.eq_1];by_cases c: (Z8 x).2=0;(have e:VS t.name d (Xg (x:: a))=VS t.name (d ++ [(Z8 x).1]) (Xg a):=by simp only[VS,Xg,c,QU];by_cases z: (Xg a).2=0;simp[z];simp[z]);have B: (d.length+1)*56<=140737488355328:=X7 (by omega);rw[e];simp[k,p,r,l,m,q,(wr1 b.length (by omega)),v,c,B,ZH,QQ];apply(fun f=>A (b ++ [x]) (d ++ [(Z8 x).1]) f (by rw[h];simp) (by simp[s]) (X9.2 fun y j=>by rcases Zp.1 j with j | j;exact X9.1 i y j;simp at j;subst j;exact E) (by rw[Y3,Y3,ZK];simp only[Qw,Qp];omega)) <;> simp[k,p];(have e:VS t.name d (Xg (x:: a))=(Q7,(Z8 x).2):=by simp[VS,Xg,c]);rw[e];simp[k,p,r,l,m,q,v,c,ZG,Zi]
def Qn9: ∀t b,Zf t=true->t.mass+13200*t.nodes < 15000000->call tb 242 [.agg (Qd t)] b=some (ZB (Z8 t),b):=by
 refine Yp ?_;intro k n s a j b h l;have g:=QL (.mk k n s a);have f:=WE (.mk k n s a);simp only[ZJ,Yy]at g f;rw[zcc 242 rfl rfl];by_cases d:k=3;subst d;have i:=fun m=>Qfe (.mk 3 n s a) b h rfl l (fun x c b=>j x c b (X9.1 (VG h) x c) (by have o:x.mass<=Qw a:=QR c;have p:x.nodes<=Qp a:=NO c;omega)) a [] [] m rfl rfl rfl (by simp[Qw]);have e:Z8 (.mk 3 n s a)=VS n [] (Xg a):=by simp[Z8,VS]
 rw[e];simp only[Yy]at i;simp[f242C];apply i <;> simp[Qa];have e:Z8 (.mk k n s a)=(.mk k n s a,0):=by simp[Z8,d]
 rw[e];simp[f242C,d,ZG]
def YY (t:Tm):Tm×Int:=if thV t≠0 then(Q7,thV t)else if(Z8 t).2≠0 then(Q7,(Z8 t).2)else if QZ (Z8 t).1≠0 then(Q7,QZ (Z8 t).1)else((Z8 t).1,0)
def Hl {t} (h:thV t=0):QZ t=0/\Wy t=0/\Zf t=true/\t.mass<=13200/\t.nodes<=400:=by
 unfold thV at h;split at h;rename_i d;exact absurd h d;rename_i d;have e:QZ t=0:=by simpa using d
 obtain⟨a,b,c⟩:=Xu e;exact⟨e,h,FA t a h,c,b⟩
def KP (t): (YY t).1.mass<=13200:=by
 unfold YY;split;show Q7.mass<=_;rw[Pr];omega;split;show Q7.mass<=_;rw[Pr];omega;split;show Q7.mass<=_;rw[Pr];omega;rename_i h;exact(Xu (by simpa using h)).2.2
def QnU (t c) (k:t.mass < big):call tb 174 [.agg (Qd t)] c=some (ZB (YY t),c):=by
 have d:=Mt t c k;rw[zcc 174 rfl rfl];by_cases a:thV t=0;obtain⟨_,_,h,j,l⟩:=Hl a;have g:=QnV t c h (by omega);obtain⟨m,n⟩:=MD t h;have i:=TJ (Z8 t).1 c (by unfold big;omega);simp only[ZB]at g;by_cases b: (Z8 t).2=0;by_cases f:QZ (Z8 t).1=0;have e:YY t=((Z8 t).1,0):=by simp[YY,a,b,f]
 rw[e];simp[f174C,d,g,i,a,b,f,ZG];have e:YY t=(Q7,QZ (Z8 t).1):=by simp[YY,a,b,f]
 rw[e];simp[f174C,d,g,i,a,b,f,ZG,Zi];have e:YY t=(Q7,(Z8 t).2):=by simp[YY,a,b]
 rw[e];simp[f174C,d,g,a,b,ZG,Zi];have e:YY t=(Q7,thV t):=by simp[YY,a]
 rw[e];simp[f174C,d,a,ZG,Zi]
def Qc2 (t c) (k:t.mass < big):call tb 241 [.agg (Qd t)] c=some (ZB (YY t),c):=by
 have d:=Mr t c k;rw[zcc 241 rfl rfl];by_cases a:thV t=0;obtain⟨_,_,h,j,l⟩:=Hl a;have g:=Qn9 t c h (by omega);obtain⟨m,n⟩:=MD t h;have i:=W3 (Z8 t).1 c (by unfold big;omega);simp only[ZB]at g;by_cases b: (Z8 t).2=0;by_cases f:QZ (Z8 t).1=0;have e:YY t=((Z8 t).1,0):=by simp[YY,a,b,f]
 rw[e];simp[f241C,d,g,i,a,b,f,ZG];have e:YY t=(Q7,QZ (Z8 t).1):=by simp[YY,a,b,f]
 rw[e];simp[f241C,d,g,i,a,b,f,ZG,Zi];have e:YY t=(Q7,(Z8 t).2):=by simp[YY,a,b]
 rw[e];simp[f241C,d,g,a,b,ZG,Zi];have e:YY t=(Q7,thV t):=by simp[YY,a]
 rw[e];simp[f241C,d,a,ZG,Zi]
def Qn5 (n a):call tb 206 [.str n] a=some (.bool (!Tj n),a):=by
 have h:=VA n a;rw[zcc 206 rfl rfl,<- (Qf2 n)];unfold OT;rcases b:YU n WX with _ | y;rw[b]at h;simp[f206C,h];rw[b]at h;simp[f206C,h,UG]
def ndN (t:Tm):Bool:= !(decide (t.kind=3) && Tj t.name)
mutual
def evT:Tm->Bool
 | .mk k n s ks=>ndN (.mk k n s ks) && evL ks
def evL:List Tm->Bool
 | []=>true
 | t:: ts=>evT t && evL ts
end
def QtO (t):evT t=(ndN t && evL t.kids):=by cases t;simp[evT]
mutual
theorem QdS: ∀t:Tm,evT t=(Zs t).all ndN
 | .mk k n s ks=>by simp only[evT,Zs,Tl,QdR ks]
theorem QdR: ∀ts:List Tm,evL ts=(Q3 ts).all ndN
 | []=>rfl
 | t:: ts=>by simp only[evL,Q3,JL,QdS t,QdR ts]
end
def QfN (t:Tm) (h) (p:t.mass < big) (q: ∀x∈t.kids,∀h,call tb 207 [.agg (Qd x),.fn 206 []] h=some (.bool (evT x),h)):
  ∀a b f,t.kids=b ++ a->f 1= .fn 206 []->f 18= .sl false 4 (Qa t.kids)->f 19= .int .i64 t.kids.length->f 20= .int .i64 b.length->
  R tb (.loop f207l0) f h (Qh 0 (Qs tb f207r0 (QA f207 h)))=some (.bool (evL a),h):=by
 have r:=QL t;unfold big at p;intro a;induction a with | nil=>intro b f g j d e c;simp only[Qy]at g;rw[<- g]at c;rw[Qb f207l0.eq_1];simp[d,e,c,f207r0,evL] | cons x a n=>intro b f g j d e c;have k:=Qv g;have o:=QD g;have i:=QF g;have l:=q x (by rw[g];simp) h;rw[Qb f207l0.eq_1];cases m:evT x;simp[j,d,e,c,k,i,l,m,evL];simp[j,d,e,c,k,i,(wr1 b.length (by omega)),l,m,evL];apply(fun f=>n (b ++ [x]) f (by rw[g];simp)) <;> simp[j,d,e]
def Qn6: ∀t a,t.mass < big->call tb 207 [.agg (Qd t),.fn 206 []] a=some (.bool (evT t),a):=by
 refine Yp ?_;intro k n s b j a i;have f:=fun l=>QfN (.mk k n s b) a i (fun x g a=>j x g a (by have m:x.mass<=Qw b:=QR g;have:=QL (.mk k n s b);simp only[ZJ]at this;omega)) b [] l rfl;have h:=Qn5 n a;simp only[ZJ]at f;rw[zcc 207 rfl rfl,QtO];by_cases c:k=3;cases d:Tj n;have e:ndN (.mk k n s b)=true:=by simp[ndN,d]
 rw[e];simp[f207C,c,d,h];apply f <;> simp;have e:ndN (.mk k n s b)=false:=by simp[ndN,d,c]
 rw[e];simp[f207C,c,d,h];have e:ndN (.mk k n s b)=true:=by simp[ndN,c]
 rw[e];simp[f207C,c];apply f <;> simp
def Tu (t:Tm):Bool:=decide ((YY t).2=0) && decide (Qo (YY t).1 t=0) && evT t
def QnT (t a) (c:t.mass < big):call tb 173 [.agg (Qd t)] a=some (.bool (Tu t),a):=by
 have b:=QnU t a c;have g:=KP t;have e:=I0 (YY t).1 t a (by unfold big;omega) c;simp only[ZB]at b;rw[zcc 173 rfl rfl];by_cases d: (YY t).2=0;by_cases f:Qo (YY t).1 t=0;simp[f173C,b,e,(Qn6 t a c),d,f,Tu];simp[f173C,b,e,d,f,Tu];simp[f173C,b,d,Tu]
def Mk:=@Bool.false_and
def Qb1 (l p) (w:l.length < 100000000): ∀a b o h,l=b ++ a->h 5= .sl o 4 (Qa l)->h 6= .int .i64 b.length->
  R tb (.loop f240l0) h p (Qh 0 (Qs tb f240r0 (QA f240 p)))=some (.bool (a.all ndN),p):=by
 intro a;induction a with | nil=>intro b o h g f j;simp only[Qy]at g;rw[<- g]at j;rw[Qb f240l0.eq_1];simp[f,j,f240r0] | cons x a u=>intro b o h g f j;have q:=Qv g;have t:=QD g;have k:=wr1 b.length (by omega);have i:=QF g;have r:=QcV x.name p;have d:=Qf2 x.name;have s:=fun h=>u (b ++ [x]) o h (by rw[g];simp);rw[Tl];rw[Qb f240l0.eq_1];by_cases m:x.kind=3;cases n:Tj x.name;rw[n]at d;(have c: ¬OT x.name=3:=by simpa using d);(have e:ndN x=true:=by simp[ndN,n]);rw[e,V4];generalize OT x.name=v at *;simp[f,j,q,i,k,r,m,c,-List.all_eq_true];apply s <;> simp[f];rw[n]at d;(have c:OT x.name=3:=by simpa using d);(have e:ndN x=false:=by simp[ndN,n,m]);rw[e,Mk];simp[f,j,q,i,r,m,c];(have e:ndN x=true:=by simp[ndN,m]);rw[e,V4];simp[f,j,q,i,k,m,-List.all_eq_true];apply s <;> simp[f]
def JI:=@decide_eq_decide
def Qc1 (t a) (m:t.mass < 1000000):call tb 240 [.agg (Qd t)] a=some (.bool (Tu t),a):=by
 have b:t.mass < big:=by unfold big;omega
 have d:=Qc2 t a b;have k:=KP t;have g:=W2 t (YY t).1 a b (by unfold big;omega);have c:decide (Qo t (YY t).1=0)=decide (Qo (YY t).1 t=0):=by have:=XU t (YY t).1;rw[JI];omega
 rw[c]at g;have h:=Tc t;have j:=Yu t;simp only[ZB]at d;rw[zcc 240 rfl rfl];have e:Tu t=(decide ((YY t).2=0) && decide (Qo (YY t).1 t=0) && (Zs t).all ndN):=by rw[<- QdS];rfl
 rw[e];by_cases f: (YY t).2=0;by_cases i:Qo (YY t).1 t=0;simp[f240C,d,g,(HM t a (by omega)),f,i,-List.all_eq_true];refine(fun o l=>Qb1 (Zs t) a (by omega) (Zs t) [] o l rfl) false _ ?_ ?_ <;> simp;simp[f240C,d,g,f,i];simp[f240C,d,f]
def Td (c:UInt8):Bool:=decide (48<=c.toNat) && decide (c.toNat<=57)
def Oi:Yi:=[48,49,50,51,52,53,54,55,56,57]
def Qlx: ∀d:Fin 256,Oi.contains (UInt8.ofNat d.val)=Td (UInt8.ofNat d.val):=by decide
def Qly (c):Oi.contains c=Td c:=by
 have h:=Qlx ⟨c.toNat,c.toNat_lt⟩;simp only[UInt8.ofNat_toNat]at h;exact h
def Fq {p}: ∀{l:Yi},l.dropWhile p=[]↔∀x∈l,p x=true
 | []=>by simp
 | a:: l=>by
  rw[List.dropWhile_cons];cases h:p a;simp[h];simp[h,Fq (l:=l)]
def Qm2 (s): (Lib.trimS s Oi == [])=s.all Td:=by
 have g: (fun b=>Oi.contains b)=Td:=funext Qly;cases i:s.all Td;have c:Lib.trimS s Oi≠[]:=by intro e;unfold Lib.trimS Lib.trimLeftS Lib.trimRightS at e;rw[g]at e;rcases a:s.reverse.dropWhile Td with _ | ⟨x,r⟩;have f:=Fq.1 a;have:s.all Td=true:=Wc.2 fun x d=>f x (by simpa using d);rw[i]at this;cases this;(have f:Td x=false:=by have:=List.head_dropWhile_not Td (l:=s.reverse) (by rw[a];simp);simpa[a]using this);have h:=(Fq.1 e) x (by rw[a];simp);rw[f]at h;cases h
 simpa using c;have:Lib.trimS s Oi=[]:=by unfold Lib.trimS Lib.trimLeftS Lib.trimRightS;rw[g];have:s.reverse.dropWhile Td=[]:=Fq.2 fun x d=>Wc.1 i x (by simpa using d);rw[this];rfl
 simp[this]
def SO (s:Yi):Bool:=match s with
 | 101:: 35:: c:: r=>(c:: r).all Td
 | _=>false
def X0 (t:Tm):Bool:=
 if t.kind=3 then(t.name == Yl || t.name == ONE) && decide (t.kids.length=0)
 else if t.kind=2 then(if t.sort=1\/t.sort=5 then true else if t.sort=4 then t.name == [103] || SO t.name else if t.sort=0\/t.sort=2\/t.sort=3 then SO t.name else false)
 else false
def Qao (s:Yi):Bool:= !(s == []) && s.all Td
def QnS (s a) (e:s.length < 4294967281):call tb 163 [.str s] a=some (.bool (Qao s),a):=by
 have c:call tb 164 [.str s,.str Oi] a=some (.str (Lib.trimS s Oi),a):=by rw[Y9 tb_164];(have f: (Oi.all (· < 128) && decide (s.length < 4294967281) && decide (Oi.length < 4294967281))=true:=by rw[show Oi.all (· < 128)=true from by decide];simp[e,Oi]);simp only[UL,Ei,f,QU];rfl
 have b:=Qm2 s;rw[zcc 163 rfl rfl];simp only[Oi]at c b;cases d:s == [];simp[f163C,c,b,d,Qao,-List.all_eq_true];simp[f163C,d,Qao,-List.all_eq_true]
def UF (s:Yi):Bool:=decide (2<=s.length) && (s.take 2 == [101,35])
def Qto (s b):call tb 75 [.str s,.str [101,35]] b=some (.bool (UF s),b):=by
 rw[zcc 75 rfl rfl];by_cases h:2<=s.length;have a: (2:Int)<=(s.length:Int):=by omega
 simp[f75C,UF,h,a];have a: ¬(2:Int)<=(s.length:Int):=by omega
 simp[f75C,UF,h,a]
def Qtn (s a):call tb 73 [.str s,.str [101,35]] a=some (.tup [.str (if UF s then s.drop 2 else s),.bool (UF s)],a):=by
 have d:=Qto s a;have e:call tb 74 [.str s,.str [101,35]] a=some (.tup [.str (if UF s then s.drop 2 else s),.bool (UF s)],a):=by rw[zcc 74 rfl rfl];cases b:UF s;simp[f74C,d,b];(have f:2<=s.length:=by simp[UF]at b;exact b.1);(have c: (2:Int)<=(s.length:Int):=by omega);simp[f74C,d,b,c]
 rw[zcc 73 rfl rfl];generalize (if UF s then s.drop 2 else s)=w at *;simp[f73C,e]
def QqB (s): (UF s && Qao (if UF s then s.drop 2 else s))=SO s:=by
 cases d:UF s;rw[Mk];unfold SO;split;simp[UF]at d;rfl;simp only[QU,V4];match s,d with | [],d=>simp[UF]at d | [_],d=>simp[UF]at d | [a,b],d=>simp[UF]at d;obtain⟨rfl,rfl⟩:=d;rfl | a:: b:: c:: r,d=>simp[UF]at d;obtain⟨rfl,rfl⟩:=d;simp[Qao,SO]
def Quo (x a b i):call tb 162 [.sl false 1 [[.str a],[.str b]],.str x] i=some (.int .i64 (if x == a then 0 else if x == b then 1 else -1),i):=by
 rw[zcc 162 rfl rfl];simp[f162C];rw[Qb f162l0.eq_1];cases c:x == a;have g: ¬x=a:=by simpa using c
 simp[c,g];rw[Qb f162l0.eq_1];cases e:x == b;have d:IntKind.i64.wrap 1=1:=rfl;have h:IntKind.i64.wrap 2=2:=rfl;have f: ¬x=b:=by simpa using e
 simp[e,d,h,f];rw[Qb f162l0.eq_1];simp[f162r0];have d:IntKind.i64.wrap 1=1:=rfl;have f:x=b:=by simpa using e
 simp[d,<- f];have g:x=a:=by simpa using c
 simp[<- g]
def QnR (t a) (c:t.kind=3):call tb 160 [.agg (Qd t),.sl false 1 [[.str Yl],[.str ONE]]] a=some (.bool (t.name == Yl || t.name == ONE),a):=by
 have h:=Quo t.name Yl ONE a;have d:call tb 161 [.sl false 1 [[.str Yl],[.str ONE]],.str t.name] a=some (.bool (t.name == Yl || t.name == ONE),a):=by rw[zcc 161 rfl rfl];cases b:t.name == Yl;cases e:t.name == ONE <;> simp[b,e]at h <;> simp[f161C,h];simp[b]at h;simp[f161C,h]
 rw[zcc 160 rfl rfl];simp[f160C,c,d]
def QnQ (t i) (u:t.mass < 1000000):call tb 159 [.agg (Qd t)] i=some (.bool (X0 t),i):=by
 have q:=QL t;rw[zcc 159 rfl rfl];by_cases g:t.kind=3;have b:=QnR t i g;simp only[Yl,ONE]at b;cases h: (t.name == [122,101,114,111] || t.name == [111,110,101]);rw[h]at b;simp at h;simp[f159C,g,b,X0,Yl,ONE,h]
 rw[h]at b;by_cases m:t.kids=[];simp[f159C,g,b,X0,Yl,ONE,h,m];have r: ¬t.kids.length=0:=fun e=>m (Yf e);have s: ¬(t.kids.length:Int)=0:=by omega
 simp[f159C,g,b,X0,Yl,ONE,m];by_cases a:t.kind=2;have b:=Qtn t.name i;have o:=QnS (if UF t.name then t.name.drop 2 else t.name) i (by split;rw[UP];omega;omega);have d:=QqB t.name;generalize (if UF t.name then t.name.drop 2 else t.name)=w at *;have k:X0 t=if t.sort=1\/t.sort=5 then true else if t.sort=4 then t.name == [103] || SO t.name else if t.sort=0\/t.sort=2\/t.sort=3 then SO t.name else false:=by unfold X0;rw[Qe g,Qg a]
 rw[k];generalize SO t.name=O at *;by_cases n:t.sort=1;simp[f159C,a,b,n];by_cases p:t.sort=5;simp[f159C,a,b,p];by_cases j:t.sort=4;cases l:t.name == [103];cases f:UF t.name;rw[f]at b d;simp at d;subst d;simp[f159C,a,b,j,l];rw[f]at b d;simp at d;subst d;simp[f159C,a,b,o,j,l];simp[f159C,a,b,j,l];by_cases c:t.sort=0\/t.sort=2\/t.sort=3;cases f:UF t.name;rw[f]at b d;simp at d;subst d;rcases c with c | c | c <;> simp[f159C,a,b,c];rw[f]at b d;simp at d;subst d;rcases c with c | c | c <;> simp[f159C,a,b,o,c];simp only[not_or]at c;simp[f159C,a,b,n,p,j,c.1,c.2.1,c.2.2];have k:X0 t=false:=by unfold X0;rw[Qe g,Qe a]
 rw[k];simp[f159C,g,a]
def Qgc (s m) (r:s.length < 1000000000): ∀a b h,s=b ++ a->h 0= .str s->h 3= .int .i64 b.length->
  R tb (.loop f232l0) h m (Qh 0 (Qs tb f232r0 (QA f232 m)))=some (.bool (a.all Td),m):=by
 intro a;induction a with | nil=>intro b h f j k;simp only[Qy]at f;rw[<- f]at k;rw[Qb f232l0.eq_1];simp[j,k,f232r0] | cons c a n=>intro b h f j k;have l:=Qv f;have o:=QD f;have g:=QF f;rw[Tl];rw[Qb f232l0.eq_1];by_cases p:c.toNat < 48;(have e:Td c=false:=by simp[Td];omega);(have d: (c.toNat:Int) < 48:=by omega);simp[-getElem?_pos,j,k,l,g,d,e];(have d: ¬(c.toNat:Int) < 48:=by omega);by_cases q:57 < c.toNat;(have e:Td c=false:=by simp[Td];omega);(have i: (57:Int) < (c.toNat:Int):=by omega);simp[-getElem?_pos,j,k,l,g,d,i,e];(have e:Td c=true:=by simp[Td];omega);(have i: ¬(57:Int) < (c.toNat:Int):=by omega);rw[e,V4];simp[-getElem?_pos,j,k,l,g,(wr1 b.length (by omega)),d,i,-List.all_eq_true];apply(fun h=>n (b ++ [c]) h (by rw[f];simp)) <;> simp[j]
def Qn7 (s l) (k:s.length < 1000000000):call tb 232 [.str s] l=some (.bool (SO s),l):=by
 rw[zcc 232 rfl rfl];by_cases h:s.length < 3;have f: (s.length:Int) < 3:=by omega
 have e:SO s=false:=by unfold SO;split;exfalso;simp only[Zu]at h;omega;rfl
 simp[f232C,f,e];have f: ¬(s.length:Int) < 3:=by omega
 have g: (2:Int)<=(s.length:Int):=by omega
 cases d:s.take 2 == [101,35];have e:SO s=false:=by unfold SO;split;simp at d;rfl
 simp[f232C,f,g,d,e];match s,d,h,k with | a:: b:: c:: r,d,h,k=>have m:=fun n=>Qgc (a:: b:: c:: r) l k (c:: r) [a,b] n rfl;simp at d;obtain⟨rfl,rfl⟩:=d;have e:SO (101:: 35:: c:: r)=(c:: r).all Td:=rfl;rw[e];simp only[Zu,Xc]at f (by omega) g m;generalize (c:: r).all Td=O at *;(have i: ¬((r.length:Int)+1+1+1 < 3):=by omega);(have j: (2:Int)<=(r.length:Int)+1+1+1:=by omega);simp[f232C,i,j];apply m <;> simp | [],d,_,_=>simp at d | [_],d,_,_=>simp at d | [_,_],d,h,_=>simp at h
def Qc0 (t l) (u:t.mass < 1000000):call tb 231 [.agg (Qd t)] l=some (.bool (X0 t),l):=by
 have o:=QL t;have n:=Qn7 t.name l (by omega);rw[zcc 231 rfl rfl];by_cases d:t.kind=3;have i:X0 t=((t.name == Yl || t.name == ONE) && decide (t.kids.length=0)):=by unfold X0;rw[Qg d]
 rw[i];by_cases g:t.kids=[];cases c:t.name == Yl;cases h:t.name == ONE <;> simp only[Yl,ONE]at c h <;> simp[f231C,d,c,h,g];simp only[Yl]at c;simp[f231C,d,c,g];have q: ¬t.kids.length=0:=fun e=>g (Yf e);have r: ¬(t.kids.length:Int)=0:=by omega
 cases c:t.name == Yl;cases h:t.name == ONE <;> simp only[Yl,ONE]at c h <;> simp[f231C,d,c,h,g];simp only[Yl]at c;simp[f231C,d,c,g];by_cases a:t.kind=2;have i:X0 t=if t.sort=1\/t.sort=5 then true else if t.sort=4 then t.name == [103] || SO t.name else if t.sort=0\/t.sort=2\/t.sort=3 then SO t.name else false:=by unfold X0;rw[Qe d,Qg a]
 rw[i];generalize SO t.name=O at *;by_cases k:t.sort=1;simp[f231C,a,k];by_cases m:t.sort=5;simp[f231C,a,m];by_cases j:t.sort=4;cases f:t.name == [103];simp[f231C,a,j,f,n];simp[f231C,a,j,f];by_cases b:t.sort=0\/t.sort=2\/t.sort=3;cases f:t.name == [103];rcases b with b | b | b <;> simp[f231C,a,b,n,f];rcases b with b | b | b <;> simp[f231C,a,b,n,f];simp only[not_or]at b;cases f:t.name == [103];simp[f231C,a,k,m,j,b.1,b.2.1,b.2.2,f];simp[f231C,a,k,m,j,b.1,b.2.1,b.2.2,f];have i:X0 t=false:=by unfold X0;rw[Qe d,Qe a]
 rw[i];simp[f231C,d,a]
def Xl (x:Tm):Int:=if thV x≠0 then thV x else if U9 x≠[]then 13 else if Tu x then 0 else 10
def Y7:Qj->Int
 | []=>0
 | x:: r=>if Xl x≠0 then Xl x else Y7 r
def Qn8 (x a) (h:x.mass < 1000000):call tb 233 [.agg (Qd x)] a=some (.int .i64 (Xl x),a):=by
 have b:=Mr x a (by unfold big;omega);have e:=Qb7 x a (by omega);have f:=Qc1 x a h;rw[zcc 233 rfl rfl];by_cases c:thV x=0;by_cases d:U9 x=[];cases g:Tu x;simp[f233C,b,e,f,c,d,g,Xl];simp[f233C,b,e,f,c,d,g,Xl];simp[f233C,b,e,c,d,Xl];simp[f233C,b,c,Xl]
def TS (B0 B:Qr) (v:AV) (l:Qj):Prop:=∃(M:Qr) (id sz:Nat),B=B0 ++ M/\v= .gs id 0 sz l.length/\
 ((sz=0/\id=0/\l=[])\/(sz=4/\B0.length<=id/\l≠[]/\B[id]? =some (Qk l)))
def Li {c B v l} (h:TS c B v l): ∃a b,v= .gs a 0 b l.length:=by
 obtain⟨M,a,b,_,rfl,_⟩:=h;exact⟨a,b,rfl⟩
def QbV (a):TS a a (.gs 0 0 0 0) []:=⟨[],0,0,by simp,rfl,.inl ⟨rfl,rfl,rfl⟩⟩
def Qu0 {a B v l} (x o) (h:TS a B v l) (q:l.length < 1000000): ∃j i,appM 56 4 v (.sl o 4 [Qd x]) B=some (j,i)/\TS a i j (l ++ [x]):=by
 obtain⟨M,d,p,rfl,rfl,n⟩:=h;have k:Xt 4 (.sl o 4 [Qd x]) (a ++ M)=some (1,Qd x):=by simp[Xt]
 rcases n with⟨rfl,rfl,rfl⟩ | ⟨rfl,g,b,f⟩;refine⟨.gs (a ++ M).length 0 4 1,a ++ (M ++ [Qd x]),?_,M ++ [Qd x],(a ++ M).length,4,rfl,rfl,.inr ⟨rfl,by simp,by simp,?_⟩⟩;simp[appM,k];rw[<- ZU,Yc];simp[Qk,YZ];have m: (Qk l).length=l.length*4:=ZZ QE l;have c:Qk (l ++ [x])=Qk l ++ Qd x:=by simp[Qk,Ve,OH]
 refine⟨.gs (a ++ M).length 0 4 (l.length+1),(a ++ M).set d []++ [Qk l ++ Qd x],?_,M.set (d - a.length) []++ [Qk l ++ Qd x],(a ++ M).length,4,?_,by simp,.inr ⟨rfl,by simp,by simp,?_⟩⟩;simp only[appM,k,QN];rw[Qg ⟨by omega,(X7 (by omega))⟩,Qe (by omega),Qe (by omega),Qg ⟨trivial,trivial⟩,f];simp only[QN];rw[Qg ⟨(by intro e;rw[e]at m;simp at m;exact b (Yf (by omega))),by omega⟩,Qe (by omega),Z2 (by omega),(Z5 Zc l)];rw[WG g,ZU];have e: (a ++ M).length=((a ++ M).set d []).length:=by simp
 rw[c,e,Yc]
def Qrk {b B v l} (h:TS b B v l) (o:l.length < 1000000) (m: ∀x∈l,x.mass < 1000000):
  ∃g,call tb 170 [v,.fn 30 []] B=some (.tup [],g)/\TS b g v (XL l):=by
 obtain⟨M,d,n,rfl,rfl,k⟩:=h;rcases k with⟨rfl,rfl,rfl⟩ | ⟨rfl,a,f,j⟩;refine⟨b ++ M,?_,M,0,0,rfl,rfl,.inl ⟨rfl,rfl,rfl⟩⟩;rw[Y9 tb_170];simp[NT];refine⟨_,(MY l (b ++ M) d j (by omega) fun x c=>by have:=m x c;unfold big;omega),M.set (d - b.length) (Qk (XL l)),d,4,WG a _,by rw[Vg],.inr ⟨rfl,a,?_,?_⟩⟩;intro e;obtain⟨x,c⟩:=GG l f;have:=(U3 (l:=l)).2 c;rw[e]at this;simp at this;rw[QG,Qg rfl,Qg (QJ j)]
def Fb {x:Tm}: ∀{l:Qj},x∈Q3 l->x.mass<=Qw l
 | [],h=>by simp[Q3]at h
 | t:: ts,h=>by
  simp only[Q3,Zp]at h;simp only[Qw];rcases h with h | h;have:=VD t x h;omega;have:=Fb h;omega
def KJ {l:Qj} {M:Nat} (h: ∀x∈l,x.mass<=M):Qw l<=l.length*M:=by
 induction l with | nil=>simp[Qw] | cons x xs ih=>have h1:=ih fun y hy=>h y (by simp[hy]);have h2:=h x (by simp);simp only[Qw,Zu,Tn];omega
def Qxg (i:Nat):Tm:= .mk 1 (119:: Qxb i) 0 []
def SK:Yi:=[115,107]
def SHK:Yi:=[115,104,107]
def QkX (l g t p q) (A:l.length < 1000000) (u: ∀x∈t,x.ok=true) (w: ∀x∈l,call tb g (.agg (Qd x):: t) q=some (.bool (p x),q)):
  ∀b a o d,l=a ++ b->a.any p=false->d 0= .sl o 4 (Qa l)->d 1= .fn g t->d 7= .int .i64 l.length->d 8= .int .i64 a.length->
  Er (l.any p) q (R tb (.loop f215l0) d q (Qh 0 (Qs tb f215r0 (QA f215 q)))):=by
 intro b;induction b with | nil=>intro a o d h e i j k m;simp only[Qy]at h;rw[<- h]at m e;rw[Qb f215l0.eq_1];refine⟨-1,?_,by grind⟩;simp[i,j,k,m,f215r0] | cons x b z=>intro a o d h e i j k m;have n:=Qv h;have y:=QD h;have r:=QF h;have c:=w x (by grind);have f:=eq_true u;rw[Qb f215l0.eq_1];cases s:p x;simp[i,j,k,m,r,n,(wr1 a.length (by omega)),c,f,s,-List.any_eq_false,-List.any_eq_true];apply(fun d=>(fun d e=>z (a ++ [x]) o d (by grind) e) d (by grind)) <;> simp[i,j,k];have v:l.any p=true:=UQ.2 ⟨x,by grind,s⟩;refine⟨a.length,?_,by grind⟩;simp[i,j,k,m,r,n,c,f,s]
def AM (l g c p o a) (f:l.length < 1000000) (b: ∀x∈c,x.ok=true) (j: ∀x∈l,call tb g (.agg (Qd x):: c) a=some (.bool (p x),a)):
  call tb 214 [.sl o 4 (Qa l),.fn g c] a=some (.bool (l.any p),a):=by
 have m:=fun k=>QkX l g c p a f b j l [] false k rfl rfl;have d:=eq_true b;have h:Er (l.any p) a (call tb 215 [.sl false 4 (Qa l),.fn g c] a):=by rw[zcc 215 rfl rfl];simp[f215C,-List.any_eq_false,-List.any_eq_true];simp_all
 obtain⟨i,e,n⟩:=h;rw[zcc 214 rfl rfl];simp[f214C,e,-List.any_eq_false,-List.any_eq_true];grind
def hbs:Nat->Qj->Qr
 | _,[]=>[]
 | k,t:: ts=>(Qd (Qxg k)++ Qd t):: hbs (k+1) ts
def Ud (t):t∈Zs t:=by cases t;simp[Zs]
def Qcp {x} (h:Xl x=0):x.kind≠1:=by
 intro b;unfold Xl at h;by_cases c:thV x=0;rw[Qe (by simpa using c)]at h;by_cases d:U9 x=[];unfold U9 at d;have a:x∈Qq ((Zs x).filter (X6 1)):=Z7.2 (VP.2 ⟨Ud x,by simp[X6,b]⟩);rw[d]at a;cases a;rw[Qg d]at h;exact absurd h (by decide);rw[Qg c]at h;exact absurd h c
def atA:Tm:= .mk 2 [97] 1 []
def atB:Tm:= .mk 2 [98] 1 []
def Tk:Qj:=[.mk 2 [110,97] 2 [],.mk 2 [110,98] 2 [],.mk 2 [107] 3 [],.mk 2 [108] 3 [],.mk 2 [103] 4 [],atA,.mk 2 [104,105] 5 [],.mk 2 [100] 0 [],.mk 3 SK 0 [atA],.mk 3 SHK 0 [atA,atB]]
def EG (a):call tb 284 [] a=some (.sl true 4 (Qa Tk),a):=by
 have b: ∀o,call tb 120 [.str [115,107],.sl o 4 [Qd atA]] a=some (.agg (Qd (.mk 3 SK 0 [atA])),a):=fun o=>R6 SK [atA] o a (by simp);have c: ∀o,call tb 120 [.str [115,104,107],.sl o 4 [Qd atA,Qd atB]] a=some (.agg (Qd (.mk 3 SHK 0 [atA,atB])),a):=fun o=>R6 SHK [atA,atB] o a (by simp);simp only[atA,atB]at b c;rw[zcc 284 rfl rfl];simp[f284C,(fun s n=>Qfo s n a),b,c,Tk,atA,atB,Qa]
def V6 (b:VO):Qr:=b.map fun n:Nat=>[AV.int .u8 (n:Int)]
def YA (b): (V6 b).length=b.length:=by simp[V6]
def Qaq {b} {i n:Nat} (h:b[i]? =some n): (V6 b)[i]? =some [AV.int .u8 (n:Int)]:=by simp[V6,h]
def Eu (n:Yi):Bool:=n == XOR || n == EXP || n == MUL || n == INV || n == Yl || n == ONE
def frB (t:Tm):Bool:=(Zs t).all fun x=> !decide (x.kind=3) || !Eu x.name
def Fx (n a):frB (.mk 3 n 0 a)=(!Eu n && a.all frB):=by
 have h: ∀l:Qj,(Q3 l).all (fun x=> !decide (x.kind=3) || !Eu x.name)=l.all frB:=by intro l;induction l with | nil=>rfl | cons t c b=>simp only[Q3,JL,Tl,b,frB]
 simp only[frB,Zs,Tl,h];simp
def nK:XI
 | 0=>1
 | j+1=>2*nK j+1
def nM:XI
 | 0=>40
 | j+1=>2*nM j+20
def QaX: ∀j,1<=nK j
 | 0=>QY _
 | j+1=>by simp only[nK];omega
def Qjb: ∀j,40<=nM j
 | 0=>QY _
 | j+1=>by have:=Qjb j;simp only[nM];omega
def Ke (bs:Qr) (at_ K M:Nat) (fr:Bool) (r:Out):Prop:=∃(t:Tm) (m:Nat),r=some (.tup [.agg (Qd t),.int .i64 m],bs)/\at_<=m/\m<=at_+K/\t.mass<=M/\(fr=true->frB t=true)
def Qqg {k:Nat} {t} (h:Tk[k]? =some t):t.mass<=40/\frB t=true:=by
 have a:=TD h;simp only[Tk,Zl,List.mem_nil_iff,Mn]at a;rcases a with rfl | rfl | rfl | rfl | rfl | rfl | rfl | rfl | rfl | rfl <;> exact⟨by decide,by decide⟩
def GF:=@Int.tmod_eq_emod_of_nonneg
def La (b) (a c d:Nat) (z o) (x) (j) (I:a < 1000) (P:d < 100) (u: (a < b.length/\b[a]? =some c)\/(b.length<=a/\c=0)) (O:c < 256) (A:4<=d\/c % 3=0):
  Ke x a (nK j) (nM j) z (call tb 283 [.sl o 1 (V6 b),.int .i64 a,.int .i64 d,.bool z] x):=by
 have r:=EG x;have D:IntKind.i64.wrap (c:Int)=c:=QC (by omega) (by omega);have f:IntKind.i64.wrap ((a:Int)+1)=(a:Int)+1:=QC (by omega) (by omega);obtain⟨q,C,K⟩: ∃q:Nat,IntKind.i64.wrap ((c:Int) / 3)=(q:Int)/\q=c / 3:=⟨c / 3,by rw[QC (by omega) (by omega)];omega,rfl⟩;obtain⟨k,w,g⟩: ∃k:Nat,((q:Int)).tmod 10=(k:Int)/\k < 10:=⟨q % 10,by rw[GF (by omega)];omega,by omega⟩;have m:Tk.length=10:=rfl;obtain⟨t,n⟩: ∃t,Tk[k]? =some t:=⟨Tk[k]'(by omega),Za _⟩;obtain⟨N,G⟩:=Qqg n;have L: ¬Tk=[]:=by simp[Tk]
 refine⟨t,a+1,?_,by omega,by have:=QaX j;omega,by have:=Qjb j;omega,fun _=>G⟩;rw[zcc 283 rfl rfl];have E: ((c:Int).tmod 3=0)=(c % 3=0):=by rw[GF (by omega)];exact propext (by omega)
 have s: (4<=(d:Int))=(4<=d):=propext (by omega);have H:=(XR.1 n).2;have l: (Qa Tk)[k]'(by rwa[QX])=Qd t:=by(have A: (Qa Tk)[k]? =some (Qd t):=by simp[n]);exact(XR.1 A).2
 rcases u with⟨M,u⟩ | ⟨M,rfl⟩;have B:=Qaq u;have e: (a:Int) < (b.length:Int):=by omega
 by_cases h:4<=d;simp[f283C,B,e,YA,D,f,s,h,r,C,w,m,l,g];have J:c % 3=0:=by omega
 simp[f283C,B,e,YA,D,f,E,s,h,J,r,C,w,m,l,g];have e: ¬(a:Int) < (b.length:Int):=by omega
 have y:q=0:=by omega
 subst y;simp only[Int.natCast_zero]at w;have v:k=0:=by have: (0:Int).tmod 10=0:=rfl;omega
 subst v;have p:IntKind.i64.wrap 0=0:=rfl;have i:t= .mk 2 [110,97] 2 []:=by simp[Tk]at n;exact n.symm
 by_cases h:4<=d;simp[f283C,e,YA,f,s,h,r,Tk,Qa,i,p];simp[f283C,e,YA,f,s,h,r,Tk,Qa,i,p]
set_option maxHeartbeats 20000000 in
def Ql5 (b) (m c d:Nat) (J o) (I) (j) (P:m+nK (j+1)<=1000) (hd:d < 4) (T:b[m]? =some c) (hc:c < 256) (A:c % 3≠0)
  (S: ∀(a:Nat),a+nK j<=1000->Ke I a (nK j) (nM j) J (call tb 283 [.sl false 1 (V6 b),.int .i64 a,.int .i64 ((d:Int)+1),.bool J] I)):
  Ke I m (nK (j+1)) (nM (j+1)) J (call tb 283 [.sl o 1 (V6 b),.int .i64 m,.int .i64 d,.bool J] I):=by
 have G:=EG I;have hl:=(XR.1 T).1;have B:=Qaq T;have g: (m:Int) < (b.length:Int):=by omega
 have C: ((c:Int).tmod 3=0)=(c % 3=0):=by rw[GF (by omega)];exact propext (by omega)
 have D: (4<=(d:Int))=(4<=d):=propext (by omega);have v: ¬4<=d:=by omega
 have s:IntKind.i64.wrap (c:Int)=c:=QC (by omega) (by omega);have f:IntKind.i64.wrap ((m:Int)+1)=(m:Int)+1:=QC (by omega) (by omega);have k:IntKind.i64.wrap ((d:Int)+1)=(d:Int)+1:=QC (by omega) (by omega);obtain⟨q,u,N⟩: ∃q:Nat,IntKind.i64.wrap ((c:Int) / 3)=(q:Int)/\q=c / 3:=⟨c / 3,by rw[QC (by omega) (by omega)];omega,rfl⟩;have t: ((q:Int)).tmod 11=((q % 11:Nat):Int):=by rw[GF (by omega)];omega
 have R:q % 11 < 11:=by omega
 generalize q % 11=r at *;simp only[nK]at P;obtain⟨x,W,p,a2,a3,a4,O⟩:=S (m+1) (by omega);obtain⟨y,V,E,b2,b3,Z,U⟩:=S W (by omega);simp only[Aq,Ar]at p;have i: ∀n z o,call tb 120 [.str n,.sl o 4 [Qd z]] I=some (.agg (Qd (.mk 3 n 0 [z])),I):=fun n z o=>R6 n [z] o I (by simp);have l: ∀n z w o,call tb 120 [.str n,.sl o 4 [Qd z,Qd w]] I=some (.agg (Qd (.mk 3 n 0 [z,w])),I):=fun n z w o=>R6 n [z,w] o I (by simp);have H: ∀n:Yi,n.length<=10->(J=true->Eu n=false)->(∀X,X=some (.tup [.agg (Qd (.mk 3 n 0 [x])),.int .i64 W],I)->Ke I m (nK (j+1)) (nM (j+1)) J X):=fun n Y Q X L=>⟨_,_,L,by omega,by simp only[nK];omega,by simp only[nM,Tm.mass,Qw,Zu,Xc];omega,fun h=>by rw[Fx,Q h];simp[O h]⟩;have e: ∀n:Yi,n.length<=10->(J=true->Eu n=false)->(∀X,X=some (.tup [.agg (Qd (.mk 3 n 0 [x,y])),.int .i64 V],I)->Ke I m (nK (j+1)) (nM (j+1)) J X):=fun n Y Q X L=>⟨_,_,L,by omega,by simp only[nK];omega,by simp only[nM,Tm.mass,Qw,Zu,Xc];omega,fun h=>by rw[Fx,Q h];simp[O h,U h]⟩;have K: ∀X,X=some (.tup [.agg (Qd (.mk 3 Zv 0 [x,.mk 3 PK 0 [y]])),.int .i64 V],I)->Ke I m (nK (j+1)) (nM (j+1)) J X:=fun X L=>⟨_,_,L,by omega,by simp only[nK];omega,by simp only[nM,Tm.mass,Qw,Zu,Xc,Zv,PK];omega,fun h=>by rw[Fx];simp[O h,U h,Fx,Eu,Zv,PK,XOR,EXP,MUL,INV,Yl,ONE]⟩;rw[zcc 283 rfl rfl];have M:r=0\/r=1\/r=2\/r=3\/r=4\/r=5\/r=6\/r=7\/r=8\/r=9\/r=10:=by omega
 clear N R;cases J <;> rcases M with rfl | rfl | rfl | rfl | rfl | rfl | rfl | rfl | rfl | rfl | rfl;refine H [104,97,115,104] (by simp) (fun _=>by decide) _ ?_;simp[f283C,B,g,YA,s,f,k,C,A,D,v,G,u,t,p,E,i,l];refine H [112,107] (by simp) (fun _=>by decide) _ ?_;simp[f283C,B,g,YA,s,f,k,C,A,D,v,G,u,t,p,E,i,l];refine H [105,110,118] (by simp) (fun h=>by cases h) _ ?_;simp[f283C,B,g,YA,s,f,k,C,A,D,v,G,u,t,p,E,i,l];refine e [101,110,99] (by simp) (fun _=>by decide) _ ?_;simp[f283C,B,g,YA,s,f,k,C,A,D,v,G,u,t,p,E,i,l];refine e [101,110,99] (by simp) (fun _=>by decide) _ ?_;simp[f283C,B,g,YA,s,f,k,C,A,D,v,G,u,t,p,E,i,l];refine K _ ?_;simp[f283C,B,g,YA,s,f,k,C,A,D,v,G,u,t,p,E,i,l,Zv,PK];refine e [115,105,103,110] (by simp) (fun _=>by decide) _ ?_;simp[f283C,B,g,YA,s,f,k,C,A,D,v,G,u,t,p,E,i,l];refine e [120,111,114] (by simp) (fun h=>by cases h) _ ?_;simp[f283C,B,g,YA,s,f,k,C,A,D,v,G,u,t,p,E,i,l];refine e [101,120,112] (by simp) (fun h=>by cases h) _ ?_;simp[f283C,B,g,YA,s,f,k,C,A,D,v,G,u,t,p,E,i,l];refine e [109,117,108] (by simp) (fun h=>by cases h) _ ?_;simp[f283C,B,g,YA,s,f,k,C,A,D,v,G,u,t,p,E,i,l];refine e [112,97,105,114] (by simp) (fun _=>by decide) _ ?_;simp[f283C,B,g,YA,s,f,k,C,A,D,v,G,u,t,p,E,i,l];refine H [104,97,115,104] (by simp) (fun _=>by decide) _ ?_;simp[f283C,B,g,YA,s,f,k,C,A,D,v,G,u,t,p,E,i,l];refine H [112,107] (by simp) (fun _=>by decide) _ ?_;simp[f283C,B,g,YA,s,f,k,C,A,D,v,G,u,t,p,E,i,l];refine e [112,97,105,114] (by simp) (fun _=>by decide) _ ?_;simp[f283C,B,g,YA,s,f,k,C,A,D,v,G,u,t,p,E,i,l];refine e [101,110,99] (by simp) (fun _=>by decide) _ ?_;simp[f283C,B,g,YA,s,f,k,C,A,D,v,G,u,t,p,E,i,l];refine e [101,110,99] (by simp) (fun _=>by decide) _ ?_;simp[f283C,B,g,YA,s,f,k,C,A,D,v,G,u,t,p,E,i,l];refine K _ ?_;simp[f283C,B,g,YA,s,f,k,C,A,D,v,G,u,t,p,E,i,l,Zv,PK];refine e [115,105,103,110] (by simp) (fun _=>by decide) _ ?_;simp[f283C,B,g,YA,s,f,k,C,A,D,v,G,u,t,p,E,i,l];refine e [112,97,105,114] (by simp) (fun _=>by decide) _ ?_;simp[f283C,B,g,YA,s,f,k,C,A,D,v,G,u,t,p,E,i,l];refine e [112,97,105,114] (by simp) (fun _=>by decide) _ ?_;simp[f283C,B,g,YA,s,f,k,C,A,D,v,G,u,t,p,E,i,l];refine e [112,97,105,114] (by simp) (fun _=>by decide) _ ?_;simp[f283C,B,g,YA,s,f,k,C,A,D,v,G,u,t,p,E,i,l];refine e [112,97,105,114] (by simp) (fun _=>by decide) _ ?_;simp[f283C,B,g,YA,s,f,k,C,A,D,v,G,u,t,p,E,i,l]
end Go.Am
