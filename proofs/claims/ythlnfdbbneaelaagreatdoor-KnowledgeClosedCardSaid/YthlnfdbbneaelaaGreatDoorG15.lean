/-
  Rc26, Rc27, Rc28, Rc29, Rc30, Rc31, Rc32, Rc33, Rc34, Rc35, Rc36, Rc37, Rc38, Rc39, Rc40, Rc41, Rc42, Rc43, Rc44.
-/
import Derived.Test.YthlnfdbbneaelaaGreatDoorG14
set_option linter.all false
open Go.Am.F
namespace Go.Am
set_option maxRecDepth 20000
def Ky {x}: ∀{a},x∈a->x.nodes<=Qs a
 | [],h=>by cases h
 | t:: b,h=>by
  simp only[Qs];rcases Zf.1 h with rfl | h;omega;have:=Ky h;omega
def MR {n} (h:Uq n=true): (n=FST\/n=SND\/n=READ)\/(n=DEC\/n=YM\/n=Xa):=by
 simp only[Uq,WI,UG]at h;rcases h with((((h | h) | h) | h) | h) | h <;> simp[h]
def Qn2 {n c} (f) (j:Uq n=true) (i:Xb n c.length=true) (d:YD c=true) (e:Qv c < 20000000):call tb 176 [.agg (Qd (.mk 3 n 0 c))] f=some (.agg (Qd (Q8 n c)),f):=by
 rcases MR j with h | h;have g:c.length=1:=by rcases h with rfl | rfl | rfl <;> simpa[Xb,PK,Z3,ENC,Zz,Yc,EXP,DEC,YM,Xa,FST,SND,READ]using i
 obtain⟨a,rfl⟩:=Js.1 g;simp only[YD,Qr]at d;simp only[Qv]at e;exact Qlp n a f h d.1 (by unfold big;omega);have g:c.length=2:=by rcases h with rfl | rfl | rfl <;> simpa[Xb]using i
 match c,g,d,e with | [a,b],_,d,e=>simp only[YD,Qr]at d;simp only[Qv]at e;exact Qlq n a b f h d.1 d.2.1 (by unfold big;omega) (by unfold big;omega)
def Qoh {n c} (f) (j:Uq n=true) (i:Xb n c.length=true) (d:YD c=true) (e:Qv c < 20000000):Qkw (Q8 n c) f (call tb 243 [.agg (Qd (.mk 3 n 0 c))] f):=by
 rcases MR j with h | h;have g:c.length=1:=by rcases h with rfl | rfl | rfl <;> simpa[Xb,PK,Z3,ENC,Zz,Yc,EXP,DEC,YM,Xa,FST,SND,READ]using i
 obtain⟨a,rfl⟩:=Js.1 g;simp only[YD,Qr]at d;simp only[Qv]at e;exact QhL n a f h d.1 (by unfold big;omega);have g:c.length=2:=by rcases h with rfl | rfl | rfl <;> simpa[Xb]using i
 match c,g,d,e with | [a,b],_,d,e=>simp only[YD,Qr]at d;simp only[Qv]at e;exact QhM n a b f h d.1 (by unfold big;omega) (by unfold big;omega)
def MX (us:Qj) (n:Zq):Prop:=Qv us+n.length+us.length < 15000000
def Bv:=@List.getD_cons_zero
def Bx:=@List.getD_cons_succ
set_option maxHeartbeats 2000000 in
def Qqq (t a k) (v:Xb t.name a.length=true) (p:YD a=true) (o:MX a t.name) (s) (h:s 1= .bx (Qd t)) (g:s 2= .bx [.int .i64 0,.str [],.int .i64 0,.sl true 4 []])
  (d:s 4= .bx [.int .i64 3,.str t.name,.int .i64 0,.sl true 4 (Qa a)]):R tb f175r0 s k (Qz f175 k)=some (ZD (Yo t.name a),k):=by
 unfold MX at o;have z:=Sg 3 t.name 0 a;have O:=YG a;obtain⟨n,f⟩: ∃n,t.name=n:=⟨_,rfl⟩;rw[f]at v o d z ⊢;cases l:Uq n;have q:=l;simp only[Uq,Gl]at q;obtain⟨⟨⟨⟨⟨J,M⟩,N⟩,K⟩,A⟩,G⟩:=q;simp only[FST,SND,DEC,YM,Xa,READ]at J M N K A G;by_cases m:n=XOR;subst m;have e:Yo XOR a=W5 a:=by simp[Yo,l]
 have b:=Qk6 a false k (by omega) (by omega);rw[e];simp only[ZD]at b ⊢;simp only[XOR]at *;simp[f175r0,h,g,d,f,b];by_cases i:n=MUL\/n=INV\/n=ONE;have e:Yo n a=YV (.mk 3 n 0 a):=by simp only[Yo,l,m,i,QT,ZT];simp
 have u: (Tm.mk 3 n 0 a).mass < 20000000:=by simp only[Tm.mass];omega
 have b:=RE (.mk 3 n 0 a) k (by omega);have j:=Hm false k (Ms (.mk 3 n 0 a) 25000000 (by omega)) (Uz _);rw[<- z]at b;rw[e];by_cases c:ofE (.mk 3 n 0 a)=0;have w:YV (.mk 3 n 0 a)=Z2 (ofP (.mk 3 n 0 a)):=by simp[YV,c]
 rw[w];simp only[ZD]at j ⊢;rw[c]at b;generalize ofP (.mk 3 n 0 a)=P at *;rcases i with rfl | rfl | rfl;simp only[MUL]at *;simp[f175r0,h,g,d,f,b,j];simp only[INV]at *;simp[f175r0,h,g,d,f,b,j];simp only[ONE]at *;simp[f175r0,h,g,d,f,b,j];have w:YV (.mk 3 n 0 a)=(QU,ofE (.mk 3 n 0 a)):=by simp[YV,c]
 rw[w];generalize ofE (.mk 3 n 0 a)=E at *;generalize ofP (.mk 3 n 0 a)=P at *;rcases i with rfl | rfl | rfl;simp only[MUL]at *;simp[f175r0,h,g,d,f,b,c,ZG,Zj];simp only[INV]at *;simp[f175r0,h,g,d,f,b,c,ZG,Zj];simp only[ONE]at *;simp[f175r0,h,g,d,f,b,c,ZG,Zj];by_cases r:n=EXP;have e:Yo n a=XY (a.getD 0 QU) (a.getD 1 QU):=by subst r;simp only[Yo,l,Qb m,Qb i];simp
 subst r;have Q:a.length=2:=by simpa[Xb]using v
 match a,Q,p,o,d,e with | [x,y],_,p,o,d,e=>simp only[YD,Qr]at p;simp only[Qv]at o;have b:=Qn7 x y k p.1 (by omega) (by omega);rw[e];simp only[ZD]at b ⊢;simp only[Bv,Bx]at *;simp only[EXP]at *;simp[f175r0,h,g,d,f,b]
 have e:Yo n a=(.mk 3 n 0 a,0):=by simp only[Yo,l,m,i,r,ZT];simp
 rw[e];have L: (n == XOR)=false:=by simpa using m
 have C: (n == MUL)=false:=by simp at i ⊢;exact i.1
 have B: (n == INV)=false:=by simp at i ⊢;exact i.2.1
 have H: (n == ONE)=false:=by simp at i ⊢;exact i.2.2
 have I: (n == EXP)=false:=by simpa using r
 simp only[XOR,MUL,INV,ONE,EXP]at L C B H I;simp[f175r0,h,g,d,f,J,M,N,K,A,G,L,C,B,H,I,ZG,Ya];have e:Yo n a=(Q8 n a,0):=by simp[Yo,l]
 have b:=Qn2 k l v p (by omega);rw[<- z]at b;rw[e];generalize Q8 n a=D at *;rcases MR l with(rfl | rfl | rfl) | (rfl | rfl | rfl);simp only[FST]at *;simp[f175r0,h,g,d,f,b,ZG];simp only[SND]at *;simp[f175r0,h,g,d,f,b,ZG];simp only[READ]at *;simp[f175r0,h,g,d,f,b,ZG];simp only[DEC]at *;simp[f175r0,h,g,d,f,b,ZG];simp only[YM]at *;simp[f175r0,h,g,d,f,b,ZG];simp only[Xa]at *;simp[f175r0,h,g,d,f,b,ZG]
def VI (n:Zq) (us:Qj) (r:Qj×Int):Tm×Int:=if r.2=0 then Yo n (us ++ r.1)else(QU,r.2)
def Qi5 (t k) (A:Zn t=true) (v:t.kind=3) (M:t.mass+13200*t.nodes < 15000000) (I: ∀x∈t.kids,∀k,call tb 175 [.agg (Qd x)] k=some (ZD (ZJ x),k)):
  ∀a b d i,t.kids=b ++ a->d.length=b.length->YD d=true->Qv d<=Qv b+13200*Qs b->i 1= .bx (Qd t)->i 2= .bx [.int .i64 0,.str [],.int .i64 0,.sl true 4 []]->
   i 4= .bx [.int .i64 3,.str t.name,.int .i64 0,.sl true 4 (Qa d)]->i 19= .sl false 4 (Qa t.kids)->i 20= .int .i64 t.kids.length->i 21= .int .i64 b.length->
  R tb (.loop f175l0) i k (Qi 0 (Qu tb f175r0 (Qz f175 k)))=some (ZD (VI t.name d (YE a)),k):=by
 have E:=QI t;have D:=W2 t;intro a;induction a with | nil=>intro b d i j u l o w q s g h f;simp only[QH]at j;rw[<- j]at f u o;have J:=(UN A v).2;(have e:VI t.name d (YE [])=Yo t.name d:=by simp[VI,YE]);rw[Qc f175l0.eq_1,e];simp[g,h,f];apply(Qqq t d k (by rwa[u]) l (by unfold MX;omega)) <;> simp[w,q,s] | cons x a C=>intro b d i j u l o w q s g h f;have r:=QB j;have K:=QJ j;have p:=QN j;(have n:x∈t.kids:=by rw[j];simp);have z:=I x n k;obtain⟨G,L⟩:=Mv x (X7.1 (VA A) x n);simp only[ZD]at z;rw[Qc f175l0.eq_1];by_cases c: (ZJ x).2=0;(have e:VI t.name d (YE (x:: a))=VI t.name (d ++ [(ZJ x).1]) (YE a):=by simp only[VI,YE,c,QT];by_cases B: (YE a).2=0;simp[B];simp[B]);have H: (d.length+1)*56<=140737488355328:=Wb (by omega);rw[e];simp[q,s,g,h,f,r,p,(wr1 b.length (by omega)),z,c,H,ZN,Q7];apply(fun i=>C (b ++ [x]) (d ++ [(ZJ x).1]) i (by rw[j];simp) (by simp[u]) (X7.2 fun y m=>by rcases Ze.1 m with m | m;exact X7.1 l y m;simp at m;subst m;exact G) (by rw[VC,VC,YT];simp only[Qv,Qs];omega)) <;> simp[w,q,g,h];(have e:VI t.name d (YE (x:: a))=(QU,(ZJ x).2):=by simp[VI,YE,c]);rw[e];simp[q,s,g,h,f,r,p,z,c,ZG,Zj]
def Qn1: ∀t b,Zn t=true->t.mass+13200*t.nodes < 15000000->call tb 175 [.agg (Qd t)] b=some (ZD (ZJ t),b):=by
 refine YC ?_;intro k n s a j b h l;have g:=QI (.mk k n s a);have f:=W2 (.mk k n s a);simp only[ZP,Y5]at g f;rw[zcc 175 rfl rfl];by_cases d:k=3;subst d;have i:=fun m=>Qi5 (.mk 3 n s a) b h rfl l (fun x c b=>j x c b (X7.1 (VA h) x c) (by have o:x.mass<=Qv a:=QY c;have p:x.nodes<=Qs a:=Ky c;omega)) a [] [] m rfl rfl rfl (by simp[Qv]);have e:ZJ (.mk 3 n s a)=VI n [] (YE a):=by simp[ZJ,VI]
 rw[e];simp only[Y5,ZP]at i;simp[f175C];apply i <;> simp[Qa];have e:ZJ (.mk k n s a)=(.mk k n s a,0):=by simp[ZJ,d]
 rw[e];simp[f175C,d,ZG]
def I4 {n}: ∀{l y},YZ n l=some y->y∈l/\y.n=n
 | [],y,h=>by simp[YZ]at h
 | s:: d,y,h=>by
  simp only[YZ]at h;split at h;rename_i a;cases h;exact⟨by simp,a⟩;obtain⟨c,b⟩:=I4 h;exact⟨by simp[c],b⟩
def QmW:WP.all (fun y=> !(y.k == 3) || Uq y.n)=true:=by decide
def OI (n:Zq):Int:=match YZ n WP with | some y=>y.k | none=>0
def QfL (n):decide (OI n=3)=Uq n:=by
 unfold OI;cases a:Uq n;rcases d:YZ n WP with _ | y;simp;obtain⟨e,c⟩:=I4 d;have b:=X0.1 QmW y e;rw[c,a]at b;simpa using b;rcases MR a with(rfl | rfl | rfl) | (rfl | rfl | rfl) <;> simp[FST,SND,DEC,YM,Xa,READ,YZ,WP]
def QcA (n a):call tb 128 [.str n] a=some (.int .i64 (OI n),a):=ET n a
set_option maxHeartbeats 4000000 in
def QkC (t c k) (z:Xb t.name c.length=true) (s:YD c=true) (r:MX c t.name) (v) (o:v 1= .bx (Qd t)) (p:v 2= .bx [.int .i64 0,.str [],.int .i64 0,.sl true 4 []])
  (j:v 4= .sl true 4 (Qa c)):R tb f242r0 v k (Qz f242 k)=some (ZD (Yo t.name c),k):=by
 unfold MX at r;obtain⟨n,l⟩: ∃n,t.name=n:=⟨_,rfl⟩;rw[l]at z r ⊢;have d:=RD n c false k (by omega);have f:=QcA n k;have i:=QfL n;cases m:Uq n;rw[m]at i;have a: ¬OI n=3:=by simpa using i
 generalize OI n=I at *;by_cases q:n=XOR;subst q;have e:Yo XOR c=W5 c:=by simp[Yo,m]
 have g:=Qe8 c false k (by omega) (by omega);rw[e];simp only[ZD]at g ⊢;simp only[XOR]at *;simp[f242r0,o,p,j,l,d,f,a,g];have A: (n == XOR)=false:=by simpa using q
 simp only[XOR]at A;by_cases h:n=MUL\/n=INV\/n=ONE;have e:Yo n c=YV (.mk 3 n 0 c):=by simp only[Yo,m,q,h,QT,ZT];simp
 have w: (Tm.mk 3 n 0 c).mass < 20000000:=by simp only[Tm.mass];omega
 have g:=Qoi (.mk 3 n 0 c) k (by omega);rw[e];simp only[ZD]at g ⊢;generalize YV (.mk 3 n 0 c)=P at *;rcases h with rfl | rfl | rfl;simp only[MUL]at *;simp[f242r0,o,p,j,l,d,f,a,g];simp only[INV]at *;simp[f242r0,o,p,j,l,d,f,a,g];simp only[ONE]at *;simp[f242r0,o,p,j,l,d,f,a,g];by_cases u:n=EXP;have e:Yo n c=XY (c.getD 0 QU) (c.getD 1 QU):=by subst u;simp only[Yo,m,Qb q,Qb h];simp
 subst u;have H:c.length=2:=by simpa[Xb]using z
 match c,H,s,r,j,e,d with | [x,y],_,s,r,j,e,d=>simp only[YD,Qr]at s;simp only[Qv]at r;have g:=Qom x y k s.1 (by omega) (by omega);rw[e];simp only[ZD]at g ⊢;simp only[Bv,Bx]at *;simp only[EXP]at *;simp[f242r0,o,p,j,l,d,f,a,g]
 have e:Yo n c=(.mk 3 n 0 c,0):=by simp only[Yo,m,q,h,u,ZT];simp
 rw[e];have G: (n == MUL)=false:=by simp at h ⊢;exact h.1
 have E: (n == INV)=false:=by simp at h ⊢;exact h.2.1
 have C: (n == ONE)=false:=by simp at h ⊢;exact h.2.2
 have B: (n == EXP)=false:=by simpa using u
 simp only[MUL,INV,ONE,EXP]at G E C B;simp[f242r0,o,p,j,l,d,f,a,A,G,E,C,B,ZG];rw[m]at i;have a:OI n=3:=by simpa using i
 rw[a]at f;have e:Yo n c=(Q8 n c,0):=by simp[Yo,m]
 obtain⟨b,g⟩:=Qoh k m z s (by omega);rw[e];generalize Q8 n c=D at *;simp[f242r0,o,p,j,l,d,f,g,ZG]
def QeY (t g) (w:Zn t=true) (u:t.kind=3) (K:t.mass+13200*t.nodes < 15000000) (H: ∀x∈t.kids,∀g,call tb 242 [.agg (Qd x)] g=some (ZD (ZJ x),g)):
  ∀a b d f,t.kids=b ++ a->d.length=b.length->YD d=true->Qv d<=Qv b+13200*Qs b->f 1= .bx (Qd t)->f 2= .bx [.int .i64 0,.str [],.int .i64 0,.sl true 4 []]->
   f 4= .sl true 4 (Qa d)->f 5= .int .i64 b.length->
  R tb (.loop f242l0) f g (Qi 0 (Qu tb f242r0 (Qz f242 g)))=some (ZD (VI t.name d (YE a)),g):=by
 have D:=QI t;have C:=W2 t;intro a;induction a with | nil=>intro b d f h s i o k p r l;simp only[QH]at h;rw[<- h]at l s o;have I:=(UN w u).2;(have e:VI t.name d (YE [])=Yo t.name d:=by simp[VI,YE]);rw[Qc f242l0.eq_1,e];simp[k,l];apply(QkC t d g (by rwa[s]) i (by unfold MX;omega)) <;> simp[k,p,r] | cons x a A=>intro b d f h s i o k p r l;have m:=QB h;have G:=QJ h;have q:=QN h;(have n:x∈t.kids:=by rw[h];simp);have v:=H x n g;obtain⟨E,J⟩:=Mv x (X7.1 (VA w) x n);simp only[ZD]at v;rw[Qc f242l0.eq_1];by_cases c: (ZJ x).2=0;(have e:VI t.name d (YE (x:: a))=VI t.name (d ++ [(ZJ x).1]) (YE a):=by simp only[VI,YE,c,QT];by_cases z: (YE a).2=0;simp[z];simp[z]);have B: (d.length+1)*56<=140737488355328:=Wb (by omega);rw[e];simp[k,p,r,l,m,q,(wr1 b.length (by omega)),v,c,B,ZN,Q7];apply(fun f=>A (b ++ [x]) (d ++ [(ZJ x).1]) f (by rw[h];simp) (by simp[s]) (X7.2 fun y j=>by rcases Ze.1 j with j | j;exact X7.1 i y j;simp at j;subst j;exact E) (by rw[VC,VC,YT];simp only[Qv,Qs];omega)) <;> simp[k,p];(have e:VI t.name d (YE (x:: a))=(QU,(ZJ x).2):=by simp[VI,YE,c]);rw[e];simp[k,p,r,l,m,q,v,c,ZG,Zj]
def Qog: ∀t b,Zn t=true->t.mass+13200*t.nodes < 15000000->call tb 242 [.agg (Qd t)] b=some (ZD (ZJ t),b):=by
 refine YC ?_;intro k n s a j b h l;have g:=QI (.mk k n s a);have f:=W2 (.mk k n s a);simp only[ZP,Y5]at g f;rw[zcc 242 rfl rfl];by_cases d:k=3;subst d;have i:=fun m=>QeY (.mk 3 n s a) b h rfl l (fun x c b=>j x c b (X7.1 (VA h) x c) (by have o:x.mass<=Qv a:=QY c;have p:x.nodes<=Qs a:=Ky c;omega)) a [] [] m rfl rfl rfl (by simp[Qv]);have e:ZJ (.mk 3 n s a)=VI n [] (YE a):=by simp[ZJ,VI]
 rw[e];simp only[Y5]at i;simp[f242C];apply i <;> simp[Qa];have e:ZJ (.mk k n s a)=(.mk k n s a,0):=by simp[ZJ,d]
 rw[e];simp[f242C,d,ZG]
def Yw (t:Tm):Tm×Int:=if thV t≠0 then(QU,thV t)else if(ZJ t).2≠0 then(QU,(ZJ t).2)else if QR (ZJ t).1≠0 then(QU,QR (ZJ t).1)else((ZJ t).1,0)
def LW {t} (h:thV t=0):QR t=0/\X5 t=0/\Zn t=true/\t.mass<=13200/\t.nodes<=400:=by
 unfold thV at h;split at h;rename_i d;exact absurd h d;rename_i d;have e:QR t=0:=by simpa using d
 obtain⟨a,b,c⟩:=Xm e;exact⟨e,h,Fb t a h,c,b⟩
def Kz (t): (Yw t).1.mass<=13200:=by
 unfold Yw;split;show QU.mass<=_;rw[R7];omega;split;show QU.mass<=_;rw[R7];omega;split;show QU.mass<=_;rw[R7];omega;rename_i h;exact(Xm (by simpa using h)).2.2
def Qn0 (t c) (k:t.mass < big):call tb 174 [.agg (Qd t)] c=some (ZD (Yw t),c):=by
 have d:=Mm t c k;rw[zcc 174 rfl rfl];by_cases a:thV t=0;obtain⟨_,_,h,j,l⟩:=LW a;have g:=Qn1 t c h (by omega);obtain⟨m,n⟩:=Mv t h;have i:=Tr (ZJ t).1 c (by unfold big;omega);simp only[ZD]at g;by_cases b: (ZJ t).2=0;by_cases f:QR (ZJ t).1=0;have e:Yw t=((ZJ t).1,0):=by simp[Yw,a,b,f]
 rw[e];simp[f174C,d,g,i,a,b,f,ZG];have e:Yw t=(QU,QR (ZJ t).1):=by simp[Yw,a,b,f]
 rw[e];simp[f174C,d,g,i,a,b,f,ZG,Zj];have e:Yw t=(QU,(ZJ t).2):=by simp[Yw,a,b]
 rw[e];simp[f174C,d,g,a,b,ZG,Zj];have e:Yw t=(QU,thV t):=by simp[Yw,a]
 rw[e];simp[f174C,d,a,ZG,Zj]
def QcF (t c) (k:t.mass < big):call tb 241 [.agg (Qd t)] c=some (ZD (Yw t),c):=by
 have d:=JO t c k;rw[zcc 241 rfl rfl];by_cases a:thV t=0;obtain⟨_,_,h,j,l⟩:=LW a;have g:=Qog t c h (by omega);obtain⟨m,n⟩:=Mv t h;have i:=WW (ZJ t).1 c (by unfold big;omega);simp only[ZD]at g;by_cases b: (ZJ t).2=0;by_cases f:QR (ZJ t).1=0;have e:Yw t=((ZJ t).1,0):=by simp[Yw,a,b,f]
 rw[e];simp[f241C,d,g,i,a,b,f,ZG];have e:Yw t=(QU,QR (ZJ t).1):=by simp[Yw,a,b,f]
 rw[e];simp[f241C,d,g,i,a,b,f,ZG,Zj];have e:Yw t=(QU,(ZJ t).2):=by simp[Yw,a,b]
 rw[e];simp[f241C,d,g,a,b,ZG,Zj];have e:Yw t=(QU,thV t):=by simp[Yw,a]
 rw[e];simp[f241C,d,a,ZG,Zj]
def Qob (n a):call tb 206 [.str n] a=some (.bool (!Uq n),a):=by
 have h:=Vt n a;rw[zcc 206 rfl rfl,<- (QfL n)];unfold OI;rcases b:YZ n WP with _ | y;rw[b]at h;simp[f206C,h];rw[b]at h;simp[f206C,h,Uu]
def ndN (t:Tm):Bool:= !(decide (t.kind=3) && Uq t.name)
mutual
def evT:Tm->Bool
 | .mk k n s ks=>ndN (.mk k n s ks) && evL ks
def evL:List Tm->Bool
 | []=>true
 | t:: ts=>evT t && evL ts
end
def QtS (t):evT t=(ndN t && evL t.kids):=by cases t;simp[evT]
mutual
theorem Eb: ∀t:Tm,evT t=(Zu t).all ndN
 | .mk k n s ks=>by simp only[evT,Zu,Mb,Qdp ks]
theorem Qdp: ∀ts:List Tm,evL ts=(Zk ts).all ndN
 | []=>rfl
 | t:: ts=>by simp only[evL,Zk,GA,Eb t,Qdp ts]
end
def Qfu (t:Tm) (h) (p:t.mass < big) (q: ∀x∈t.kids,∀h,call tb 207 [.agg (Qd x),.fn 206 []] h=some (.bool (evT x),h)):
  ∀a b f,t.kids=b ++ a->f 1= .fn 206 []->f 18= .sl false 4 (Qa t.kids)->f 19= .int .i64 t.kids.length->f 20= .int .i64 b.length->
  R tb (.loop f207l0) f h (Qi 0 (Qu tb f207r0 (Qz f207 h)))=some (.bool (evL a),h):=by
 have r:=QI t;unfold big at p;intro a;induction a with | nil=>intro b f g j d e c;simp only[QH]at g;rw[<- g]at c;rw[Qc f207l0.eq_1];simp[d,e,c,f207r0,evL] | cons x a n=>intro b f g j d e c;have k:=QB g;have o:=QJ g;have i:=QN g;have l:=q x (by rw[g];simp) h;rw[Qc f207l0.eq_1];cases m:evT x;simp[j,d,e,c,k,i,l,m,evL];simp[j,d,e,c,k,i,(wr1 b.length (by omega)),l,m,evL];apply(fun f=>n (b ++ [x]) f (by rw[g];simp)) <;> simp[j,d,e]
def Qoc: ∀t a,t.mass < big->call tb 207 [.agg (Qd t),.fn 206 []] a=some (.bool (evT t),a):=by
 refine YC ?_;intro k n s b j a i;have f:=fun l=>Qfu (.mk k n s b) a i (fun x g a=>j x g a (by have m:x.mass<=Qv b:=QY g;have:=QI (.mk k n s b);simp only[ZP]at this;omega)) b [] l rfl;have h:=Qob n a;simp only[ZP]at f;rw[zcc 207 rfl rfl,QtS];by_cases c:k=3;cases d:Uq n;have e:ndN (.mk k n s b)=true:=by simp[ndN,d]
 rw[e];simp[f207C,c,d,h];apply f <;> simp;have e:ndN (.mk k n s b)=false:=by simp[ndN,d,c]
 rw[e];simp[f207C,c,d,h];have e:ndN (.mk k n s b)=true:=by simp[ndN,c]
 rw[e];simp[f207C,c];apply f <;> simp
def Vi (t:Tm):Bool:=decide ((Yw t).2=0) && decide (Qm (Yw t).1 t=0) && evT t
def QnZ (t a) (c:t.mass < big):call tb 173 [.agg (Qd t)] a=some (.bool (Vi t),a):=by
 have b:=Qn0 t a c;have g:=Kz t;have e:=IA (Yw t).1 t a (by unfold big;omega) c;simp only[ZD]at b;rw[zcc 173 rfl rfl];by_cases d: (Yw t).2=0;by_cases f:Qm (Yw t).1 t=0;simp[f173C,b,e,(Qoc t a c),d,f,Vi];simp[f173C,b,e,d,f,Vi];simp[f173C,b,d,Vi]
def GC:=@Bool.false_and
def QbF (l p) (w:l.length < 100000000): ∀a b o h,l=b ++ a->h 5= .sl o 4 (Qa l)->h 6= .int .i64 b.length->
  R tb (.loop f240l0) h p (Qi 0 (Qu tb f240r0 (Qz f240 p)))=some (.bool (a.all ndN),p):=by
 intro a;induction a with | nil=>intro b o h g f j;simp only[QH]at g;rw[<- g]at j;rw[Qc f240l0.eq_1];simp[f,j,f240r0] | cons x a u=>intro b o h g f j;have q:=QB g;have t:=QJ g;have k:=wr1 b.length (by omega);have i:=QN g;have r:=QcA x.name p;have d:=QfL x.name;have s:=fun h=>u (b ++ [x]) o h (by rw[g];simp);rw[Mb];rw[Qc f240l0.eq_1];by_cases m:x.kind=3;cases n:Uq x.name;rw[n]at d;(have c: ¬OI x.name=3:=by simpa using d);(have e:ndN x=true:=by simp[ndN,n]);rw[e,VS];generalize OI x.name=v at *;simp[f,j,q,i,k,r,m,c,-List.all_eq_true];apply s <;> simp[f];rw[n]at d;(have c:OI x.name=3:=by simpa using d);(have e:ndN x=false:=by simp[ndN,n,m]);rw[e,GC];simp[f,j,q,i,r,m,c];(have e:ndN x=true:=by simp[ndN,m]);rw[e,VS];simp[f,j,q,i,k,m,-List.all_eq_true];apply s <;> simp[f]
def Jx:=@decide_eq_decide
def Qof (t a) (m:t.mass < 1000000):call tb 240 [.agg (Qd t)] a=some (.bool (Vi t),a):=by
 have b:t.mass < big:=by unfold big;omega
 have d:=QcF t a b;have k:=Kz t;have g:=Vs t (Yw t).1 a b (by unfold big;omega);have c:decide (Qm t (Yw t).1=0)=decide (Qm (Yw t).1 t=0):=by have:=Xh t (Yw t).1;rw[Jx];omega
 rw[c]at g;have h:=Se t;have j:=YU t;simp only[ZD]at d;rw[zcc 240 rfl rfl];have e:Vi t=(decide ((Yw t).2=0) && decide (Qm (Yw t).1 t=0) && (Zu t).all ndN):=by rw[<- Eb];rfl
 rw[e];by_cases f: (Yw t).2=0;by_cases i:Qm (Yw t).1 t=0;simp[f240C,d,g,(Qk4 t a (by omega)),f,i,-List.all_eq_true];refine(fun o l=>QbF (Zu t) a (by omega) (Zu t) [] o l rfl) false _ ?_ ?_ <;> simp;simp[f240C,d,g,f,i];simp[f240C,d,f]
def UW (c:UInt8):Bool:=decide (48<=c.toNat) && decide (c.toNat<=57)
def PW:Zq:=[48,49,50,51,52,53,54,55,56,57]
def Qlr: ∀d:Fin 256,PW.contains (UInt8.ofNat d.val)=UW (UInt8.ofNat d.val):=by decide
def Qls (c):PW.contains c=UW c:=by
 have h:=Qlr ⟨c.toNat,c.toNat_lt⟩;simp only[UInt8.ofNat_toNat]at h;exact h
def G5 {p}: ∀{l:Zq},l.dropWhile p=[]↔∀x∈l,p x=true
 | []=>by simp
 | a:: l=>by
  rw[List.dropWhile_cons];cases h:p a;simp[h];simp[h,G5 (l:=l)]
def Qm2 (s): (Lib.trimS s PW == [])=s.all UW:=by
 have g: (fun b=>PW.contains b)=UW:=funext Qls;cases i:s.all UW;have c:Lib.trimS s PW≠[]:=by intro e;unfold Lib.trimS Lib.trimLeftS Lib.trimRightS at e;rw[g]at e;rcases a:s.reverse.dropWhile UW with _ | ⟨x,r⟩;have f:=G5.1 a;have:s.all UW=true:=X0.2 fun x d=>f x (by simpa using d);rw[i]at this;cases this;(have f:UW x=false:=by have:=List.head_dropWhile_not UW (l:=s.reverse) (by rw[a];simp);simpa[a]using this);have h:=(G5.1 e) x (by rw[a];simp);rw[f]at h;cases h
 simpa using c;have:Lib.trimS s PW=[]:=by unfold Lib.trimS Lib.trimLeftS Lib.trimRightS;rw[g];have:s.reverse.dropWhile UW=[]:=G5.2 fun x d=>X0.1 i x (by simpa using d);rw[this];rfl
 simp[this]
def Sl (s:Zq):Bool:=match s with
 | 101:: 35:: c:: r=>(c:: r).all UW
 | _=>false
def Uv (t:Tm):Bool:=
 if t.kind=3 then(t.name == Ys || t.name == ONE) && decide (t.kids.length=0)
 else if t.kind=2 then(if t.sort=1\/t.sort=5 then true else if t.sort=4 then t.name == [103] || Sl t.name else if t.sort=0\/t.sort=2\/t.sort=3 then Sl t.name else false)
 else false
def AF (s:Zq):Bool:= !(s == []) && s.all UW
def QnY (s a) (e:s.length < 4294967281):call tb 163 [.str s] a=some (.bool (AF s),a):=by
 have c:call tb 164 [.str s,.str PW] a=some (.str (Lib.trimS s PW),a):=by rw[Xv tb_164];(have f: (PW.all (· < 128) && decide (s.length < 4294967281) && decide (PW.length < 4294967281))=true:=by rw[show PW.all (· < 128)=true from by decide];simp[e,PW]);simp only[UA,FU,f,QT];rfl
 have b:=Qm2 s;rw[zcc 163 rfl rfl];simp only[PW]at c b;cases d:s == [];simp[f163C,c,b,d,AF,-List.all_eq_true];simp[f163C,d,AF,-List.all_eq_true]
def Ut (s:Zq):Bool:=decide (2<=s.length) && (s.take 2 == [101,35])
def Qts (s b):call tb 75 [.str s,.str [101,35]] b=some (.bool (Ut s),b):=by
 rw[zcc 75 rfl rfl];by_cases h:2<=s.length;have a: (2:Int)<=(s.length:Int):=by omega
 simp[f75C,Ut,h,a];have a: ¬(2:Int)<=(s.length:Int):=by omega
 simp[f75C,Ut,h,a]
def Qtr (s a):call tb 73 [.str s,.str [101,35]] a=some (.tup [.str (if Ut s then s.drop 2 else s),.bool (Ut s)],a):=by
 have d:=Qts s a;have e:call tb 74 [.str s,.str [101,35]] a=some (.tup [.str (if Ut s then s.drop 2 else s),.bool (Ut s)],a):=by rw[zcc 74 rfl rfl];cases b:Ut s;simp[f74C,d,b];(have f:2<=s.length:=by simp[Ut]at b;exact b.1);(have c: (2:Int)<=(s.length:Int):=by omega);simp[f74C,d,b,c]
 rw[zcc 73 rfl rfl];generalize (if Ut s then s.drop 2 else s)=w at *;simp[f73C,e]
def QqE (s): (Ut s && AF (if Ut s then s.drop 2 else s))=Sl s:=by
 cases d:Ut s;rw[GC];unfold Sl;split;simp[Ut]at d;rfl;simp only[QT,VS];match s,d with | [],d=>simp[Ut]at d | [_],d=>simp[Ut]at d | [a,b],d=>simp[Ut]at d;obtain⟨rfl,rfl⟩:=d;rfl | a:: b:: c:: r,d=>simp[Ut]at d;obtain⟨rfl,rfl⟩:=d;simp[AF,Sl]
def Qup (x a b i):call tb 162 [.sl false 1 [[.str a],[.str b]],.str x] i=some (.int .i64 (if x == a then 0 else if x == b then 1 else -1),i):=by
 rw[zcc 162 rfl rfl];simp[f162C];rw[Qc f162l0.eq_1];cases c:x == a;have g: ¬x=a:=by simpa using c
 simp[c,g];rw[Qc f162l0.eq_1];cases e:x == b;have d:IntKind.i64.wrap 1=1:=rfl;have h:IntKind.i64.wrap 2=2:=rfl;have f: ¬x=b:=by simpa using e
 simp[e,d,h,f];rw[Qc f162l0.eq_1];simp[f162r0];have d:IntKind.i64.wrap 1=1:=rfl;have f:x=b:=by simpa using e
 simp[d,<- f];have g:x=a:=by simpa using c
 simp[<- g]
def QnX (t a) (c:t.kind=3):call tb 160 [.agg (Qd t),.sl false 1 [[.str Ys],[.str ONE]]] a=some (.bool (t.name == Ys || t.name == ONE),a):=by
 have h:=Qup t.name Ys ONE a;have d:call tb 161 [.sl false 1 [[.str Ys],[.str ONE]],.str t.name] a=some (.bool (t.name == Ys || t.name == ONE),a):=by rw[zcc 161 rfl rfl];cases b:t.name == Ys;cases e:t.name == ONE <;> simp[b,e]at h <;> simp[f161C,h];simp[b]at h;simp[f161C,h]
 rw[zcc 160 rfl rfl];simp[f160C,c,d]
def QnW (t i) (u:t.mass < 1000000):call tb 159 [.agg (Qd t)] i=some (.bool (Uv t),i):=by
 have q:=QI t;rw[zcc 159 rfl rfl];by_cases g:t.kind=3;have b:=QnX t i g;simp only[Ys,ONE]at b;cases h: (t.name == [122,101,114,111] || t.name == [111,110,101]);rw[h]at b;simp at h;simp[f159C,g,b,Uv,Ys,ONE,h]
 rw[h]at b;by_cases m:t.kids=[];simp[f159C,g,b,Uv,Ys,ONE,h,m];have r: ¬t.kids.length=0:=fun e=>m (Yu e);have s: ¬(t.kids.length:Int)=0:=by omega
 simp[f159C,g,b,Uv,Ys,ONE,m];by_cases a:t.kind=2;have b:=Qtr t.name i;have o:=QnY (if Ut t.name then t.name.drop 2 else t.name) i (by split;rw[U5];omega;omega);have d:=QqE t.name;generalize (if Ut t.name then t.name.drop 2 else t.name)=w at *;have k:Uv t=if t.sort=1\/t.sort=5 then true else if t.sort=4 then t.name == [103] || Sl t.name else if t.sort=0\/t.sort=2\/t.sort=3 then Sl t.name else false:=by unfold Uv;rw[Qb g,Qe a]
 rw[k];generalize Sl t.name=O at *;by_cases n:t.sort=1;simp[f159C,a,b,n];by_cases p:t.sort=5;simp[f159C,a,b,p];by_cases j:t.sort=4;cases l:t.name == [103];cases f:Ut t.name;rw[f]at b d;simp at d;subst d;simp[f159C,a,b,j,l];rw[f]at b d;simp at d;subst d;simp[f159C,a,b,o,j,l];simp[f159C,a,b,j,l];by_cases c:t.sort=0\/t.sort=2\/t.sort=3;cases f:Ut t.name;rw[f]at b d;simp at d;subst d;rcases c with c | c | c <;> simp[f159C,a,b,c];rw[f]at b d;simp at d;subst d;rcases c with c | c | c <;> simp[f159C,a,b,o,c];simp only[not_or]at c;simp[f159C,a,b,n,p,j,c.1,c.2.1,c.2.2];have k:Uv t=false:=by unfold Uv;rw[Qb g,Qb a]
 rw[k];simp[f159C,g,a]
def QfW (s m) (r:s.length < 1000000000): ∀a b h,s=b ++ a->h 0= .str s->h 3= .int .i64 b.length->
  R tb (.loop f232l0) h m (Qi 0 (Qu tb f232r0 (Qz f232 m)))=some (.bool (a.all UW),m):=by
 intro a;induction a with | nil=>intro b h f j k;simp only[QH]at f;rw[<- f]at k;rw[Qc f232l0.eq_1];simp[j,k,f232r0] | cons c a n=>intro b h f j k;have l:=QB f;have o:=QJ f;have g:=QN f;rw[Mb];rw[Qc f232l0.eq_1];by_cases p:c.toNat < 48;(have e:UW c=false:=by simp[UW];omega);(have d: (c.toNat:Int) < 48:=by omega);simp[-getElem?_pos,j,k,l,g,d,e];(have d: ¬(c.toNat:Int) < 48:=by omega);by_cases q:57 < c.toNat;(have e:UW c=false:=by simp[UW];omega);(have i: (57:Int) < (c.toNat:Int):=by omega);simp[-getElem?_pos,j,k,l,g,d,i,e];(have e:UW c=true:=by simp[UW];omega);(have i: ¬(57:Int) < (c.toNat:Int):=by omega);rw[e,VS];simp[-getElem?_pos,j,k,l,g,(wr1 b.length (by omega)),d,i,-List.all_eq_true];apply(fun h=>n (b ++ [c]) h (by rw[f];simp)) <;> simp[j]
def Qoe (s l) (k:s.length < 1000000000):call tb 232 [.str s] l=some (.bool (Sl s),l):=by
 rw[zcc 232 rfl rfl];by_cases h:s.length < 3;have f: (s.length:Int) < 3:=by omega
 have e:Sl s=false:=by unfold Sl;split;exfalso;simp only[ZH]at h;omega;rfl
 simp[f232C,f,e];have f: ¬(s.length:Int) < 3:=by omega
 have g: (2:Int)<=(s.length:Int):=by omega
 cases d:s.take 2 == [101,35];have e:Sl s=false:=by unfold Sl;split;simp at d;rfl
 simp[f232C,f,g,d,e];match s,d,h,k with | a:: b:: c:: r,d,h,k=>have m:=fun n=>QfW (a:: b:: c:: r) l k (c:: r) [a,b] n rfl;simp at d;obtain⟨rfl,rfl⟩:=d;have e:Sl (101:: 35:: c:: r)=(c:: r).all UW:=rfl;rw[e];simp only[ZH,Xy]at f (by omega) g m;generalize (c:: r).all UW=O at *;(have i: ¬((r.length:Int)+1+1+1 < 3):=by omega);(have j: (2:Int)<=(r.length:Int)+1+1+1:=by omega);simp[f232C,i,j];apply m <;> simp | [],d,_,_=>simp at d | [_],d,_,_=>simp at d | [_,_],d,h,_=>simp at h
def Qod (t l) (u:t.mass < 1000000):call tb 231 [.agg (Qd t)] l=some (.bool (Uv t),l):=by
 have o:=QI t;have n:=Qoe t.name l (by omega);rw[zcc 231 rfl rfl];by_cases d:t.kind=3;have i:Uv t=((t.name == Ys || t.name == ONE) && decide (t.kids.length=0)):=by unfold Uv;rw[Qe d]
 rw[i];by_cases g:t.kids=[];cases c:t.name == Ys;cases h:t.name == ONE <;> simp only[Ys,ONE]at c h <;> simp[f231C,d,c,h,g];simp only[Ys]at c;simp[f231C,d,c,g];have q: ¬t.kids.length=0:=fun e=>g (Yu e);have r: ¬(t.kids.length:Int)=0:=by omega
 cases c:t.name == Ys;cases h:t.name == ONE <;> simp only[Ys,ONE]at c h <;> simp[f231C,d,c,h,g];simp only[Ys]at c;simp[f231C,d,c,g];by_cases a:t.kind=2;have i:Uv t=if t.sort=1\/t.sort=5 then true else if t.sort=4 then t.name == [103] || Sl t.name else if t.sort=0\/t.sort=2\/t.sort=3 then Sl t.name else false:=by unfold Uv;rw[Qb d,Qe a]
 rw[i];generalize Sl t.name=O at *;by_cases k:t.sort=1;simp[f231C,a,k];by_cases m:t.sort=5;simp[f231C,a,m];by_cases j:t.sort=4;cases f:t.name == [103];simp[f231C,a,j,f,n];simp[f231C,a,j,f];by_cases b:t.sort=0\/t.sort=2\/t.sort=3;cases f:t.name == [103];rcases b with b | b | b <;> simp[f231C,a,b,n,f];rcases b with b | b | b <;> simp[f231C,a,b,n,f];simp only[not_or]at b;cases f:t.name == [103];simp[f231C,a,k,m,j,b.1,b.2.1,b.2.2,f];simp[f231C,a,k,m,j,b.1,b.2.1,b.2.2,f];have i:Uv t=false:=by unfold Uv;rw[Qb d,Qb a]
 rw[i];simp[f231C,d,a]
def Xp (x:Tm):Int:=if thV x≠0 then thV x else if U3 x≠[]then 13 else if Vi x then 0 else 10
def VF:Qj->Int
 | []=>0
 | x:: r=>if Xp x≠0 then Xp x else VF r
def TS (B0 B:Qp) (v:AV) (l:Qj):Prop:=∃(M:Qp) (id sz:Nat),B=B0 ++ M/\v= .gs id 0 sz l.length/\
 ((sz=0/\id=0/\l=[])\/(sz=4/\B0.length<=id/\l≠[]/\B[id]? =some (Ql l)))
def M8 {c B v l} (h:TS c B v l): ∃a b,v= .gs a 0 b l.length:=by
 obtain⟨M,a,b,_,rfl,_⟩:=h;exact⟨a,b,rfl⟩
def Qbx (a):TS a a (.gs 0 0 0 0) []:=⟨[],0,0,by simp,rfl,.inl ⟨rfl,rfl,rfl⟩⟩
def Qu6 {a B v l} (x o) (h:TS a B v l) (q:l.length < 1000000): ∃j i,appM 56 4 v (.sl o 4 [Qd x]) B=some (j,i)/\TS a i j (l ++ [x]):=by
 obtain⟨M,d,p,rfl,rfl,n⟩:=h;have k:XR 4 (.sl o 4 [Qd x]) (a ++ M)=some (1,Qd x):=by simp[XR]
 rcases n with⟨rfl,rfl,rfl⟩ | ⟨rfl,g,b,f⟩;refine⟨.gs (a ++ M).length 0 4 1,a ++ (M ++ [Qd x]),?_,M ++ [Qd x],(a ++ M).length,4,rfl,rfl,.inr ⟨rfl,by simp,by simp,?_⟩⟩;simp[appM,k];rw[<- ZX,Yv];simp[Ql,Y4];have m: (Ql l).length=l.length*4:=Yl QG l;have c:Ql (l ++ [x])=Ql l ++ Qd x:=by simp[Ql,Vp,Ov]
 refine⟨.gs (a ++ M).length 0 4 (l.length+1),(a ++ M).set d []++ [Ql l ++ Qd x],?_,M.set (d - a.length) []++ [Ql l ++ Qd x],(a ++ M).length,4,?_,by simp,.inr ⟨rfl,by simp,by simp,?_⟩⟩;simp only[appM,k,QO];rw[Qe ⟨by omega,(Wb (by omega))⟩,Qb (by omega),Qb (by omega),Qe ⟨trivial,trivial⟩,f];simp only[QO];rw[Qe ⟨(by intro e;rw[e]at m;simp at m;exact b (Yu (by omega))),by omega⟩,Qb (by omega),Z7 (by omega),(Yn Zi l)];rw[WA g,ZX];have e: (a ++ M).length=((a ++ M).set d []).length:=by simp
 rw[c,e,Yv]
def Qrk {b B v l} (h:TS b B v l) (o:l.length < 1000000) (m: ∀x∈l,x.mass < 1000000):
  ∃g,call tb 170 [v,.fn 30 []] B=some (.tup [],g)/\TS b g v (XK l):=by
 obtain⟨M,d,n,rfl,rfl,k⟩:=h;rcases k with⟨rfl,rfl,rfl⟩ | ⟨rfl,a,f,j⟩;refine⟨b ++ M,?_,M,0,0,rfl,rfl,.inl ⟨rfl,rfl,rfl⟩⟩;rw[Xv tb_170];simp[NG];refine⟨_,(MN l (b ++ M) d j (by omega) fun x c=>by have:=m x c;unfold big;omega),M.set (d - b.length) (Ql (XK l)),d,4,WA a _,by rw[Va],.inr ⟨rfl,a,?_,?_⟩⟩;intro e;obtain⟨x,c⟩:=Gf l f;have:=(UP (l:=l)).2 c;rw[e]at this;simp at this;rw[Qy,Qe rfl,Qe (QF j)]
def GR {x:Tm}: ∀{l:Qj},x∈Zk l->x.mass<=Qv l
 | [],h=>by simp[Zk]at h
 | t:: ts,h=>by
  simp only[Zk,Ze]at h;simp only[Qv];rcases h with h | h
  ·have:=V5 t x h;omega
  ·have:=GR h;omega
def Qaq {l:Qj} {M:Nat} (h: ∀x∈l,x.mass<=M):Qv l<=l.length*M:=by
 induction l with
 | nil=>simp[Qv]
 | cons x xs ih=>
  have h1:=ih fun y hy=>h y (by simp[hy]);have h2:=h x (by simp);simp only[Qv,ZH,U6];omega
def Qxh (i:Nat):Tm:= .mk 1 (119:: Qxc i) 0 []
def SK:Zq:=[115,107]
def SHK:Zq:=[115,104,107]
def QkN (l g t p q) (A:l.length < 1000000) (u: ∀x∈t,x.ok=true) (w: ∀x∈l,call tb g (.agg (Qd x):: t) q=some (.bool (p x),q)):
  ∀b a o d,l=a ++ b->a.any p=false->d 0= .sl o 4 (Qa l)->d 1= .fn g t->d 7= .int .i64 l.length->d 8= .int .i64 a.length->
  FY (l.any p) q (R tb (.loop f215l0) d q (Qi 0 (Qu tb f215r0 (Qz f215 q)))):=by
 intro b;induction b with | nil=>intro a o d h e i j k m;simp only[QH]at h;rw[<- h]at m e;rw[Qc f215l0.eq_1];refine⟨-1,?_,by grind⟩;simp[i,j,k,m,f215r0] | cons x b z=>intro a o d h e i j k m;have n:=QB h;have y:=QJ h;have r:=QN h;have c:=w x (by grind);have f:=eq_true u;rw[Qc f215l0.eq_1];cases s:p x;simp[i,j,k,m,r,n,(wr1 a.length (by omega)),c,f,s,-List.any_eq_false,-List.any_eq_true];apply(fun d=>(fun d e=>z (a ++ [x]) o d (by grind) e) d (by grind)) <;> simp[i,j,k];have v:l.any p=true:=T9.2 ⟨x,by grind,s⟩;refine⟨a.length,?_,by grind⟩;simp[i,j,k,m,r,n,c,f,s]
def B7 (l g c p o a) (f:l.length < 1000000) (b: ∀x∈c,x.ok=true) (j: ∀x∈l,call tb g (.agg (Qd x):: c) a=some (.bool (p x),a)):
  call tb 214 [.sl o 4 (Qa l),.fn g c] a=some (.bool (l.any p),a):=by
 have m:=fun k=>QkN l g c p a f b j l [] false k rfl rfl;have d:=eq_true b;have h:FY (l.any p) a (call tb 215 [.sl false 4 (Qa l),.fn g c] a):=by rw[zcc 215 rfl rfl];simp[f215C,-List.any_eq_false,-List.any_eq_true];simp_all
 obtain⟨i,e,n⟩:=h;rw[zcc 214 rfl rfl];simp[f214C,e,-List.any_eq_false,-List.any_eq_true];grind
def hbs:Nat->Qj->Qp
 | _,[]=>[]
 | k,t:: ts=>(Qd (Qxh k)++ Qd t):: hbs (k+1) ts
def X3 (t):t∈Zu t:=by cases t;simp[Zu]
def Qb3 {x} (h:Xp x=0):x.kind≠1:=by
 intro b;unfold Xp at h;by_cases c:thV x=0;rw[Qb (by simpa using c)]at h;by_cases d:U3 x=[];unfold U3 at d;have a:x∈QL ((Zu x).filter (UO 1)):=ZO.2 (X1.2 ⟨X3 x,by simp[UO,b]⟩);rw[d]at a;cases a;rw[Qe d]at h;exact absurd h (by decide);rw[Qe c]at h;exact absurd h c
def atA:Tm:= .mk 2 [97] 1 []
def atB:Tm:= .mk 2 [98] 1 []
def Vh:Qj:=[.mk 2 [110,97] 2 [],.mk 2 [110,98] 2 [],.mk 2 [107] 3 [],.mk 2 [108] 3 [],.mk 2 [103] 4 [],atA,.mk 2 [104,105] 5 [],.mk 2 [100] 0 [],.mk 3 SK 0 [atA],.mk 3 SHK 0 [atA,atB]]
def F3 (a):call tb 284 [] a=some (.sl true 4 (Qa Vh),a):=by
 have b: ∀o,call tb 120 [.str [115,107],.sl o 4 [Qd atA]] a=some (.agg (Qd (.mk 3 SK 0 [atA])),a):=fun o=>RF SK [atA] o a (by simp);have c: ∀o,call tb 120 [.str [115,104,107],.sl o 4 [Qd atA,Qd atB]] a=some (.agg (Qd (.mk 3 SHK 0 [atA,atB])),a):=fun o=>RF SHK [atA,atB] o a (by simp);simp only[atA,atB]at b c;rw[zcc 284 rfl rfl];simp[f284C,(fun s n=>Qe7 s n a),b,c,Vh,atA,atB,Qa]
def Vy (b:XZ):Qp:=b.map fun n:Nat=>[AV.int .u8 (n:Int)]
def Wy (b): (Vy b).length=b.length:=by simp[Vy]
def AK {b} {i n:Nat} (h:b[i]? =some n): (Vy b)[i]? =some [AV.int .u8 (n:Int)]:=by simp[Vy,h]
def QwM (n:Zq):Bool:=n == XOR || n == EXP || n == MUL || n == INV || n == Ys || n == ONE
def frB (t:Tm):Bool:=(Zu t).all fun x=> !decide (x.kind=3) || !QwM x.name
def nK:Xs
 | 0=>1
 | j+1=>2*nK j+1
def nM:Xs
 | 0=>40
 | j+1=>2*nM j+20
def Qat: ∀j,1<=nK j
 | 0=>QX _
 | j+1=>by simp only[nK];omega
def Qi1: ∀j,40<=nM j
 | 0=>QX _
 | j+1=>by have:=Qi1 j;simp only[nM];omega
def LB:=@List.mem_nil_iff
def Qqg {k:Nat} {t} (h:Vh[k]? =some t):t.mass<=40/\frB t=true:=by
 have a:=X9 h;simp only[Vh,Zf,LB,S8]at a;rcases a with rfl | rfl | rfl | rfl | rfl | rfl | rfl | rfl | rfl | rfl <;> exact⟨by decide,by decide⟩
def WK (l:List XZ):Qp:=l.map fun b=>[AV.sl false 1 (Vy b)]
def J0 (l): (WK l).length=l.length:=by simp[WK]
def Qik {l} {i:Nat} {b} (h:l[i]? =some b): (WK l)[i]? =some [AV.sl false 1 (Vy b)]:=by simp[WK,h]
end Go.Am
