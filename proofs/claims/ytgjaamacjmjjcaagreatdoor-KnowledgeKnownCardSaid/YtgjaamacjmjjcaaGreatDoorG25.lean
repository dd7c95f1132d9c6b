/-
  Kn42, Kn43, Kn44, Kn69, Kn70, Kn71, Kn72, Kn73, Kn74.
-/
import Derived.Test.YtgjaamacjmjjcaaGreatDoorG24
import Derived.Test.YtgjaamacjmjjcaaGreatDoorG21
set_option linter.all false
open Go.Am.F
namespace Go.Am
def cnE (rs:Xv) (us:WN) (c k:Nat):Nat:=(scE rs us c k).2
def S2 (b a c k):cnE b a c (k+1)=cnE b a c k+if acE b a c k then 1 else 0:=by
 unfold cnE;simp only[scE];grind
def QfD {rs rs2 us c}: ∀k,(∀i,i < k->acE rs2 us c i=true->acE rs us c i=true)->cnE rs2 us c k<=cnE rs us c k
 | 0,_=>by simp[cnE,scE]
 | k+1,h=>by
  have b:=QfD k fun i a=>h i (by omega);rw[S2,S2];grind
def Qnp {rs rs2 us c i}: ∀k,(∀i,i < k->acE rs2 us c i=true->acE rs us c i=true)->i < k->acE rs us c i=true->acE rs2 us c i=false->cnE rs2 us c k+1<=cnE rs us c k
 | 0,_,h,_,_=>by omega
 | k+1,h,f,d,b=>by
  rw[S2,S2];by_cases a:i=k;subst a;have:=QfD i fun j e=>h j (by omega);grind;have g:=Qnp k (fun j e=>h j (by omega)) (by omega) d b;grind
def QeI {rs us c k} (h:2<=cnE rs us c k) (b): ∃i,i < k/\i≠b/\acE rs us c i=true:=by
 have e:=scI rs us c k;rcases a: (scE rs us c k).1 with _ | d;have:=(e.nn a).1;unfold cnE at h;omega;obtain⟨o,g,f,p⟩:=e.sm d a;obtain⟨j,n,m,l⟩:=e.tw d a h;grind
def Qln {f a c e b d}: ∀k,(∀i,i < k->unE a i->i=e\/i=b\/i=d)->cnE f a c k<=3:=by
 intro k h;have j: ∀k,(∀i,i < k->unE a i->i=e\/i=b\/i=d)->cnE f a c k<=(if e < k then 1 else 0)+ (if b < k then 1 else 0)+ (if d < k then 1 else 0):=by intro k;induction k with | zero=>intro _;simp[cnE,scE] | succ k g=>intro h;have g:=g fun i m=>h i (by omega);rw[S2];cases l:acE f a c k;grind; · simp only[QU];have:=h k (by omega) (XP.1 l).1;grind
 grind
def J3 (us:WN) (c Z G:Nat) (rs:Xv):Prop:=
 (∀i,i < rs.length->unE us i->aE rs c i<=Z/\xE rs c i<=G)/\
 ((∀i,i < rs.length->unE us i->aE rs c i+xE rs c i<=Z)\/cnE rs us c rs.length<=1\/
  ∃b W i0,b < rs.length/\i0 < rs.length/\acE rs us c b=true/\acE rs us c i0=true/\i0≠b/\(∀i,i < rs.length->i≠b->acE rs us c i=true->aE rs c i < aE rs c b)/\(∀i,i < rs.length->acE rs us c i=true->xE rs c i<=W)/\W*aE rs c b*aE rs c i0*2 ^ (cnE rs us c rs.length - 1)<=G)
def Qup {Z m A:Nat} (a:m<=Z) (c:A<=Z):m* (Z - A)+A* (Z - m)<=Z*Z:=by
 obtain⟨u,rfl⟩: ∃u,Z=m+u:=⟨Z - m,by omega⟩;obtain⟨v,b⟩: ∃v,m+u=A+v:=⟨m+u - A,by omega⟩;rw[show m+u - A=v by omega,show m+u - m=u by omega];have e: (m+u)* (m+u)=(m+u)* (A+v):=by grind
 grind
def Ae:=@Nat.pow_le_pow_right
def Qp9 {us c Z G L a b} (hG:2* (Z*Z*Z)<=G) (hZ:2<=Z) (hL: ∀i,i < a.length->(rwE a i).length=L) (hu3: ∃t i2 i3,∀k,k < a.length->unE us k->k=t\/k=i2\/k=i3) (hj:J3 us c Z G a) (hs: (scE a us c a.length).1=some b) (hn:2<=(scE a us c a.length).2):J3 us c Z G (rnE a us c b a.length):=by
 obtain⟨x,X,s3,s4⟩:=(scI a us c a.length).sm b hs;obtain⟨ub,ab⟩:=XP.1 X;have s:=Na ab;obtain⟨h1,C⟩:=hj;have B:=fun i g=>Qgq (us:=us) (c:=c) hL x (i:=i) g;have S:=fun i g=>Qml (us:=us) (c:=c) hL x (i:=i) g;have p:=XT a us c b a.length;obtain⟨d,Q⟩: ∃d,rnE a us c b a.length=d:=⟨_,rfl⟩;rw[Q]at B S p ⊢;have w:aE d c b=aE a c b:=by grind
 have hXb:xE d c b<=xE a c b:=by grind
 have D:acE d us c b=true:=XP.2 ⟨ub,by omega⟩;have j: ∀i,i < a.length->acE d us c i=true->acE a us c i=true:=by intro i g h;obtain⟨ui,T⟩:=XP.1 h;rw[B i g]at T;by_cases hc:i≠b/\acE a us c i=true;grind;rw[Qe hc]at T;exact XP.2 ⟨ui,T⟩
 have u: ∀i,i < a.length->i≠b->acE d us c i=true->aE d c i < aE d c b:=by intro i g r h;rw[B i g,Qg ⟨r,j i g h⟩,w];exact T7 _ s
 have hcn:=QfD (rs:=a) (rs2:=d) (us:=us) (c:=c) a.length j;have hc3:cnE d us c a.length<=3:=by obtain⟨t,i2,i3,h⟩:=hu3;exact Qln a.length h
 have M: ∀n,n<=3->2 ^ (n - 1)<=4:=by intro n hn;match n,hn with | 0,_=>decide | 1,_=>decide | 2,_=>decide | 3,_=>decide
 have hZZ:Z*Z*2<=Z*Z*Z:=WO _ hZ;have hZ1:Z*1<=Z*Z:=WO _ (by omega);rcases C with C | C | ⟨f,W,l,U,g2,g3,V,g5,g6,g7,g8⟩;have hbL:=C b x ub;have hW: ∀i,i < a.length->acE a us c i=true->aE a c b*xE d c i<=Z*Z:=by intro i g o;obtain⟨ui,T⟩:=XP.1 o;have P:=C i g ui;have H:=S i g;by_cases r:i=b;subst r;have h5:aE a c i*xE d c i<=Z*Z:=LR (by omega) (by omega);omega;rw[Qg ⟨r,o⟩]at H;have p1:=WO (aE a c b) H;(have p2:aE a c b* (xE a c i+aE a c i / aE a c b*xE a c b)=aE a c b*xE a c i+aE a c b* (aE a c i / aE a c b)*xE a c b:=by grind);have p3:=YE (xE a c b) (Nat.mul_div_le (aE a c i) (aE a c b));have p4:aE a c b*xE a c i<=aE a c b* (Z - aE a c i):=WO _ (by omega);have p5:aE a c i*xE a c b<=aE a c i* (Z - aE a c b):=WO _ (by omega);have p6:=Qup (Z:=Z) (m:=aE a c b) (A:=aE a c i) (by omega) (by omega);omega
 have z: ∀i,i < a.length->acE a us c i=true->xE d c i<=Z*Z / aE a c b:=fun i g o=>(GK s).2 (by grind);have hdv:=Ng (Z*Z) (aE a c b);refine⟨fun i g hu=> ?_,?_⟩;rw[p]at g;have P:=C i g hu;by_cases q:acE a us c i=true;have H:=z i g q;have o:=B i g;refine⟨?_,by omega⟩;rw[o];split;have:=Nat.mod_le (aE a c i) (aE a c b);omega;omega;grind;rw[p];by_cases h1c:cnE d us c a.length<=1;omega;obtain⟨l,v,K,N⟩:=QeI (rs:=d) (us:=us) (c:=c) (k:=a.length) (by omega) b;refine .inr (.inr ⟨b,Z*Z / aE a c b,l,x,v,D,N,K,u,fun i g o=>z i g (j i g o),?_⟩);have q:=j l v N;have O:=B l v;rw[Qg ⟨K,q⟩]at O;have hmin':aE a c b<=aE a c l:=(s4 l v q);have P:=C l v (XP.1 q).1;rw[w,O];have q2:=M _ hc3;have q3:Z*Z / aE a c b*aE a c b* (aE a c l % aE a c b)<=Z*Z* (aE a c l % aE a c b):=YE _ (Nat.div_mul_le_self _ _);have q4:Z*Z* (2* (aE a c l % aE a c b))<=Z*Z*Z:=WO _ (by have J:=JN (aE a c l) (aE a c b);have e2:=T7 (aE a c l) s;have e3:1<=aE a c l / aE a c b:=(GK s).2 (by omega);have R:=WO (aE a c b) e3;omega);have q5:Z*Z* (2* (aE a c l % aE a c b))=2* (Z*Z* (aE a c l % aE a c b)):=by grind
 have q6:Z*Z / aE a c b*aE a c b* (aE a c l % aE a c b)*2 ^ (cnE d us c a.length - 1)<=Z*Z / aE a c b*aE a c b* (aE a c l % aE a c b)*4:=WO _ q2;omega;unfold cnE at C;omega;have E:b≠f:=by intro e;subst e;have J:=g6 l g2 g5 V;have e2:=s4 l g2 V;unfold aE at J;omega
 have hbb0:=g6 b x E X;have hcn2:2<=cnE a us c a.length:=hn;have hF:W*aE a c f*aE a c b*2 ^ (cnE a us c a.length - 1)<=G:=by refine WP (YE _ (WO _ (s4 l g2 V))) g8
 have I: ∀i,i < a.length->acE a us c i=true->xE d c i<=W* (1+aE a c f / aE a c b):=by intro i g o;have H:=S i g;have hw:=g7 i g o;by_cases r:i=b;grind;rw[Qg ⟨r,o⟩]at H;(have hle:aE a c i<=aE a c f:=by by_cases h:i=f;grind;exact Nat.le_of_lt (g6 i g h o));have p1:aE a c i / aE a c b*xE a c b<=aE a c f / aE a c b*W:=LR (Nat.div_le_div_right hle) (g7 b x X);grind
 have hq:1+aE a c f / aE a c b<=2* (aE a c f*aE a c b):=by have J:=Ng (aE a c f) (aE a c b);have e2:aE a c f*1<=aE a c f*aE a c b:=WO _ s;omega
 have hW2:W* (1+aE a c f / aE a c b)<=G:=by have p1:=WO W hq;(have p2:W* (2* (aE a c f*aE a c b))=W*aE a c f*aE a c b*2:=by grind);have p3:=WO (W*aE a c f*aE a c b) (by have:2 ^ 1<=2 ^ (cnE a us c a.length - 1):=Ae (by decide) (by omega);omega);omega
 refine⟨fun i g hu=> ?_,?_⟩;rw[p]at g;obtain⟨v,K⟩:=h1 i g hu;by_cases q:acE a us c i=true;have H:=I i g q;have o:=B i g;refine⟨?_,by omega⟩;rw[o];split;have:=Nat.mod_le (aE a c i) (aE a c b);omega;omega;have o:=B i g;have H:=S i g;grind;rw[p];by_cases h1c:cnE d us c a.length<=1;omega;have y:=B f U;rw[Qg ⟨fun e=>E e.symm,g3⟩]at y;have hdm:=JN (aE a c f) (aE a c b);by_cases hz:aE a c f % aE a c b=0;have hc2:=Qnp (rs:=a) (rs2:=d) (us:=us) (c:=c) (i:=f) a.length j U g3 (by cases h:acE d us c f;rfl;have:=(XP.1 h).2;omega);obtain⟨t,v,K,N⟩:=QeI (rs:=d) (us:=us) (c:=c) (k:=a.length) (by omega) b;refine .inr (.inr ⟨b,W* (1+aE a c f / aE a c b),t,x,v,D,N,K,u,fun i g o=>I i g (j i g o),?_⟩);have ha1:=u t v K N;rw[w]at ha1 ⊢;have J: (1+aE a c f / aE a c b)*aE d c t<=(1+aE a c f / aE a c b)*aE a c b:=WO _ (by omega);have e2: (1+aE a c f / aE a c b)*aE a c b=aE a c b+aE a c b* (aE a c f / aE a c b):=by grind
 have e3: (1+aE a c f / aE a c b)*aE d c t<=2*aE a c f:=by omega
 obtain⟨e,he⟩: ∃e,cnE a us c a.length - 1=e+1:=⟨cnE a us c a.length - 2,by omega⟩;rw[he,Nat.pow_succ]at hF;have R:2 ^ (cnE d us c a.length - 1)<=2 ^ e:=Ae (by decide) (by omega);have e5:W* (1+aE a c f / aE a c b)*aE a c b*aE d c t=W*aE a c b* ((1+aE a c f / aE a c b)*aE d c t):=by grind
 have e6:=WO (W*aE a c b) e3;have e7:W*aE a c b* (2*aE a c f)=W*aE a c f*aE a c b*2:=by grind
 have Y:W* (1+aE a c f / aE a c b)*aE a c b*aE d c t<=W*aE a c f*aE a c b*2:=by omega
 have e9:=LR Y R;grind;refine .inr (.inr ⟨b,W* (1+aE a c f / aE a c b),f,x,U,D,(XP.2 ⟨(XP.1 g3).1,by omega⟩),fun e=>E e.symm,u,fun i g o=>I i g (j i g o),?_⟩);rw[w,y];have J: (1+aE a c f / aE a c b)* (aE a c f % aE a c b)<=aE a c f:=by have p1:aE a c f / aE a c b* (aE a c f % aE a c b)<=aE a c f / aE a c b*aE a c b:=WO _ (Nat.le_of_lt (T7 (aE a c f) s));grind
 have e5:W* (1+aE a c f / aE a c b)*aE a c b* (aE a c f % aE a c b)=W*aE a c b* ((1+aE a c f / aE a c b)* (aE a c f % aE a c b)):=by grind
 have e6:=WO (W*aE a c b) J;have e7:W*aE a c b*aE a c f=W*aE a c f*aE a c b:=by grind
 have Y:W* (1+aE a c f / aE a c b)*aE a c b* (aE a c f % aE a c b)<=W*aE a c f*aE a c b:=by omega
 have R:2 ^ (cnE d us c a.length - 1)<=2 ^ (cnE a us c a.length - 1):=Ae (by decide) (by omega);have e9:=LR Y R;omega
structure S4 where
 a0:Nat
 x0:Nat
 a1:Nat
 x1:Nat
 a2:Nat
 x2:Nat
 a3:Nat
 x3:Nat
def S4.a (s:S4):XI
 | 0=>s.a0
 | 1=>s.a1
 | 2=>s.a2
 | _=>s.a3
def S4.x (s:S4):XI
 | 0=>s.x0
 | 1=>s.x1
 | 2=>s.x2
 | _=>s.x3
def rA (p:Bool) (m a:Nat):Nat:=if p then a else a % m
def rX (p:Bool) (m y a x:Nat):Nat:=if p then x else x+a / m*y
def S4.step (s:S4) (b:Nat):S4:=
 ⟨rA (b == 0) (s.a b) s.a0,rX (b == 0) (s.a b) (s.x b) s.a0 s.x0,rA (b == 1) (s.a b) s.a1,rX (b == 1) (s.a b) (s.x b) s.a1 s.x1,
  rA (b == 2) (s.a b) s.a2,rX (b == 2) (s.a b) (s.x b) s.a2 s.x2,rA (b == 3) (s.a b) s.a3,rX (b == 3) (s.a b) (s.x b) s.a3 s.x3⟩
def S4.min (s:S4) (b:Nat):Bool:=s.a b != 0 && (s.a0 == 0 || Nat.ble (s.a b) s.a0) && (s.a1 == 0 || Nat.ble (s.a b) s.a1) && (s.a2 == 0 || Nat.ble (s.a b) s.a2) && (s.a3 == 0 || Nat.ble (s.a b) s.a3)
def S4.bnd (s:S4):Bool:=Nat.ble (s.a0+s.x0) 72 && Nat.ble (s.a1+s.x1) 72 && Nat.ble (s.a2+s.x2) 72 && Nat.ble (s.a3+s.x3) 72
def nz1 (n:Nat):Nat:=if n == 0 then 0 else 1
def S4.one (s:S4):Bool:=Nat.ble (nz1 s.a0+nz1 s.a1+nz1 s.a2+nz1 s.a3) 1
def S4.safe:Nat->S4->Bool
 | 0,s=>s.bnd && s.one
 | f+1,s=>s.bnd && (s.one || ((!s.min 0 || S4.safe f (s.step 0)) && (!s.min 1 || S4.safe f (s.step 1)) && (!s.min 2 || S4.safe f (s.step 2)) && (!s.min 3 || S4.safe f (s.step 3))))
def HC (p:Nat->Bool):Nat->Bool
 | 0=>true
 | n+1=>p n && HC p n
def H3 (a b c d:Nat):S4:=⟨a,9 - a,b,9 - b,c,9 - c,d,9 - d⟩
def Qp0:HC (fun a=>HC (fun b=>HC (fun c=>HC (fun d=>S4.safe 5 (H3 a b c d)) 10) 10) 10) 10=true:=by kernel_rfl
def Mp {p}: ∀{n},HC p n=true->∀i,i < n->p i=true
 | n+1,h,i,b=>by
  simp only[HC,Qu]at h;rcases Pv.1 b with a | a;exact Mp h.2 i a;subst a;exact h.1
def QiQ {a b c d} (h:a<=9) (e:b<=9) (f:c<=9) (g:d<=9):S4.safe 5 (H3 a b c d)=true:=
 Mp (Mp (Mp (Mp Qp0 a (by omega)) b (by omega)) c (by omega)) d (by omega)
def J4 (c:Nat) (rs:Xv):Prop:=∃f s,S4.safe f s=true/\∀i,i < 4->aE rs c i=s.a i/\xE rs c i<=s.x i
def QmI {f s} (h:S4.safe f s=true):s.bnd=true:=by
 cases f <;> simp only[S4.safe,Qu]at h <;> exact h.1
def Qi5 {c d} (h:J4 c d): ∀i,i < 4->aE d c i+xE d c i<=72:=by
 obtain⟨f,s,k,j⟩:=h;have e:=QmI k;simp only[S4.bnd,Qu,Nat.ble_eq]at e;obtain⟨⟨⟨l,m⟩,n⟩,o⟩:=e;intro i g;obtain⟨b,a⟩:=j i g;match i,g with | 0,_=>simp only[S4.a,S4.x]at b a;omega | 1,_=>simp only[S4.a,S4.x]at b a;omega | 2,_=>simp only[S4.a,S4.x]at b a;omega | 3,_=>simp only[S4.a,S4.x]at b a;omega
def Qqa {c a} (h: ∀i,i < 4->aE a c i+xE a c i<=9):J4 c a:=by
 refine⟨5,H3 (aE a c 0) (aE a c 1) (aE a c 2) (aE a c 3),QiQ ?_ ?_ ?_ ?_,?_⟩;have:=h 0 (by omega);omega;have:=h 1 (by omega);omega;have:=h 2 (by omega);omega;have:=h 3 (by omega);omega;intro i b;have:=h i b;match i,b with | 0,_=>exact⟨rfl,by simp only[S4.x,H3];omega⟩ | 1,_=>exact⟨rfl,by simp only[S4.x,H3];omega⟩ | 2,_=>exact⟨rfl,by simp only[S4.x,H3];omega⟩ | 3,_=>exact⟨rfl,by simp only[S4.x,H3];omega⟩
def Qqb {us c L g b} (M:g.length=4) (Y: ∀i,i < 4->unE us i) (I: ∀i,i < g.length->(rwE g i).length=L) (K:J4 c g) (hs: (scE g us c g.length).1=some b) (hn:2<=(scE g us c g.length).2):J4 c (rnE g us c b g.length):=by
 obtain⟨H,R,s3,N⟩:=(scI g us c g.length).sm b hs;obtain⟨ub,ab⟩:=XP.1 R;obtain⟨f,s,z,t⟩:=K;have d: ∀i,i < 4->acE g us c i=(s.a i != 0):=by intro i j;have e:=(t i j).1;rw[JM,XP,e];constructor;intro h;simpa using h.2;intro h;exact⟨Y i j,by simpa using h⟩
 have o:s.one=false:=by(have B:cnE g us c 4=nz1 s.a0+nz1 s.a1+nz1 s.a2+nz1 s.a3:=by rw[S2,S2,S2,S2,d 0 (by omega),d 1 (by omega),d 2 (by omega),d 3 (by omega)];simp only[S4.a,nz1,cnE,scE];cases h0:s.a0 <;> cases z:s.a1 <;> cases t:s.a2 <;> cases h3:s.a3 <;> simp);(have:2<=cnE g us c 4:=by rwa[<- M]);rw[B]at this;cases h:s.one;rfl;simp only[S4.one,Nat.ble_eq]at h;omega
 have n:b < 4:=by omega
 have w:s.min b=true:=by(have m: ∀i,i < 4->(s.a i == 0 || Nat.ble (s.a b) (s.a i))=true:=by intro i j;by_cases r:s.a i=0;simp[r];have:=N i (by omega) (by rw[d i j];simpa using r);have q:=(t i j).1;have E:=(t b n).1;unfold aE at q E;rw[q,E]at this;simp[this]);(have D: (s.a b != 0)=true:=by rwa[<- d b n]);have U: (s.a0 == 0 || Nat.ble (s.a b) s.a0)=true:=m 0 (by omega);have Q: (s.a1 == 0 || Nat.ble (s.a b) s.a1)=true:=m 1 (by omega);have X: (s.a2 == 0 || Nat.ble (s.a b) s.a2)=true:=m 2 (by omega);have O: (s.a3 == 0 || Nat.ble (s.a b) s.a3)=true:=m 3 (by omega);simp only[S4.min,D,V4];rw[U,Q,X,O];rfl
 obtain⟨C,W⟩: ∃C,S4.safe C (s.step b)=true:=by cases f with | zero=>simp only[S4.safe,o,PF]at z;cases z | succ f=>simp only[S4.safe,o,T3,Qu,Wo,Sv]at z;obtain⟨_,⟨⟨⟨S,P⟩,Z⟩,V⟩⟩:=z;refine⟨f,?_⟩;(have l: ∀k,(s.min k=false\/S4.safe f (s.step k)=true)->b=k->S4.safe f (s.step b)=true:=by intro k u e;subst e;rcases u with u | u;rw[w]at u;cases u;exact u);match b,n with | 0,_=>exact l 0 S rfl | 1,_=>exact l 1 P rfl | 2,_=>exact l 2 Z rfl | 3,_=>exact l 3 V rfl
 refine⟨C,s.step b,W,fun i j=> ?_⟩;have v:=(fun i j=>Qgq (us:=us) (c:=c) I H (i:=i) j) i (by omega);have y:=(fun i j=>Qml (us:=us) (c:=c) I H (i:=i) j) i (by omega);obtain⟨q,E⟩:=t i j;obtain⟨J,T⟩:=t b n;have A: (s.step b).a i=rA (b == i) (s.a b) (s.a i)/\(s.step b).x i=rX (b == i) (s.a b) (s.x b) (s.a i) (s.x i):=by match i,j with | 0,_=>exact⟨rfl,rfl⟩ | 1,_=>exact⟨rfl,rfl⟩ | 2,_=>exact⟨rfl,rfl⟩ | 3,_=>exact⟨rfl,rfl⟩
 rw[A.1,A.2];by_cases p:i=b;subst p;rw[Qe (fun h=>h.1 rfl)]at v y;simp only[rA,rX,beq_self_eq_true,QU];exact⟨by rw[v,q],by omega⟩;have G: (b == i)=false:=by simp only[O8,ne_eq];exact fun e=>p e.symm
 simp only[rA,rX,G,Xa,ZM];by_cases r:s.a i=0;rw[Qe (by rw[d i j,r];simp)]at v y;rw[v,q,r];exact⟨by simp,by simp;omega⟩;rw[Qg (⟨p,by rw[d i j];simpa using r⟩)]at v y;rw[v,q,J];rw[q,J]at y;refine⟨rfl,WP y ?_⟩;have:=WO (s.a i / s.a b) T;omega
def Qak (c): ∀f a us e d,(∀i,i < a.length->(rwE a i).length=(rwE a 0).length)->coE c f a us=some (e,d,-1)->e=a/\d=us/\(scE a us c a.length).1=none
 | 0,_,_,_,_,_,h=>by simp[coE]at h
 | f+1,a,us,e,d,o,h=>by
  rcases l: (scE a us c a.length).1 with _ | b;have m:scE a us c a.length=(none,(scE a us c a.length).2):=by rw[<- l]
  rw[coE,m]at h;simp only[QW,Zk]at h;exact⟨h.1.symm,h.2.1.symm,rfl⟩;obtain⟨k,s,v,t⟩:=(scI a us c a.length).sm b l;have m:scE a us c a.length=(some b,(scE a us c a.length).2):=by rw[<- l]
  rw[coE,m]at h;simp only at h;by_cases g: (scE a us c a.length).2=1;rw[Qg g]at h;simp only[QW,Zk]at h;omega;rw[Qe g]at h;split at h;have j:=QjH (us:=us) (c:=c) o k;obtain⟨_,_,n⟩:=Qak c f _ us e d (by rw[XT];intro i q;rw[j i q,(j 0 (by omega))]) h;rw[XT]at n;have p:=Qgq (us:=us) (c:=c) o k (i:=b) k;rw[Qe (fun h=>h.1 rfl)]at p;obtain⟨r,u⟩:=XP.1 s;have:=((scI (rnE a us c b a.length) us c a.length).nn n).2 b k;rw[(XP.2 ⟨r,by rwa[p]⟩)]at this;cases this;cases h
def nrB (rs:Xv) (us:WN) (Z:Nat):Prop:=∀i,i < rs.length->unE us i->nrE (rwE rs i)<=Z
def StI (M:Nat) (rs:Xv) (us:WN):Prop:=
 (M=4/\(∀i,i < 4->unE us i)/\nrB rs us 9)\/((∃i1 i2 i3,∀k,k < M->unE us k->k=i1\/k=i2\/k=i3)/\nrB rs us 72)\/
 ((∃i1 i2,∀k,k < M->unE us k->k=i1\/k=i2)/\nrB rs us 1048576)\/(∃i1,∀k,k < M->unE us k->k=i1)
def Ny {c b k} (d:b < c.length) (h:unE (c.set b true) k):k≠b/\unE c k:=by
 unfold unE at *;rw[Kz d]at h;by_cases a:k=b;rw[Qg a]at h;cases h;rw[Qe a]at h;exact⟨a,h⟩
def Qwb {a c i L} (d: (rwE a i).length=L) (b:c < L):nrE (rwE a i)=aE a c i+xE a c i:=by
 rw[Gg (c:=c) (by omega)];rfl
def Qq9 {d o c L M} (hM:d.length=M) (O:o.length=M) (E: ∀i,i < d.length->(rwE d i).length=L) (R:c < L) (h:StI M d o):
  ∃a n p,coE c (msE d o c d.length+1) d o=some (a,n,p)/\a.length=M/\n.length=M/\(∀i,i < a.length->(rwE a i).length=L)/\StI M a n:=by
 have D: ∀(J:Xv->Prop),J d->(∀d b,d.length=M->(∀i,i < d.length->(rwE d i).length=L)->J d->(scE d o c d.length).1=some b->2<=(scE d o c d.length).2->(∀i,i < d.length->unE o i->aE (rnE d o c b d.length) c i+xE (rnE d o c b d.length) c i<=1099511627776)/\J (rnE d o c b d.length))->(∀a b,a.length=M->(∀i,i < a.length->(rwE a i).length=L)->b < M->unE o b->J a->StI M a (o.set b true))->∃a n p,coE c (msE d o c d.length+1) d o=some (a,n,p)/\a.length=M/\n.length=M/\(∀i,i < a.length->(rwE a i).length=L)/\StI M a n:=by intro J z K N;obtain⟨a,n,p,q,v,A,T,S,i6⟩:=Qtw J R K (msE d o c d.length+1) d hM E z (by omega);refine⟨a,n,p,q,A,?_,T,?_⟩;rcases S with⟨_,e⟩ | ⟨b,_,_,_,e⟩ <;> rw[e];exact O;rwa[WZ];rcases S with⟨H,e⟩ | ⟨b,H,b1,W,e⟩;subst H;obtain⟨Y,V,_⟩:=Qak c _ d o a n (fun i m=>by rw[E i m,E 0 (by omega)]) q;rwa[Y,V];rw[e];exact N a b A T b1 W v
 have u: ∀(a:Xv) (i:Nat),(∀i,i < a.length->(rwE a i).length=L)->i < a.length->nrE (rwE a i)=aE a c i+xE a c i:=fun a i hl m=>Qwb (hl i m) R;rcases h with⟨Q,s,G⟩ | ⟨⟨q,v,A,s⟩,G⟩ | ⟨⟨q,v,s⟩,G⟩ | ⟨q,s⟩;refine D (J4 c) (Qqa fun i m=> ?_) (fun f b C y w t x=> ?_) (fun f b C y w t x=> ?_);rw[<- u d i E (by omega)];exact G i (by omega) (s i m);have z:=Qqb (by omega) s y w t x;exact⟨fun i m _=>by have:=Qi5 z i (by omega);omega,z⟩;subst Q;refine .inr (.inl ⟨?_,fun i m l=> ?_⟩);have: ∃q v A,∀k,k < 4->k≠b->k=q\/k=v\/k=A:=by match b,w with | 0,_=>exact⟨1,2,3,fun k r P=>by omega⟩ | 1,_=>exact⟨0,2,3,fun k r P=>by omega⟩ | 2,_=>exact⟨0,1,3,fun k r P=>by omega⟩ | 3,_=>exact⟨0,1,2,fun k r P=>by omega⟩
 obtain⟨q,v,A,X⟩:=this;exact⟨q,v,A,fun k r g=>X k r (Ny (by omega) g).1⟩;rw[u f i y m];have:=Qi5 x i (by omega);exact this;refine D (J3 o c 72 746496) ⟨fun i m l=> ?_,.inl fun i m l=> ?_⟩ (fun f b C y w t x=> ?_) (fun f b C y w t x=> ?_);have:=G i m l;rw[u d i E m]at this;omega;have:=G i m l;rwa[u d i E m]at this;have z:=Qp9 (by decide) (by decide) y ⟨q,v,A,by rwa[C]⟩ w t x;refine⟨fun i m l=> ?_,z⟩;have:=z.1 i (by rwa[XT]) l;omega;refine .inr (.inr (.inl ⟨?_,fun i m l=> ?_⟩));have hbm:=s b w t;by_cases H:b=q;exact⟨v,A,fun k r g=>by obtain⟨I,B⟩:=Ny (by omega) g;rcases s k r B with h | h | h <;> omega⟩;by_cases U:b=v;exact⟨q,A,fun k r g=>by obtain⟨I,B⟩:=Ny (by omega) g;rcases s k r B with h | h | h <;> omega⟩;exact⟨q,v,fun k r g=>by obtain⟨I,B⟩:=Ny (by omega) g;rcases s k r B with h | h | h <;> omega⟩;rw[u f i y m];have:=x.1 i m (Ny (by omega) l).2;omega;refine D (J2 o c 1048576) (Qp7 (by decide) fun i m l=> ?_) (fun f b C y w t x=> ?_) (fun f b C y w t x=> ?_);have:=G i m l;rwa[u d i E m]at this;have z:=Qp8 y ⟨q,v,by rwa[C]⟩ w t;refine⟨fun i m l=> ?_,z⟩;have:=(z.1 i (by rwa[XT]) l).2;omega;refine .inr (.inr (.inr ?_));by_cases H:b=q;exact⟨v,fun k r g=>by obtain⟨I,B⟩:=Ny (by omega) g;rcases s k r B with h | h <;> omega⟩;exact⟨q,fun k r g=>by obtain⟨I,B⟩:=Ny (by omega) g;have:=s b w t;rcases s k r B with h | h <;> omega⟩;refine D (fun _=>True) trivial (fun f b C y w t x=> ?_) (fun f b C y w t x=> ?_);exfalso;obtain⟨s1,Z,s3,s4⟩:=(scI f o c f.length).sm b t;obtain⟨j,j1,j2,j3⟩:=(scI f o c f.length).tw b t x;have H:=s b (by omega) (XP.1 Z).1;have U:=s j (by omega) (XP.1 j3).1;omega;exact .inr (.inr (.inr ⟨q,fun k r g=>s k r (Ny (by omega) g).2⟩))
def Qu3 {m i} (h:i < m):unE (List.replicate m false) i:=by simp[unE,ZT,h]
def Qnr {rs L} (t:rs.length<=4) (g: ∀i,i < rs.length->(rwE rs i).length=L) (d: ∀i,i < rs.length->nrE (rwE rs i)<=9):
  ∀c,c<=L->∃s,elE rs c=some s/\s.1.length=rs.length/\s.2.1.length=rs.length/\(∀i,i < s.1.length->(rwE s.1 i).length=L)/\StI rs.length s.1 s.2.1
 | 0,_=>by
  refine⟨_,rfl,rfl,by simp,g,?_⟩;by_cases e:rs.length=4;exact .inl ⟨e,fun i a=>Qu3 (by omega),fun i a _=>d i a⟩;exact .inr (.inl ⟨⟨0,1,2,fun k v _=>by omega⟩,fun i a _=>WP (d i a) (by decide)⟩)
 | c+1,w=>by
  obtain⟨s,l,u,m,e,h⟩:=Qnr t g d c (by omega);obtain⟨f,b,p,r,n,j,q,o⟩:=Qq9 (c:=c) (L:=L) u m e (by omega) h;exact⟨(f,b,s.2.2 ++ [p]),by simp[elE,l,r],n,j,q,o⟩
set_option maxRecDepth 20000
mutual
theorem Qau: ∀(t x:Tm),Y6 t=0->x∈Zs t->Y6 x=0
 | .mk k n s ks,x,h,hx=>by
  simp only[Zs,Zl]at hx;rcases hx with rfl | hx
  ·exact h
  ·simp only[Y6]at h;split at h
   ·rename_i h1;exact absurd h h1
   ·exact Qat ks x h hx
theorem Qat: ∀(ts:List Tm) (x:Tm),Uq ts=0->x∈Q3 ts->Y6 x=0
 | [],x,_,hx=>by simp[Q3]at hx
 | t:: ts,x,h,hx=>by
  simp only[Uq]at h;simp only[Q3,Zp]at hx;split at h
  ·rename_i h1;exact absurd h h1
  ·rename_i h1;rcases hx with hx | hx
   ·exact Qau t x (by simpa using h1) hx
   ·exact Qat ts x h hx
end
mutual
theorem D4: ∀(t x:Tm),x∈Zs t->x.nodes<=t.nodes
 | .mk k n s ks,x,hx=>by
  simp only[Zs,Zl]at hx;rcases hx with rfl | hx
  ·exact QY _
  ·have:=F3 ks x hx;simp only[Tm.nodes];omega
theorem F3: ∀(ts:List Tm) (x:Tm),x∈Q3 ts->x.nodes<=Qp ts
 | [],x,hx=>by simp[Q3]at hx
 | t:: ts,x,hx=>by
  simp only[Q3,Zp]at hx;simp only[Qp];rcases hx with hx | hx
  ·have:=D4 t x hx;omega
  ·have:=F3 ts x hx;omega
end
mutual
theorem DA: ∀(t x:Tm),x∈Zs t->x.depth<=t.depth
 | .mk k n s ks,x,hx=>by
  simp only[Zs,Zl]at hx;rcases hx with rfl | hx
  ·exact QY _
  ·have:=Fp ks x hx;simp only[Tm.depth];omega
theorem Fp: ∀(ts:List Tm) (x:Tm),x∈Q3 ts->x.depth<=XF ts
 | [],x,hx=>by simp[Q3]at hx
 | t:: ts,x,hx=>by
  simp only[Q3,Zp]at hx;simp only[XF];rcases hx with hx | hx
  ·have:=DA t x hx;omega
  ·have:=Fp ts x hx;omega
end
def QbW {t} (h:QZ t=0):t.depth<=40:=by
 unfold QZ at h;split at h;rename_i a;exact absurd h a;split at h;cases h;omega
def Em {t x} (h:QZ t=0) (a:x∈Zs t):QZ x=0:=by
 obtain⟨b,g,c⟩:=Xu h;have d:=D4 t x a;have e:=DA t x a;have f:=QbW h;unfold QZ;rw[Qe (by simp[(Qau t x b a)]),Qe (by omega)]
def Qlo: ∀t l m q,q∈Vh l t m->(∃p∈l,p.1=q.1)\/(q.1∈Zs t/\Xm q.1=false):=by
 refine Yp ?_;intro k n s f v l m q d;have r: ∀(c:Qj) (l:Q9) (m:Int) (q:Pw),(∀x∈c,x∈f)->q∈Wk l c m->(∃p∈l,p.1=q.1)\/(q.1∈Q3 f/\Xm q.1=false):=by intro c;induction c with | nil=>intro l m q _ h;simp only[Wk]at h;exact .inl ⟨q,h,rfl⟩ | cons x c w=>intro l m q b h;simp only[Wk]at h;rcases w _ m q (fun y A=>b y (by simp[A])) h with⟨p,u,e⟩ | h;rcases v x (b x (by simp)) l m p u with⟨z,j,o⟩ | ⟨a,g⟩;exact .inl ⟨z,j,o.trans e⟩;rw[e]at a g;exact .inr ⟨IY (b x (by simp)) _ a,g⟩;exact .inr h
 rw[Ug]at d;cases i:Xm (.mk k n s f);rw[i]at d;rcases SE (by simpa using d)with h | rfl | ⟨B,a,rfl,_⟩;exact .inl ⟨q,h,rfl⟩;exact .inr ⟨Ud _,i⟩;exact .inl ⟨_,a,rfl⟩;rw[i]at d;rcases r f l _ q (fun x b=>b) (by simpa using d)with h | ⟨a,g⟩;exact .inl h;exact .inr ⟨by simp only[Zs,Zl];exact .inr a,g⟩
def Ql6 {t q} (h:q∈ofP t):q.1∈Zs t/\Xm q.1=false:=by
 unfold ofP at h;split at h;rcases Qlo t [] 1 q h with⟨p,a,_⟩ | h;simp at a;exact h;simp at h
def Qkr: ∀l b,(∀q∈l,QZ q.1=0/\Xm q.1=false/\q.2≠0/\ -1000<=q.2/\q.2<=1000)->Asc (QV l)->(∀a,b=some a->∀q∈l,Qo a q.1 < 0)->vPL b l=0
 | [],b,_,_,_=>by simp[vPL]
 | p:: r,b,h,k,f=>by
  obtain⟨g,m,j,n,o⟩:=h p (by simp);have c: (∀y∈QV r,Qo p.1 y < 0)/\Asc (QV r):=by(have:QV (p:: r)=p.1:: QV r:=by simp[QV]);rwa[this,XX]at k
  have i:Wt p.2=false:=by simp only[Wt,Y0 (show ¬p.2 < -1000 by omega),Y0 (show ¬1000 < p.2 by omega),Bool.or_self]
  simp only[vPL];rw[Qe (by simp[g]),Qe (by simp[m]),Qe (by simp[j,i]),Qg (by unfold gtO;rcases b with _ | a;rfl;exact Xy (f a rfl p (by simp)))];exact Qkr r _ (fun q d=>h q (by simp[d])) c.2 fun a e q d=>by cases e;exact c.1 q.1 (by simp[QV];exact⟨q.2,d⟩)
def Qqm {l q} (h:q∈l):q.2.natAbs<=nL1 l:=by
 induction l with | nil=>simp at h | cons p r a=>simp only[nL1,ZO,T4]at a ⊢;rcases Zl.1 h with rfl | h;omega;have:=a h;omega
def F0 (f): ∀l:Q9,nL1 (l.filter f)<=nL1 l
 | []=>by simp[nL1]
 | p:: r=>by
  have a:=F0 f r;simp only[GW];split;simp only[nL1,ZO,T4]at a ⊢;omega;simp only[nL1,ZO,T4]at a ⊢;omega
def Ql7 {t} (h:t.mass < big):Um (ofP t) t.nodes:=by
 unfold ofP;split;have:=Lc t [] 1 0 h (.inl rfl) MH;rwa[ZV]at this;exact MH.mono (Nk _)
def Qks {s t} (c:QZ t=0) (k:nL1 (ofP t)<=8):ZA (Xn s (ofP t))=0:=by
 have j:t.mass < big:=by have:=(Xu c).2.2;unfold big;omega
 have d:=Ql7 j;have l:=VR t;have i:=Gs s (ofP t);unfold ZA;rw[Qe (by omega)];refine Qkr _ _ (fun q h=> ?_) ?_ (fun a e=>by cases e);have b:=(VP.1 h).1;obtain⟨g,f⟩:=Ql6 b;have:=Qqm b;exact⟨Em c g,f,d.nz q b,by omega,by omega⟩;have:QV (Xn s (ofP t))=(QV (ofP t)).filter fun x=> !Qx s x:=by simp only[QV,Xn,List.filter_map];rfl
 rw[this];exact TH _ d.asc
def Qqo (a b):nrE (a ++ b)=nrE a+nrE b:=by simp[nrE]
def Qef (m):nrE (List.replicate m 0)=0:=by
 induction m with | zero=>rfl | succ m a=>rw[Rx];simp only[nrE,ZO,T4]at a ⊢;rw[a];rfl
def Qa5: ∀m i,nrE ((List.replicate m (0:Int)).set i 1)<=1
 | 0,i=>by simp[nrE]
 | m+1,0=>by
  rw[Rx,LK];have:=Qef m;simp only[nrE,ZO,T4]at this ⊢;rw[this];decide
 | m+1,i+1=>by
  rw[Rx,LM];have:=Qa5 m i;simp only[nrE,ZO,T4]at this ⊢;simpa using this
def Qbq (g q): ∀a:Qj,q.1 ∉ a->nrE (a.map (pwT (q:: g)))=nrE (a.map (pwT g))
 | [],_=>rfl
 | t:: a,h=>by
  have c:=Qbq g q a fun e=>h (by simp[e]);have b:Qo q.1 t≠0:=fun e=>h (by rw[YP _ _ e];simp);simp only[nrE,ZO,T4,pwT,Qe b]at c ⊢;rw[c]
def Qbr (g q): ∀a:Qj,a.Nodup->nrE (a.map (pwT (q:: g)))<=q.2.natAbs+nrE (a.map (pwT g))
 | [],_=>by simp[nrE]
 | t:: a,h=>by
  have b:=G0.1 h;by_cases e:Qo q.1 t=0;have d:=Qbq g q a (by rw[(YP _ _ e)];exact b.1);simp only[nrE,ZO,T4,pwT,Qg e]at d ⊢;omega;have c:=Qbr g q a b.2;simp only[nrE,ZO,T4,pwT,Qe e]at c ⊢;omega
def Qbs: ∀a:Qj,a.map (pwT [])=List.replicate a.length 0
 | []=>rfl
 | t:: a=>by rw[ZO,Qbs a,Zu,Rx];rfl
def Qel: ∀g (a:Qj),a.Nodup->nrE (a.map (pwT g))<=nL1 g
 | [],a,_=>by
  have:=Qbs a;rw[this,Qef];exact Nk _
 | q:: g,a,h=>by
  have b:=Qbr g q a h;have c:=Qel g a h;have:nL1 (q:: g)=q.2.natAbs+nL1 g:=by simp[nL1]
  omega
def Qbt (b a t) (h: ∀j,t.getD j 0=0): ∀k c,rdE b a k c t=0
 | 0,_=>rfl
 | k+1,c=>by simp only[rdE,Qg (h c)];exact Qbt b a t h k (c+1)
def Ft: ∀{l},(∀g∈l,ZA g=0)->YM l=0
 | [],_=>rfl
 | g:: l,h=>by
  simp only[YM,h g (by simp),ne_eq,PC,ZM];exact Ft fun x a=>h x (by simp[a])
def Qqi {l} (p:l.length<=4) (e: ∀g∈l,ZA g=0) (k: ∀g∈l,nL1 g<=8) (n: (Xz (l ++ [[]])).length<=12):meE l []=0:=by
 have c:Asc (Xz (l ++ [[]])):=XY _;obtain⟨a,b⟩: ∃a,Xz (l ++ [[]])=a:=⟨_,rfl⟩;unfold meE;rw[b]at n c ⊢;rw[Qe (by omega),Qe (by simp[Ft e]),Qe (by decide),Qe (by omega)];have f:=VL a l;obtain⟨s,m,_⟩:=Qnr (rs:=Yn a l) (L:=a.length+l.length) (by omega) (fun i h=>by rw[SR (by omega)];exact MJ _ _ _ _) (fun i h=>by rw[SR (by omega),Uu,Qqo];(have o:l.getD i []∈l:=by rw[ZT,Za (by omega)];exact V3 _);have d:=Qel (l.getD i []) a (Dp c);have r:=k _ o;have q:=Qa5 l.length i;omega) a.length (by omega);rw[m];simp only[meF];refine Qbt _ _ _ (fun j=> ?_) _ _;have:VY a l.length []=List.replicate (a.length+l.length) 0:=by have d:=Qbs a;rw[VY,d,List.replicate_append_replicate]
 rw[this,ZT,Jv];split <;> rfl
def XS: ∀c a,Asc a->Asc c->(∀x∈a,x∈c)->a.length<=c.length
 | [],a,_,_,h=>by
  rcases a with _ | ⟨x,j⟩;exact QY _;have:=h x (by simp);simp at this
 | y:: l,a,b,f,h=>by
  rw[XX]at f;rcases a with _ | ⟨x,j⟩;simp;have g:=b;rw[XX]at b;rcases Zl.1 (h x (by simp))with e | e;subst e;have:=XS l j b.2 f.2 fun z d=>by rcases Zl.1 (h z (by simp[d]))with e | e;subst e;exact absurd (b.1 z d) (Rs z);exact e
  simp;exact this;have:=XS l (x:: j) g f.2 fun z d=>by rcases Zl.1 d with k | k;rwa[k];rcases Zl.1 (h z d)with i | i;subst i;exact absurd (XG (f.1 x e) (b.1 z k)) (Rs z);exact i
  simp at this ⊢;omega
def X5 (u:Qj):Qj:=(u.map fun t=>if XJ t then QV (ofP t)else if isB t EXP then QV (ofP (kid t 1))else []).flatten
structure UC (u:List Tm):Prop where
 len:u.length<=200
 v: ∀x∈u,QZ x=0
 g: ∀x∈u,Zf x=true
 hn: ∀x∈u,HN x
 ex: (u.filter XJ).length<=4
 fac: (Qq (X5 u)).length<=8
def QpZ {u t q} (a:t∈u) (c:XJ t=true) (b:q∈ofP t):q.1∈X5 u:=by
 simp only[X5,Nd,YL];refine⟨_,⟨t,a,rfl⟩,?_⟩;rw[Qg c];exact YL.2 ⟨q,b,rfl⟩
def Quh {u s} (i:UC u) (l:Asc u) (k:Asc s) (n: ∀x∈s,x∈u) (m):Iq s m=SL s m:=by
 unfold Iq;by_cases c:Xn s m=[];rw[Xy c,PI];unfold SL;rw[c];have d: ∀g∈WC s s,∃t∈u,XJ t=true/\g=Xn s (ofP t):=fun g e=>by obtain⟨t,b,rfl⟩:=YL.1 e;obtain⟨h,j⟩:=VP.1 b;exact⟨t,n t h,j,rfl⟩
 refine(Xy (Qqi ?_ ?_ ?_ ?_)).symm;have h:=XS (u.filter XJ) (s.filter XJ) (TH _ k) (TH _ l) fun x a=>by obtain⟨h,j⟩:=VP.1 a;exact VP.2 ⟨n x h,j⟩
 have j:=i.ex;simp only[WC,UR];omega;intro g e;obtain⟨t,b,f,rfl⟩:=d g e;exact Qks (i.v t b) (((i.hn t b) t (Ud t)).2 f);intro g e;obtain⟨t,b,f,rfl⟩:=d g e;exact WP (F0 _ _) (((i.hn t b) t (Ud t)).2 f);have h:=XS (Qq (X5 u)) (Xz (WC s s ++ [[]])) (XY _) (XY _) fun x a=>by have a:=Z7.1 a;rw[QkV]at a;simp only[QV,Vn,Qy]at a;simp only[Vq,Nd,YL]at a;obtain⟨_,⟨g,e,rfl⟩,a⟩:=a;obtain⟨t,b,f,rfl⟩:=d g e;obtain⟨q,o,rfl⟩:=YL.1 a;exact Z7.2 (QpZ b f (VP.1 o).1)
 have:=i.fac;omega;rw[Y0 c,T3]
def Qra {u s} (c:UC u) (b:Asc u) (a:Asc s) (d: ∀x∈s,x∈u) (t):TX s t=XD s t:=by
 unfold TX XD De Gi FZ H9;simp only[(fun m=>Quh c b a d m)]
def P6: ∀{s},(∀x∈s,QZ x=0)->Qp s<=400*s.length
 | [],_=>by simp[Qp]
 | x:: s,h=>by
  have b:=(Xu (h x (by simp))).2.1;have c:=P6 (s:=s) fun y a=>h y (by simp[a]);simp only[Qp,Zu];omega
def Qkl {u s} (d:UC u) (j:Asc u) (l:Asc s) (e: ∀x∈s,x∈u) {t} (f:t∈u):StC s t:=by
 have z:=XS u s l j e;have q:=d.len;have i: ∀x∈u,x.mass < 1000000:=fun x c=>by have:=(Xu (d.v x c)).2.2;omega
 have g: ∀x∈u,isB x EXP=true->x.kids.length=2:=fun x c w=>by obtain⟨a,b,r⟩:=Yq (d.g x c) w (by simp[Vx]);rw[r];rfl
 have h: ∀x∈u,isB x XOR=true->QI x≠[]:=fun x c=>((d.hn x c) x (Ud x)).1;refine⟨by omega,⟨by omega,fun x c=>⟨d.g x (e x c),i x (e x c)⟩⟩,i t f,fun x c=>g x (e x c),g t f,fun v=>⟨by omega,?_,fun x c=>i x (e x c),i t f,fun x c=>d.v x (e x c),d.v t f,fun x c=>h x (e x c),?_⟩⟩;have A:=P6 (s:=s) fun x c=>d.v x (e x c);have p:=(Xu (d.v t f)).2.1;omega;by_cases c:isB t XOR=true;exact h t f c;obtain⟨k,n,o,m⟩:=t;simp only[QI];split;rename_i y;obtain⟨rfl,rfl,rfl⟩:=y;exact absurd v (by simp[X0,Tm.kind,Tm.name,Tm.kids]);split;rename_i p;exact absurd (Sf.2 (show(Tm.mk k n o m).kind=3/\(Tm.mk k n o m).name=XOR from p)) c;simp
noncomputable def Wh (p:Qj->Tm->Bool):Qj×Bool->Qj->Qj×Bool
 | x,[]=>x
 | x,t:: ts=>Wh p (if !Qx x.1 t && p x.1 t then(QT t x.1,true)else x) ts
noncomputable def W4 (p:Qj->Tm->Bool) (u:Qj):Nat->Qj->Qj
 | 0,s=>s
 | f+1,s=>if(Wh p (s,false) u).2 then W4 p u f (Wh p (s,false) u).1 else(Wh p (s,false) u).1
structure PsI (u s:List Tm):Prop where
 asc:Asc s
 sub: ∀x∈s,x∈u
def Re {u s t} (h:PsI u s) (b:t∈u):PsI u (QT t s):=⟨Kj h.asc,fun x a=>by
 rcases Wa.1 a with rfl | a;exact b;exact h.sub x a⟩
def OD (p) {u}: ∀a x,(∀t∈a,t∈u)->PsI u x.1->PsI u (Wh p x a).1
 | [],x,_,h=>h
 | t:: a,x,b,h=>by
  simp only[Wh];apply OD p a _ (fun y c=>b y (by simp[c]));split;exact Re h (b t (by simp));exact h
def Qjr {p q u} (b: ∀s,PsI u s->∀t∈u,p s t=q s t): ∀a x,(∀t∈a,t∈u)->PsI u x.1->Wh p x a=Wh q x a
 | [],x,_,_=>rfl
 | t:: a,x,c,h=>by
  simp only[Wh];rw[b x.1 h t (c t (by simp))];apply Qjr b a _ (fun y d=>c y (by simp[d]));split;exact Re h (c t (by simp));exact h
def Qin {p q u} (a: ∀s,PsI u s->∀t∈u,p s t=q s t): ∀f s,PsI u s->W4 p u f s=W4 q u f s
 | 0,s,_=>rfl
 | f+1,s,h=>by
  simp only[W4];rw[Qjr a u (s,false) (fun t b=>b) h];split;exact Qin a f _ (OD q u (s,false) (fun t b=>b) h);rfl
def MS {t}: ∀{s},t ∉ s->(QT t s).length=s.length+1
 | [],_=>rfl
 | x:: b,h=>by
  have a:Qo t x≠0:=fun e=>h (by rw[YP _ _ e];simp);simp only[QT,Qe a];split;simp;simp[(MS (t:=t) (s:=b) fun e=>h (Rw _ e))]
def Hi (p): ∀a x,x.1.length<=(Wh p x a).1.length/\((Wh p x a).2=true->x.2=true\/x.1.length < (Wh p x a).1.length)
 | [],x=>⟨QY _,fun h=> .inl h⟩
 | t:: a,x=>by
  simp only[Wh];have b:=Hi p a (if !Qx x.1 t && p x.1 t then(QT t x.1,true)else x);cases c: (!Qx x.1 t && p x.1 t);rw[c]at b;simpa using b;rw[c]at b;have d:Qx x.1 t=false:=by simp only[Qu,Sv]at c;exact c.1
  have f:=MS (t:=t) (s:=x.1) fun e=>by rw[Zz.2 e]at d;cases d
  simp only[QU]at b ⊢;exact⟨by omega,fun _=> .inr (by omega)⟩
def Qtt {u} (J:UC u) (H:Asc u) (B K) (Q:Out->Prop):
  ∀a c s m o r w d,u=c ++ a->PsI u s->d 0= .sl o 4 (Qa s)->d 1= .sl r 4 (Qa u)->d 5= .bool m->d 9= .sl w 4 (Qa u)->d 10= .int .i64 u.length->d 11= .int .i64 c.length->
  (∀j N,j 0= .sl N 4 (Qa (Wh TX (s,m) a).1)->j 1= .sl r 4 (Qa u)->j 5= .bool (Wh TX (s,m) a).2->Q (R tb (.loop f529l1) j B K))->
  Q (R tb (.loop f529l0) d B (Qh 2 (Qh 1 (Qs tb (.loop f529l1) K)))):=by
 have M:=J.len;intro a;induction a with | nil=>intro c s m o r w d h i n A D k b e f;simp only[Qy]at h;rw[<- h]at e;rw[Qb f529l0.eq_1];simp[k,b,e];apply f _ o <;> simp[n,A,D,Wh] | cons t a G=>intro c s m o r w d h i n A D k b e f;have I:=Qv h;have O:=QD h;have p:=wr1 c.length (by omega);have q:=QF h;(have L:t∈u:=by rw[h];simp);have y:=Qkl J H i.asc i.sub L;(have z:t.mass < big:=by have:=y.um;unfold big;omega);have S:=y.gs.1;have g:=fun o=>Tq s t o B (by omega) y.gs.bg z i.asc;have l:=fun o=>QoL s t o B y i.asc;obtain⟨P,C⟩:=I6 s t false B (by omega) y.gs.bg z i.asc;simp only[Wh]at f;rw[Qb f529l0.eq_1];cases v:Qx s t;cases E:TX s t;rw[v,E]at f;simp only[LP,PF,Xa,ZM]at f;have x:=fun o d=>G (c ++ [t]) s m o r w d (by rw[h];simp) i;simp[n,k,b,e,I,q,p,g,l,v,E,Qc];(apply x o <;> first | exact f | simp[n,A,D,k,b]);rw[v,E]at f;simp only[LP,US,QU]at f;have x:=fun o d=>G (c ++ [t]) (QT t s) true o r w d (by rw[h];simp) (Re i L);simp[n,k,b,e,I,q,p,g,l,v,E,C,Qc];(apply x P <;> first | exact f | simp[A,k,b]);rw[v]at f;simp only[Ml,Mk,Xa,ZM]at f;have x:=fun o d=>G (c ++ [t]) s m o r w d (by rw[h];simp) i;simp[n,k,b,e,I,q,p,g,v,Qc];apply x o <;> first | exact f | simp[n,A,D,k,b]
def ClR (l:Qj) (B:Qr) (r:Out):Prop:=∃o,r=some (.sl o 4 (Qa l),B)
def Qtu {u} (w:UC u) (b:Asc u) (B):
  ∀f s o c a,u.length < f+s.length->PsI u s->a 0= .sl o 4 (Qa s)->a 1= .sl c 4 (Qa u)->a 5= .bool true->
  ClR (W4 TX u f s) B (R tb (.loop f529l1) a B (Qh 0 (Qs tb f529r0 (QA f529 B)))):=by
 intro f;induction f with | zero=>intro s o c a v d;have:=XS u s d.asc b d.sub;omega | succ f m=>intro s o c a v d n k x;have h:=fun(q:Bool) a=>Qtt w b B (Qh 0 (Qs tb f529r0 (QA f529 B))) (ClR (W4 TX u (f+1) s) B) u [] s false o c q a rfl d;simp only[W4]at h ⊢;rw[Qb f529l1.eq_1];simp[k,x];apply h false;simp[n];simp[k];simp;simp;simp;simp;intro i r j l e;cases g: (Wh TX (s,false) u).2;rw[g]at e;refine⟨false,?_⟩;rw[Qb f529l1.eq_1];simp[j,l,e,f529r0];rw[g]at e;rw[Qg rfl];(have:s.length < (Wh TX (s,false) u).1.length:=by rcases(Hi TX u (s,false)).2 g with h | h;cases h;exact h);exact m _ r c i (by omega) (OD TX u (s,false) (fun t p=>p) d) j l e
def QoK {u} (d:UC u) (a:Asc u) {s} (c:PsI u s) (o b B):
  ClR (W4 TX u (u.length+1) s) B (call tb 529 [.sl o 4 (Qa s),.sl b 4 (Qa u)] B):=by
 rw[zcc 529 rfl rfl];simp[f529C];apply(fun o e=>Qtu d a B (u.length+1) s o false e (by omega) c) false <;> simp
def Sl (t:Tm):Bool:=XJ t || isB t XOR || isB t EXP
def Qol (t a):call tb 300 [.agg (Qd t)] a=some (.bool (Sl t),a):=by
 have b:=I3 t a;have d:=Xw t XOR a;have f:=Xw t EXP a;unfold XOR at d;unfold EXP at f;rw[zcc 300 rfl rfl];unfold Sl XOR EXP;cases c:XJ t;cases e:isB t [120,111,114];simp[f300C,b,d,f,c,e,Qc];simp[f300C,b,d,c,e,Qc];simp[f300C,b,c,Qc]
def Qem (u) (z:u.length < 100000) (B K) (Q:Out->Prop):
  ∀c e o b s g,u=e ++ c->g 0=s->g 1= .sl o 4 (Qa u)->g 5= .bool b->g 6= .int .i64 e.length->
  (∀a,a 0=s->a 1= .sl o 4 (Qa u)->a 5= .bool (b && !c.any Sl)->Q (R tb f299r1 a B K))->
  Q (R tb (.loop f299l0) g B (Qh 0 (Qs tb f299r1 K))):=by
 intro c;induction c with | nil=>intro e o b s g j v h l n f;simp only[Qy]at j;rw[<- j]at n;rw[Qb f299l0.eq_1];simp[h,l,n];apply f <;> simp[v,h,l] | cons t c y=>intro e o b s g j v h l n f;have x:=Qv j;have A:=QD j;have k:=wr1 e.length (by omega);have i:=QF j;have d:=Qol t B;have m:=fun b g=>y (e ++ [t]) o b s g (by rw[j];simp);simp only[JT]at f;rw[Qb f299l0.eq_1];cases b;simp only[Mk]at f m;simp[h,l,n,i,k];apply m false;simp[v];simp[h];simp;simp;intro a p q r;exact f a p q (by rw[r];simp);cases w:Sl t;rw[w]at f d;simp only[V4,T3]at f m;simp[h,l,n,x,i,k,d,Qc];apply m true;simp[v];simp[h];simp;simp;intro a p q r;exact f a p q (by rw[r];simp);rw[w]at f d;simp only[V4,PI,Ml]at f m;simp[h,l,n,x,i,k,d,Qc];apply m false;simp[v];simp[h];simp;simp;intro a p q r;exact f a p q (by rw[r];simp)
def QqI {u} (E:UC u) (D:Asc u) (B K) (Q:Out->Prop):
  ∀a b s l o k c,u=b ++ a->PsI u s->c 0= .sl o 4 (Qa s)->c 1= .sl k 4 (Qa u)->c 7= .bool l->c 8= .int .i64 b.length->
  (∀g H,g 0= .sl H 4 (Qa (Wh XD (s,l) a).1)->g 1= .sl k 4 (Qa u)->g 7= .bool (Wh XD (s,l) a).2->Q (R tb (.loop f299l2) g B K))->
  Q (R tb (.loop f299l1) c B (Qh 4 (Qh 3 (Qs tb (.loop f299l2) K)))):=by
 have J:=E.len;intro a;induction a with | nil=>intro b s l o k c f q j h y p d;simp only[Qy]at f;rw[<- f]at p;rw[Qb f299l1.eq_1];simp[j,h,p];apply d _ o <;> simp[j,h,y,Wh] | cons t a A=>intro b s l o k c f q j h y p d;have C:=Qv f;have I:=QD f;have n:=wr1 b.length (by omega);have m:=QF f;(have G:t∈u:=by rw[f];simp);have v:=Qkl E D q.asc q.sub G;(have x:t.mass < big:=by have:=v.um;unfold big;omega);have L:=v.gs.1;have e:=fun o=>Sb s t o B (by omega) v.gs.bg x;have i:=fun o=>Qoq s t o B v;simp only[Wh]at d;rw[Qb f299l1.eq_1];cases r:Qx s t;cases z:XD s t;rw[r,z]at d;simp only[LP,PF,Xa,ZM]at d;have w:=fun o c=>A (b ++ [t]) s l o k c (by rw[f];simp) q;simp[j,h,p,C,m,n,e,i,r,z,Qc];(apply w o <;> first | exact d | simp[j,h,y]);rw[r,z]at d;simp only[LP,US,QU]at d;have w:=fun o c=>A (b ++ [t]) (QT t s) true o k c (by rw[f];simp) (Re q G);simp[j,h,p,C,m,n,e,i,r,z,(fun o=>RJ s t o B (by omega) v.gs.bg x),Qc];(apply w false <;> first | exact d | simp[h]);rw[r]at d;simp only[Ml,Mk,Xa,ZM]at d;have w:=fun o c=>A (b ++ [t]) s l o k c (by rw[f];simp) q;simp[j,h,p,C,m,n,e,r,Qc];apply w o <;> first | exact d | simp[j,h,y]
def QqJ {u} (v:UC u) (b:Asc u) (B):
  ∀f s o c a,u.length < f+s.length->PsI u s->a 0= .sl o 4 (Qa s)->a 1= .sl c 4 (Qa u)->a 7= .bool true->
  ClR (W4 XD u f s) B (R tb (.loop f299l2) a B (Qh 2 (Qs tb f299r0 (QA f299 B)))):=by
 intro f;induction f with | zero=>intro s o c a r d;have:=XS u s d.asc b d.sub;omega | succ f k=>intro s o c a r d m p w;have h:=fun a=>QqI v b B (Qh 2 (Qs tb f299r0 (QA f299 B))) (ClR (W4 XD u (f+1) s) B) u [] s false o c a rfl d;simp only[W4]at h ⊢;rw[Qb f299l2.eq_1];simp[w];apply h;simp[m];simp[p];simp;simp;intro i l j q e;cases g: (Wh XD (s,false) u).2;rw[g]at e;refine⟨false,?_⟩;rw[Qb f299l2.eq_1];simp[j,e,f299r0];rw[g]at e;rw[Qg rfl];(have:s.length < (Wh XD (s,false) u).1.length:=by rcases(Hi XD u (s,false)).2 g with h | h;cases h;exact h);exact k _ l c i (by omega) (OD XD u (s,false) (fun t n=>n) d) j q e
def Qlc {u} (e:UC u) (b:Asc u) {s} (h:PsI u s) (i:u.any Sl=true) (o j B):
  ClR (W4 XD u (u.length+1) s) B (call tb 299 [.sl o 4 (Qa s),.sl j 4 (Qa u)] B):=by
 rw[zcc 299 rfl rfl];simp[f299C];apply(fun a=>Qem u (by have:=e.len;omega) B (QA f299 B) (ClR (W4 XD u (u.length+1) s) B) u [] false true (.sl false 4 (Qa s)) a rfl);simp;simp;simp;simp;intro g c d f;rw[i]at f;simp[f299r1,c,d,f];apply(fun a=>QqJ e b B (u.length+1) s false false a (by omega) h) <;> simp[c,d]
def TM (t:Tm):Qj:=if XJ t then QV (ofP t)else if isB t EXP then QV (ofP (kid t 1))else []
def EW (u):X5 u=(u.map TM).flatten:=rfl
def DM (u t):X5 (u ++ [t])=X5 u ++ TM t:=by simp[EW]
def Nw (a x):Qq (a ++ [x])=QT x (Qq a):=by simp[Qq,Yo,List.foldl_append]
def QlJ (t): (TM t).length<=200:=by
 unfold TM;split;simp only[QV,UR];exact VR t;split;simp only[QV,UR];exact VR _;simp
def HV: ∀u:Qj,(X5 u).length<=200*u.length
 | []=>by simp[X5]
 | t:: u=>by
  have a:=HV u;have b:=QlJ t;have:X5 (t:: u)=TM t ++ X5 u:=by simp[EW]
  grind
def QiM {t} (h:t.mass < 1000000): ∀x∈TM t,x.mass < 1000000:=by
 intro x a;unfold TM at a;split at a;obtain⟨q,b,rfl⟩:=YL.1 a;exact(UN h).2 q b;split at a;obtain⟨q,b,rfl⟩:=YL.1 a;exact(UN (Nat.lt_of_le_of_lt (Vu t 1) h)).2 q b;grind
def DL {u} (h: ∀t∈u,t.mass < 1000000): ∀x∈X5 u,x.mass < 1000000:=by
 intro x a;rw[EW]at a;obtain⟨l,b,a⟩:=Nd.1 a;obtain⟨t,c,rfl⟩:=YL.1 b;exact QiM (h t c) x a
def szT (u:Qj):Int:=if 200 < u.length\/4 < (u.filter XJ).length\/8 < (Qq (X5 u)).length then 3 else 0
def Qeo (l) (s:SmP l) (G) (I:G.length+l.length < 1000000) (z: ∀x∈G,x.mass < 1000000) (v w B K) (Q:Out->Prop):
  ∀b a o h c,l=a ++ b->c 0=v->c 3= .sl o 4 (Qa (Qq (G ++ QV a)))->c 4=w->c 6= .sl h 5 (Qz l)->c 8= .int .i64 a.length->
  (∀d D,d 0=v->d 3= .sl D 4 (Qa (Qq (G ++ QV l)))->d 4=w->Q (K .normal ⟨d,B⟩))->
  Q (R tb (.loop f298l0) c B (Qh 2 K)):=by
 intro b;induction b with | nil=>intro a o h c g u j r k t i;simp only[Qy]at g;subst g;rw[Qb f298l0.eq_1];simp[j,k,t];apply i _ o <;> simp[u,j,r] | cons p b y=>intro a o h c g u j r k t i;have C:=QD g;have H:=s.1;have E:=s.2 p (by grind);(have n: (Qq (G ++ QV a)).length < 100000000:=by have:=WF (G ++ QV a);simp only[Q6,QV,UR]at this ⊢;omega);(have m: ∀x∈Qq (G ++ QV a),x.mass < big:=fun x f=>by have f:=Z7.1 f;rcases Zp.1 f with f | f;have:=z x f;unfold big;omega;obtain⟨q,i,rfl⟩:=YL.1 f;have:=s.2 q (by grind);unfold big;omega);have e:=fun o=>RJ (Qq (G ++ QV a)) p.1 o B n m (by unfold big;omega);(have A:QT p.1 (Qq (G ++ QV a))=Qq (G ++ QV (a ++ [p])):=by rw[<- Nw];simp[QV]);rw[A]at e;rw[Qb f298l0.eq_1];simp[j,k,t,(Qv g),(QF g),(wr1 a.length (by omega)),e];apply(fun o h c=>y (a ++ [p]) o h c (by grind)) false h <;> first | exact i | simp[u,r,k]
def QqM (u) (O:u.length < 4000) (q: ∀t∈u,t.mass < 1000000) (J: ∀t∈u,isB t EXP=true->t.kids.length=2) (B):
  ∀b a o e c,u=a ++ b->c 0= .sl o 4 (Qa u)->c 3= .sl e 4 (Qa (Qq (X5 a)))->c 4= .int .i64 a.length->
  R tb (.loop f298l1) c B (Qh 0 (Qs tb f298r1 (QA f298 B)))=some (.sl false 4 (Qa (Qq (X5 u))),B):=by
 intro b;induction b with | nil=>intro a o e c n f p k;simp only[Qy]at n;subst n;rw[Qb f298l1.eq_1];simp[f,p,k,f298r1] | cons t b N=>intro a o e c n f p k;have w:=Qv n;have V:=QD n;have i:=QF n;have g:=wr1 a.length (by omega);(have M:t∈u:=by grind);have U:=q t M;have j:=Xw t EXP B;have y:=I3 t B;unfold EXP at j;have v: ∀x∈X5 a,x.mass < 1000000:=DL fun x X=>q x (by grind);have T:=HV a;have h:=fun o e c=>N (a ++ [t]) o e c (by grind);rw[DM]at h;by_cases l:isB t EXP=true;have z:=ZN t;(have Q:Qa t.kids=[Qd (kid t 0),Qd (kid t 1)]:=by rw[(MV (J t M l))];simp[Qa]);rw[Q]at z;have W:=Vu t 1;have d:=R5 (kid t 1) B (by omega);(have S:XJ t=false:=by obtain⟨_,P⟩:=Sf.1 l;simp[XJ,isB,P,MUL,INV,EXP]);(have s:TM t=QV (ofP (kid t 1)):=by unfold TM;grind);have m:=UN (t:=kid t 1) (by omega);have E:=VR (kid t 1);have H:=fun K c=>Qeo (ofP (kid t 1)) m (X5 a) (by omega) v (.sl o 4 (Qa u)) (.int .i64 a.length) B K (fun r=>r=some (.sl false 4 (Qa (Qq (X5 u))),B)) (ofP (kid t 1)) [] e false c rfl;unfold EXP at l;rw[l]at j;rw[s]at h;rw[Qb f298l1.eq_1];simp only[z]at j w ⊢;simp[f,k,w,i,j,d,z,Qc];apply H;simp[f];simp[p,QV];simp[k];simp;simp;intro I C G A D;simp[f298r0,D,g];apply h o C <;> simp[G,A];(have l:isB t EXP=false:=by grind);unfold EXP at l;rw[l]at j;cases L:XJ t;(have s:TM t=[]:=by unfold TM EXP;grind);rw[s,Qy]at h;rw[L]at y;rw[Qb f298l1.eq_1];simp[f,k,w,i,g,j,y,Qc,f298r0];apply h o e <;> simp[f,p];(have s:TM t=QV (ofP t):=by unfold TM;grind);have d:=R5 t B (by omega);have m:=UN (t:=t) (by omega);have E:=VR t;have H:=fun K c=>Qeo (ofP t) m (X5 a) (by omega) v (.sl o 4 (Qa u)) (.int .i64 a.length) B K (fun r=>r=some (.sl false 4 (Qa (Qq (X5 u))),B)) (ofP t) [] e false c rfl;rw[s]at h;rw[L]at y;rw[Qb f298l1.eq_1];simp[f,k,w,i,j,y,d,Qc];apply H;simp[f];simp[p,QV];simp[k];simp;simp;intro I C G A D;simp[f298r0,D,g];apply h o C <;> simp[G,A]
def Qoj (u) (b:u.length < 4000) (c: ∀t∈u,t.mass < 1000000) (a: ∀t∈u,isB t EXP=true->t.kids.length=2) (o B):
  call tb 298 [.sl o 4 (Qa u)] B=some (.sl false 4 (Qa (Qq (X5 u))),B):=by
 rw[zcc 298 rfl rfl];simp[f298C];apply(fun d=>QqM u b c a B u [] false true d rfl) <;> simp[X5,Qq,Yo,Qa]
def QuL (u) (x:u.length < 4000) (s: ∀t∈u,t.mass < 1000000) (r: ∀t∈u,isB t EXP=true->t.kids.length=2) (B):
  ∀b a o e,u=a ++ b->e 0= .sl o 4 (Qa u)->e 3= .int .i64 (a.filter XJ).length->e 4= .int .i64 a.length->
  R tb (.loop f296l0) e B (Qh 0 (Qs tb f296r0 (QA f296 B)))=some (.int .i64 (szT u),B):=by
 intro b;induction b with | nil=>intro a o e j d h g;simp only[Qy]at j;subst j;have f:=fun o=>Qoj u x s r o B;rw[Qb f296l0.eq_1];unfold szT;have i: (Qa (Qq (X5 u))).length=(Qq (X5 u)).length:=QX _;generalize (Qq (X5 u)).length=w at *;generalize (u.filter XJ).length=v at *;generalize K:Qa (Qq (X5 u))=E at *;(have H: (200 < u.length)↔(200:Int) < (u.length:Int):=by omega);(have G: (4 < v)↔(4:Int) < (v:Int):=by omega);(have J: (8 < w)↔(8:Int) < (w:Int):=by omega);simp only[H,G,J];by_cases p: (200:Int) < (u.length:Int);simp[d,g,f296r0,p];by_cases z: (4:Int) < (v:Int);simp[d,h,g,f296r0,p,z];by_cases C: (8:Int) < (w:Int);simp[d,h,g,f296r0,f,i,p,z,C];simp[d,h,g,f296r0,f,i,p,z,C] | cons t b D=>intro a o e j d h g;have A:=Qv j;have I:=QD j;have k:=QF j;have l:=wr1 a.length (by omega);have i:=Ux XJ a;have m:=I3 t B;have q:=fun o e=>D (a ++ [t]) o e (by grind);simp only[UW,Q6]at q;generalize (a.filter XJ).length=n at *;have y:IntKind.i64.wrap ((n:Int)+1)=(n:Int)+1:=QC (by omega) (by omega);rw[Qb f296l0.eq_1];cases c:XJ t;rw[c]at m;simp[d,h,g,A,k,l,m,Qc];apply q o <;> simp[d,h,c];rw[c]at m;simp[d,h,g,A,k,l,y,m,Qc];apply q o <;> simp[d,c]
def Qc6 (u) (b:u.length < 4000) (c: ∀t∈u,t.mass < 1000000) (a: ∀t∈u,isB t EXP=true->t.kids.length=2) (o B):
  call tb 296 [.sl o 4 (Qa u)] B=some (.int .i64 (szT u),B):=by
 have h:=fun d=>QuL u b c a B u [] false d rfl;rw[zcc 296 rfl rfl];simp[f296C];simp_all
def Qnu (l) (y:SmP l) (G) (T:G.length+l.length < 900000) (I: ∀x∈G,x.mass < 1000000) (H E t u s B K) (Q:Out->Prop):
  ∀d a o e c,l=a ++ d->c 0=H->c 3=E->c 4= .sl o 4 (Qa (Qq (G ++ QV a)))->c 11=t->c 12=u->c 13=s->c 35= .sl e 5 (Qz l)->c 36= .int .i64 l.length->c 37= .int .i64 a.length->
  (∀b L,b 0=H->b 3=E->b 4= .sl L 4 (Qa (Qq (G ++ QV l)))->b 11=t->b 12=u->b 13=s->Q (K .normal ⟨b,B⟩))->
  Q (R tb (.loop f521l0) c B (Qh 3 K)):=by
 intro d;induction d with | nil=>intro a o e c r C D z n j k f g i v;simp only[Qy]at r;subst r;rw[Qb f521l0.eq_1];simp[f,g,i];apply v _ o <;> simp[C,D,z,n,j,k] | cons p d N=>intro a o e c r C D z n j k f g i v;have S:=QD r;have O:=y.1;have P:=y.2 p (by grind);(have w: (Qq (G ++ QV a)).length < 1000000:=by have:=WF (G ++ QV a);simp only[Q6,QV,UR]at this ⊢;omega);(have A: ∀x∈Qq (G ++ QV a),x.mass < big:=fun x m=>by have m:=Z7.1 m;rcases Zp.1 m with m | m;have:=I x m;unfold big;omega;obtain⟨q,v,rfl⟩:=YL.1 m;have:=y.2 q (by grind);unfold big;omega);obtain⟨J,h⟩:=I6 (Qq (G ++ QV a)) p.1 false B w A (by unfold big;omega) (XY _);(have M:QT p.1 (Qq (G ++ QV a))=Qq (G ++ QV (a ++ [p])):=by rw[<- Nw];simp[QV]);rw[M]at h;rw[Qb f521l0.eq_1];simp[z,f,g,i,(Qv r),(QF r),(wr1 a.length (by omega)),h];apply(fun o e c=>N (a ++ [p]) o e c (by grind)) J e <;> first | exact v | simp[C,D,n,j,k,f,g]
def Qwr (u) (hul:u.length < 4000) (J: ∀t∈u,t.mass < 1000000) (S: ∀t∈u,isB t EXP=true->t.kids.length=2) (B):
  ∀g a o m d f,u=a ++ g->f 0= .sl o 4 (Qa u)->f 3= .int .i64 (a.filter XJ).length->f 4= .sl m 4 (Qa (Qq (X5 a)))->f 11= .sl d 4 (Qa u)->f 12= .int .i64 u.length->f 13= .int .i64 a.length->
  R tb (.loop f521l1) f B (Qh 0 (Qs tb f521r1 (QA f521 B)))=some (.int .i64 (szT u),B):=by
 intro g;induction g with | nil=>intro a o m d f G l j C b c e;simp only[Qy]at G;subst G;rw[Qb f521l1.eq_1];unfold szT;have s: (Qa (Qq (X5 u))).length=(Qq (X5 u)).length:=QX _;generalize (Qq (X5 u)).length=T at *;generalize (u.filter XJ).length=n2 at *;generalize hE:Qa (Qq (X5 u))=E at *;(have i1: (200 < u.length)↔(200:Int) < (u.length:Int):=by omega);(have i2: (4 < n2)↔(4:Int) < (n2:Int):=by omega);(have i3: (8 < T)↔(8:Int) < (T:Int):=by omega);simp only[i1,i2,i3];by_cases i: (200:Int) < (u.length:Int);simp[l,b,c,e,f521r1,i];by_cases L: (4:Int) < (n2:Int);simp[l,j,b,c,e,f521r1,i,L];by_cases k: (8:Int) < (T:Int);simp[l,j,C,b,c,e,f521r1,s,i,L,k];simp[l,j,C,b,c,e,f521r1,s,i,L,k] | cons t g IH=>intro a o m d f G l j C b c e;have N:=Qv G;have hll:=QD G;have w:=QF G;have z:=wr1 a.length (by omega);(have ht:t∈u:=by grind);have htm:=J t ht;have D:=fun o=>RH t EXP o B;have H:=Qdi t B;unfold EXP at D;have M: ∀x∈X5 a,x.mass < 1000000:=DL fun x hx=>J x (by grind);have hpl:=HV a;have s:=Ux XJ a;have p:=fun o m d f=>IH (a ++ [t]) o m d f (by grind);rw[DM]at p;simp only[UW,Q6]at p;generalize (a.filter XJ).length=n at *;have O:IntKind.i64.wrap ((n:Int)+1)=(n:Int)+1:=QC (by omega) (by omega);cases k:XJ t;rw[k]at H;by_cases i:isB t EXP=true;have L:=S t ht i;have V:=ZN t;(have e2:Qa t.kids=[Qd (kid t 0),Qd (kid t 1)]:=by rw[(MV L)];simp[Qa]);rw[e2]at V;have km:=Vu t 1;have h:=R4 (kid t 1) B (by omega);(have I:TM t=QV (ofP (kid t 1)):=by unfold TM;grind);have v:=UN (t:=kid t 1) (by omega);have Y:=VR (kid t 1);have X:=fun K f=>Qnu (ofP (kid t 1)) v (X5 a) (by omega) M (.sl o 4 (Qa u)) (.int .i64 n) (.sl d 4 (Qa u)) (.int .i64 u.length) (.int .i64 a.length) B K (fun r=>r=some (.int .i64 (szT u),B)) (ofP (kid t 1)) [] m false f rfl;unfold EXP at i;rw[i]at D;rw[I]at p;rw[Qb f521l1.eq_1];simp only[V]at D H N ⊢;simp[j,b,c,e,N,w,D,H,h,V,Qc];apply X;simp[l];simp[j];simp[C,QV];simp[b];simp[c];simp[e];simp;simp;simp;intro Z Q U P W y A q;simp[f521r0,q,z];apply p o Q d <;> simp[U,P,W,y,A,k];(have i:isB t EXP=false:=by grind);(have I:TM t=[]:=by unfold TM;grind);unfold EXP at i;rw[i]at D;rw[I,Qy]at p;rw[Qb f521l1.eq_1];simp[j,b,c,e,N,w,z,D,H,Qc,f521r0,EA];apply p o m d <;> simp[l,j,C,b,c,k];(have I:TM t=QV (ofP t):=by unfold TM;grind);have h:=R4 t B (by omega);have v:=UN (t:=t) (by omega);have Y:=VR t;have X:=fun K f=>Qnu (ofP t) v (X5 a) (by omega) M (.sl o 4 (Qa u)) (.int .i64 (n+1)) (.sl d 4 (Qa u)) (.int .i64 u.length) (.int .i64 a.length) B K (fun r=>r=some (.int .i64 (szT u),B)) (ofP t) [] m false f rfl;rw[I]at p;rw[k]at H;rw[Qb f521l1.eq_1];simp[j,b,c,e,N,w,O,H,h,Qc];apply X;simp[l];simp;simp[C,QV];simp[b];simp[c];simp[e];simp;simp;simp;intro Z Q U P W y A q;simp[f521r0,q,z];apply p o Q d <;> simp[U,P,W,y,A,k]
def Qdh (u) (b:u.length < 4000) (c: ∀t∈u,t.mass < 1000000) (a: ∀t∈u,isB t EXP=true->t.kids.length=2) (o B):
  call tb 521 [.sl o 4 (Qa u)] B=some (.int .i64 (szT u),B):=by
 rw[zcc 521 rfl rfl];simp[f521C];apply(fun d=>Qwr u b c a B u [] false true false d rfl) <;> simp[X5,Qq,Yo,Qa]
def QoI (t b) (l:t.mass < 1000000):call tb 520 [.agg (Qd t)] b=some (.int .i64 (Xl t),b):=by
 have i:t.mass < big:=by unfold big;omega
 have d:=Mt t b i;have a:=Qij t b (by omega);have e:=QnT t b i;have f: (Qa (U9 t)).length=(U9 t).length:=by simp[Zr]
 rw[zcc 520 rfl rfl];unfold Xl;by_cases c:thV t=0;rw[c]at d;by_cases g:U9 t=[];rw[g]at a;simp only[Qa]at a;cases h:Tu t;rw[h]at e;simp[f520C,d,a,e,c,g,Qc];rw[h]at e;simp[f520C,d,a,e,c,g,Qc];have j: (0:Int) < ((U9 t).length:Int):=by have:=JD.2 g;omega
 generalize Qa (U9 t)=k at *;simp[f520C,d,a,e,c,g,f,Qc];simp[f520C,d,c,Qc]
def QuN (l) (s:l.length < 1000000) (p: ∀y∈l,y.mass < 1000000) (B):
  ∀a b o d,l=b ++ a->d 6= .sl o 4 (Qa l)->d 7= .int .i64 l.length->d 8= .int .i64 b.length->
  R tb (.loop f519l0) d B (Qh 0 (Qs tb f519r0 (QA f519 B)))=some (.int .i64 (Y7 a),B):=by
 intro a;induction a with | nil=>intro b o d c g i h;simp only[Qy]at c;rw[<- c]at h;rw[Qb f519l0.eq_1];simp[g,i,h,f519r0,Y7] | cons x a q=>intro b o d c g i h;have j:=Qv c;have r:=QD c;have f:=wr1 b.length (by omega);have k:=QF c;have n:=QoI x B (p x (by rw[c];simp));rw[Qb f519l0.eq_1];by_cases m:Xl x=0;(have e:Y7 (x:: a)=Y7 a:=by simp[Y7,m]);rw[e];rw[m]at n;simp[g,i,h,j,k,f,n,Qc];rw[(fun d=>q (b ++ [x]) o d (by rw[c];simp))] <;> simp[g,i];(have e:Y7 (x:: a)=Xl x:=by simp[Y7,m]);rw[e];simp[g,i,h,j,k,f,n,m,Qc]
def Qdg (l o B) (c:l.length < 1000000) (a: ∀y∈l,y.mass < 1000000):call tb 519 [.sl o 4 (Qa l)] B=some (.int .i64 (Y7 l),B):=by
 rw[zcc 519 rfl rfl];simp[f519C];rw[(fun b=>QuN l c a B l [] false b rfl)] <;> simp
def QqQ (l) (r:l.length < 1000000) (n: ∀y∈l,y.mass < 1000000) (B):
  ∀a b o d,l=b ++ a->d 0= .sl o 4 (Qa l)->d 3= .int .i64 b.length->
  R tb (.loop f295l0) d B (Qh 0 (Qs tb f295r0 (QA f295 B)))=some (.int .i64 (Y7 a),B):=by
 intro a;induction a with | nil=>intro b o d c i f;simp only[Qy]at c;rw[<- c]at f;rw[Qb f295l0.eq_1];simp[i,f,f295r0,Y7] | cons x a p=>intro b o d c i f;have g:=Qv c;have q:=QD c;have h:=wr1 b.length (by omega);have j:=QF c;have m:=Qn8 x B (n x (by rw[c];simp));rw[Qb f295l0.eq_1];by_cases k:Xl x=0;(have e:Y7 (x:: a)=Y7 a:=by simp[Y7,k]);rw[e];rw[k]at m;simp[i,f,g,j,h,m,Qc];rw[(fun d=>p (b ++ [x]) o d (by rw[c];simp))] <;> simp[i];(have e:Y7 (x:: a)=Xl x:=by simp[Y7,k]);rw[e];simp[i,f,g,j,h,m,k,Qc]
def EL (l o B) (c:l.length < 1000000) (a: ∀y∈l,y.mass < 1000000):call tb 295 [.sl o 4 (Qa l)] B=some (.int .i64 (Y7 l),B):=by
 rw[zcc 295 rfl rfl];simp[f295C];rw[(fun b=>QqQ l c a B l [] false b rfl)] <;> simp
def OJ: ∀{l},Y7 l=0->∀x∈l,Xl x=0
 | [],_,x,a=>by cases a
 | y:: l,h,x,a=>by
  simp only[Y7]at h;by_cases c:Xl y=0;rw[Qe (by simpa using c)]at h;rcases Zl.1 a with rfl | a;exact c;exact OJ h x a;rw[Qg (by simpa using c)]at h;exact absurd h c
structure RT (t:Tm):Prop where
 v:QZ t=0
 g:Zf t=true
 hn:HN t
 gr: ∀x∈Zs t,x.kind≠1
def Ea {t} (h:Xl t=0):RT t:=by
 have p:=fun x e=>Qcp (x:=x) e;unfold Xl at h;by_cases c:thV t=0;rw[Qe (by simpa using c)]at h;by_cases j:U9 t=[];rw[Qe (by simpa using j)]at h;have b:Tu t=true:=by by_cases b:Tu t=true;exact b;rw[Qe b]at h;cases h
 obtain⟨k,o,m,n,q⟩:=Hl c;simp only[Tu,Qu,QM]at b;have d:=YP _ _ b.1.2;have l: (Z8 t).1=t:=by have a:=b.1.1;unfold YY at a d;rw[Qe (by simpa using c)]at a d;by_cases g: (Z8 t).2=0;rw[Qe (by simpa using g)]at a d;by_cases f:QZ (Z8 t).1=0;rwa[Qe (by simpa using f)]at d;rw[Qg (by simpa using f)]at a;exact absurd a f;rw[Qg (by simpa using g)]at a;exact absurd a g
 refine⟨k,m,?_,?_⟩;have:=QaJ t ((Xu k).1);rwa[l]at this;intro x e i;have:x∈U9 t:=by unfold U9;exact Z7.2 (VP.2 ⟨e,by simp[X6,i]⟩)
 rw[j]at this;cases this;rw[Qg (by simpa using j)]at h;cases h;rw[Qg (by simpa using c)]at h;exact absurd h c
def Dg {t x} (h:RT t) (a:x∈Zs t):RT x:=⟨Em h.v a,Is t x h.g a,QaK h.hn a,fun y b=>h.gr y (LS t x y a b)⟩
noncomputable def Yt (l:Qj):Qj:=Qq (Q3 l)
noncomputable def Z4 (k m:Qj):Int:=if 60 < k.length then 3 else if Y7 (k ++ m)≠0 then Y7 (k ++ m)else szT (Yt (k ++ m))
structure KI (l:List Tm):Prop where
 len:l.length < 1000
 nodes:Qp l < 4000\/l.length<=9
 mass:Qw l < 50000000
 ms: ∀x∈l,x.mass < 1000000
def QeJ {l} (a:KI l) (c: ∀x∈l,RT x): (Qq (Q3 l)).length < 4000:=by
 have d:=WF (Q3 l);rw[RG]at d;rcases a.nodes with h | h;omega;have:=P6 (s:=l) fun x b=>(c x b).v;omega
def Qrd {u} (h:szT u=0):u.length<=200/\(u.filter XJ).length<=4/\(Qq (X5 u)).length<=8:=by
 unfold szT at h;split at h;cases h;omega
def Qnx {l} (d: ∀x∈l,RT x) (h:szT (Yt l)=0):UC (Yt l):=by
 obtain⟨b,f,c⟩:=Qrd h;have a: ∀x∈Yt l,RT x:=fun x a=>by obtain⟨t,e,a⟩:=Ol.1 (Z7.1 a);exact Dg (d t e) a
 exact⟨b,fun x h=>(a x h).v,fun x h=>(a x h).g,fun x h=>(a x h).hn,f,c⟩
def HF (l):Asc (Yt l):=XY _
def Ox {l x}:x∈Yt l↔∃t∈l,x∈Zs t:=by unfold Yt;rw[Z7,Ol]
def Ma {l} (i:KI l) (e:Y7 l=0): (Yt l).length < 4000/\(∀t∈Yt l,t.mass < 1000000)/\(∀t∈Yt l,isB t EXP=true->t.kids.length=2):=by
 have c: ∀x∈Yt l,RT x:=fun x c=>by obtain⟨t,d,c⟩:=Ox.1 c;exact Dg (Ea (OJ e t d)) c
 refine⟨QeJ i fun x c=>Ea (OJ e x c),fun t d=> ?_,fun t d f=> ?_⟩;have:=(Xu (c t d).v).2.2;omega;obtain⟨a,b,h⟩:=Yq (c t d).g f (by simp[Vx]);rw[h];rfl
def Et (k m:Qj) (B:Qr) (r:Out):Prop:=∃o,r=some (.tup [.sl o 4 (Qa (if Z4 k m=0 then Yt (k ++ m)else [])),.int .i64 (Z4 k m)],B)
def Om (k m) (h:KI (k ++ m)) (o j B):Et k m B (call tb 518 [.sl o 4 (Qa k),.sl j 4 (Qa m)] B):=by
 have l:k.length+m.length < 1000:=by have:=h.len;simpa using this
 have c:=fun o=>Rq [k,m] o B (by simp) (by simp;omega);have a:=fun o=>Qdg (k ++ m) o B (by have:=h.len;omega) h.ms;have d:=fun o=>Qdf (k ++ m) o B (by have:=h.len;omega) h.ms (by have:=h.mass;have:=YN (k ++ m);omega);have b:=fun g:Y7 (k ++ m)=0=>Qdh (Yt (k ++ m)) (Ma h g).1 (Ma h g).2.1 (Ma h g).2.2;simp only[S3,ZO,Vn,Su,GV,Qy]at c;rw[zcc 518 rfl rfl];unfold Et Z4;have n: (60 < k.length)↔(60:Int) < (k.length:Int):=by omega
 simp only[n];by_cases f: (60:Int) < (k.length:Int);refine⟨false,?_⟩;simp[f518C,f,Qa];by_cases e:Y7 (k ++ m)=0;have b:=b e;change ∀o,call tb 511 _ B=some (.sl true 4 (Qa (Yt (k ++ m))),B)at d;rw[e]at a;generalize p:Yt (k ++ m)=u at *;by_cases i:szT u=0;refine⟨false,?_⟩;simp[f518C,f,c,a,d,b,e,i];refine⟨false,?_⟩;simp[f518C,f,c,a,d,b,e,i,Qa];refine⟨false,?_⟩;simp[f518C,f,c,a,e,Qa]
def Qo6 (k t) (h:KI (k ++ [t])) (o B):Et k [t] B (call tb 608 [.sl o 4 (Qa k),.agg (Qd t)] B):=by
 obtain⟨c,a⟩:=Om k [t] h false false B;have b:Qa [t]=[Qd t]:=by simp[Qa]
 rw[b]at a;refine⟨false,?_⟩;rw[zcc 608 rfl rfl];simp[f608C,a,Qc]
def LV (k m) (h:KI (k ++ m)) (o q B):Et k m B (call tb 294 [.sl o 4 (Qa k),.sl q 4 (Qa m)] B):=by
 have s:k.length+m.length < 1000:=by have:=h.len;simpa using this
 have b:=fun o=>EL (k ++ m) o B (by have:=h.len;omega) h.ms;have c:=fun o=>K6 (k ++ m) o B (by have:=h.len;omega) (by have:=h.mass;omega);have a:=fun l:Y7 (k ++ m)=0=>Qc6 (Yt (k ++ m)) (Ma h l).1 (Ma h l).2.1 (Ma h l).2.2;have n:=QQ k m;have e:=QX k;have d:=QX m;rw[zcc 294 rfl rfl];unfold Et Z4;have r: (60 < k.length)↔(60:Int) < (k.length:Int):=by omega
 simp only[r];have g:k.length*56<=140737488355328:=by omega
 have f: (k.length+m.length)*56<=140737488355328:=by omega
 by_cases j: (60:Int) < (k.length:Int);refine⟨false,?_⟩;simp[f294C,j,Qa];by_cases i:Y7 (k ++ m)=0;have a:=a i;change ∀o,call tb 265 _ B=some (.sl false 4 (Qa (Yt (k ++ m))),B)at c;rw[i]at b;generalize t:Yt (k ++ m)=u at *;by_cases p:szT u=0;refine⟨false,?_⟩;simp[f294C,j,n,e,d,g,f,b,c,a,i,p];refine⟨false,?_⟩;simp[f294C,j,n,e,d,g,f,b,c,a,i,p,Qa];refine⟨false,?_⟩;simp[f294C,j,n,e,d,g,f,b,i,Qa]
def EH (k t) (h:KI (k ++ [t])) (o B):Et k [t] B (call tb 293 [.sl o 4 (Qa k),.agg (Qd t)] B):=by
 obtain⟨c,a⟩:=LV k [t] h false false B;have b:Qa [t]=[Qd t]:=by simp[Qa]
 rw[b]at a;refine⟨false,?_⟩;rw[zcc 293 rfl rfl];simp[f293C,a,Qc]
end Go.Am
