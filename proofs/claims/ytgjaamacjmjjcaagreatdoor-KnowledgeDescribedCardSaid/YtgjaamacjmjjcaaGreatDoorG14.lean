/-
  Rc16, Rc17, Rc18, Rc19, Rc20, Rc21, Rc22.
-/
import Derived.Test.YtgjaamacjmjjcaaGreatDoorG13
set_option linter.all false
open Go.Am.F
namespace Go.Am
set_option maxRecDepth 20000
def Az: ∀l t n,(XE l t n).length<=l.length+1
 | [],_,_=>by simp[XE]
 | p:: l,t,n=>by
  have:=Az l t n;simp only[XE];grind
def SE: ∀{l t n q},q∈XE l t n->q∈l\/q=(t,n)\/∃m,(t,m)∈l/\q=(t,m+n)/\m+n≠0
 | [],t,n,q,h=>by simp[XE]at h;grind
 | p:: l,t,n,q,h=>by
  simp only[XE]at h;split at h;rcases Zl.1 h with h | h;grind;rcases SE h with h | h | ⟨m,b,d⟩;grind;grind;grind;split at h;rename_i a;have c:=YP _ _ a;grind;grind
def AF: ∀{l t n},Asc (QV l)->Asc (QV (XE l t n))
 | [],t,n,_=>by simp[XE,QV,Asc]
 | p:: l,t,n,h=>by
  have b:=h;simp only[QV,ZO]at b;obtain⟨f,e⟩:=XX.1 b;simp only[XE];split;rename_i c;simp only[QV,ZO];refine XX.2 ⟨fun y a=> ?_,AF e⟩;obtain⟨q,d,rfl⟩:=YL.1 a;rcases SE d with d | rfl | ⟨m,i,rfl,_⟩;grind;exact c;exact c;split;split;exact e;simp only[QV,ZO];omega;rename_i j k;simp only[QV,ZO];have g:Qo t p.1 < 0:=by have:=XU t p.1;omega
  refine XX.2 ⟨fun y a=> ?_,b⟩;rcases Zl.1 a with rfl | a;omega;exact XG g (f y a)
structure Um (l:List Pw) (b:Nat):Prop where
 asc:Asc (QV l)
 nz:NZ l
 len:l.length<=b
 bd: ∀q∈l,q.1.mass < big/\ -(b:Int)<=q.2/\q.2<=b
def MH:Um [] 0:=⟨Asc.nil,fun q h=>by grind,by simp,fun q h=>by grind⟩
def Um.mono {l b c} (h:Um l b) (a:b<=c):Um l c:=⟨h.asc,h.nz,WP h.len a,fun q d=>by obtain⟨e,g,f⟩:=h.bd q d;omega⟩
def Um.add {l} {b c:Nat} {t n} (h:Um l b) (u:t.mass < big) (x:n≠0) (w: -(c:Int)<=n) (v:n<=c):Um (XE l t n) (b+c):=by
 refine⟨AF h.asc,?_,?_,?_⟩;intro q d;rcases SE d with d | rfl | ⟨m,f,rfl,g⟩;exact h.nz q d;omega;omega;have:=Az l t n;have:=h.len;omega;intro q d;rcases SE d with d | rfl | ⟨m,f,rfl,g⟩;obtain⟨s,r,o⟩:=h.bd q d;omega;grind;obtain⟨s,r,o⟩:=h.bd _ f;grind
def uno (m:Int):Prop:=m=1\/m= -1
def uno.neg {m} (h:uno m):uno (-m):=by rcases h with rfl | rfl <;> simp[uno]
def uno.ite {m} (h:uno m) (c:Bool):uno (if c then -m else m):=by cases c <;> simp[h,h.neg]
def Lc: ∀t l m b,t.mass < big->uno m->Um l b->Um (Vh l t m) (b+t.nodes):=by
 refine Yp ?_;intro k n s e p l m b q a h;have g:=WE (.mk k n s e);have i:=QL (.mk k n s e);simp only[ZJ,Yy]at g i;have r: ∀(d:Qj) (l:Q9) (m:Int) (b:Nat),(∀x∈d,x∈e)->uno m->Um l b->Um (Wk l d m) (b+Qp d):=by intro d;induction d with | nil=>intro l m b _ _ h;simpa[Wk,Qp]using h | cons x d j=>intro l m b f a h;have o:=p x (f x (by simp)) l m b (by have:=QR (f x (by simp));omega) a h;have u:=j _ m _ (fun y v=>f y (by grind)) a o;simp only[Wk,Qp];grind
 rw[Ug];split;have:=r e l _ b (fun x f=>f) (a.ite ((Tm.mk k n s e).name == INV)) h;exact this.mono (by omega);have:Um (XE l (.mk k n s e) m) (b+1):=h.add (c:=1) q (by rcases a with rfl | rfl <;> simp) (by rcases a with rfl | rfl <;> simp) (by rcases a with rfl | rfl <;> simp);exact this.mono (by omega)
def Qc3 {l t m b} (o a) (h:Um l b) (k:b < 40000000) (g:t.mass < big) (d: -100000000 < m/\m < 100000000):
  call tb 257 [.sl o 5 (Qz l),.agg (Qd t),.int .i64 m] a=some (.sl false 5 (Qz (XE l t m)),a):=by
 have i:=h.len;have c:=fun e=>QkU l t m a (by omega) (fun q f=>by obtain⟨j,n,p⟩:=h.bd q f;omega) d g h.asc h.nz l [] [] false e rfl (by grind);rw[zcc 257 rfl rfl];simp only[Y4]at c;simp[f257C];refine c _ ?_ ?_ ?_ ?_ ?_ ?_ <;> simp[Qz]
def BU (l:Q9) (bs:Qr) (r:Out):Prop:=∃o,r=some (.sl o 5 (Qz l),bs)
def Qh2 (t g) (q:t.mass < big) (m) (w:uno m) (A: ∀x∈t.kids,∀l b o,Um l b->b+x.nodes < 40000000->BU (Vh l x m) g (call tb 256 [.sl o 5 (Qz l),.agg (Qd x),.int .i64 m] g)):
  ∀a c l b o d,t.kids=c ++ a->Um l b->b+Qp a < 40000000->d 0= .sl o 5 (Qz l)->d 2= .int .i64 m->d 4= .bx (Qd t)->d 7= .int .i64 c.length->
  BU (Wk l a m) g (R tb (.loop f256l0) d g (Qh 0 (Qs tb f256r0 (QA f256 g)))):=by
 have v:=QL t;have y:=q;unfold big at q;intro a;induction a with | nil=>intro c l b o d e j p k n h i;simp only[Qy]at e;rw[<- e]at i;rw[Qb f256l0.eq_1];refine⟨false,?_⟩;simp[k,h,i,f256r0,Wk] | cons x a z=>intro c l b o d e j p k n h i;have u:=QD e;(have f:x∈t.kids:=by grind);simp only[Qp]at p;obtain⟨r,s⟩:=A x f l b false j (by omega);rw[Qb f256l0.eq_1];simp[k,n,h,i,(Qv e),(QF e),(wr1 c.length (by omega)),s,Qc,Wk];refine(fun d=>z (c ++ [x]) (Vh l x m) (b+x.nodes) r d (by grind) (Lc x l m b (by have:=QR f;omega) w j) (by omega)) _ ?_ ?_ ?_ ?_ <;> simp[n,h]
def Qoc: ∀t e m l b o,t.mass < big->uno m->Um l b->b+t.nodes < 40000000->BU (Vh l t m) e (call tb 256 [.sl o 5 (Qz l),.agg (Qd t),.int .i64 m] e):=by
 refine Yp ?_;intro k n s c z e m l b o q a g r;have j:=QL (.mk k n s c);have i:=WE (.mk k n s c);simp only[ZJ,Yy]at i j;have d:=Ms (.mk k n s c) e;rw[zcc 256 rfl rfl,Ug];cases p:Xm (.mk k n s c);refine⟨false,?_⟩;simp[f256C,d,p,(Qc3 (t:= .mk k n s c) (m:=m) false e g (by omega) q (by rcases a with rfl | rfl <;> simp))];have v:=fun m a w=>Qh2 (.mk k n s c) e q m a (fun x u l b o g r=>z x u e m l b o (by have:=QR u;simp at this;omega) a g r) c [] l b false w rfl g (by omega);cases f:n == INV;have h:=v m a;simp only[INV]at f;simp[f256C,d,p,f,INV];refine h _ ?_ ?_ ?_ ?_ <;> simp;have h:=v (-m) a.neg;have y:IntKind.i64.wrap (-m)= -m:=by rcases a with rfl | rfl <;> rfl
 simp only[INV]at f;simp[f256C,d,p,f,y,INV];refine h _ ?_ ?_ ?_ ?_ <;> simp
def QeP (B0:Qr) (l:Q9) (ok:Bool) (r:Out):Prop:=∃v B,r=some (.tup [v,.bool ok],B)/\PS B0 B v (if ok then l else [])
def TV {c B v l} (h:PS c B v l): ∃a b,v= .gs a 0 b l.length:=by
 obtain⟨M,a,b,_,rfl,_⟩:=h;simp
def Hj {a B v l} (h:PS a B v l):PS a B (.gs 0 0 0 0) []:=by
 obtain⟨M,c,b,rfl,_,_⟩:=h;exact⟨M,0,0,rfl,rfl,.inl ⟨rfl,rfl,rfl⟩⟩
def Qlp (t:Tm) (r) (A:t.mass < big) (m) (M:uno m) (E: ∀x∈t.kids,∀B v l b,PS r B v l->Um l b->b+x.nodes < 40000000->QeP r (Vh l x m) (arB x) (call tb 187 [v,.agg (Qd x),.int .i64 m] B)) (K):
  ∀a d l b B v i,t.kids=d ++ a->PS r B v l->Um l b->b+Qp a < 40000000->i 0=v->i 2= .int .i64 m->i 52= .sl false 4 (Qa t.kids)->i 53= .int .i64 t.kids.length->i 54= .int .i64 d.length->
  QeP r (Wk l a m) (arL a) (R tb (.loop f187l0) i B (Qh 1 (Qs tb f187r0 (QA f187 K)))):=by
 have G:=QL t;have D:=A;unfold big at A;intro a;induction a with | nil=>intro d l b B v i k h u w q s e f g;simp only[Qy]at k;rw[<- k]at g;obtain⟨H,I,rfl⟩:=TV h;rw[Qb f187l0.eq_1];refine⟨_,B,?_,by simpa[Wk,arL]using h⟩;simp[q,e,f,g,f187r0,arL] | cons x a C=>intro d l b B v i k h u w q s e f g;have y:=Qv k;have O:=QD k;have p:=QF k;(have o:x∈t.kids:=by grind);simp only[Qp]at w;obtain⟨Q,z,j,c⟩:=E x o B v l b h u (by omega);obtain⟨H,I,rfl⟩:=TV h;obtain⟨J,L,rfl⟩:=TV c;rw[Qb f187l0.eq_1];cases n:arB x;rw[n]at j c;refine⟨.gs 0 0 0 0,z,?_,by simpa[arL,n]using Hj c⟩;simp only[Xa,ZM]at j;simp[q,s,e,f,g,y,p,j,Qc,arL,n];rw[n]at j c;simp only[QU]at j c;(have N:Wk l (x:: a) m=Wk (Vh l x m) a m:=by simp[Wk]);(have P:arL (x:: a)=arL a:=by simp[arL,n]);rw[N,P];simp[q,s,e,f,g,y,p,(wr1 d.length (by omega)),j,Qc];refine(fun i=>C (d ++ [x]) (Vh l x m) (b+x.nodes) z _ i (by grind) c (Lc x l m b (by have:=QR o;omega) M u) (by omega)) _ ?_ ?_ ?_ ?_ ?_ <;> simp[s,e,f]
def QnX: ∀t u B v l m b,t.mass < big->uno m->PS u B v l->Um l b->b+t.nodes < 40000000->QeP u (Vh l t m) (arB t) (call tb 187 [v,.agg (Qd t),.int .i64 m] B):=by
 refine Yp ?_;intro k n s c J u B v l m b G o g r E;have z:=QL (.mk k n s c);have y:=WE (.mk k n s c);simp only[ZJ,Yy]at y z;have a:=Ia (.mk k n s c) B;obtain⟨V,P,rfl⟩:=TV g;rw[zcc 187 rfl rfl,Ug,AD];cases h:Xm (.mk k n s c);obtain⟨R,O,f,j⟩:=QcW (p:=(.mk k n s c,m)) g (by have:=r.len;omega) (fun q N=>by obtain⟨U,S,Q⟩:=r.bd q N;omega) G (by rcases o with rfl | rfl <;> simp) r.asc;obtain⟨M,I,rfl⟩:=TV j;have L:Qd (.mk k n s c)++ [.int .i64 m]=Zb (.mk k n s c,m):=rfl;refine⟨_,O,?_,by simpa using j⟩;simp[f187C,a,h,Nf,L,f];have w:=fun m o H=>Qlp (.mk k n s c) u G m o (fun x C B v l b g r E=>J x C u B v l m b (by have:=QR C;simp at this;omega) o g r E) B c [] l b B _ H rfl g r (by omega);obtain⟨rfl,D⟩:=Gq h;simp only[Yy]at D;simp only[ZJ]at w;simp only[Ml,T3,QU];rcases D with rfl | rfl | rfl;have A:=w m o;by_cases d:c.length < 2;have i: (c.length:Int) < 2:=by omega
 have f:Vt (.mk 3 MUL s c)=false:=by simp[Vt,d]
 refine⟨.gs 0 0 0 0,B,?_,by simpa[f]using Hj g⟩;simp only[f];simp[MUL]at a h f;simp[f187C,a,h,MUL,i];have i: ¬(c.length:Int) < 2:=by omega
 have f:Vt (.mk 3 MUL s c)=true:=by simp[Vt,d];simp[MUL,INV,ONE]
 have e: ((Tm.mk 3 MUL s c).name == INV)=false:=by simp[MUL,INV]
 rw[e];simp only[f,V4,ZJ,Xa,ZM];simp[MUL]at a h;simp[f187C,a,h,MUL,i];simp_all;have A:=w (-m) o.neg;have K:IntKind.i64.wrap (-m)= -m:=by rcases o with rfl | rfl <;> rfl
 by_cases d:c.length=1;have i: (c.length:Int)=1:=by omega
 have f:Vt (.mk 3 INV s c)=true:=by simp[Vt,d];simp[MUL,INV,ONE]
 have e: ((Tm.mk 3 INV s c).name == INV)=true:=by simp
 rw[e];simp only[f,V4,ZJ,QU];simp[INV]at a h;simp[f187C,a,h,INV,i,K];refine A _ ?_ ?_ ?_ ?_ ?_ <;> simp[d];have i: ¬(c.length:Int)=1:=by omega
 have f:Vt (.mk 3 INV s c)=false:=by simp[Vt,d]
 refine⟨.gs 0 0 0 0,B,?_,by simpa[f]using Hj g⟩;simp only[f];simp[INV]at a h f;simp[f187C,a,h,INV,i];have A:=w m o;by_cases d:c=[];subst d;have f:Vt (.mk 3 ONE s [])=true:=by simp[Vt];simp[MUL,INV,ONE]
 have e: ((Tm.mk 3 ONE s []).name == INV)=false:=by simp[ONE,INV]
 rw[e];simp only[f,V4,ZJ,Xa,ZM];simp[ONE]at a h;simp[f187C,a,h,ONE];simp_all;have T: ¬c.length=0:=fun e=>d (Yf e);have i: ¬(c.length:Int)=0:=by omega
 have f:Vt (.mk 3 ONE s c)=false:=by simp[Vt,d]
 refine⟨.gs 0 0 0 0,B,?_,by simpa[f]using Hj g⟩;simp only[f];simp[ONE]at a h f;simp[f187C,a,h,ONE,d]
def ofE (t:Tm):Int:=if QZ t≠0 then QZ t else if arB t then(if 200 < (Vh [] t 1).length then 3 else 0)else 6
def ofP (t:Tm):Q9:=if ofE t=0 then Vh [] t 1 else []
def R5 (t c) (l:t.mass < 30000000):call tb 253 [.agg (Qd t)] c=some (.tup [.sl false 5 (Qz (ofP t)),.int .i64 (ofE t)],c):=by
 have b:t.mass < big:=by unfold big;omega
 have k:=Yu t;have f:=W3 t c b;have h:=Qfu t c b;obtain⟨o,j⟩:=Qoc t c 1 [] 0 true b (.inl rfl) MH (by omega);have d:call tb 256 [.sl true 5 [],.agg (Qd t),.int .i64 1] c=some (.sl o 5 (Qz (Vh [] t 1)),c):=j;rw[zcc 253 rfl rfl];by_cases e:QZ t=0;cases g:arB t;simp[f253C,f,h,e,g,ofE,ofP,Qz];by_cases i:200 < (Vh [] t 1).length;have a: (200:Int) < ((Vh [] t 1).length:Int):=by omega
 simp[f253C,f,h,d,e,g,ofE,ofP,i,a];simp[Qz];have a: ¬(200:Int) < ((Vh [] t 1).length:Int):=by omega
 simp[f253C,f,h,d,e,g,ofE,ofP,i,a];simp[f253C,f,e,ofE,ofP,Qz]
def QuE {c B v l} (h:PS c B v l) (n): ∃o e,∀a:Ye,a n=v->ZY {env:=a,bs:=B} n 5=some (.sl o 5 (Qz l),{env:=upd a n .undef,bs:=c ++ e}):=by
 obtain⟨M,q,r,rfl,rfl,p⟩:=h;rcases p with⟨rfl,rfl,rfl⟩ | ⟨rfl,i,t,s,g⟩;exact⟨true,M,fun a b=>by simp[ZY,b,Qz]⟩;by_cases m:l.length=0;have:l=[]:=Yf m;subst this;exact⟨false,M,fun a b=>by simp[ZY,b,Qz]⟩;refine⟨true,M.set (q - c.length) [],fun a b=> ?_⟩;have d:0+l.length*5<=(Ze l ++ t).length:=by rw[Q6,Wn];omega
 have j:ZR (Ze l ++ t) 0 5 l.length=Qz l:=X3 (f:=Zb) (k:=5) W7 Wv l t;simp only[ZY,b];grind
def R4 (t d) (p:t.mass < 30000000):call tb 186 [.agg (Qd t)] d=some (.tup [.sl false 5 (Qz (ofP t)),.int .i64 (ofE t)],d):=by
 have e:t.mass < big:=by unfold big;omega
 have m:=Yu t;have g:=TJ t d e;obtain⟨v,B,c,a⟩:=QnX t d d (.gs 0 0 0 0) [] 1 0 e (.inl rfl) (Qjz d) MH (by omega);obtain⟨q,s,rfl⟩:=TV a;obtain⟨M,k⟩: ∃M,B=d ++ M:=by obtain⟨M,_,_,h,_⟩:=a;grind
 have l:=Mw (Vh [] t 1);rw[zcc 186 rfl rfl];by_cases i:QZ t=0;cases f:arB t;rw[f]at c a;simp only[Xa,ZM]at c;simp[f186C,g,i,c,f,ofE,ofP,Qz,k];rw[f]at c a;simp only[QU]at c a;by_cases j:200 < (Vh [] t 1).length;have b: (200:Int) < ((Vh [] t 1).length:Int):=by omega
 simp[f186C,g,i,c,f,ofE,ofP,j,b,k];simp[Qz];have b: ¬(200:Int) < ((Vh [] t 1).length:Int):=by omega
 obtain⟨o,r,n⟩:=QuE a 24;simp[f186C,g,i,c,f,ofE,ofP,j,b,n];simp[f186C,g,i,ofE,ofP,Qz]
def gtO (prev:Option Tm) (t:Tm):Bool:=match prev with
 | none=>true
 | some q=>decide (Qo q t < 0)
def Wt (n:Int):Bool:=decide (n < -1000) || decide (1000 < n)
def vPL:Option Tm->Q9->Int
 | _,[]=>0
 | prev,p:: r=>if QZ p.1≠0 then QZ p.1 else if Xm p.1 then 1 else if p.2=0\/Wt p.2=true then 7 else if gtO prev p.1 then vPL (some p.1) r else 5
def ZA (l:Q9):Int:=if 200 < l.length then 3 else vPL none l
def FP (l:Q9):Option Tm:=l.getLast?.map (·.1)
def DY:FP []=none:=rfl
def M8 (l p):FP (l ++ [p])=some p.1:=by simp[FP]
def Aq:=@Int.natCast_add
def Ar:=@Int.natCast_one
def QgO (l v) (Q:l.length < 100000000) (N: ∀q∈l,q.1.mass < big):
  ∀f e o m,l=e ++ f->m 0= .sl o 5 (Qz l)->m 9= .sl false 5 (Qz l)->m 10= .int .i64 l.length->m 11= .int .i64 e.length->
  R tb (.loop f197l0) m v (Qh 0 (Qs tb f197r0 (QA f197 v)))=some (.int .i64 (vPL (FP e) f),v):=by
 intro f;induction f with | nil=>intro e o m j h g b a;simp only[Qy]at j;rw[<- j]at a;rw[Qb f197l0.eq_1];simp[g,b,a,f197r0,vPL] | cons p f P=>intro e o m j h g b a;have i:=Qv j;have B:=QD j;have k:=wr1 e.length (by omega);have d:=QF j;have E:=N p (by rw[j];simp);have n:=TJ p.1 v E;have s:=Ia p.1 v;have I:=fun m=>P (e ++ [p]) o m (by rw[j];simp);rw[M8]at I;rw[Qb f197l0.eq_1];by_cases r:QZ p.1=0;cases t:Xm p.1;by_cases w:p.2=0;simp[h,g,b,a,i,d,n,s,r,t,w,vPL];by_cases G:p.2 < -1000;simp[h,g,b,a,i,d,n,s,r,t,w,G,vPL,Wt];by_cases J:1000 < p.2;simp[h,g,b,a,i,d,n,s,r,t,w,G,J,vPL,Wt];rcases List.eq_nil_or_concat e with rfl | ⟨c,q,rfl⟩;have A:=a;have L:l[0]? =some p:=i;(have y:0 < l.length:=by omega);have K:IntKind.i64.wrap 1=1:=rfl;clear a i d k;simp[-getElem?_pos,g,b,A,L,y,K,n,s,r,t,w,G,J,vPL,Wt,DY,gtO];refine I _ ?_ ?_ ?_ ?_ <;> simp[h,g,b];(have C:l[c.length]? =some q:=by rw[j];simp);have M:=call_Compare q.1 p.1 v (N q (by rw[j];simp)) E;(have D: (0:Int) < (c.length:Int)+1:=by omega);(have x: (0:Int)<=(c.length:Int)+1:=by omega);(have z: ((c.length:Int)+1).toNat=c.length+1:=by omega);have H:IntKind.i64.wrap (c.length:Int)=(c.length:Int):=QC (by simp at B;omega) (by simp at B;omega);simp only[List.concat_eq_append]at *;rw[M8];simp only[Q6,Rn,Aq,Ar]at a i d k I;by_cases O:Qo q.1 p.1 < 0;(have u: ¬0<=Qo q.1 p.1:=by omega);simp[h,g,b,a,i,C,d,k,H,D,x,z,n,s,M,r,t,w,G,J,O,u,vPL,Wt,gtO];refine I _ ?_ ?_ ?_ ?_ <;> simp[h,g,b];(have u:0<=Qo q.1 p.1:=by omega);simp[h,g,b,a,i,C,d,k,H,D,x,z,n,s,M,r,t,w,G,J,O,u,vPL,Wt,gtO];simp[h,g,b,a,i,d,n,s,r,t,vPL];simp[h,g,b,a,i,d,n,s,r,vPL]
def LU (l o a) (d:l.length < 100000000) (e: ∀q∈l,q.1.mass < big):call tb 197 [.sl o 5 (Qz l)] a=some (.int .i64 (ZA l),a):=by
 rw[zcc 197 rfl rfl];by_cases c:200 < l.length;have b: (200:Int) < (l.length:Int):=by omega
 simp[f197C,c,b,ZA];have b: ¬(200:Int) < (l.length:Int):=by omega
 simp[f197C,c,b,ZA];refine(fun f=>QgO l a d e l [] false f rfl) _ ?_ ?_ ?_ ?_ <;> simp
def Qb2 (l u) (O:l.length < 100000000) (L: ∀q∈l,q.1.mass < big):
  ∀c d o r,l=d ++ c->r 0= .sl o 5 (Qz l)->r 3= .int .i64 d.length->
  R tb (.loop f259l0) r u (Qh 0 (Qs tb f259r0 (QA f259 u)))=some (.int .i64 (vPL (FP d) c),u):=by
 intro c;induction c with | nil=>intro d o r g f e;simp only[Qy]at g;rw[<- g]at e;rw[Qb f259l0.eq_1];simp[f,e,f259r0,vPL] | cons p c N=>intro d o r g f e;have h:=Qv g;have y:=QD g;have i:=wr1 d.length (by omega);have b:=QF g;have w:=L p (by rw[g];simp);have j:=W3 p.1 u w;have m:=Ms p.1 u;have G:=fun r=>N (d ++ [p]) o r (by rw[g];simp);rw[M8]at G;rw[Qb f259l0.eq_1];by_cases k:QZ p.1=0;cases n:Xm p.1;by_cases t:p.2=0;simp[f,e,h,b,j,m,k,n,t,vPL];by_cases z:p.2 < -1000;simp[f,e,h,b,j,m,k,n,t,z,vPL,Wt];by_cases E:1000 < p.2;simp[f,e,h,b,j,m,k,n,t,z,E,vPL,Wt];rcases List.eq_nil_or_concat d with rfl | ⟨a,q,rfl⟩;have H:=e;have J:l[0]? =some p:=h;(have A:0 < l.length:=by omega);have I:IntKind.i64.wrap 1=1:=rfl;clear e h b i;simp[-getElem?_pos,f,H,J,A,I,j,m,k,n,t,z,E,vPL,Wt,DY,gtO];refine G _ ?_ ?_ <;> simp[f];(have C:l[a.length]? =some q:=by rw[g];simp);have K:=UH q.1 p.1 u (L q (by rw[g];simp)) w;(have B: (0:Int) < (a.length:Int)+1:=by omega);(have v: (0:Int)<=(a.length:Int)+1:=by omega);(have x: ((a.length:Int)+1).toNat=a.length+1:=by omega);have D:IntKind.i64.wrap (a.length:Int)=(a.length:Int):=QC (by simp at y;omega) (by simp at y;omega);simp only[List.concat_eq_append]at *;rw[M8];simp only[Q6,Rn,Aq,Ar]at e h b i G;by_cases M:Qo q.1 p.1 < 0;(have s: ¬0<=Qo q.1 p.1:=by omega);simp[f,e,h,C,b,i,D,B,v,x,j,m,K,k,n,t,z,E,M,s,vPL,Wt,gtO];refine G _ ?_ ?_ <;> simp[f];(have s:0<=Qo q.1 p.1:=by omega);simp[f,e,h,C,b,i,D,B,v,x,j,m,K,k,n,t,z,E,M,s,vPL,Wt,gtO];simp[f,e,h,b,j,m,k,n,vPL];simp[f,e,h,b,j,m,k,vPL]
def I1 (l o a) (d:l.length < 100000000) (e: ∀q∈l,q.1.mass < big):call tb 259 [.sl o 5 (Qz l)] a=some (.int .i64 (ZA l),a):=by
 rw[zcc 259 rfl rfl];by_cases c:200 < l.length;have b: (200:Int) < (l.length:Int):=by omega
 simp[f259C,c,b,ZA];have b: ¬(200:Int) < (l.length:Int):=by omega
 simp[f259C,c,b,ZA];refine(fun f=>Qb2 l a d e l [] false f rfl) _ ?_ ?_ <;> simp
def Ek: ∀l b,vPL b l=0->(∀q∈l,QZ q.1=0/\Xm q.1=false/\q.2≠0/\ -1000<=q.2/\q.2<=1000)/\Asc (QV l)/\(∀a,b=some a->∀q∈l,Qo a q.1 < 0)
 | [],b,_=>⟨fun q h=>by simp at h,Asc.nil,fun a _ q h=>by simp at h⟩
 | p:: r,b,h=>by
  simp only[vPL]at h;split at h;rename_i c;exact absurd h c;rename_i k;split at h;cases h;rename_i t;split at h;cases h;rename_i f;split at h;rename_i i;obtain⟨n,s,m⟩:=Ek r (some p.1) h;have e:=m p.1 rfl;refine⟨fun q d=> ?_,?_,?_⟩;rcases Zl.1 d with rfl | d;simp[Wt]at f;exact⟨by simpa using k,by simpa using t,f.1,f.2.1,f.2.2⟩;exact n q d;simp only[QV,ZO];refine XX.2 ⟨fun y j=> ?_,s⟩;obtain⟨q,d,rfl⟩:=YL.1 j;exact e q d;intro a o q d;subst o;have g:Qo a p.1 < 0:=by simpa[gtO]using i
  rcases Zl.1 d with rfl | d;exact g;exact XG g (e q d);cases h
def TY {l} (h:ZA l=0) (c: ∀q∈l,q.1.mass < big):Um l 1000/\l.length<=200/\∀q∈l,QZ q.1=0/\Xm q.1=false:=by
 unfold ZA at h;split at h;cases h;obtain⟨b,d,_⟩:=Ek l none h;exact⟨⟨d,fun q a=>(b q a).2.2.1,by omega,fun q a=>⟨c q a,(b q a).2.2.2.1,(b q a).2.2.2.2⟩⟩,by omega,fun q a=>⟨(b q a).1,(b q a).2.1⟩⟩
def Tt (t:Tm):Tm:= .mk 3 INV 0 [t]
def Vv (l:Q9):Qj:=(l.map fun p=>List.replicate p.2.toNat p.1).flatten
def VW (l:Q9):Qj:=(l.map fun p=>List.replicate (-p.2).toNat (Tt p.1)).flatten
def YK (l:Q9):Qj:=Vv l ++ VW l
def YG:Qj->Tm
 | []=> .mk 3 ONE 0 []
 | [p]=>p
 | p:: q:: r=> .mk 3 MUL 0 (p:: q:: r)
def YT (l:Q9):Tm×Int:=
 if ZA l≠0 then(Q7,ZA l)else if 8 < (YK l).length then(Q7,3)else if QZ (YG (YK l))≠0 then(Q7,QZ (YG (YK l)))else(YG (YK l),0)
def Qbk (a p):Vv (a ++ [p])=Vv a ++ List.replicate p.2.toNat p.1:=by simp[Vv]
def Qa0 (a p):VW (a ++ [p])=VW a ++ List.replicate (-p.2).toNat (Tt p.1):=by simp[VW]
def Qbl {l} (h: ∀q∈l,q.2<=8): (Vv l).length<=8*l.length:=by
 induction l with | nil=>simp[Vv] | cons p l c=>have a:=c fun q b=>h q (by simp[b]);have d:=h p (by simp);simp only[Vv,ZO,Su,Q6,PB,Zu]at a ⊢;omega
def Qa1 {l} (h: ∀q∈l,-8<=q.2): (VW l).length<=8*l.length:=by
 induction l with | nil=>simp[VW] | cons p l c=>have a:=c fun q b=>h q (by simp[b]);have d:=h p (by simp);simp only[VW,ZO,Su,Q6,PB,Zu]at a ⊢;omega
def Qbm {l p} (h:p∈l):p.2.toNat<=(Vv l).length:=by
 induction l with | nil=>simp at h | cons q l a=>simp only[Vv,ZO,Su,Q6,PB]at a ⊢;rcases Zl.1 h with rfl | h;omega;have:=a h;omega
def Qa2 {l p} (h:p∈l): (-p.2).toNat<=(VW l).length:=by
 induction l with | nil=>simp at h | cons q l a=>simp only[VW,ZO,Su,Q6,PB]at a ⊢;rcases Zl.1 h with rfl | h;omega;have:=a h;omega
def EE (n a o b):call tb 198 [.str n,.sl o 4 (Qa a)] b=some (.agg (Qd (.mk 3 n 0 a)),b):=by
 rw[zcc 198 rfl rfl];simp[f198,f198C,SG]
def Hk {k} (a) (x:Tm): (a ++ [x])++ List.replicate k x=a ++ List.replicate (k+1) x:=by simp[Rx]
def Qre {p q} (y:p.1.mass < big) (z: -8<=p.2/\p.2<=8) (c K X): ∀k a (i:Nat) e,i+k=p.2.toNat->a.length+k < 100000000->e 5= .sl true 4 (Qa a)->e 8= .bx (Zb p)->e 34= .int .i64 p.2->e 35= .int .i64 i->
  (∀b:Ye,b 5= .sl true 4 (Qa (a ++ List.replicate k p.1))->(∀j,j < 34->j≠5->b j=e j)->R tb c b q K=X)->
  R tb (.loop f196l0) e q (Qh 2 (Qs tb c K))=X:=by
 intro k;induction k with | zero=>intro a i e v x m l d f h;(have n: ¬(i:Int) < p.2:=by omega);rw[Qb f196l0.eq_1];simp[m,l,d,f,n];apply h;simp[m];intro j r g;(have:j≠36:=by omega);simp[this] | succ k u=>intro a i e v x m l d f h;(have n: (i:Int) < p.2:=by omega);(have o:IntKind.i64.wrap ((i:Int)+1)=((i+1:Nat):Int):=by rw[QC (by omega) (by omega)];omega);have w: (a.length+1)*56<=140737488355328:=X7 (by omega);rw[Qb f196l0.eq_1];simp[m,l,d,f,n,o,w,(OM p.1 q y),ZH,QQ];refine u (a ++ [p.1]) (i+1) _ (by omega) (by simp;omega) ?_ ?_ ?_ ?_ ?_;simp;simp[l];simp[d];simp;intro b s t;rw[Hk]at s;refine h b s fun j r g=> ?_;rw[t j r g];(have B:j≠35:=by omega);(have I:j≠36:=by omega);(have A:j≠37:=by omega);(have D:j≠38:=by omega);(have J:j≠39:=by omega);(have E:j≠40:=by omega);(have H:j≠41:=by omega);(have G:j≠42:=by omega);(have C:j≠43:=by omega);simp[*]
def Qrf {p m} (B:p.1.mass < big) (N: -8<=p.2/\p.2<=8) (c K X): ∀k a (i:Nat) e,i+k=(-p.2).toNat->a.length+k < 100000000->e 6= .sl true 4 (Qa a)->e 8= .bx (Zb p)->e 46= .int .i64 (-p.2)->e 47= .int .i64 i->
  (∀b:Ye,b 6= .sl true 4 (Qa (a ++ List.replicate k (Tt p.1)))->(∀j,j < 34->j≠6->b j=e j)->R tb c b m K=X)->
  R tb (.loop f196l1) e m (Qh 4 (Qh 1 (Qs tb c K)))=X:=by
 intro k;induction k with | zero=>intro a i e v A o n d f h;(have r: ¬(i:Int) < -p.2:=by omega);rw[Qb f196l1.eq_1];simp[o,n,d,f,r];apply h;simp[o];intro j t l;(have:j≠48:=by omega);simp[this] | succ k x=>intro a i e v A o n d f h;(have r: (i:Int) < -p.2:=by omega);(have q:IntKind.i64.wrap ((i:Int)+1)=((i+1:Nat):Int):=by rw[QC (by omega) (by omega)];omega);have w: (a.length+1)*56<=140737488355328:=X7 (by omega);have g:=EE INV [p.1] false m;simp only[INV]at g;rw[Qb f196l1.eq_1];simp[o,n,d,f,r,q,w,(OM p.1 m B),g,ZH];rw[show Qd (Tm.mk 3 [105,110,118] 0 [p.1])=Qd (Tt p.1)from rfl];simp[QQ];refine x (a ++ [Tt p.1]) (i+1) _ (by omega) (by simp;omega) ?_ ?_ ?_ ?_ ?_;simp[Tt,INV];simp[n];simp[d];simp;intro b s u;rw[Hk]at s;refine h b s fun j t l=> ?_;rw[u j t l];(have L:j≠47:=by omega);(have G:j≠48:=by omega);(have J:j≠49:=by omega);(have C:j≠50:=by omega);(have I:j≠51:=by omega);(have D:j≠52:=by omega);(have H:j≠53:=by omega);(have E:j≠54:=by omega);(have M:j≠55:=by omega);(have y:j≠56:=by omega);(have z:j≠57:=by omega);simp[*]
def Qrh (l i) (w:ZA l=0) (z: (YK l).length < 100000000) (t:Qw (YK l) < big - 100) (o) (m:o 2= .bx [.int .i64 0,.str [],.int .i64 0,.sl true 4 []]) (n:o 5= .sl true 4 (Qa (Vv l))) (g:o 6= .sl true 4 (Qa (VW l))):
  R tb f196r2 o i (QA f196 i)=some (ZB (YT l),i):=by
 have c:=Rq [Vv l,VW l] false i (by simp) (by simpa[YK]using z);have v: [Vv l,VW l].flatten=YK l:=by simp[YK]
 rw[v]at c;simp only[S3,ZO,Vn]at c;have d:=EE MUL (YK l) false i;have j:=EE ONE [] true i;simp only[MUL]at d;simp only[ONE,Qa]at j;by_cases u:8 < (YK l).length;have k: (8:Int) < ((YK l).length:Int):=by omega
 have e:YT l=(Q7,3):=by simp[YT,w,u]
 rw[e];simp[f196r2,m,n,g,c,k,ZB,Zi];have k: ¬(8:Int) < ((YK l).length:Int):=by omega
 have a:=TJ (YG (YK l)) i (by unfold big at *;match h:YK l with | []=>simp[YG,QL,Qw,ONE] | [p]=>rw[h]at t;simp[YG,Qw]at t ⊢;omega | p:: q:: r=>rw[h]at t u;simp[YG,QL,Qw,MUL]at t u ⊢;omega);have e:YT l=if QZ (YG (YK l))≠0 then(Q7,QZ (YG (YK l)))else(YG (YK l),0):=by simp[YT,w,u]
 rw[e];generalize s:YK l=L at *;match L,s with | [],s=>simp only[YG,ONE]at a;simp only[Qa]at d c;by_cases b:QZ (.mk 3 [111,110,101] 0 [])=0;rw[b]at a;simp[f196r2,m,n,g,c,d,j,a,b,ZB,YG,ONE];simp[f196r2,m,n,g,c,d,j,a,b,ZB,Zi,YG,ONE] | [p],s=>simp only[YG]at a;by_cases b:QZ p=0;rw[b]at a;simp[f196r2,m,n,g,c,d,a,b,ZB,YG];simp[f196r2,m,n,g,c,d,a,b,ZB,Zi,YG] | p:: q:: r,s=>simp only[YG,MUL]at a;(have f: ¬(8:Int) < (r.length:Int)+1+1:=by simpa using k);(have x: ¬(r.length:Int)+1+1=0:=by omega);(have y: ¬(r.length:Int)+1+1=1:=by omega);by_cases b:QZ (.mk 3 [109,117,108] 0 (p:: q:: r))=0;rw[b]at a;simp[f196r2,m,n,g,c,d,a,b,f,x,y,ZB,YG,MUL];simp[f196r2,m,n,g,c,d,a,b,f,x,y,ZB,Zi,YG,MUL]
def Qrg (l C) (S:ZA l=0) (hl:l.length < 5000000) (V: ∀q∈l,q.1.mass < big) (Z: (∀q∈l,-8<=q.2/\q.2<=8)->Qw (YK l) < big - 100):
  ∀b a i,l=a ++ b->(∀q∈a,-8<=q.2/\q.2<=8)->i 2= .bx [.int .i64 0,.str [],.int .i64 0,.sl true 4 []]->i 5= .sl true 4 (Qa (Vv a))->i 6= .sl true 4 (Qa (VW a))->
   i 18= .sl false 5 (Qz l)->i 19= .int .i64 l.length->i 20= .int .i64 a.length->
  R tb (.loop f196l2) i C (Qh 0 (Qs tb f196r2 (QA f196 C)))=some (ZB (YT l),C):=by
 intro b;induction b with | nil=>intro a i c m k E J f g d;simp only[Qy]at c;subst c;rw[Qb f196l2.eq_1];simp[f,g,d];apply(Qrh l C S (by have B:=Qbl (l:=l) fun q h=>(m q h).2;have k:=Qa1 (l:=l) fun q h=>(m q h).1;simp only[YK,Q6];omega) (Z m)) <;> simp[k,E,J] | cons p b W=>intro a i c m k E J f g d;have I:=Qv c;(have hll:l.length=a.length+ (b.length+1):=by rw[c];simp);(have r: (a.length:Int) < (l.length:Int):=by omega);(have o:p∈l:=by rw[c];simp);have x:=V p o;(have j: ∀n,n < (YK l).length->8<=n->YT l=(Q7,3):=by intro n B k;(have:8 < (YK l).length:=by omega);simp[YT,S,this]);rw[Qb f196l2.eq_1];by_cases K:8 < p.2;have B:=Qbm o;have e:=j 8 (by simp only[YK,Q6];omega) (by omega);rw[e];simp[k,f,g,d,I,r,K,ZB,Zi];by_cases Q:p.2 < -8;have B:=Qa2 o;have e:=j 8 (by simp only[YK,Q6];omega) (by omega);rw[e];simp[k,f,g,d,I,r,K,Q,ZB,Zi];(have G: -8<=p.2/\p.2<=8:=by omega);have U:IntKind.i64.wrap (-p.2)= -p.2:=QC (by omega) (by omega);(have D: ∀q∈a ++ [p],-8<=q.2/\q.2<=8:=by intro q h;rcases Zp.1 h with h | h;exact m q h;simp at h;subst h;exact G);have B:=Qbl (l:=a) fun q h=>(m q h).2;have h3:=Qa1 (l:=a) fun q h=>(m q h).1;simp[k,f,g,d,I,r,K,Q];refine Qre x G _ _ _ p.2.toNat (Vv a) 0 _ (by omega) (by omega) ?_ ?_ ?_ ?_ ?_;simp[E];simp;simp;simp;intro X Y s;have M:=s 2 (by omega) (by omega);have O:=s 6 (by omega) (by omega);have H:=s 8 (by omega) (by omega);have z:=s 18 (by omega) (by omega);have w:=s 19 (by omega) (by omega);have u:=s 20 (by omega) (by omega);simp[k,J,f,g,d]at M O H z w u;simp[f196r0,H,U];refine Qrf x G _ _ _ (-p.2).toNat (VW a) 0 _ (by omega) (by omega) ?_ ?_ ?_ ?_ ?_;simp[O];simp[H];simp;simp;intro N T A;have P:=A 2 (by omega) (by omega);have L:=A 5 (by omega) (by omega);have t:=A 18 (by omega) (by omega);have v:=A 19 (by omega) (by omega);have y:=A 20 (by omega) (by omega);simp[M,Y,z,w,u]at P L t v y;simp[f196r1,y,(wr1 a.length (by omega))];apply(fun i=>W (a ++ [p]) i (by rw[c];simp) D) <;> simp[P,L,T,t,v,Qbk,Qa0]
def Qn0 (l o a) (g:l.length < 5000000) (c: ∀q∈l,q.1.mass < big) (f: (∀q∈l,-8<=q.2/\q.2<=8)->Qw (YK l) < big - 100):
  call tb 196 [.sl o 5 (Qz l)] a=some (ZB (YT l),a):=by
 have d:=LU l false a (by omega) c;rw[zcc 196 rfl rfl];by_cases b:ZA l=0;simp[f196C,d,b];apply(fun h=>Qrg l a b g c f l [] h rfl (by simp)) <;> simp[Vv,VW,Qa];have e:YT l=(Q7,ZA l):=by simp[YT,b]
 rw[e];simp[f196C,d,b,ZB,Zi]
def R3 (n a o b) (d:a.length < 100000000):call tb 120 [.str n,.sl o 4 (Qa a)] b=some (.agg (Qd (.mk 3 n 0 a)),b):=by
 have c:a.length*56<=140737488355328:=X7 (by omega);rw[zcc 120 rfl rfl];simp[f120C,c,SG]
def Jd {c:Type} (n) (a b:List c): (a.take n ++ b).take n=(a ++ b).take n:=by
 rw[GX,GX,LQ,Z9,Nat.min_self];congr 2;omega
def Qux {l p v} (D: -1000<=p.2/\p.2<=1000) (c K X): ∀k a (i n:Nat) o j,l[n]? =some p->i+k=p.2.toNat->a.length<=9->j 0= .sl o 5 (Qz l)->j 3= .sl true 4 (Qa a)->j 4= .int .i64 n->j 5= .int .i64 i->
  (∀b:Ye,b 0= .sl o 5 (Qz l)->b 4= .int .i64 n->b 3= .sl true 4 (Qa ((a ++ List.replicate k p.1).take 9))->R tb c b v K=X)->
  R tb (.loop f260l0) j v (Qh 2 (Qh 1 (Qs tb c K)))=X:=by
 intro k;induction k with | zero=>intro a i n o j q A u g m d s h;(have r: ¬(i:Int) < p.2:=by omega);rw[Qb f260l0.eq_1];simp[g,m,d,s,q,r];apply h <;> simp[g,m,d,Z2 u] | succ k z=>intro a i n o j q A u g m d s h;(have r: (i:Int) < p.2:=by omega);(have t:IntKind.i64.wrap ((i:Int)+1)=((i+1:Nat):Int):=by rw[QC (by omega) (by omega)];omega);rw[Qb f260l0.eq_1];by_cases C:a.length < 9;(have f: (a.length:Int) < 9:=by omega);have B: (a.length+1)*56<=140737488355328:=X7 (by omega);simp[g,m,d,s,q,r,t,B,f,ZH,QQ];refine z (a ++ [p.1]) (i+1) n o _ q (by omega) (by simp;omega) ?_ ?_ ?_ ?_ ?_;simp[g];simp;simp[d];simp;intro b x y w;rw[Hk]at w;exact h b x y w;(have f: ¬(a.length:Int) < 9:=by omega);(have e: (a ++ List.replicate (k+1) p.1).take 9=a:=by rw[PM (by omega),Z2 u]);simp[g,m,d,s,q,r,f];apply h <;> simp[g,m,d,e]
def Quz {l p v} (G: -1000<=p.2/\p.2<=1000) (c K X): ∀k a (i n:Nat) o j,l[n]? =some p->i+k=(-p.2).toNat->a.length<=9->j 0= .sl o 5 (Qz l)->j 3= .sl true 4 (Qa a)->j 6= .int .i64 n->j 7= .int .i64 i->
  (∀b:Ye,b 0= .sl o 5 (Qz l)->b 6= .int .i64 n->b 3= .sl true 4 (Qa ((a ++ List.replicate k (Tt p.1)).take 9))->R tb c b v K=X)->
  R tb (.loop f260l2) j v (Qh 6 (Qh 5 (Qs tb c K)))=X:=by
 have u:IntKind.i64.wrap (-p.2)= -p.2:=QC (by omega) (by omega);intro k;induction k with | zero=>intro a i n o j r A x f m d t h;(have s: ¬(i:Int) < -p.2:=by omega);rw[Qb f260l2.eq_1];simp[f,m,d,t,r,u,s];apply h <;> simp[f,m,d,Z2 x] | succ k C=>intro a i n o j r A x f m d t h;(have s: (i:Int) < -p.2:=by omega);(have w:IntKind.i64.wrap ((i:Int)+1)=((i+1:Nat):Int):=by rw[QC (by omega) (by omega)];omega);rw[Qb f260l2.eq_1];by_cases E:a.length < 9;(have g: (a.length:Int) < 9:=by omega);have B: (a.length+1)*56<=140737488355328:=X7 (by omega);have q:=R3 INV [p.1] false v (by simp);simp only[INV]at q;simp[f,m,d,t,r,u,s,w,B,q,g,ZH];rw[show Qd (Tm.mk 3 [105,110,118] 0 [p.1])=Qd (Tt p.1)from rfl];simp[QQ];refine C (a ++ [Tt p.1]) (i+1) n o _ r (by omega) (by simp;omega) ?_ ?_ ?_ ?_ ?_;simp[f];simp[Tt,INV];simp[d];simp;intro b z D y;rw[Hk]at y;exact h b z D y;(have g: ¬(a.length:Int) < 9:=by omega);(have e: (a ++ List.replicate (k+1) (Tt p.1)).take 9=a:=by rw[PM (by omega),Z2 x]);simp[f,m,d,t,r,u,s,g];apply h <;> simp[f,m,d,e]
def QuA (l g) (t:l.length < 5000000) (j: ∀q∈l,-1000<=q.2/\q.2<=1000):
  ∀b a o c,l=a ++ b->c 0= .sl o 5 (Qz l)->c 3= .sl true 4 (Qa ((Vv l ++ VW a).take 9))->c 6= .int .i64 a.length->
  R tb (.loop f260l3) c g (Qh 4 (Qs tb f260r2 (QA f260 g)))=some (.sl false 4 (Qa ((YK l).take 9)),g):=by
 intro b;induction b with | nil=>intro a o c d f h e;simp only[Qy]at d;subst d;rw[Qb f260l3.eq_1];simp[f,h,e,f260r2,YK] | cons p b k=>intro a o c d f h e;have m:=QD d;rw[Qb f260l3.eq_1];simp[f,e,(QF d)];refine Quz (j p (by rw[d];simp)) _ _ _ (-p.2).toNat ((Vv l ++ VW a).take 9) 0 a.length o _ (Qv d) (by omega) (by rw[Z9];omega) ?_ ?_ ?_ ?_ ?_;simp[f];simp[h];simp[e];simp;intro s n r i;rw[Jd,ZU,<- Qa0]at i;simp[f260r1,r,(wr1 a.length (by omega))];apply(fun c=>k (a ++ [p]) o c (by rw[d];simp)) <;> simp[n,i]
def Quy (l g) (n:l.length < 5000000) (i: ∀q∈l,-1000<=q.2/\q.2<=1000):
  ∀b a o c,l=a ++ b->c 0= .sl o 5 (Qz l)->c 3= .sl true 4 (Qa ((Vv a).take 9))->c 4= .int .i64 a.length->
  R tb (.loop f260l1) c g (Qh 0 (Qs tb f260r3 (QA f260 g)))=some (.sl false 4 (Qa ((YK l).take 9)),g):=by
 intro b;induction b with | nil=>intro a o c d e h f;simp only[Qy]at d;subst d;rw[Qb f260l1.eq_1];simp[e,f,f260r3];apply(fun c=>QuA l g n i l [] o c rfl) <;> simp[e,h,VW] | cons p b k=>intro a o c d e h f;have r:=QD d;rw[Qb f260l1.eq_1];simp[e,f,(QF d)];refine Qux (i p (by rw[d];simp)) _ _ _ p.2.toNat ((Vv a).take 9) 0 a.length o _ (Qv d) (by omega) (by rw[Z9];omega) ?_ ?_ ?_ ?_ ?_;simp[e];simp[h];simp[f];simp;intro t s m j;rw[Jd,<- Qbk]at j;simp[f260r0,m,(wr1 a.length (by omega))];apply(fun c=>k (a ++ [p]) o c (by rw[d];simp)) <;> simp[s,j]
def Qoe (l o a) (d:l.length < 5000000) (b: ∀q∈l,-1000<=q.2/\q.2<=1000):
  call tb 260 [.sl o 5 (Qz l)] a=some (.sl false 4 (Qa ((YK l).take 9)),a):=by
 rw[zcc 260 rfl rfl];simp[f260C];apply(fun c=>Quy l a d b l [] false c rfl) <;> simp[Vv,Qa]
def Qod (l o n) (z:l.length < 5000000) (w: ∀q∈l,q.1.mass < big) (A: (∀q∈l,-8<=q.2/\q.2<=8)->Qw (YK l) < big - 100):
  call tb 258 [.sl o 5 (Qz l)] n=some (ZB (YT l),n):=by
 have g:=I1 l false n (by omega) w;rw[zcc 258 rfl rfl];by_cases b:ZA l=0;obtain⟨s,_,_⟩:=TY b w;have f:=Qoe l false n z fun q u=>(s.bd q u).2;by_cases t:8 < (YK l).length;have k: (8:Int) < ((min 9 (YK l).length:Nat):Int):=by omega
 have e:YT l=(Q7,3):=by simp[YT,b,t]
 rw[e];simp[f258C,g,b,f,k,ZB,Zi];have d:=A (by intro q u;have C:=Qbm u;have B:=Qa2 u;simp only[YK,Q6]at t;omega);have a:=W3 (YG (YK l)) n (by unfold big at *;match h:YK l with | []=>simp[YG,QL,Qw,ONE] | [p]=>rw[h]at d;simp[YG,Qw]at d ⊢;omega | p:: q:: r=>rw[h]at d t;simp[YG,QL,Qw,MUL]at d t ⊢;omega);have e:YT l=if QZ (YG (YK l))≠0 then(Q7,QZ (YG (YK l)))else(YG (YK l),0):=by simp[YT,b,t]
 rw[e];rw[Z2 (by omega)]at f;have j:=R3 MUL (YK l) false n (by omega);have m:=R3 ONE [] true n (by simp);simp only[MUL]at j;simp only[ONE,Qa]at m;have k: ¬(8:Int) < ((YK l).length:Int):=by omega
 generalize v:YK l=L at *;match L,v with | [],v=>simp only[YG,ONE]at a;simp only[Qa]at j f;by_cases c:QZ (.mk 3 [111,110,101] 0 [])=0;rw[c]at a;simp[f258C,g,b,f,j,m,a,c,ZB,YG,ONE];simp[f258C,g,b,f,j,m,a,c,ZB,Zi,YG,ONE] | [p],v=>simp only[YG]at a;by_cases c:QZ p=0;rw[c]at a;simp[f258C,g,b,f,j,a,c,ZB,YG];simp[f258C,g,b,f,j,a,c,ZB,Zi,YG] | p:: q:: r,v=>simp only[YG,MUL]at a;(have i: ¬(8:Int) < (r.length:Int)+1+1:=by simpa using k);(have y: ¬(r.length:Int)+1+1=0:=by omega);(have x: ¬(r.length:Int)+1+1=1:=by omega);by_cases c:QZ (.mk 3 [109,117,108] 0 (p:: q:: r))=0;rw[c]at a;simp[f258C,g,b,f,j,a,c,i,y,x,ZB,YG,MUL];simp[f258C,g,b,f,j,a,c,i,y,x,ZB,Zi,YG,MUL]
 have e:YT l=(Q7,ZA l):=by simp[YT,b]
 rw[e];simp[f258C,g,b,ZB,Zi]
def VF:Qz []=[]:=rfl
def Vc (a:Q9):Q9->Q9
 | []=>a
 | q:: b=>Vc (XE a q.1 q.2) b
def Xx (l:Q9):Int:=if l.any (fun q=>Wt q.2)then 7 else if 200 < l.length then 3 else 0
def VV (a b:Q9):Int:=if ZA a≠0 then ZA a else if ZA b≠0 then ZA b else Xx (Vc a b)
def WD (a b:Q9):Q9:=if VV a b=0 then Vc a b else []
def As:=@List.any_append
def Qgl (l t) (w:l.length < 100000000):
  ∀b a o g,l=a ++ b->a.any (fun q=>Wt q.2)=false->g 0= .sl o 5 (Qz l)->g 3= .int .i64 a.length->
  R tb (.loop f263l0) g t (Qh 0 (Qs tb f263r0 (QA f263 t)))=some (.int .i64 (Xx l),t):=by
 intro b;induction b with | nil=>intro a o g j k e i;simp only[Qy]at j;rw[<- j]at i k;rw[Qb f263l0.eq_1];by_cases c:200 < l.length;(have r: (200:Int) < (l.length:Int):=by omega);simp[e,i,f263r0,Xx,k,c,r,-List.any_eq_false,-List.any_eq_true];(have r: ¬(200:Int) < (l.length:Int):=by omega);simp[e,i,f263r0,Xx,k,c,r,-List.any_eq_false,-List.any_eq_true] | cons p b v=>intro a o g j k e i;have s:=Qv j;have u:=QD j;have f:=QF j;(have d:Wt p.2=true->Xx l=7:=by intro h;have:l.any (fun q=>Wt q.2)=true:=UQ.2 ⟨p,by grind,h⟩;simp only[Xx,this,QU]);rw[Qb f263l0.eq_1];by_cases m:p.2 < -1000;rw[d (by simp[Wt,m])];simp[e,i,s,f,m];by_cases n:1000 < p.2;rw[d (by simp[Wt,n])];simp[e,i,s,f,m,n];simp[e,i,s,f,(wr1 a.length (by omega)),m,n];apply(fun g=>v (a ++ [p]) o g (by grind) (by rw[As,k];simp[Wt,m,n])) <;> simp[e]
def Qog (l o a) (b:l.length < 100000000):call tb 263 [.sl o 5 (Qz l)] a=some (.int .i64 (Xx l),a):=by
 have h:=fun c=>Qgl l a b l [] false c rfl rfl;rw[zcc 263 rfl rfl];simp[f263C];simp_all
def Qh5 (b j) (C:b.length<=200) (s: ∀q∈b,q.1.mass < big/\q.2≠0/\ -1000<=q.2/\q.2<=1000) (X):
  ∀a e d n o t f,b=e ++ a->Um d n->n+1000*a.length < 40000000->Vc d a=X->f 1= .sl o 5 (Qz b)->f 8= .sl t 5 (Qz d)->f 9= .int .i64 e.length->
  R tb (.loop f262l0) f j (Qh 0 (Qs tb f262r0 (QA f262 j)))=some (.tup [.sl false 5 (Qz (if Xx X=0 then X else [])),.int .i64 (Xx X)],j):=by
 intro a;induction a with | nil=>intro e d n o t f g k v l h r i;simp only[Qy]at g;rw[<- g]at i;simp only[Vc]at l;subst l;have y:=k.len;have u:=Qog d false j (by omega);rw[Qb f262l0.eq_1];by_cases c:Xx d=0;simp[h,r,i,f262r0,u,c];simp[h,r,i,f262r0,u,c,VF] | cons p a x=>intro e d n o t f g k v l h r i;have A:=QD g;obtain⟨w,z,D,B⟩:=s p (by grind);simp only[Zu]at v;rw[Qb f262l0.eq_1];simp[h,r,i,(Qv g),(QF g),(wr1 e.length (by omega)),(Qc3 (m:=p.2) false j k (by omega) w (by omega))];apply(fun f=>x (e ++ [p]) (XE d p.1 p.2) (n+1000) o false f (by rw[g];simp) (k.add (c:=1000) w z (by omega) (by omega)) (by omega) (by rw[<- l];rfl)) <;> simp[h]
def Qc4 (a b o w j) (t:a.length < 100000000) (y:b.length < 100000000) (f: ∀q∈a,q.1.mass < big) (i: ∀q∈b,q.1.mass < big):
  call tb 262 [.sl o 5 (Qz a),.sl w 5 (Qz b)] j=some (.tup [.sl false 5 (Qz (WD a b)),.int .i64 (VV a b)],j):=by
 have k:=I1 a false j t f;have m:=I1 b false j y i;rw[zcc 262 rfl rfl];by_cases c:ZA a=0;by_cases e:ZA b=0;obtain⟨u,z,_⟩:=TY c f;obtain⟨l,r,_⟩:=TY e i;have A:=fun x=>Qh5 b j r (fun q n=>by obtain⟨p,v,s⟩:=l.bd q n;exact⟨p,l.nz q n,v,s⟩) _ b [] a 1000 false true x rfl u (by omega) rfl;have d:VV a b=Xx (Vc a b):=by simp[VV,c,e]
 have g:WD a b=if Xx (Vc a b)=0 then Vc a b else []:=by simp[WD,d]
 have h:a.length*64<=140737488355328:=KF (by omega);rw[d,g];simp[f262C,k,m,c,e,h];simp_all;have d:VV a b=ZA b:=by simp[VV,c,e]
 have g:WD a b=[]:=by simp[WD,d,e]
 rw[d,g];simp[f262C,k,m,c,e,VF];have d:VV a b=ZA a:=by simp[VV,c]
 have g:WD a b=[]:=by simp[WD,d,c]
 rw[d,g];simp[f262C,k,c,VF]
def QuD {a B v l} (p o) (h:PS a B v l) (A:l.length < 50000000): ∃k m,appM 64 5 v (.sl o 5 [Zb p]) B=some (k,m)/\PS a m k (l ++ [p]):=by
 obtain⟨M,d,C,rfl,rfl,s⟩:=h;have q: (l.length+1)*64<=140737488355328:=KF (by omega);have j:Xt 5 (.sl o 5 [Zb p]) (a ++ M)=some (1,Zb p):=by simp[Xt]
 rcases s with⟨rfl,rfl,rfl⟩ | ⟨rfl,b,t,f,y⟩;refine⟨.gs (a ++ M).length 0 5 1,a ++ (M ++ [Zb p]),?_,M ++ [Zb p],(a ++ M).length,5,rfl,rfl,.inr ⟨rfl,by simp,[],?_,?_⟩⟩;simp[appM,j];rw[<- ZU,Yc];simp[Ze,YZ];simp[Ze,YZ,QdL];have r:=QJ f;have z:=Wn l;have u:l.length*5<=(Ze l ++ t).length:=by grind
 have c:Ze (l ++ [p])=Ze l ++ Zb p:=by simp[Ze,Ve,OH]
 have w: (Ze l ++ t).take (l.length*5)=Ze l:=by grind
 have g: ∀x:QB,Ze l ++ (Zb p ++ x)≠[]:=fun x e=>by have:=UV List.length e;simp at this
 by_cases i: (l.length+1)*5<=(Ze l ++ t).length;refine⟨.gs d 0 5 (l.length+1),(a ++ M).set d (Ze l ++ (Zb p ++ (Ze l ++ t).drop (l.length*5+5))),?_,_,d,5,WG b _,by simp,.inr ⟨rfl,b,(Ze l ++ t).drop (l.length*5+5),?_,?_⟩⟩;simp only[appM,j,QN];rw[Qg ⟨by omega,q⟩,Qe (by omega),Qe (by omega),Qg ⟨trivial,trivial⟩,f];simp_all;grind;grind;refine⟨.gs (a ++ M).length 0 5 (l.length+1),(a ++ M).set d []++ [Ze l ++ Zb p],?_,M.set (d - a.length) []++ [Ze l ++ Zb p],(a ++ M).length,5,?_,by simp,.inr ⟨rfl,by simp,[],?_,?_⟩⟩;have n:=Z5 Wv l;simp only[appM,j,QN];grind;grind;simp_all;rw[c,Qy];have:=g [];grind
def Qcj (l k K) (C:l.length < 40000000) (n: ∀q∈l,q.1.mass < big):
  ∀b a B v d,l=a ++ b->PS k B v a->d 3=v->d 6= .sl false 5 (Qz l)->d 7= .int .i64 l.length->d 8= .int .i64 a.length->
  QkJ k l (R tb (.loop f201l0) d B (Qh 0 (Qs tb f201r0 (QA f201 K)))):=by
 intro b;induction b with | nil=>intro a B v d f c i h g j;simp only[Qy]at f;subst f;obtain⟨o,u,rfl⟩:=TV c;rw[Qb f201l0.eq_1];refine⟨_,B,?_,c⟩;simp[i,h,g,j,f201r0] | cons p b m=>intro a B v d f c i h g j;have A:=QD f;obtain⟨t,z,s,e⟩:=QuD p false c (by omega);have r:=fun d=>m (a ++ [p]) z t d (by grind) e;obtain⟨o,u,rfl⟩:=TV c;obtain⟨w,y,rfl⟩:=TV e;have x:Qd p.1 ++ [.int .i64 p.2]=Zb p:=rfl;rw[Qb f201l0.eq_1];simp[i,h,g,j,(Qv f),(QF f),(wr1 a.length (by omega)),(OM p.1 B (n p (by grind))),Nf,x,s];apply r <;> simp[h,g]
def QcZ (l o a) (d:l.length < 40000000) (b: ∀q∈l,q.1.mass < big):QkJ a l (call tb 201 [.sl o 5 (Qz l)] a):=by
 have h:=fun c=>Qcj l a a d b l [] a _ c rfl (Qjz a);rw[zcc 201 rfl rfl];simp[f201C];simp_all
def Qn3 (p B):call tb 203 [.agg (Zb p)] B=some (.bool (Wt p.2),B):=by
 rw[zcc 203 rfl rfl];by_cases a:p.2 < -1000;simp[f203C,Wt,a];by_cases b:1000 < p.2;simp[f203C,Wt,a,b];simp[f203C,Wt,a,b]
def Er (b:Bool) (B:Qr) (r:Out):Prop:=∃i:Int,r=some (.int .i64 i,B)/\(0<=i↔b=true)
def Qp6 {m B v l} (h:PS m B v l) (J:l.length < 100000000):
  ∀b a d,l=a ++ b->a.any (fun q=>Wt q.2)=false->d 0=v->d 1= .fn 203 []->d 7= .int .i64 l.length->d 8= .int .i64 a.length->
  Er (l.any fun q=>Wt q.2) B (R tb (.loop f205l0) d B (Qh 0 (Qs tb f205r0 (QA f205 B)))):=by
 obtain⟨M,I,K,rfl,rfl,H⟩:=h;have g: (m ++ M).take (m.length+M.length)=m ++ M:=Z2 (by simp);intro b;induction b with | nil=>intro a d f u j r k s;simp only[Qy]at f;rw[<- f]at s u;rw[Qb f205l0.eq_1];refine⟨-1,?_,by grind⟩;simp[j,r,k,s,f205r0,g] | cons p b G=>intro a d f u j r k s;have E:=QD f;have o:=QF f;(have y:a.length < l.length:=by omega);rcases H with⟨rfl,rfl,rfl⟩ | ⟨rfl,C,t,n,D⟩;grind;have z:=Df (l:=l) (L7 (Qv f) t);(have i:a.length*5+5<=(Ze l ++ t).length:=by rw[Q6,Wn];omega);have e:=Qn3 p (m ++ M);generalize Ze l ++ t=c at *;rw[Qb f205l0.eq_1];cases w:Wt p.2;simp[-getElem?_pos,j,r,k,s,o,(wr1 a.length (by omega)),n,i,z,e,w,-List.any_eq_false,-List.any_eq_true];apply(fun d=>(fun d x=>G (a ++ [p]) d (by rw[f];simp) x) d (by rw[As,u];grind)) <;> simp[j,r,k];have A:l.any (fun q=>Wt q.2)=true:=UQ.2 ⟨p,by grind,w⟩;refine⟨a.length,?_,by grind⟩;simp[-getElem?_pos,j,r,k,s,o,n,i,z,e,w,g]
def Qn4 {b B v l} (h:PS b B v l) (f:l.length < 100000000):call tb 204 [v,.fn 203 []] B=some (.bool (l.any fun q=>Wt q.2),B):=by
 have j:=fun a=>Qp6 h f l [] a rfl rfl;obtain⟨d,e,rfl⟩:=TV h;have g:Er (l.any fun q=>Wt q.2) B (call tb 205 [.gs d 0 e l.length,.fn 203 []] B):=by rw[zcc 205 rfl rfl];simp[f205C,-List.any_eq_false,-List.any_eq_true];simp_all
 obtain⟨i,c,k⟩:=g;rw[zcc 204 rfl rfl];simp[f204C,c,-List.any_eq_false,-List.any_eq_true];grind
def QqF {b B v l} (h:PS b B v l) (n): ∃o d,(b ++ d).length=B.length/\X4 B (b ++ d)=true/\∀a:Ye,a n=v->ZY {env:=a,bs:=B} n 5=some (.sl o 5 (Qz l),{env:=upd a n .undef,bs:=b ++ d}):=by
 obtain⟨M,q,r,rfl,rfl,p⟩:=h;rcases p with⟨rfl,rfl,rfl⟩ | ⟨rfl,e,t,s,g⟩;exact⟨true,M,rfl,MZ _,fun a c=>by simp[ZY,c,Qz]⟩;by_cases m:l.length=0;have:l=[]:=Yf m;subst this;exact⟨false,M,rfl,MZ _,fun a c=>by simp[ZY,c,Qz]⟩;refine⟨true,M.set (q - b.length) [],by simp,by simp,fun a c=> ?_⟩;have i:0+l.length*5<=(Ze l ++ t).length:=by rw[Q6,Wn];omega
 have j:ZR (Ze l ++ t) 0 5 l.length=Qz l:=X3 (f:=Zb) (k:=5) W7 Wv l t;simp only[ZY,c];grind
def Qvv (B0:Qr) (l:Q9) (r:Out):Prop:=∃M,r=some (.tup [.sl false 5 (Qz (if Xx l=0 then l else [])),.int .i64 (Xx l)],B0 ++ M)
def Qn2 {a B v l} (h:PS a B v l) (s:l.length < 100000000):Qvv a l (call tb 202 [v] B):=by
 have d:=Qn4 h s;obtain⟨o,i,m,f,t⟩:=QqF h 9;obtain⟨M,n⟩: ∃M,B=a ++ M:=by obtain⟨M,_,_,h,_⟩:=h;grind
 subst n;have j: (a ++ i).take (a.length+M.length)=a ++ i:=Z2 (by grind);have b: (a ++ M).take (a.length+M.length)=a ++ M:=Z2 (by simp);have r:=Mw l;obtain⟨u,w,rfl⟩:=TV h;rw[zcc 202 rfl rfl];cases g:l.any fun q=>Wt q.2;rw[g]at d;by_cases c:200 < l.length;have k: (200:Int) < (l.length:Int):=by omega
 have e:Xx l=3:=by simp only[Xx,g,c,QU];rfl
 refine⟨M,?_⟩;rw[e];simp[f202C,d,k,VF,b];have k: ¬(200:Int) < (l.length:Int):=by omega
 have e:Xx l=0:=by simp only[Xx,g,c,ZM];rfl
 refine⟨i,?_⟩;rw[e];simp[f202C,d,k,t,j,f];rw[g]at d;have e:Xx l=7:=by simp only[Xx,g,QU]
 refine⟨M,?_⟩;rw[e];simp[f202C,d,VF,b]
def Ql4 (b s) (U:b.length<=200) (r: ∀q∈b,q.1.mass < big/\q.2≠0/\ -1000<=q.2/\q.2<=1000) (X):
  ∀a e d n B v j,b=e ++ a->PS s B v d->Um d n->n+1000*a.length < 40000000->Vc d a=X->j 8=v->j 23= .sl false 5 (Qz b)->j 24= .int .i64 b.length->j 25= .int .i64 e.length->
  R tb (.loop f200l0) j B (Qh 0 (Qs tb f200r0 (QA f200 s)))=some (.tup [.sl false 5 (Qz (if Xx X=0 then X else [])),.int .i64 (Xx X)],s):=by
 intro a;induction a with | nil=>intro e d n B v j l f m w o u h g i;simp only[Qy]at l;rw[<- l]at i;simp only[Vc]at o;subst o;have t:=m.len;obtain⟨M,A⟩:=Qn2 f (by omega);obtain⟨G,J,rfl⟩:=TV f;rw[Qb f200l0.eq_1];generalize (if Xx d=0 then d else [])=X at *;simp[u,h,g,i,f200r0,A] | cons p a L=>intro e d n B v j l f m w o u h g i;have C:=QD l;obtain⟨x,N,P,T⟩:=r p (by rw[l];simp);simp only[Zu]at w;have t:=m.len;obtain⟨D,I,E,k⟩:=QcW (p:=p) f (by omega) (fun q y=>by obtain⟨S,Q,O⟩:=m.bd q y;omega) x (by omega) m.asc;have H:=fun j=>L (e ++ [p]) (XE d p.1 p.2) (n+1000) I D j (by rw[l];simp) k (m.add (c:=1000) x N (by omega) (by omega)) (by omega) (by rw[<- o];rfl);obtain⟨G,J,rfl⟩:=TV f;obtain⟨K,z,rfl⟩:=TV k;rw[Qb f200l0.eq_1];simp[u,h,g,i,(Qv l),(QF l),(wr1 e.length (by omega)),E];apply H <;> simp[h,g]
def QcY (a b o x g) (y:a.length < 100000000) (w:b.length < 100000000) (e: ∀q∈a,q.1.mass < big) (h: ∀q∈b,q.1.mass < big):
  call tb 200 [.sl o 5 (Qz a),.sl x 5 (Qz b)] g=some (.tup [.sl false 5 (Qz (WD a b)),.int .i64 (VV a b)],g):=by
 have k:=LU a false g y e;have m:=LU b false g w h;rw[zcc 200 rfl rfl];by_cases c:ZA a=0;by_cases f:ZA b=0;obtain⟨z,C,_⟩:=TY c e;obtain⟨l,u,_⟩:=TY f h;obtain⟨v,B,p,i⟩:=QcZ a false g (by omega) e;have E:=fun A=>Ql4 b g u (fun q n=>by obtain⟨r,s,t⟩:=l.bd q n;exact⟨r,l.nz q n,s,t⟩) _ b [] a 1000 B v A rfl i z (by omega) rfl;obtain⟨D,G,rfl⟩:=TV i;have d:VV a b=Xx (Vc a b):=by simp[VV,c,f]
 have j:WD a b=if Xx (Vc a b)=0 then Vc a b else []:=by simp[WD,d]
 rw[d,j];simp[f200C,k,m,c,f,p];simp_all;have d:VV a b=ZA b:=by simp[VV,c,f]
 have j:WD a b=[]:=by simp[WD,d,f]
 rw[d,j];simp[f200C,k,m,c,f,VF];have d:VV a b=ZA a:=by simp[VV,c]
 have j:WD a b=[]:=by simp[WD,d,c]
 rw[d,j];simp[f200C,k,c,VF]
@[simp] def Qxf (x y a) (h:1 < (Qa (x:: y:: a)).length): (Qa (x:: y:: a))[1]=Qd y:=by simp[Qa]
def Zx:Yi:=[112,97,105,114]
def ENC:Yi:=[101,110,99]
def Zv:Yi:=[97,101,110,99]
def PK:Yi:=[112,107]
def Zw:Yi:=[115,105,103,110]
def EXP:Yi:=[101,120,112]
def FST:Yi:=[102,115,116]
def SND:Yi:=[115,110,100]
def DEC:Yi:=[100,101,99]
def YI:Yi:=[97,100,101,99]
def Y1:Yi:=[111,112,101,110]
def READ:Yi:=[114,101,97,100]
def Y2 (n:Yi) (m:Nat):Bool:=
 if n=Zx\/n=ENC\/n=Zv\/n=Zw\/n=EXP\/n=DEC\/n=YI\/n=Y1 then decide (m=2)
 else if n=PK\/n=FST\/n=SND\/n=READ then decide (m=1)else true
mutual
def Zf:Tm->Bool
 | .mk k n s ks=>(!(k == 3) || ((s == 0) && Y2 n ks.length)) && Yw ks
def Yw:List Tm->Bool
 | []=>true
 | t:: ts=>Zf t && Yw ts
end
def H0 (t):Zf t=((!(t.kind == 3) || ((t.sort == 0) && Y2 t.name t.kids.length)) && Yw t.kids):=by cases t;simp[Zf]
def X9: ∀{l},Yw l=true↔∀x∈l,Zf x=true
 | []=>by simp[Yw]
 | t:: a=>by simp[Yw,X9 (l:=a)]
def VG {t} (h:Zf t=true):Yw t.kids=true:=by rw[H0]at h;simp at h;exact h.2
def U2 {t} (h:Zf t=true) (a:t.kind=3):t.sort=0/\Y2 t.name t.kids.length=true:=by
 rw[H0]at h;simp[a]at h;exact h.1
def W8 {t n} (h:Zf t=true) (b:isB t n=true) (c:Y2 n t.kids.length=decide (t.kids.length=2)): ∃x y,t.kids=[x,y]:=by
 obtain⟨d,rfl⟩:=Sf.1 b;have:=(U2 h d).2;rw[c]at this;simp at this;match a:t.kids with | [x,y]=>exact⟨x,y,rfl⟩ | []=>rw[a]at this;simp at this | [_]=>rw[a]at this;simp at this | _:: _:: _:: _=>rw[a]at this;simp at this
def kid (t:Tm) (i:Nat):Tm:=t.kids.getD i Q7
def pkT (t:Tm):Tm:= .mk 3 PK 0 [t]
def JA:=@List.length_eq_one_iff
def Qd4 {u} (h:Zf u=true) (a):decide (Qo u (pkT a)=0)=(isB u PK && decide (Qo (kid u 0) a=0)):=by
 cases f:isB u PK;have: ¬Qo u (pkT a)=0:=by intro e;have:=YP _ _ e;subst this;simp[isB,pkT]at f
 simp[this];obtain⟨b,c⟩:=Sf.1 f;obtain⟨i,d⟩:=U2 h b;rw[c]at d;obtain⟨x,j⟩:=JA.1 (by simpa[Y2,PK,Zx,ENC,Zv,Zw,EXP,DEC,YI,Y1]using d);have k:u=pkT x:=by rw[<- Tm.eta u,b,c,i,j];rfl
 subst k;have:kid (pkT x) 0=x:=rfl;rw[this];have g:Qo (pkT x) (pkT a)=0↔Qo x a=0:=by constructor;intro e;have:=YP _ _ e;cases this;exact Xd _;intro e;have:=YP _ _ e;subst this;exact Xd _
 simp[g]
def Zj (n:Yi) (us:Qj):Tm:=
 let a:=us.getD 0 Q7
 let key:=us.getD 1 Q7
 let out:Tm:= .mk 3 n 0 us
 if n=FST then(if isB a Zx then kid a 0 else out)
 else if n=SND then(if isB a Zx then kid a 1 else out)
 else if n=DEC then(if isB a ENC && decide (Qo (kid a 1) key=0)then kid a 0 else out)
 else if n=YI then(if isB a Zv && decide (Qo (kid a 1) (pkT key)=0)then kid a 0 else out)
 else if n=Y1 then(if isB a Zw && decide (Qo key (pkT (kid a 1))=0)then kid a 0 else out)
 else if n=READ then(if isB a Zw then kid a 0 else out)
 else out
def I0 (x y a) (b:x.mass < big) (c:y.mass < big):call tb 177 [.agg (Qd x),.agg (Qd y)] a=some (.bool (decide (Qo x y=0)),a):=by
 rw[zcc 177 rfl rfl];simp[f177C,(call_Compare x y a b c)]
def Tj (n:Yi):Bool:=n == FST || n == SND || n == DEC || n == YI || n == Y1 || n == READ
def Qlv (n a g) (i:n=FST\/n=SND\/n=READ) (h:Zf a=true) (j:a.mass < big):
  call tb 176 [.agg (Qd (.mk 3 n 0 [a]))] g=some (.agg (Qd (Zj n [a])),g):=by
 have f:=fun m=>R7 a m g;rw[zcc 176 rfl rfl];rcases i with rfl | rfl | rfl;cases c:isB a Zx;have b:=f Zx;rw[c]at b;simp only[Zx]at b;have e:Zj FST [a]= .mk 3 FST 0 [a]:=by simp[Zj,c]
 rw[e];simp only[FST];simp[f176C,b];have b:=f Zx;rw[c]at b;simp only[Zx]at b;obtain⟨x,y,d⟩:=W8 h c (by simp[Y2]);have e:Zj FST [a]=x:=by simp[Zj,c,kid,d]
 rw[e];simp only[FST];simp[f176C,b,d];cases c:isB a Zx;have b:=f Zx;rw[c]at b;simp only[Zx]at b;have e:Zj SND [a]= .mk 3 SND 0 [a]:=by simp[Zj,c,SND,FST]
 rw[e];simp only[SND];simp[f176C,b];have b:=f Zx;rw[c]at b;simp only[Zx]at b;obtain⟨x,y,d⟩:=W8 h c (by simp[Y2]);have e:Zj SND [a]=y:=by simp[Zj,c,kid,d,SND,FST]
 rw[e];simp only[SND];simp[f176C,b,d];cases c:isB a Zw;have b:=f Zw;rw[c]at b;simp only[Zw]at b;have e:Zj READ [a]= .mk 3 READ 0 [a]:=by simp[Zj,c,SND,FST,DEC,YI,Y1,READ]
 rw[e];simp only[READ];simp[f176C,b];have b:=f Zw;rw[c]at b;simp only[Zw]at b;obtain⟨x,y,d⟩:=W8 h c (by simp[Y2]);have e:Zj READ [a]=x:=by simp[Zj,c,kid,d,SND,FST,DEC,YI,Y1,READ]
 rw[e];simp only[READ];simp[f176C,b,d]
def Qlw (n a b B) (I:n=DEC\/n=YI\/n=Y1) (E:Zf a=true) (C:Zf b=true) (J:a.mass < big - 10) (H:b.mass < big - 10):
  call tb 176 [.agg (Qd (.mk 3 n 0 [a,b]))] B=some (.agg (Qd (Zj n [a,b])),B):=by
 have q:=fun t m=>R7 t m B;rw[zcc 176 rfl rfl];rcases I with rfl | rfl | rfl;cases f:isB a ENC;have c:=q a ENC;rw[f]at c;simp only[ENC]at c;have e:Zj DEC [a,b]= .mk 3 DEC 0 [a,b]:=by simp[Zj,f,SND,FST,DEC]
 rw[e];simp only[DEC];simp[f176C,c];have c:=q a ENC;rw[f]at c;simp only[ENC]at c;obtain⟨x,y,d⟩:=W8 E f (by simp[Y2]);have g:=QL a;rw[d]at g;simp only[Qw]at g;have r:=I0 y b B (by omega) (by omega);by_cases l:Qo y b=0;have e:Zj DEC [a,b]=x:=by simp[Zj,f,kid,d,l,SND,FST,DEC]
 rw[e];simp only[DEC];simp[f176C,c,r,l,d];have e:Zj DEC [a,b]= .mk 3 DEC 0 [a,b]:=by simp[Zj,f,kid,d,l,SND,FST,DEC]
 rw[e];simp only[DEC];simp[f176C,c,r,l,d];cases f:isB a Zv;have c:=q a Zv;rw[f]at c;simp only[Zv]at c;have e:Zj YI [a,b]= .mk 3 YI 0 [a,b]:=by simp[Zj,f,SND,FST,DEC,YI]
 rw[e];simp only[YI];simp[f176C,c];have c:=q a Zv;rw[f]at c;simp only[Zv]at c;obtain⟨x,y,d⟩:=W8 E f (by simp[Y2]);have g:=QL a;have D:Zf y=true:=by have:=VG E;rw[d]at this;simp[Yw]at this;exact this.2
 rw[d]at g;simp only[Qw]at g;have u:=Qd4 D b;have h:=q y PK;have G:Zj YI [a,b]=if isB y PK && decide (Qo (kid y 0) b=0)then x else .mk 3 YI 0 [a,b]:=by rw[<- u];simp[Zj,f,kid,d,SND,FST,DEC,YI]
 rw[G];cases i:isB y PK;rw[i]at h;simp only[PK]at h;simp only[YI];simp[f176C,c,h,d];rw[i]at h;simp only[PK]at h;obtain⟨v,w⟩:=Sf.1 i;have j:=(U2 D v).2;rw[w]at j;have s:y.kids.length=1:=by simpa[Y2,PK,Zx,ENC,Zv,Zw,EXP,DEC,YI,Y1]using j
 obtain⟨z,o⟩:=JA.1 s;have k:=QL y;rw[o]at k;simp only[Qw]at k;have r:=I0 z b B (by omega) (by omega);have A:kid y 0=z:=by simp[kid,o]
 rw[A];by_cases l:Qo z b=0;simp only[YI];simp[f176C,c,r,h,l,d,o];simp only[YI];simp[f176C,c,r,h,l,d,o];cases f:isB a Zw;have c:=q a Zw;rw[f]at c;simp only[Zw]at c;have e:Zj Y1 [a,b]= .mk 3 Y1 0 [a,b]:=by simp[Zj,f,SND,FST,DEC,YI,Y1]
 rw[e];simp only[Y1];simp[f176C,c];have c:=q a Zw;rw[f]at c;simp only[Zw]at c;obtain⟨x,y,d⟩:=W8 E f (by simp[Y2]);have g:=QL a;rw[d]at g;simp only[Qw]at g;have u:=Qd4 C y;have h:=q b PK;have G:Zj Y1 [a,b]=if isB b PK && decide (Qo (kid b 0) y=0)then x else .mk 3 Y1 0 [a,b]:=by rw[<- u];simp[Zj,f,kid,d,SND,FST,DEC,YI,Y1]
 rw[G];cases i:isB b PK;rw[i]at h;simp only[PK]at h;simp only[Y1];simp[f176C,c,h,d];rw[i]at h;simp only[PK]at h;obtain⟨v,w⟩:=Sf.1 i;have j:=(U2 C v).2;rw[w]at j;have s:b.kids.length=1:=by simpa[Y2,PK,Zx,ENC,Zv,Zw,EXP,DEC,YI,Y1]using j
 obtain⟨z,o⟩:=JA.1 s;have k:=QL b;rw[o]at k;simp only[Qw]at k;have r:=I0 y z B (by omega) (by omega);have A:kid b 0=z:=by simp[kid,o]
 have p: (Qo z y=0)=(Qo y z=0):=by have:=XU y z;rw[UT];omega
 rw[A];by_cases l:Qo y z=0;simp only[Y1];simp[f176C,c,r,h,l,d,o,p];simp only[Y1];simp[f176C,c,r,h,l,d,o,p]
def Qbh (t): (pkT t).mass=t.mass+4:=by simp only[pkT,Tm.mass,Qw,PK,Zu,Xc];omega
def QkF (t:Tm) (bs:Qr) (r:Out):Prop:=∃b,r=some (.tup [.agg (Qd t),.bool b],bs)
def Qh3 (n a g) (i:n=FST\/n=SND\/n=READ) (h:Zf a=true) (j:a.mass < big):
  QkF (Zj n [a]) g (call tb 243 [.agg (Qd (.mk 3 n 0 [a]))] g):=by
 have f:=fun m=>Xw a m g;rw[zcc 243 rfl rfl];rcases i with rfl | rfl | rfl;cases c:isB a Zx;have b:=f Zx;rw[c]at b;simp only[Zx]at b;have e:Zj FST [a]= .mk 3 FST 0 [a]:=by simp[Zj,c]
 rw[e];refine⟨false,?_⟩;simp only[FST];simp[f243C,b];have b:=f Zx;rw[c]at b;simp only[Zx]at b;obtain⟨x,y,d⟩:=W8 h c (by simp[Y2]);have e:Zj FST [a]=x:=by simp[Zj,c,kid,d]
 rw[e];refine⟨true,?_⟩;simp only[FST];simp[f243C,b,d];cases c:isB a Zx;have b:=f Zx;rw[c]at b;simp only[Zx]at b;have e:Zj SND [a]= .mk 3 SND 0 [a]:=by simp[Zj,c,SND,FST]
 rw[e];refine⟨false,?_⟩;simp only[SND];simp[f243C,b];have b:=f Zx;rw[c]at b;simp only[Zx]at b;obtain⟨x,y,d⟩:=W8 h c (by simp[Y2]);have e:Zj SND [a]=y:=by simp[Zj,c,kid,d,SND,FST]
 rw[e];refine⟨true,?_⟩;simp only[SND];simp[f243C,b,d];cases c:isB a Zw;have b:=f Zw;rw[c]at b;simp only[Zw]at b;have e:Zj READ [a]= .mk 3 READ 0 [a]:=by simp[Zj,c,SND,FST,DEC,YI,Y1,READ]
 rw[e];refine⟨false,?_⟩;simp only[READ];simp[f243C,b];have b:=f Zw;rw[c]at b;simp only[Zw]at b;obtain⟨x,y,d⟩:=W8 h c (by simp[Y2]);have e:Zj READ [a]=x:=by simp[Zj,c,kid,d,SND,FST,DEC,YI,Y1,READ]
 rw[e];refine⟨true,?_⟩;simp only[READ];simp[f243C,b,d]
def Qh4 (n a b j) (q:n=DEC\/n=YI\/n=Y1) (p:Zf a=true) (s:a.mass < big - 10) (r:b.mass < big - 10):
  QkF (Zj n [a,b]) j (call tb 243 [.agg (Qd (.mk 3 n 0 [a,b]))] j):=by
 have o:=fun t m=>Xw t m j;rw[zcc 243 rfl rfl];rcases q with rfl | rfl | rfl;cases d:isB a ENC;have c:=o a ENC;rw[d]at c;simp only[ENC]at c;have e:Zj DEC [a,b]= .mk 3 DEC 0 [a,b]:=by simp[Zj,d,SND,FST,DEC]
 rw[e];refine⟨false,?_⟩;simp only[DEC];simp[f243C,c];have c:=o a ENC;rw[d]at c;simp only[ENC]at c;obtain⟨x,y,h⟩:=W8 p d (by simp[Y2]);have g:=QL a;rw[h]at g;simp only[Qw]at g;have i:=W2 y b j (by omega) (by omega);by_cases f:Qo y b=0;have e:Zj DEC [a,b]=x:=by simp[Zj,d,kid,h,f,SND,FST,DEC]
 rw[e];refine⟨true,?_⟩;simp only[DEC];simp[f243C,c,i,f,h];have e:Zj DEC [a,b]= .mk 3 DEC 0 [a,b]:=by simp[Zj,d,kid,h,f,SND,FST,DEC]
 rw[e];refine⟨false,?_⟩;simp only[DEC];simp[f243C,c,i,f,h];cases d:isB a Zv;have c:=o a Zv;rw[d]at c;simp only[Zv]at c;have e:Zj YI [a,b]= .mk 3 YI 0 [a,b]:=by simp[Zj,d,SND,FST,DEC,YI]
 rw[e];refine⟨false,?_⟩;simp only[YI];simp[f243C,c];have c:=o a Zv;rw[d]at c;simp only[Zv]at c;obtain⟨x,y,h⟩:=W8 p d (by simp[Y2]);have g:=QL a;rw[h]at g;simp only[Qw]at g;have l: (pkT b).mass < big:=by rw[Qbh];unfold big at *;omega
 have i:=W2 y (pkT b) j (by omega) l;have k:=R3 PK [b] false j (by simp);simp only[pkT,PK]at i k;by_cases f:Qo y (pkT b)=0;have e:Zj YI [a,b]=x:=by simp[Zj,d,kid,h,f,SND,FST,DEC,YI]
 rw[e];refine⟨true,?_⟩;simp only[pkT,PK]at f;simp only[YI];simp[f243C,c,i,k,f,h,ZH];have e:Zj YI [a,b]= .mk 3 YI 0 [a,b]:=by simp[Zj,d,kid,h,f,SND,FST,DEC,YI]
 rw[e];refine⟨false,?_⟩;simp only[pkT,PK]at f;simp only[YI];simp[f243C,c,i,k,f,h,ZH];cases d:isB a Zw;have c:=o a Zw;rw[d]at c;simp only[Zw]at c;have e:Zj Y1 [a,b]= .mk 3 Y1 0 [a,b]:=by simp[Zj,d,SND,FST,DEC,YI,Y1]
 rw[e];refine⟨false,?_⟩;simp only[Y1];simp[f243C,c];have c:=o a Zw;rw[d]at c;simp only[Zw]at c;obtain⟨x,y,h⟩:=W8 p d (by simp[Y2]);have g:=QL a;rw[h]at g;simp only[Qw]at g;have l: (pkT y).mass < big:=by rw[Qbh];unfold big at *;omega
 have i:=W2 b (pkT y) j (by omega) l;have k:=R3 PK [y] false j (by simp);simp only[pkT,PK]at i k;by_cases f:Qo b (pkT y)=0;have e:Zj Y1 [a,b]=x:=by simp[Zj,d,kid,h,f,SND,FST,DEC,YI,Y1]
 rw[e];refine⟨true,?_⟩;simp only[pkT,PK]at f;simp only[Y1];simp[f243C,c,i,k,f,h,ZH];have e:Zj Y1 [a,b]= .mk 3 Y1 0 [a,b]:=by simp[Zj,d,kid,h,f,SND,FST,DEC,YI,Y1]
 rw[e];refine⟨false,?_⟩;simp only[pkT,PK]at f;simp only[Y1];simp[f243C,c,i,k,f,h,ZH]
end Go.Am
