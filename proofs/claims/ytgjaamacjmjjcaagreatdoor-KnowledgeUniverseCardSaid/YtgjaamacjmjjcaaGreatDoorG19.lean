/-
  Kn3, Kn4, Kn22, Kn23, Kn24, Kn8, Kn5, Kn6.
-/
import Derived.Test.YtgjaamacjmjjcaaGreatDoorG18
set_option linter.all false
open Go.Am.F
namespace Go.Am
set_option maxRecDepth 20000
def Qdk (x y a) (b:x.mass < big) (c:y.mass < big):call tb 536 [.agg (Qd x),.agg (Qd y)] a=some (.bool (decide (Qo x y=0)),a):=by
 rw[zcc 536 rfl rfl];simp[f536C,(call_Compare x y a b c)]
def QoJ (x y a) (b:x.mass < big) (c:y.mass < big):call tb 528 [.agg (Qd x),.agg (Qd y)] a=some (.bool (decide (Qo x y=0)),a):=by
 rw[zcc 528 rfl rfl];simp[f528C,(call_Compare x y a b c)]
def QtL:EqF 528:=QoJ
def NX (l o B) (r:l.length < 1000000) (i: ∀x∈l,x.mass < big):call tb 527 [.sl o 4 (Qa l)] B=some (.sl true 4 (Qa (Qq l)),B):=by
 rw[zcc 527 rfl rfl];by_cases c:l=[];subst c;have g:call tb 193 [.sl false 4 []] B=some (.gs 0 0 0 0,B):=by rw[Y9 tb_193];simp[X2,VE]
 have b:call tb 170 [.gs 0 0 0 0,.fn 30 []] B=some (.tup [],B):=by rw[Y9 tb_170];simp[NT]
 have a:=AP 528 B;simp[f527C,g,b,a,Qa,Qq,Yo];have g:call tb 193 [.sl false 4 (Qa l)] B=some (.gs B.length 0 4 l.length,B ++ [Qk l]):=by rw[Y9 tb_193];(have j: (Qa l).flatten.map AV.strip=Qk l:=by(have: (Qa l).flatten=Qk l:=by rw[Zr];rfl);rw[this,Z5 Zc]);(have k: (Qa l).length=l.length:=by simp);(have m:l.length*56<=140737488355328:=by omega);simp[X2,VE,j,k,(ZL l),c,m]
 have h: (B ++ [Qk l])[B.length]? =some (Qk l):=Yc;have b:=MY l (B ++ [Qk l]) B.length h (by omega) i;have q:=QJ h;have a:=Qde 528 QtL (XL l) ((B ++ [Qk l]).set B.length (Qk (XL l))) B.length (by simp) (by intro e;obtain⟨x,d⟩:=GG l c;have:=(U3 (l:=l)).2 d;grind) (by rw[Vg];omega) fun x d=>i x (U3.1 d);rw[ON,Vg]at a;unfold L9 at a;rw[T6]at a;have f: ((B ++ [Qk l]).set B.length []).take B.length=B:=by simp
 generalize (B ++ [Qk l]).set B.length (Qk (XL l))=s at *;generalize (B ++ [Qk l]).set B.length []=n at *;generalize B ++ [Qk l]=p at *;simp[-getElem?_pos,f527C,g,b,a,(ZL (Qq l)),f]
def HH (t l o a) (b:l.length < 1000000):call tb 160 [.agg (Qd t),.sl o 1 (M4 l)] a=some (.bool (decide (t.kind=3) && l.contains t.name),a):=by
 rw[zcc 160 rfl rfl];by_cases c:t.kind=3 <;> simp[f160C,c,(Qk6 l t.name false a b),-List.contains_eq_mem]
def RH (t) (n:Nm) (o a):call tb 160 [.agg (Qd t),.sl o 1 [[.str n]]] a=some (.bool (isB t n),a):=by
 have h:=HH t [n] o a (by simp);have e: [n].contains t.name=(t.name == n):=by grind
 rwa[e]at h
def HI (t) (n m:Nm) (o a):call tb 160 [.agg (Qd t),.sl o 1 [[.str n],[.str m]]] a=some (.bool (isB t n || isB t m),a):=by
 have h:=HH t [n,m] o a (by simp);have e: (decide (t.kind=3) && [n,m].contains t.name)=(isB t n || isB t m):=by(have: [n,m].contains t.name=(t.name == n || t.name == m):=by grind);rw[this];unfold isB;grind
 rwa[e]at h
def Ta:Yi:=[104,97,115,104]
def UE (n:Yi):Bool:=n == Zx || n == ENC || n == Zv || n == PK || n == Zw || n == Ta
def Qal (n): [Zx,ENC,Zv,PK,Zw,Ta].contains n=UE n:=by
 unfold UE;grind
def Uo (s:Qj) (u:Tm):Bool:=decide (u.kind=3) && UE u.name && u.kids.all (Qx s)
def QoN (s x g a) (b:a[g]? =some [.sl false 4 (Qa s)]) (e:s.length < 100000000) (c: ∀p∈s,p.mass < big) (h:x.mass < big) (f:Asc s):
  call tb 533 [.agg (Qd x),.gp g 0] a=some (.bool (!Qx s x),a):=by
 have d:=QJ b;rw[zcc 533 rfl rfl];simp[-getElem?_pos,Ql,f533C,(Tq s x false a e c h f),b]
def QoM (s u o a) (j:s.length < 100000000) (k: ∀p∈s,p.mass < big) (l:u.mass < 1000000) (h:Asc s):
  call tb 532 [.sl o 4 (Qa s),.agg (Qd u)] a=some (.bool (Uo s u),a):=by
 have c: ∀x∈u.kids,x.mass < big:=fun x d=>by have:=QR d;have:=QL u;unfold big;omega
 have b:=HH u [Zx,ENC,Zv,PK,Zw,Ta] false (a ++ [[AV.sl false 4 (Qa s)]]) (by simp);rw[Qal]at b;have b:call tb 160 [.agg (Qd u),.sl false 1 [[.str [112,97,105,114]],[.str [101,110,99]],[.str [97,101,110,99]],[.str [112,107]],[.str [115,105,103,110]],[.str [104,97,115,104]]]] (a ++ [[AV.sl false 4 (Qa s)]])=some (.bool (decide (u.kind=3) && UE u.name),a ++ [[AV.sl false 4 (Qa s)]]):=b;have f:=AM u.kids 533 [.gp a.length 0] (fun x=> !Qx s x) false (a ++ [[AV.sl false 4 (Qa s)]]) (by have:=QL u;omega) (by simp) fun x d=>QoN s x a.length _ (Yc) j k (c x d) h;have e: (u.kids.any fun x=> !Qx s x)= !u.kids.all (Qx s):=by grind
 rw[e]at f;have i: (a ++ [[AV.sl false 4 (Qa s)]]).take a.length=a:=by simp
 rw[zcc 532 rfl rfl];unfold Uo;generalize u.kids.all (Qx s)=q at *;cases g: (decide (u.kind=3) && UE u.name);rw[g]at b;simp[-List.any_eq_false,-List.any_eq_true,f532C,b];rw[g]at b;simp[-List.any_eq_false,-List.any_eq_true,f532C,b,f]
def Sb (s t o a) (c:s.length < 100000000) (b: ∀x∈s,x.mass < big) (d:t.mass < big):
  call tb 307 [.sl o 4 (Qa s),.agg (Qd t)] a=some (.bool (Qx s t),a):=by
 rw[zcc 307 rfl rfl];simp[f307C,(Kk s t false a c b d),Qc]
def Qir (s u k) (r:s.length < 100000000) (w: ∀x∈s,x.mass < big) (A:u.mass < 1000000):
  ∀a b o c,u.kids=b ++ a->c 0= .sl o 4 (Qa s)->c 3= .bx (Qd u)->c 5= .int .i64 b.length->
  R tb (.loop f309l0) c k (Qh 1 (Qs tb f309r0 (QA f309 k)))=some (.bool (a.all (Qx s)),k):=by
 have z:u.kids.length < 1000000:=by have:=QL u;omega
 intro a;induction a with | nil=>intro b o c d h f g;simp only[Qy]at d;rw[<- d]at g;rw[Qb f309l0.eq_1];simp[h,f,g,f309r0] | cons x a n=>intro b o c d h f g;have m:=Qv d;have v:=QD d;have i:=wr1 b.length (by omega);have e:=QF d;(have y:x.mass < big:=by have:=QR (x:=x) (ks:=u.kids) (by grind);have:=QL u;unfold big;omega);have j:=Sb s x false k r w y;rw[Qb f309l0.eq_1];cases l:Qx s x;rw[l]at j;simp[h,f,g,m,e,i,j,l,Qc];rw[l]at j;simp[h,f,g,m,e,i,j,l,Qc];refine(fun o c p t q=>n (b ++ [x]) o c (by grind) p t q) o _ ?_ ?_ ?_ <;> simp[h,f]
def T2:=@beq_false_of_ne
def Qor (s u o b) (r:s.length < 100000000) (w: ∀p∈s,p.mass < big) (v:u.mass < 1000000):
  call tb 309 [.sl o 4 (Qa s),.agg (Qd u)] b=some (.bool (Uo s u),b):=by
 have h:=fun t=>Qir s u b r w v u.kids [] false t rfl;rw[zcc 309 rfl rfl];unfold Uo;by_cases a:u.kind=3;by_cases l:u.name=Zx;simp[f309C,UE,Zx,ENC,Zv,PK,Zw,Ta,a,l];simp_all;by_cases q:u.name=ENC;simp[f309C,UE,Zx,ENC,Zv,PK,Zw,Ta,a,q];simp_all;by_cases j:u.name=Zv;simp[f309C,UE,Zx,ENC,Zv,PK,Zw,Ta,a,j];simp_all;by_cases c:u.name=PK;simp[f309C,UE,Zx,ENC,Zv,PK,Zw,Ta,a,c];simp_all;by_cases d:u.name=Zw;simp[f309C,UE,Zx,ENC,Zv,PK,Zw,Ta,a,d];simp_all;by_cases k:u.name=Ta;simp[f309C,UE,Zx,ENC,Zv,PK,Zw,Ta,a,k];simp_all;have e:=T2 l;have i:=T2 q;have g:=T2 j;have n:=T2 c;have f:=T2 d;have m:=T2 k;simp only[Zx,ENC,Zv,PK,Zw,Ta]at e i g n f m;simp[f309C,UE,Zx,ENC,Zv,PK,Zw,Ta,a,e,i,g,n,f,m];simp[f309C,a]
def VX (t:Tm):Int:=if thV t≠0 then thV t else if isB t ENC then 0 else if isB t Zv then(if isB (kid t 1) PK then 0 else 4)else 10
def WV (t:Tm):Tm:=if VX t≠0 then Q7 else if isB t ENC then kid t 1 else kid (kid t 1) 0
def T8 (t:Tm):AV:= .tup [.agg (Qd (WV t)),.int .i64 (VX t)]
def Qih (t a) (b:t.mass < big):call tb 46 [.agg (Qd t)] a=some (.agg (Qd t),a):=by
 rw[zcc 46 rfl rfl];simp[f46,f46C,Qlg t a b]
def Yq {t n} (b:Zf t=true) (h:isB t n=true) (a:Vx n): ∃x y,t.kids=[x,y]:=by
 have:=(gd2 b h a).1;match c:t.kids with | [x,y]=>simp | []=>grind | [_]=>grind | _:: _:: _:: _=>grind
def QaD {t} (d:Zf t=true) (h:isB t PK=true): ∃x,t.kids=[x]:=by
 obtain⟨c,b⟩:=Sf.1 h;obtain⟨e,a⟩:=U2 d c;rw[b]at a;have:t.kids.length=1:=by unfold Y2 at a;simpa[PK,Zx,ENC,Zv,Zw,EXP,FST,SND,DEC,YI,Y1,READ]using a
 match f:t.kids with | [x]=>simp | []=>grind | _:: _:: _=>grind
def Sd:Qd Q7=[AV.int IntKind.i64 0,AV.str [],AV.int IntKind.i64 0,AV.sl false 4 []]:=by simp[Q7,Qd,Qa]
def EM (t d) (j:Zf t=true) (n:t.mass < 1000000):call tb 304 [.agg (Qd t)] d=some (T8 t,d):=by
 have f:=Mr t d (by unfold big;omega);have g:=Xw t ENC d;have h:=Xw t Zv d;have i:=fun x=>Xw x PK d;unfold ENC at g;unfold Zv at h;unfold PK at i;rw[zcc 304 rfl rfl];unfold T8 WV VX;by_cases v:thV t=0;cases a:isB t ENC;cases b:isB t Zv;unfold ENC at a;unfold Zv at b;simp[f304C,f,g,h,v,a,b,Sd,Qc];obtain⟨x,y,c⟩:=Yq j b (by simp[Vx]);have k:kid t 1=y:=by simp[kid,c]
 rw[k];cases e:isB y PK;unfold ENC at a;unfold Zv at b;unfold PK at e;simp[f304C,f,g,h,i,v,a,b,e,Sd,Qa,c,Qc];obtain⟨z,l⟩:=QaD (X9.1 (VG j) y (by grind)) e;have m:kid y 0=z:=by simp[kid,l]
 unfold ENC at a;unfold Zv at b;unfold PK at e;simp[f304C,f,g,h,i,v,a,b,e,m,Qa,c,l,Qc];obtain⟨x,y,c⟩:=Yq j a (by simp[Vx]);have k:kid t 1=y:=by simp[kid,c]
 unfold ENC at a;simp[f304C,f,g,v,a,k,Qa,c,Qc];simp[f304C,f,v,Sd,Qc]
def Qdd (t b) (k:Zf t=true) (q:t.mass < 1000000):call tb 418 [.agg (Qd t)] b=some (T8 t,b):=by
 have h:=Mt t b (by unfold big;omega);have g:=R7 t ENC b;have i:=R7 t Zv b;have m:=fun x=>R7 x PK b;unfold ENC at g;unfold Zv at i;unfold PK at m;have f: ∀x∈t.kids,x.mass < 1000000:=fun x o=>by have:=QR o;have:=QL t;omega
 rw[zcc 418 rfl rfl];unfold T8 WV VX;by_cases v:thV t=0;cases a:isB t ENC;cases c:isB t Zv;unfold ENC at a;unfold Zv at c;simp[f418C,h,g,i,v,a,c,Sd,Qc];obtain⟨x,y,d⟩:=Yq k c (by simp[Vx]);have j:kid t 1=y:=by simp[kid,d]
 rw[j];have r:=f y (by grind);cases e:isB y PK;unfold ENC at a;unfold Zv at c;unfold PK at e;simp[f418C,h,g,i,m,v,a,c,e,Sd,Qa,d,Qc];obtain⟨z,n⟩:=QaD (X9.1 (VG k) y (by grind)) e;have p:kid y 0=z:=by simp[kid,n]
 have l:=Qih z b (by have:=QR (x:=z) (ks:=y.kids) (by grind);have:=QL y;unfold big;omega);unfold ENC at a;unfold Zv at c;unfold PK at e;simp[f418C,h,g,i,m,l,v,a,c,e,p,Qa,d,n,Qc];obtain⟨x,y,d⟩:=Yq k a (by simp[Vx]);have j:kid t 1=y:=by simp[kid,d]
 have l:=Qih y b (by have:=f y (by grind);unfold big;omega);unfold ENC at a;simp[f418C,h,g,l,v,a,j,Qa,d,Qc];simp[f418C,h,v,Sd,Qc]
def Qib (l g t p q) (A:l.length < 1000000) (u: ∀x∈t,x.ok=true) (w: ∀x∈l,call tb g (.agg (Qd x):: t) q=some (.bool (p x),q)):
  ∀b a o d,l=a ++ b->a.any p=false->d 0= .sl o 4 (Qa l)->d 1= .fn g t->d 7= .int .i64 l.length->d 8= .int .i64 a.length->
  Er (l.any p) q (R tb (.loop f538l0) d q (Qh 0 (Qs tb f538r0 (QA f538 q)))):=by
 intro b;induction b with | nil=>intro a o d h e i j k m;simp only[Qy]at h;rw[<- h]at m e;rw[Qb f538l0.eq_1];refine⟨-1,?_,by grind⟩;simp[i,j,k,m,f538r0] | cons x b z=>intro a o d h e i j k m;have n:=Qv h;have y:=QD h;have r:=QF h;have c:=w x (by grind);have f:=eq_true u;rw[Qb f538l0.eq_1];cases s:p x;simp[i,j,k,m,r,n,(wr1 a.length (by omega)),c,f,s,-List.any_eq_false,-List.any_eq_true];apply(fun d=>(fun d e=>z (a ++ [x]) o d (by grind) e) d (by grind)) <;> simp[i,j,k];have v:l.any p=true:=UQ.2 ⟨x,by grind,s⟩;refine⟨a.length,?_,by grind⟩;simp[i,j,k,m,r,n,c,f,s]
def AQ (l g c p o a) (f:l.length < 1000000) (b: ∀x∈c,x.ok=true) (j: ∀x∈l,call tb g (.agg (Qd x):: c) a=some (.bool (p x),a)):
  call tb 537 [.sl o 4 (Qa l),.fn g c] a=some (.bool (l.any p),a):=by
 have m:=fun k=>Qib l g c p a f b j l [] false k rfl rfl;have d:=eq_true b;have h:Er (l.any p) a (call tb 538 [.sl false 4 (Qa l),.fn g c] a):=by rw[zcc 538 rfl rfl];simp[f538C,-List.any_eq_false,-List.any_eq_true];simp_all
 obtain⟨i,e,n⟩:=h;rw[zcc 537 rfl rfl];simp[f537C,e,-List.any_eq_false,-List.any_eq_true];grind
def Lx (s:Qj) (u t:Tm):Bool:=
 if isB t Zx then decide (Qo (kid t 0) u=0) || decide (Qo (kid t 1) u=0)
 else if isB t Zw then decide (Qo (kid t 0) u=0)
 else if isB t ENC || isB t Zv then decide (VX t=0) && decide (Qo (kid t 0) u=0) && Qx s (WV t)
 else false
def OA (s:Qj) (u:Tm):Bool:=s.any (Lx s u)
def GS (s:Qj):Prop:=s.length < 1000000/\∀x∈s,Zf x=true/\x.mass < 1000000
def GS.bg {s} (h:GS s): ∀x∈s,x.mass < big:=fun x a=>by have:=(h.2 x a).2;unfold big;omega
def D5 (t): (WV t).mass<=t.mass:=by
 unfold WV;split;have:=QL t;simp[Q7,QL,Qw];omega;split;exact Vu t 1;exact WP (Vu _ 0) (Vu t 1)
def Pf {t} (h:t.mass < 1000000) (i): (kid t i).mass < big:=by have:=Vu t i;unfold big;omega
def QoP (s u t A C e) (b:e[A]? =some (Qd u)) (p:e[C]? =some [.sl false 4 (Qa s)]) (w:GS s) (E:Asc s) (H:u.mass < 1000000) (D:t∈s):
  call tb 535 [.agg (Qd t),.gp A 0,.gp C 0] e=some (.bool (Lx s u t),e):=by
 obtain⟨o,n⟩:=w.2 t D;have G:=QJ b;have I:=QJ p;have g:=RH t Zx false e;have m:=RH t Zw false e;have q:=HI t ENC Zv false e;unfold Zx at g;unfold Zw at m;unfold ENC Zv at q;have v:=fun x (k:x.mass < big)=>Qdk x u e k (by unfold big;omega);rw[zcc 535 rfl rfl];unfold Lx;cases c:isB t Zx;cases f:isB t Zw;cases j: (isB t ENC || isB t Zv);unfold Zx at c;unfold Zw at f;unfold ENC Zv at j;simp[-getElem?_pos,f535C,g,m,q,c,f,j];have ⟨x,y,d⟩: ∃x y,t.kids=[x,y]:=by rcases Bool.or_eq_true_iff.1 j with h | h;exact Yq o h (by simp[Vx]);exact Yq o h (by simp[Vx])
 have i:kid t 0=x:=by simp[kid,d]
 have k:x.mass < big:=by rw[<- i];exact Pf n 0
 have a:=v x k;have r:=Qdd t e o n;unfold T8 at r;unfold Zx at c;unfold Zw at f;unfold ENC Zv at j;rw[i];by_cases l:VX t=0;cases B:decide (Qo x u=0);rw[B]at a;simp[-getElem?_pos,Ql,Q0,f535C,g,m,q,c,f,j,r,d,b,a,l,Qc,Qa];rw[B]at a;simp[-getElem?_pos,Ql,Q0,f535C,g,m,q,c,f,j,r,d,b,p,a,l,(Tq s (WV t) false e (by have:=w.1;omega) w.bg (by have:=D5 t;unfold big;omega) E),Qc,Qa];simp[-getElem?_pos,Ql,Q0,f535C,g,m,q,c,f,j,r,d,l,Qc,Qa];obtain⟨x,y,d⟩:=Yq o f (by simp[Vx]);have i:kid t 0=x:=by simp[kid,d]
 have k:x.mass < big:=by rw[<- i];exact Pf n 0
 have a:=v x k;unfold Zx at c;unfold Zw at f;rw[i];simp[-getElem?_pos,Ql,Q0,f535C,g,m,c,f,d,b,a,Qc,Qa];obtain⟨x,y,d⟩:=Yq o c (by simp[Vx]);have i:kid t 0=x:=by simp[kid,d]
 have z:kid t 1=y:=by simp[kid,d]
 have k:x.mass < big:=by rw[<- i];exact Pf n 0
 have a:=v x k;unfold Zx at c;rw[i,z];cases l:decide (Qo x u=0);rw[l]at a;simp[-getElem?_pos,Ql,Q0,f535C,g,c,d,b,a,(v y (by rw[<- z];exact Pf n 1)),Qc,Qa];rw[l]at a;simp[-getElem?_pos,Ql,f535C,g,c,d,b,a,Qc,Qa]
def QoO (s u o a) (b:GS s) (e:Asc s) (c:u.mass < 1000000):
  call tb 534 [.sl o 4 (Qa s),.agg (Qd u)] a=some (.bool (OA s u),a):=by
 have h:=AQ s 535 [.gp (a.length+1) 0,.gp a.length 0] (Lx s u) false (a ++ [[AV.sl false 4 (Qa s)],Qd u]) b.1 (by simp) fun x d=>QoP s u x (a.length+1) a.length _ (by simp) (by simp) b e c d;rw[zcc 534 rfl rfl];unfold OA;generalize s.any (Lx s u)=q at *;simp[f534C,h]
def Qcx (s u m) (S:GS s) (hu:u.mass < 1000000):
  ∀f l o r,s=l ++ f->r 0= .sl o 4 (Qa s)->r 3= .bx (Qd u)->r 5= .int .i64 l.length->
  R tb (.loop f310l0) r m (Qh 0 (Qs tb f310r0 (QA f310 m)))=some (.bool (f.any (Lx s u)),m):=by
 have W:=S.1;intro f;induction f with | nil=>intro l o r K g i k;simp only[Qy]at K;rw[<- K]at k;rw[Qb f310l0.eq_1];simp[g,k,f310r0] | cons t f X=>intro l o r K g i k;have d:=Qv K;have hll:=QD K;have c:=wr1 l.length (by omega);have e:=QF K;obtain⟨M,L⟩:=S.2 t (by grind);have I:=fun o r Y a3 a5=>X (l ++ [t]) o r (by grind) Y a3 a5;have n:=Xw t Zx m;have z:=Xw t Zw m;have J:=Xw t ENC m;have H:=Xw t Zv m;unfold Zx at n;unfold Zw at z;unfold ENC at J;unfold Zv at H;have Q:=fun x (D:x.mass < big)=>W2 x u m D (by unfold big;omega);rw[JT];have hb:Lx s u t=(if isB t Zx then decide (Qo (kid t 0) u=0) || decide (Qo (kid t 1) u=0)else if isB t Zw then decide (Qo (kid t 0) u=0)else if isB t ENC || isB t Zv then decide (VX t=0) && decide (Qo (kid t 0) u=0) && Qx s (WV t)else false):=rfl;rw[hb];rw[Qb f310l0.eq_1];cases j:isB t Zx;(· cases p:isB t Zw;(· cases U: (isB t ENC || isB t Zv);obtain⟨C,A⟩:=(Ad.1 U);unfold Zx at j;unfold Zw at p;unfold ENC at C;unfold Zv at A;simp[g,k,d,e,c,n,z,J,H,j,p,C,A,Qc];refine I o _ ?_ ?_ ?_ <;> simp[g,i]; · (have ⟨x,y,b⟩: ∃x y,t.kids=[x,y]:=by rcases Bool.or_eq_true_iff.1 U with h | h;exact Yq M h (by simp[Vx]);exact Yq M h (by simp[Vx]));(have B:kid t 0=x:=by simp[kid,b]);(have D:x.mass < big:=by rw[<- B];exact Pf L 0);have a:=Q x D;have N:=EM t m M L;unfold T8 at N;have P:=Sb s (WV t) false m (by omega) S.bg (by have:=D5 t;unfold big;omega);rw[B];(have key: ∀(G E:Bool),isB t ENC=G->isB t Zv=E->(G || E)=true->R tb (.loop f310l0) r m (Qh 0 (Qs tb f310r0 (QA f310 m)))=some (.bool ((decide (VX t=0) && decide (Qo x u=0) && Qx s (WV t)) || f.any (Lx s u)),m):=by intro G E C A v;unfold Zx at j;unfold Zw at p;unfold ENC at C;unfold Zv at A;rw[Qb f310l0.eq_1];by_cases q:VX t=0;(· cases O:decide (Qo x u=0);(· rw[O]at a;(cases G <;> cases E <;> first | cases v;done | skip);all_goals simp[g,i,k,d,e,c,n,z,J,H,j,p,C,A,N,b,a,q,Qc,Qa];refine I o _ ?_ ?_ ?_ <;> simp[g,i]); · rw[O]at a;cases T:Qx s (WV t);(· rw[T]at P;(cases G <;> cases E <;> first | cases v;done | skip);all_goals simp[g,i,k,d,e,c,n,z,J,H,j,p,C,A,N,b,a,q,P,Qc,Qa];refine I o _ ?_ ?_ ?_ <;> simp[g,i]); · rw[T]at P;(cases G <;> cases E <;> first | cases v;done | skip);all_goals simp[g,i,k,d,e,c,n,z,J,H,j,p,C,A,N,b,a,q,P,Qc,Qa]); · (cases G <;> cases E <;> first | cases v;done | skip);all_goals simp[g,i,k,d,e,c,n,z,J,H,j,p,C,A,N,b,q,Qc,Qa];refine I o _ ?_ ?_ ?_ <;> simp[g,i]);rw[<- Qb f310l0.eq_1];grind);obtain⟨x,y,b⟩:=Yq M p (by simp[Vx]);(have B:kid t 0=x:=by simp[kid,b]);(have D:x.mass < big:=by rw[<- B];exact Pf L 0);have a:=Q x D;unfold Zx at j;unfold Zw at p;rw[B];cases q:decide (Qo x u=0);rw[q]at a;simp[g,i,k,d,e,c,n,z,j,p,b,a,Qc,Qa];refine I o _ ?_ ?_ ?_ <;> simp[g,i];rw[q]at a;simp[g,i,k,d,e,c,n,z,j,p,b,a,Qc,Qa]);obtain⟨x,y,b⟩:=Yq M j (by simp[Vx]);(have B:kid t 0=x:=by simp[kid,b]);(have V:kid t 1=y:=by simp[kid,b]);(have D:x.mass < big:=by rw[<- B];exact Pf L 0);(have Z:y.mass < big:=by rw[<- V];exact Pf L 1);have a:=Q x D;have w:=Q y Z;unfold Zx at j;rw[B,V];cases q:decide (Qo x u=0);rw[q]at a;cases O:decide (Qo y u=0);rw[O]at w;simp[g,i,k,d,e,c,n,j,b,a,w,Qc,Qa];refine I o _ ?_ ?_ ?_ <;> simp[g,i];rw[O]at w;simp[g,i,k,d,e,c,n,j,b,a,w,Qc,Qa];rw[q]at a;simp[g,i,k,d,e,c,n,j,b,a,Qc,Qa]
def Qos (s u o a) (d:GS s) (c:u.mass < 1000000):
  call tb 310 [.sl o 4 (Qa s),.agg (Qd u)] a=some (.bool (OA s u),a):=by
 rw[zcc 310 rfl rfl];simp[f310C];refine(fun b=>Qcx s u a d c s [] false b rfl) _ ?_ ?_ ?_ <;> simp
abbrev Xv:=List (List Int)
def rwE (rs:Xv) (i:Nat):Z1:=rs.getD i []
def ceE (rs:Xv) (i c:Nat):Int:=(rwE rs i).getD c 0
abbrev WN:=List Bool
def acE (rs:Xv) (us:WN) (c i:Nat):Bool:= !(us.getD i true) && !decide (ceE rs i c=0)
def Zg (a p:Z1) (q:Int):Z1:=List.zipWith (fun x y=>x - q*y) a p
def okE (a:Z1):Bool:=a.all fun x=>decide (x.natAbs<=1099511627776)
def scE (rs:Xv) (us:WN) (c:Nat):Nat->Rv×Nat
 | 0=>(none,0)
 | k+1=>if acE rs us c k then(match (scE rs us c k).1 with
   | none=>(some k,(scE rs us c k).2+1)
   | some j=>(if(ceE rs k c).natAbs < (ceE rs j c).natAbs then some k else some j,(scE rs us c k).2+1))else scE rs us c k
def nwE (rs:Xv) (c b k:Nat):Z1:=Zg (rwE rs k) (rwE rs b) ((ceE rs k c).tdiv (ceE rs b c))
def rnE (rs:Xv) (us:WN) (c b:Nat):Nat->Xv
 | 0=>rs
 | k+1=>if !decide (k=b) && acE rs us c k then(rnE rs us c b k).set k (nwE rs c b k)else rnE rs us c b k
def orE (rs:Xv) (us:WN) (c b:Nat):Nat->Bool
 | 0=>true
 | k+1=>orE rs us c b k && (!(!decide (k=b) && acE rs us c k) || okE (nwE rs c b k))
def coE (c:Nat):Nat->Xv->WN->Option (Xv×WN×Int)
 | 0,_,_=>none
 | f+1,rs,us=>match scE rs us c rs.length with
  | (none,_)=>some (rs,us,-1)
  | (some b,n)=>if n=1 then some (rs,us.set b true,(b:Int))else if orE rs us c b rs.length then coE c f (rnE rs us c b rs.length) us else none
def msE (rs:Xv) (us:WN) (c:Nat):XI
 | 0=>0
 | k+1=>msE rs us c k+if acE rs us c k then(ceE rs k c).natAbs else 0
def elE (rs:Xv):Nat->Option (Xv×WN×Z1)
 | 0=>some (rs,List.replicate rs.length false,[])
 | c+1=>(elE rs c).bind fun s=>(coE c (msE s.1 s.2.1 c s.1.length+1) s.1 s.2.1).map fun x=>(x.1,x.2.1,s.2.2 ++ [x.2.2])
def rdE (rs:Xv) (pv:Z1):Nat->Nat->Z1->Int
 | 0,_,_=>0
 | k+1,c,t=>if t.getD c 0=0 then rdE rs pv k (c+1) t else if pv.getD c (-1) < 0 then 4
  else if(t.getD c 0).tmod (ceE rs (pv.getD c (-1)).toNat c)≠0 then 4
  else if okE (Zg t (rwE rs (pv.getD c (-1)).toNat) ((t.getD c 0).tdiv (ceE rs (pv.getD c (-1)).toNat c)))then
   rdE rs pv k (c+1) (Zg t (rwE rs (pv.getD c (-1)).toNat) ((t.getD c 0).tdiv (ceE rs (pv.getD c (-1)).toNat c)))else 3
def X1 {a p} (q) (h:a.length=p.length): (Zg a p q).length=a.length:=by simp[Zg,h]
def MP {a p q} (h:a.length=p.length) (j): (Zg a p q).getD j 0=a.getD j 0 - q*p.getD j 0:=by
 simp only[ZT,Zg,List.getElem?_zipWith];rcases ZI j a.length with b | b;rw[Za b,Za (by omega:j < p.length)];rfl;rw[ZP b,ZP (by omega:p.length<=j)];simp
def XT (a us c b): ∀k,(rnE a us c b k).length=a.length
 | 0=>rfl
 | k+1=>by
  simp only[rnE];split;rw[WZ,XT a us c b k];exact XT a us c b k
def Po (a k j x) (b:k < a.length):rwE (a.set k x) j=if j=k then x else rwE a j:=by
 simp only[rwE,ZT,QG];by_cases h:k=j;subst h;simp[b];have: ¬j=k:=fun e=>h e.symm;simp[h,this]
def UM (d f c b): ∀k,k<=d.length->∀j,rwE (rnE d f c b k) j=if j < k/\j≠b/\acE d f c j=true then nwE d c b j else rwE d j
 | 0,_,j=>by simp[rnE]
 | k+1,l,j=>by
  have i:=UM d f c b k (by omega);simp only[rnE];by_cases h: (!decide (k=b) && acE d f c k)=true;rw[Qg h,Po _ _ _ _ (by rw[XT];omega)];simp only[Qu,Sv,OL]at h;by_cases g:j=k;subst g;rw[Qg rfl,Qg ⟨by omega,h.1,h.2⟩];rw[Qe g,i j];by_cases e:j < k;have:j < k+1:=by omega
  simp[e,this];have: ¬j < k+1:=by omega
  simp[e,this];rw[Qe h,i j];simp only[Qu,Sv,OL]at h;by_cases g:j=k;subst g;have e: ¬(j < j+1/\j≠b/\acE d f c j=true):=fun⟨_,x,y⟩=>h ⟨x,y⟩;rw[Qe e,Qe (by omega)];by_cases e:j < k;have:j < k+1:=by omega
  simp[e,this];have: ¬j < k+1:=by omega
  simp[e,this]
def Qbw {a d c b k} (e:k<=a.length):rwE (rnE a d c b k) k=rwE a k:=by
 rw[UM _ _ _ _ k e,Qe (by omega)]
def Qwj {a e c b k} (d:k<=a.length):rwE (rnE a e c b k) b=rwE a b:=by
 rw[UM _ _ _ _ k d,Qe (fun h=>h.2.1 rfl)]
structure ScI (rs:List (List Int)) (us:List Bool) (c k:Nat):Prop where
 nn: (scE rs us c k).1=none->(scE rs us c k).2=0/\∀j,j < k->acE rs us c j=false
 sm: ∀b,(scE rs us c k).1=some b->b < k/\acE rs us c b=true/\0 < (scE rs us c k).2/\∀j,j < k->acE rs us c j=true->(ceE rs b c).natAbs<=(ceE rs j c).natAbs
 tw: ∀b,(scE rs us c k).1=some b->2<=(scE rs us c k).2->∃j,j < k/\j≠b/\acE rs us c j=true
 on: ∀b,(scE rs us c k).1=some b->(scE rs us c k).2=1->∀j,j < k->acE rs us c j=true->j=b
def Pv:=@Nat.lt_succ_iff_lt_or_eq
def scI (m us c): ∀k,ScI m us c k
 | 0=>⟨fun _=>⟨rfl,fun j l=>by omega⟩,fun b f=>by simp[scE]at f,fun b f=>by simp[scE]at f,fun b f=>by simp[scE]at f⟩
 | k+1=>by
  have r:=scI m us c k;cases q:acE m us c k;have e:scE m us c (k+1)=scE m us c k:=by simp[scE,q]
  refine⟨?_,?_,?_,?_⟩ <;> rw[e];intro h;refine⟨(r.nn h).1,fun j l=> ?_⟩;rcases Pv.1 l with p | p;exact(r.nn h).2 j p;subst p;exact q;intro b f;obtain⟨x,p,w,v⟩:=r.sm b f;refine⟨by omega,p,w,fun j l a=> ?_⟩;rcases Pv.1 l with g | g;exact v j g a;subst g;rw[q]at a;cases a;intro b f o;obtain⟨j,x,p,w⟩:=r.tw b f o;exact⟨j,by omega,p,w⟩;intro b f o j l a;rcases Pv.1 l with g | g;exact r.on b f o j g a;subst g;rw[q]at a;cases a;rcases u: (scE m us c k).1 with _ | d;obtain⟨y,t⟩:=r.nn u;have e:scE m us c (k+1)=(.some k,1):=by simp[scE,q,u,y]
  refine⟨?_,?_,?_,?_⟩ <;> rw[e];intro h;cases h;intro b f;cases f;refine⟨by omega,q,by simp,fun j l a=> ?_⟩;rcases Pv.1 l with g | g;rw[t j g]at a;cases a;subst g;exact QY _;intro b f o;simp at o;intro b f o j l a;injection f with f;rcases Pv.1 l with g | g;rw[t j g]at a;cases a;omega;obtain⟨x,p,w,v⟩:=r.sm d u;by_cases s: (ceE m k c).natAbs < (ceE m d c).natAbs;have e:scE m us c (k+1)=(.some k,(scE m us c k).2+1):=by simp[scE,q,u,s]
  refine⟨?_,?_,?_,?_⟩ <;> rw[e];intro h;cases h;intro b f;cases f;refine⟨by omega,q,by simp,fun j l a=> ?_⟩;rcases Pv.1 l with g | g;have:=v j g a;omega;subst g;exact QY _;intro b f o;cases f;exact⟨d,by omega,by omega,p⟩;intro b f o;simp only at o;omega;have e:scE m us c (k+1)=(.some d,(scE m us c k).2+1):=by simp[scE,q,u,s]
  refine⟨?_,?_,?_,?_⟩ <;> rw[e];intro h;cases h;intro b f;cases f;refine⟨by omega,p,by simp,fun j l a=> ?_⟩;rcases Pv.1 l with g | g;exact v j g a;subst g;omega;intro b f o;cases f;exact⟨k,by omega,by omega,q⟩;intro b f o;simp only at o;omega
def Qm0 (a b:Int):a - a.tdiv b*b=a.tmod b:=by
 rw[Int.tmod_def,G5]
def Db {a b:Int} (h:b≠0): (a.tmod b).natAbs < b.natAbs:=by
 rw[Int.natAbs_tmod];exact T7 _ (by omega)
def Quu {d c b j L} (f: (rwE d j).length=L) (e: (rwE d b).length=L): (nwE d c b j).getD c 0=(ceE d j c).tmod (ceE d b c):=by
 unfold nwE;rw[MP (by rw[f,e])];exact Qm0 _ _
def CI {d us c b L} (p: ∀i,i < d.length->(rwE d i).length=L) (q:b < d.length) (l:ceE d b c≠0) (f: ∀j,j < d.length->acE d us c j=true->(ceE d b c).natAbs<=(ceE d j c).natAbs):
  ∀k,k<=d.length->msE (rnE d us c b d.length) us c k<=msE d us c k/\((∃j,j < k/\j≠b/\acE d us c j=true)->msE (rnE d us c b d.length) us c k < msE d us c k)
 | 0,_=>⟨QY _,fun⟨j,A,_⟩=>by omega⟩
 | k+1,B=>by
  obtain⟨z,u⟩:=CI p q l f k (by omega);have n:=UM d us c b d.length (QY _) k;simp only[msE];by_cases g:k≠b/\acE d us c k=true;rw[Qg ⟨by omega,g.1,g.2⟩]at n;have o:ceE (rnE d us c b d.length) k c=(ceE d k c).tmod (ceE d b c):=by unfold ceE at *;rw[n];exact Quu (p k (by omega)) (p b q)
  have v:=Db (a:=ceE d k c) l;have s:=f k (by omega) g.2;rw[Qg g.2,o];have: (if acE (rnE d us c b d.length) us c k=true then((ceE d k c).tmod (ceE d b c)).natAbs else 0) < (ceE d k c).natAbs:=by split <;> omega
  exact⟨by omega,fun _=>by omega⟩;rw[Qe (fun⟨_,x,y⟩=>g ⟨x,y⟩)]at n;have r:ceE (rnE d us c b d.length) k c=ceE d k c:=by unfold ceE;rw[n]
  have w:acE (rnE d us c b d.length) us c k=acE d us c k:=by unfold acE;rw[r]
  rw[r,w];refine⟨by omega,fun⟨j,t,h,m⟩=> ?_⟩;have:j≠k:=by intro e;subst e;exact g ⟨h,m⟩
  have:=u ⟨j,by omega,h,m⟩;omega
def JW {n} (c: -9000000000000000000 < n) (d:n < 9000000000000000000) (a):call tb 565 [.int .i64 n] a=some (.int .i64 (n.natAbs:Int),a):=by
 have b:IntKind.i64.wrap (-n)= -n:=QC (by omega) (by omega);rw[zcc 565 rfl rfl];have e: (if n < -n then -n else n)=(n.natAbs:Int):=by split <;> omega
 simp[f565C,b,e]
def Nl {n} (d: -9000000000000000000 < n) (f:n < 9000000000000000000) (b):call tb 329 [.int .i64 n] b=some (.int .i64 (n.natAbs:Int),b):=by
 have c:IntKind.i64.wrap (-n)= -n:=QC (by omega) (by omega);rw[zcc 329 rfl rfl];have e: (if n < -n then -n else n)=(n.natAbs:Int):=by split <;> omega
 simp[f329C,c,e]
def bsS (B:Qr) (ia x0:Nat) (c0 c1 c2:AV) (A:Z1) (lg:Bool):Qr:=(B.set ia (Qt A)).set x0 [c0,c1,c2,.bool lg]
structure Es (B:List (List AV)) (ia ip x0:Nat) (p:List Int):Prop where
 la:ia < B.length
 lx:x0 < B.length
 hp:B[ip]? =some (Qt p)
 n1:ia≠ip
 n2:ia≠x0
 n3:ip≠x0
def Qig {B a g b p} (h:Es B a g b p) (j f c A d): (bsS B a b j f c A d)[a]? =some (Qt A):=by
 unfold bsS;rw[QG,Qe (fun e=>h.n2 e.symm),QG,Qg rfl,Qg h.la]
def Qtl {B c a b p} (h:Es B c a b p) (j f d A g): (bsS B c b j f d A g)[a]? =some (Qt p):=by
 unfold bsS;rw[QG,Qe (fun e=>h.n3 e.symm),QG,Qe h.n1];exact h.hp
def Ff {B c g a p} (h:Es B c g a p) (f e b A d): (bsS B c a f e b A d)[a]? =some [f,e,b,.bool d]:=by
 unfold bsS;rw[QG,Qg rfl,Qg (by rw[WZ];exact h.lx)]
def Qk4 {B a m b p} (h:Es B a m b p) (j g c A f d): (bsS B a b j g c A d).set a (Qt f)=bsS B a b j g c f d:=by
 unfold bsS;rw[JU _ _ (fun e=>h.n2 e.symm),T6]
def AH {B ia x0} (a c b A e d): (bsS B ia x0 a c b A e).set x0 [a,c,b,.bool d]=bsS B ia x0 a c b A d:=by
 unfold bsS;rw[T6]
def XW {l k} (h:k < l.length): (Qt l)[k]? =some (.int .i64 (l.getD k 0)):=by
 simp[Qt,h,ZT]
def stE (a p:Z1) (q:Int) (i:Nat):Z1:=(Zg a p q).take i ++ a.drop i
def Qey {a p q} (h:a.length=p.length) {i} (b:i<=a.length): (stE a p q i).length=a.length:=by
 simp[stE,X1 q h];omega
def QmS {a p q} (h:a.length=p.length) {i} (c:i < a.length): (stE a p q i).getD i 0=a.getD i 0:=by
 have b: ((Zg a p q).take i).length=i:=by rw[Z9,X1 q h];omega
 simp only[stE,ZT];rw[Yv (by omega),b,To,Vk,PH]
def Jt:=@List.take_succ_eq_append_getElem
def QbQ {a p q} (h:a.length=p.length) {i} (d:i < a.length): (stE a p q i).set i (a.getD i 0 - q*p.getD i 0)=stE a p q (i+1):=by
 have c: ((Zg a p q).take i).length=i:=by rw[Z9,X1 q h];omega
 simp only[stE];rw[Sr _ _ (by omega),c,To,LG d,LK];have b:i < (Zg a p q).length:=by rwa[X1 q h]
 have e: (Zg a p q)[i]=a.getD i 0 - q*p.getD i 0:=by rw[<- MP h i];simp[ZT,b]
 rw[Jt b,e];simp
def Qq8 {a p q} (h:a.length=p.length):stE a p q a.length=Zg a p q:=by
 simp only[stE];rw[Ap,Qy,Z2 (by rw[X1 q h];exact QY _)]
def okK (a p:Z1) (q:Int):Nat->Bool
 | 0=>true
 | i+1=>okK a p q i && decide ((a.getD i 0 - q*p.getD i 0).natAbs<=1099511627776)
def N3 {a p q} (h:a.length=p.length):okK a p q a.length=okE (Zg a p q):=by
 have b: ∀i,i<=a.length->okK a p q i=okE ((Zg a p q).take i):=by intro i;induction i with | zero=>intro _;rfl | succ i d=>intro f;(have c:i < (Zg a p q).length:=by rw[X1 q h];omega);(have e: (Zg a p q)[i]=a.getD i 0 - q*p.getD i 0:=by rw[<- MP h i];simp[ZT,c]);rw[Jt c,e];simp only[okK,d (by omega),okE,JL,Tl,List.all_nil,US]
 rw[b _ (QY _),Z2 (by rw[X1 q h];exact QY _)]
def KR {a p q i}: ∀{j},i<=j->okK a p q i=false->okK a p q j=false
 | 0,h,b=>by
  have:i=0:=by omega
  subst this;exact b
 | j+1,h,b=>by
  rcases ZI j i with c | c;have:i=j+1:=by omega
  subst this;exact b;simp only[okK,KR c b,Mk]
def JR:=@Int.natAbs_mul
def Qkn {q p} (b:p≠0) (h: ((4611686018427387904:Int).tdiv (p.natAbs:Int)) < (q.natAbs:Int)) {a:Int} (d:a.natAbs<=1099511627776): ¬(a - q*p).natAbs<=1099511627776:=by
 have e: (4611686018427387904:Int).tdiv (p.natAbs:Int)=((4611686018427387904 / p.natAbs:Nat):Int):=rfl;rw[e]at h;have f:4611686018427387904 < q.natAbs*p.natAbs:=(B9 (by omega)).1 (by omega);have c:=JR q p;omega
def GK:=@Nat.le_div_iff_mul_le
def QmU {q p:Int} (h:p=0\/¬((4611686018427387904:Int).tdiv (p.natAbs:Int)) < (q.natAbs:Int)): (q*p).natAbs<=4611686018427387904:=by
 rcases h with h | h;subst h;simp;by_cases a:p=0;subst a;simp;have e: (4611686018427387904:Int).tdiv (p.natAbs:Int)=((4611686018427387904 / p.natAbs:Nat):Int):=rfl;rw[e]at h;have b:q.natAbs*p.natAbs<=4611686018427387904:=(GK (by omega)).1 (by omega);rwa[JR]
def Ng:=@Nat.div_le_self
def PF:=@Bool.and_false
def Y0:=@decide_eq_false
def Xy:=@decide_eq_true
def QeF {B z ip v p} (h:Es B z ip v p) (j f g a q) (u:a.length=p.length) (hal:a.length < 1000000) (ha: ∀i,(a.getD i 0).natAbs<=1099511627776) (hp: ∀i,(p.getD i 0).natAbs<=1099511627776) (hq:q.natAbs<=1099511627776) (m)
  (Q:Out->Prop) (v30 v31 v32 Bf)
  (hn: ∀G:Ye,G 0= .gp v 0->G 3= .int .i64 q->G 30=v30->G 31=v31->G 32=v32->Q (R tb f566r0 G (bsS B z v j f g (Zg a p q) (m || !okE (Zg a p q))) (Qs tb (.loop f566l1) (Qh 0 (QA f566 Bf)))))
  (he: ∀A:Z1,A.length=a.length->okE (Zg a p q)=false->Q (some (.tup [],bsS B z v j f g A true))):
  ∀d i E,a.length - i<=d->i<=a.length->E 0= .gp v 0->E 3= .int .i64 q->E 9= .bx [.gs z 0 1 a.length,.gs ip 0 1 a.length]->E 30=v30->E 31=v31->E 32=v32->E 38= .int .i64 a.length->E 39= .int .i64 i->
  Q (R tb (.loop f566l0) E (bsS B z v j f g (stE a p q i) (m || !okK a p q i)) (Qh 2 (Qh 1 (Qs tb f566r0 (Qs tb (.loop f566l1) (Qh 0 (QA f566 Bf))))))):=by
 intro d;induction d with | zero=>intro i E hd hi K I J x y C c r;(have:i=a.length:=by omega);subst this;rw[Qq8 u,N3 u,Qb f566l0.eq_1];simp[J,c,r];apply hn <;> simp[K,I,x,y,C] | succ d IH=>intro i E hd hi K I J x y C c r;by_cases e:i < a.length;(have hI: (i:Int) < (a.length:Int):=by omega);(have hw1:IntKind.i64.wrap ((i:Int)+1)=((i+1:Nat):Int):=by rw[QC (by omega) (by omega)];omega);have g1:=Qig h j f g (stE a p q i) (m || !okK a p q i);have g2:=Qtl h j f g (stE a p q i) (m || !okK a p q i);have g3:=Ff h j f g (stE a p q i) (m || !okK a p q i);have s1:=Qey (q:=q) u (i:=i) hi;have r1:=XW (l:=p) (k:=i) (by omega);have r2:=XW (l:=stE a p q i) (k:=i) (by omega);rw[QmS u e]at r2;(have N: (Qt p).length=a.length:=by rw[YC];omega);(have t: (Qt (stE a p q i)).length=a.length:=by rw[YC];omega);have hai:=ha i;have hpi:=hp i;have cq:=JW (n:=q) (by omega) (by omega) (bsS B z v j f g (stE a p q i) (m || !okK a p q i));have cp:=JW (n:=p.getD i 0) (by omega) (by omega) (bsS B z v j f g (stE a p q i) (m || !okK a p q i));have s:i+1<=a.length:=e;(have b1:Qn .lss (.int .i64 (i:Int)) (.int .i64 (a.length:Int))=some (.bool true):=by simp[Qn,hI]);(have b2:Qn .add (.int .i64 (i:Int)) (.int .i64 1)=some (.int .i64 ((i+1:Nat):Int)):=by simp[Qn,toI,hw1]);(have T:Qn .neq (.int .i64 (p.getD i 0)) (.int .i64 0)=some (.bool (!decide (p.getD i 0=0))):=by by_cases w:p.getD i 0=0 <;> simp[Qn]);obtain⟨D,hD⟩: ∃D:Nat,D=4611686018427387904 / (p.getD i 0).natAbs:=⟨_,rfl⟩;(have X: ((4611686018427387904:Int).tdiv ((p.getD i 0).natAbs:Int))=(D:Int):=by rw[hD];rfl);(have U:D<=4611686018427387904:=by rw[hD];exact Ng _ _);(have b4:p.getD i 0≠0->Qn .quo (.int .i64 4611686018427387904) (.int .i64 ((p.getD i 0).natAbs:Int))=some (.int .i64 ((4611686018427387904:Int).tdiv ((p.getD i 0).natAbs:Int))):=by intro w;(have hz2: ¬((p.getD i 0).natAbs:Int)=0:=by omega);(have hw:IntKind.i64.wrap ((4611686018427387904:Int).tdiv ((p.getD i 0).natAbs:Int))=(4611686018427387904:Int).tdiv ((p.getD i 0).natAbs:Int):=by rw[X];exact QC (by omega) (by omega));show(if IntKind.i64=IntKind.i64/\((p.getD i 0).natAbs:Int)≠0 then some (toI IntKind.i64 ((4611686018427387904:Int).tdiv ((p.getD i 0).natAbs:Int)))else none)=_;rw[Qg ⟨rfl,hz2⟩,toI,hw]);(have b5:Qn .gtr (.int .i64 (q.natAbs:Int)) (.int .i64 ((4611686018427387904:Int).tdiv ((p.getD i 0).natAbs:Int)))=some (.bool (decide ((4611686018427387904:Int).tdiv ((p.getD i 0).natAbs:Int) < (q.natAbs:Int)))):=by simp only[Qn,QU,gt_iff_lt]);have hgl:=QJ g3;rw[Qb f566l0.eq_1];by_cases b:p.getD i 0≠0/\(4611686018427387904:Int).tdiv ((p.getD i 0).natAbs:Int) < (q.natAbs:Int);have hbad:=Qkn b.1 b.2 hai;(have hk1:okK a p q (i+1)=false:=by simp only[okK,hbad,JV,PF]);(have hok:okE (Zg a p q)=false:=by rw[<- N3 u];exact KR s hk1);have H:=AH (B:=B) (ia:=z) (x0:=v) j f g (stE a p q i) (m || !okK a p q i) true;obtain⟨e1,e2⟩:=b;have S:=b4 e1;have Y:=Y0 e1;rw[Y]at T;rw[(Xy e2)]at b5;generalize (4611686018427387904:Int).tdiv ((p.getD i 0).natAbs:Int)=Dv at *;generalize p.getD i 0=pi at *;generalize (pi.natAbs:Int)=pn at *;generalize (q.natAbs:Int)=qn at *;generalize (m || !okK a p q i)=P at *;generalize bsS B z v j f g (stE a p q i) P=B1 at *;simp[-getElem?_pos,Ql,Q0,-Qn,K,I,J,c,r,b1,T,g1,g2,g3,N,t,r1,r2,e,s,cq,cp,S,b5,H];exact(he (stE a p q i) s1 hok);have hfit:=QmU (by by_cases w:p.getD i 0=0;exact .inl w;exact .inr fun h=>b ⟨w,h⟩);(have b6:Qn .mul (.int .i64 q) (.int .i64 (p.getD i 0))=some (.int .i64 (q*p.getD i 0)):=by have hw:IntKind.i64.wrap (q*p.getD i 0)=q*p.getD i 0:=QC (by omega) (by omega);simp only[Qn,QU,toI,hw]);(have b7:Qn .sub (.int .i64 (a.getD i 0)) (.int .i64 (q*p.getD i 0))=some (.int .i64 (a.getD i 0 - q*p.getD i 0)):=by have hw:IntKind.i64.wrap (a.getD i 0 - q*p.getD i 0)=a.getD i 0 - q*p.getD i 0:=QC (by omega) (by omega);simp only[Qn,QU,toI,hw]);have o:=Th (stE a p q i) (a.getD i 0 - q*p.getD i 0) (n:=i) (by omega);rw[QbQ u e]at o;have O:=Qk4 h j f g (stE a p q i) (stE a p q (i+1)) (m || !okK a p q i);have g1':=Qig h j f g (stE a p q (i+1)) (m || !okK a p q i);have M:=Ff h j f g (stE a p q (i+1)) (m || !okK a p q i);have hgl':=QJ M;have s1':=Qey (q:=q) u (i:=i+1) s;have r2':=XW (l:=stE a p q (i+1)) (k:=i) (by omega);(have e3: (stE a p q (i+1)).getD i 0=a.getD i 0 - q*p.getD i 0:=by rw[<- QbQ u e];simp[ZT,s1,e]);rw[e3]at r2';(have L: (Qt (stE a p q (i+1))).length=a.length:=by rw[YC];omega);have cx:=JW (n:=a.getD i 0 - q*p.getD i 0) (by omega) (by omega) (bsS B z v j f g (stE a p q (i+1)) (m || !okK a p q i));(have b8:Qn .gtr (.int .i64 ((a.getD i 0 - q*p.getD i 0).natAbs:Int)) (.int .i64 1099511627776)=some (.bool (!decide ((a.getD i 0 - q*p.getD i 0).natAbs<=1099511627776))):=by generalize (a.getD i 0 - q*p.getD i 0).natAbs=nn;by_cases w:nn<=1099511627776;(have: ¬(1099511627776:Int) < (nn:Int):=by omega);simp[Qn,w,this];(have: (1099511627776:Int) < (nn:Int):=by omega);simp[Qn,w,this]);(have hlg: (m || !okK a p q (i+1))=((m || !okK a p q i) || !decide ((a.getD i 0 - q*p.getD i 0).natAbs<=1099511627776)):=by simp only[okK];cases m <;> cases okK a p q i <;> cases decide ((a.getD i 0 - q*p.getD i 0).natAbs<=1099511627776) <;> rfl);have H:=fun l2=>AH (B:=B) (ia:=z) (x0:=v) j f g (stE a p q (i+1)) (m || !okK a p q i) l2;have ih:=fun E=>IH (i+1) E (by omega) s;rw[hlg]at ih;(have W:p.getD i 0≠0->decide ((4611686018427387904:Int).tdiv ((p.getD i 0).natAbs:Int) < (q.natAbs:Int))=false:=fun w=>by have: ¬(4611686018427387904:Int).tdiv ((p.getD i 0).natAbs:Int) < (q.natAbs:Int):=fun h=>b ⟨w,h⟩;exact Y0 this);by_cases w:p.getD i 0=0;have Y:=Xy w;rw[Y]at T;clear b b4 b5 W X U hD w Y;generalize (stE a p q (i+1))=V at *;generalize (stE a p q i)=Z at *;generalize hxx:a.getD i 0 - q*p.getD i 0=xx at *;generalize hqp:q*p.getD i 0=qp at *;generalize p.getD i 0=pi at *;generalize a.getD i 0=ai at *;generalize decide (xx.natAbs<=1099511627776)=dd at *;generalize (xx.natAbs:Int)=xn at *;generalize (m || !okK a p q i)=P at *;generalize hBB1:bsS B z v j f g Z P=B1 at *;generalize hBB2:bsS B z v j f g V P=B2 at *;cases P;simp[-getElem?_pos,Ql,Q0,-Qn,K,I,J,c,r,b1,b2,T,g1,g2,g3,N,t,r1,r2,e,s,b6,b7,b8,o,O,g1',M,r2',L,cx,H];apply ih <;> simp[K,I,J,x,y,C,c];simp[-getElem?_pos,Ql,Q0,-Qn,K,I,J,c,r,b1,b2,T,g1,g2,g3,N,t,r1,r2,e,s,b6,b7,o,O,M,H];apply ih <;> simp[K,I,J,x,y,C,c];have Y:=Y0 w;rw[Y]at T;have S:=b4 w;rw[W w]at b5;clear b b4 W X U hD w Y;generalize (4611686018427387904:Int).tdiv ((p.getD i 0).natAbs:Int)=Dv at *;generalize (stE a p q (i+1))=V at *;generalize (stE a p q i)=Z at *;generalize hxx:a.getD i 0 - q*p.getD i 0=xx at *;generalize hqp:q*p.getD i 0=qp at *;generalize p.getD i 0=pi at *;generalize a.getD i 0=ai at *;generalize decide (xx.natAbs<=1099511627776)=dd at *;generalize (xx.natAbs:Int)=xn at *;generalize (pi.natAbs:Int)=pn at *;generalize (q.natAbs:Int)=qn at *;generalize (m || !okK a p q i)=P at *;generalize hBB1:bsS B z v j f g Z P=B1 at *;generalize hBB2:bsS B z v j f g V P=B2 at *;cases P;simp[-getElem?_pos,Ql,Q0,-Qn,K,I,J,c,r,b1,b2,T,g1,g2,g3,N,t,r1,r2,e,s,b6,b7,b8,o,O,g1',M,r2',L,cx,H,cq,cp,S,b5];apply ih <;> simp[K,I,J,x,y,C,c];simp[-getElem?_pos,Ql,Q0,-Qn,K,I,J,c,r,b1,b2,T,g1,g2,g3,N,t,r1,r2,e,s,b6,b7,o,O,M,H,cq,cp,S,b5];apply ih <;> simp[K,I,J,x,y,C,c];exact IH i E (by omega) hi K I J x y C c r
def QkA (f) (hf:EqF f) (B z n o) (T:z < B.length) (hn:n < 100000000): ∀g D i d (j:Nat) r,D.length+i.length+1+g.length=n->o+j=D.length+i.length+1->0 < j->
   (∀x∈d:: g,x.mass < big)->r 0= .gs z 0 4 n->r 1= .fn f []->r 5= .int .i64 D.length->r 6= .gs z (o*4) 4 (n - o)->r 7= .int .i64 j->
  LB (D ++ Z0 d g) B z (R tb (.loop f172l0) r (B.set z (Qk (D ++ i ++ d:: g)))
   (Qh 2 (Qs tb f172r0 (Qh 1 (Qs tb f172r1 (Qs tb (.loop f172l1) (Qh 0 (Qs tb f172r2 (QA f172 B))))))))):=by
 intro g;induction g with | nil=>intro D i d j r m hk Y N u v C w S;(have p: (Qk (D ++ i ++ [d])).length=n*4:=by rw[ZZ QE];simp at m ⊢;omega);(have ht: (Qk (D ++ i ++ [d])).take (D.length*4)=Qk D:=by have:=SQ (f:=Qd) (k:=4) QE (l:=D ++ i ++ [d]) (pre:=D) (post:=i ++ [d]) (by simp) [];simpa using this);have hr:=fun r a b=>QcP B z n D (Qk (D ++ i ++ [d])) T p (by omega) hn ht r a b;(have hl':D.length+i.length+1=n:=by simpa using m);(have X: ¬((j:Int) < ((n - o:Nat):Int)):=by omega);(have hnl2: ¬(j < n - o):=by omega);rw[Qb f172l0.eq_1];simp only[Z0,Qy];refine⟨List.replicate ((n - D.length)*4) .undef,?_⟩;simp[v,w,S,X];simp only[ZU]at hr;refine hr _ ?_ ?_ <;> simp[u,C] | cons x g IH=>intro D i d j r m hk Y N u v C w S;(have p: (Qk (D ++ i ++ d:: x:: g)).length=n*4:=by rw[ZZ QE];simp at m ⊢;omega);have P: (Qk (D ++ i ++ d:: x:: g)).map AV.strip=Qk (D ++ i ++ d:: x:: g):=Z5 Zc _;(have r1: ((Qk (D ++ i ++ d:: x:: g)).drop (o*4+j*4)).take 4=Qd x:=by have:=Vo (f:=Qd) (k:=4) QE (l:=D ++ i ++ d:: x:: g) (pre:=D ++ i ++ [d]) (post:=g) (x:=x) (by simp) [];rw[<- Yg,hk];simpa[T5]using this);(have r2: ((Qk (D ++ i ++ d:: x:: g)).drop (o*4+ (j - 1)*4)).take 4=Qd d:=by have:=Vo (f:=Qd) (k:=4) QE (l:=D ++ i ++ d:: x:: g) (pre:=D ++ i) (post:=x:: g) (x:=d) (by simp) [];rw[<- Yg,show o+ (j - 1)=D.length+i.length by omega];simpa[T5]using this);(have K: (Qk (D ++ i ++ d:: x:: g)).take (D.length*4)++ (Qd x ++ (Qk (D ++ i ++ d:: x:: g)).drop (D.length*4+4))=Qk ((D ++ [x])++ (i ++ [d]).tail ++ x:: g):=by(obtain⟨y,W,t⟩: ∃y W,i ++ [d]=y:: W:=by cases i <;> simp);have:=OI (f:=Qd) (k:=4) QE (l:=D ++ i ++ d:: x:: g) (pre:=D) (post:=W ++ x:: g) (x:=y) x (by(have:D ++ i ++ d:: x:: g=D ++ (i ++ [d])++ x:: g:=by simp);rw[this,t];simp) [];rw[t];simpa using this);(have O:IntKind.i64.wrap ((j:Int) - 1)=((j - 1:Nat):Int):=by rw[QC (by omega) (by omega)];omega);(have A:IntKind.i64.wrap ((j:Int)+1)=((j+1:Nat):Int):=by rw[QC (by simp at m;omega) (by simp at m;omega)];omega);(have hw3:IntKind.i64.wrap ((D.length:Int)+1)=((D.length+1:Nat):Int):=by rw[QC (by simp at m;omega) (by simp at m;omega)];omega);(have L: (j:Int) < ((n - o:Nat):Int):=by simp at m;omega);(have hlt1:j < n - o:=by simp at m;omega);(have s: ((j - 1:Nat):Int) < ((n - o:Nat):Int):=by simp at m;omega);(have Z:j - 1 < n - o:=by simp at m;omega);(have H: (D.length:Int) < (n:Int):=by simp at m;omega);(have U:D.length < n:=by simp at m;omega);(have M:o*4+j*4+4<=n*4:=by simp at m;omega);(have J:o*4+ (j - 1)*4+4<=n*4:=by simp at m;omega);(have V:D.length*4+4<=n*4:=by simp at m;omega);(have E: (0:Int)<=((j - 1:Nat):Int):=by omega);have hc:=fun bs=>hf x d bs (N x (by simp)) (N d (by simp));(have q: ((j - 1:Nat):Int).toNat=j - 1:=by omega);have I:=IH D (i ++ [d]) x (j+1);have G:=IH (D ++ [x]) (i ++ [d]).tail x (j+1);(have htl: ((i ++ [d]).tail).length=i.length:=by simp);rw[show D ++ (i ++ [d])++ x:: g=D ++ i ++ d:: x:: g by simp]at I;rw[Qb f172l0.eq_1];generalize Qk (D ++ i ++ d:: x:: g)=c at *;generalize hkm:j - 1=km at *;generalize n - o=nk at *;by_cases Q:Qo x d=0;(have e:Z0 d (x:: g)=Z0 x g:=by simp[Z0,Q]);rw[e];simp[u,v,C,w,S,L,s,E,O,A,M,J,T,p,P,r1,r2,hc,Q,q];refine I _ (by simp at m ⊢;omega) (by simp;omega) (by omega) (fun y t=>N y (by simp at t ⊢;rcases t with h | h <;> simp[h])) ?_ ?_ ?_ ?_ ?_ <;> simp[u,v,C,w];(have e:D ++ Z0 d (x:: g)=D ++ x:: Z0 x g:=by simp[Z0,Q]);rw[e];simp only[ZU,Xb,Y4]at G;simp[u,v,C,w,S,L,s,H,E,O,A,hw3,M,J,V,T,p,P,r1,r2,hc,Q,q,K];refine G _ (by simp at m ⊢;omega) (by simp;omega) (by omega) (fun y t=>N y (by simp at t ⊢;rcases t with h | h <;> simp[h])) ?_ ?_ ?_ ?_ ?_ <;> simp[u,v,w]
def QkB (f) (N:EqF f) (B u n) (J:u < B.length) (Q:n < 100000000): ∀d b a p,b.length+1+d.length=n->
   (∀x∈a:: d,x.mass < big)->p 0= .gs u 0 4 n->p 1= .fn f []->p 5= .int .i64 (b.length+1:Nat)->
  LB (b ++ a:: Z0 a d) B u (R tb (.loop f172l1) p (B.set u (Qk (b ++ a:: d)))
   (Qh 0 (Qs tb f172r2 (QA f172 B)))):=by
 intro d;induction d with | nil=>intro b a p L C m o z;(have E:b.length+1=n:=by simpa using L);(have S: ¬((b.length:Int)+1 < (n:Int)):=by omega);rw[Qb f172l1.eq_1];refine⟨[],?_⟩;simp[m,o,z,Z0,f172r2,E] | cons x d T=>intro b a p L C m o z;(have E:b.length+1+ (d.length+1)=n:=by simpa using L);(have j: (Qk (b ++ a:: x:: d)).length=n*4:=by rw[ZZ QE];simp;omega);have q: (Qk (b ++ a:: x:: d)).map AV.strip=Qk (b ++ a:: x:: d):=Z5 Zc _;(have M: ((Qk (b ++ a:: x:: d)).drop ((b.length+1)*4)).take 4=Qd x:=by have:=Vo (f:=Qd) (k:=4) QE (l:=b ++ a:: x:: d) (pre:=b ++ [a]) (post:=d) (x:=x) (by simp) [];simpa using this);(have P: ((Qk (b ++ a:: x:: d)).drop (b.length*4)).take 4=Qd a:=by have:=Vo (f:=Qd) (k:=4) QE (l:=b ++ a:: x:: d) (pre:=b) (post:=x:: d) (x:=a) (by simp) [];simpa using this);have A:IntKind.i64.wrap (b.length:Int)=(b.length:Int):=QC (by omega) (by omega);have K:IntKind.i64.wrap ((b.length:Int)+1+1)=(b.length:Int)+1+1:=QC (by omega) (by omega);(have s: (b.length:Int)+1 < (n:Int):=by omega);(have i: (b.length:Int) < (n:Int):=by omega);(have r: (b.length+1)*4+4<=n*4:=by omega);(have D:b.length*4+4<=n*4:=by omega);(have t: (0:Int)<=(b.length:Int)+1:=by omega);(have H: (b.length:Int)+1<=(n:Int):=by omega);(have g: ((b.length:Int)+1).toNat=b.length+1:=by omega);have O:=fun U=>N x a U (C x (by simp)) (C a (by simp));have w:=T (b ++ [a]) x;have v:=QkA f N B u n (b.length+1) J Q d (b ++ [a]) [] x 1;simp only[ZU,Xb,Y4]at w v;rw[Qb f172l1.eq_1];generalize Qk (b ++ a:: x:: d)=c at *;by_cases I:Qo x a=0;(have e:Z0 a (x:: d)=Z0 x d:=by simp[Z0,I]);rw[e];simp[m,o,z,s,i,t,H,A,r,D,J,j,q,M,P,O,I,g];refine v _ (by simp;omega) (by simp) (by omega) (fun y G=>C y (by simp at G ⊢;rcases G with h | h <;> simp[h])) ?_ ?_ ?_ ?_ ?_ <;> simp[m,o,z];(have e:b ++ a:: Z0 a (x:: d)=b ++ a:: x:: Z0 x d:=by simp[Z0,I]);rw[e];simp[m,o,z,s,i,t,H,A,K,r,D,J,j,q,M,P,O,I,g,f172r1];refine w _ (by simp;omega) (fun y G=>C y (by simp at G ⊢;rcases G with h | h <;> simp[h])) ?_ ?_ ?_ <;> simp[m,o]
def Qk8 (f) (k:EqF f) (L B c) (b:B[c]? =some (Qk L)) (e:L.length < 100000000) (g: ∀x∈L,x.mass < big):
  LB (W5 L) B c (call tb 172 [.gs c 0 4 L.length,.fn f []] B):=by
 have j:c < B.length:=by rcases ZI c B.length with h | h;exact h;rw[ZP h]at b;cases b
 have a:B.set c (Qk L)=B:=by apply Ss;intro i;rw[QG];split;rename_i h;subst h;rw[b];rfl
 match L with | []=>refine⟨[],?_⟩;rw[zcc 172 rfl rfl];simp[f172C,W5];simpa using a.symm | [x]=>refine⟨[],?_⟩;rw[zcc 172 rfl rfl];simp[f172C,W5];simpa using a.symm | x:: y:: r=>have h:=QkB f k B c (r.length+2) j (by simpa using e) (y:: r) [] x;rw[zcc 172 rfl rfl,PX];simp only[Y4,a]at h;(have d: ¬((r.length:Int)+1+1 < 2):=by omega);simp[f172C,d];refine h _ (by simp;omega) (fun z l=>g z l) ?_ ?_ ?_ <;> simp
def QoT (x y a) (b:x.mass < big) (c:y.mass < big):call tb 543 [.agg (Qd x),.agg (Qd y)] a=some (.bool (decide (Qo x y=0)),a):=by
 rw[zcc 543 rfl rfl];simp[f543C,(call_Compare x y a b c)]
def QtM:EqF 543:=QoT
abbrev W64:=BitVec 64
def Tr (w:W64):AV:= .int .u64 w.toNat
abbrev Sq:=List W64
def QS (l:Sq):QB:=l.map Tr
def UA (l:Sq):Qr:=l.map fun w=>[Tr w]
def WT (l:Sq) (i:Nat):Bool:=(l.getD (i / 64) 0).getLsbD (i % 64)
def XB (l:Sq) (i:Nat):Sq:=l.set (i / 64) (l.getD (i / 64) 0 ^^^ (1#64 <<< (i % 64)))
def VN (a b:Sq):Sq:=List.zipWith (· ^^^ ·) a b
def Qif {l i} (h:i / 64 < l.length) (j):WT (XB l i) j=(WT l j ^^ decide (j=i)):=by
 unfold WT XB;rw[ZT,QG];by_cases a:i / 64=j / 64;rw[Qg a,Qg h];simp only[PD,BitVec.getLsbD_xor,BitVec.getLsbD_shiftLeft,BitVec.getLsbD_one];rw[a];congr 1;have b:j % 64 < 64:=T7 _ (by omega);by_cases c:j=i;subst c;simp[b];have:j % 64≠i % 64:=by omega
 simp[c,b];omega;rw[Qe a];have:j≠i:=fun e=>a (by rw[e]);simp[this,ZT]
def AG {a b} (h:a.length=b.length) (j):WT (VN a b) j=(WT a j ^^ WT b j):=by
 unfold WT VN;simp only[ZT,List.getElem?_zipWith];by_cases d:j / 64 < a.length;have c:j / 64 < b.length:=by omega
 simp[Za d,Za c];rw[ZP (GY d),ZP (by omega:b.length<=j / 64)];simp
def K3 {a b} (h:a.length=b.length): (VN a b).length=a.length:=by simp[VN,h]
def Pc (l i): (XB l i).length=l.length:=by simp[XB]
def OG (l): (QS l).length=l.length:=by simp[QS]
def Qer (l):Q5 (QS l)=true:=by
 induction l with | nil=>rfl | cons w l a=>simp only[QS,ZO,Q5]at a ⊢;rw[a];rfl
def Gk {l k} (h:k < l.length): (QS l)[k]? =some (Tr (l.getD k 0)):=by
 simp[QS,h,ZT]
def Dc (w:W64):BitVec.ofInt 64 (w.toNat:Int)=w:=by
 rw[BitVec.ofInt_natCast];simp
def Qnz {n:Nat} (h:n < 18446744073709551616):IntKind.u64.wrap (n:Int)=(n:Int):=by
 unfold IntKind.wrap;simp[IntKind.bits,IntKind.signed];omega
def Av (a b):Qn .xor (Tr a) (Tr b)=some (Tr (a ^^^ b)):=by
 simp only[Qn,Tr,QU,QW,toI];rw[show BitVec.ofInt IntKind.u64.bits (a.toNat:Int)=a from Dc a,show BitVec.ofInt IntKind.u64.bits (b.toNat:Int)=b from Dc b];have:=(a ^^^ b).isLt;exact UV (AV.int IntKind.u64) (Qnz this)
def QkR {i:Nat} (h:i < 64):Qn .shl (.int .u64 1) (.int .i64 i)=some (Tr (1#64 <<< i)):=by
 have b:min i 64=i:=by omega
 have a:2 ^ i < 18446744073709551616:=by have:2 ^ i < 2 ^ 64:=Nat.pow_lt_pow_right (by omega) h;simpa using this
 have e: (1*2 ^ min (i:Int).toNat IntKind.u64.bits:Int)=((2 ^ i:Nat):Int):=by rw[LI,show IntKind.u64.bits=64 from rfl,b];simp
 simp only[Qn,toI];rw[Qg (by omega),e,Qnz a];simp only[Tr,QW,AV.int.injEq,Xq];rw[BitVec.toNat_shiftLeft];have: (1#64).toNat <<< i % 2 ^ 64=2 ^ i:=by rw[show(1#64).toNat=1 from rfl,Nat.shiftLeft_eq,G8,Ao (by simpa using a)]
 rw[this]
def Qk2 (w:W64) {i} (h:i < 64): (BitVec.ofInt IntKind.u64.bits ((w.toNat:Int) / 2 ^ min i IntKind.u64.bits) &&& BitVec.ofInt IntKind.u64.bits 1).toNat=if w.getLsbD i then 1 else 0:=by
 have a:min i 64=i:=by omega
 have e: ((w.toNat:Int) / 2 ^ min i IntKind.u64.bits)=((w >>> i).toNat:Int):=by rw[show IntKind.u64.bits=64 from rfl,a,BitVec.toNat_ushiftRight,Nat.shiftRight_eq_div_pow];simp
 rw[e,show BitVec.ofInt IntKind.u64.bits ((w >>> i).toNat:Int)=w >>> i from Dc _];show(w >>> i &&& 1#64).toNat=_;have c: (w >>> i &&& 1#64)=if w.getLsbD i then 1#64 else 0#64:=by apply BitVec.eq_of_getLsbD_eq;intro j d;rw[BitVec.getLsbD_and,BitVec.getLsbD_ushiftRight,BitVec.getLsbD_one];cases j with | zero=>cases b:w.getLsbD i <;> simp | succ j=>cases b:w.getLsbD i <;> simp
 rw[c];split <;> rfl
def Qnq {i n:Nat} (h:i / 64 < n) (a:i < 1000000):IntKind.i64.wrap ((i:Int) / 64)=(i:Int) / 64/\(0:Int)<=(i:Int) / 64/\(i:Int) / 64 < (n:Int)/\((i:Int) / 64).toNat=i / 64/\(0:Int)<=(i:Int).tmod 64/\((i:Int).tmod 64).toNat=i % 64:=
 ⟨QC (by omega) (by omega),by omega,by omega,by omega,Int.natCast_nonneg (i % 64),rfl⟩
def EN (l i p k) (h:k[p]? =some (QS l)) (m:i / 64 < l.length) (f:i < 1000000):call tb 549 [.gs p 0 1 l.length,.int .i64 i] k=some (.bool (WT l i),k):=by
 obtain⟨o,r,u,t,q,s⟩:=Qnq m f;have j:=Gk m;have v:i % 64 < 64:=T7 _ (by omega);have b:=Qk2 (l.getD (i / 64) 0) v;have x:=QJ h;have d:=OG l;have c:i / 64+1<=l.length:=m;have n:WT l i=(l.getD (i / 64) 0).getLsbD (i % 64):=rfl;rw[n];rw[zcc 549 rfl rfl];generalize l.getD (i / 64) 0=w at *;generalize QS l=y at *;unfold Tr at j;have e:IntKind.u64.wrap 1=1:=rfl;have g:IntKind.u64.wrap 0=0:=rfl;cases a:w.getLsbD (i % 64);rw[a]at b;simp at b;simp[-getElem?_pos,g,f549C,o,r,u,t,q,s,h,j,d,b,c];rw[a]at b;simp at b;simp[-getElem?_pos,e,f549C,o,r,u,t,q,s,h,j,d,b,c]
def Fl (B a x) (h:Q5 x=true):X4 B (B.set a x)=true:=by
 induction B generalizing a with | nil=>simp[X4] | cons y B b=>cases a with | zero=>simp only[LK,X4,h,Bool.or_true,V4];(have: ∀(B:Qr),X4 B B=true:=by intro B;induction B with | nil=>rfl | cons y B b=>simp only[X4,XV,PI,V4,b]);exact this B | succ a=>simp only[LM,X4,XV,PI,V4];exact b a
def Qby (l k w): (QS l).set k (Tr w)=QS (l.set k w):=by simp[QS,List.map_set]
def Qdn (l i c b) (p:b[c]? =some (QS l)) (f:i / 64 < l.length) (h:i < 1000000):call tb 547 [.gs c 0 1 l.length,.int .i64 i] b=some (.tup [],b.set c (QS (XB l i))):=by
 obtain⟨s,z,A,u,I,K⟩:=Qnq f h;have D:=Gk f;have y:i % 64 < 64:=T7 _ (by omega);have r:=QJ p;have g:=OG l;have k:i / 64+1<=l.length:=f;have v:=QkR y;have C:=Av (l.getD (i / 64) 0) (1#64 <<< (i % 64));have a:=Qby l (i / 64) (l.getD (i / 64) 0 ^^^ (1#64 <<< (i % 64)));have n:l.set (i / 64) (l.getD (i / 64) 0 ^^^ (1#64 <<< (i % 64)))=XB l i:=rfl;rw[n]at a;have m:=Fl b c (QS (XB l i)) (Qer _);have e: (b.set c (QS (XB l i))).take b.length=b.set c (QS (XB l i)):=Z2 (by simp);have x:Qn .quo (.int .i64 i) (.int .i64 64)=some (.int .i64 ((i:Int) / 64)):=by simp[Qn,toI,s]
 have E:Qn .rem (.int .i64 i) (.int .i64 64)=some (.int .i64 ((i % 64:Nat):Int)):=by simp[Qn];rfl
 rw[zcc 547 rfl rfl];generalize J:QS (XB l i)=H at *;generalize L:l.getD (i / 64) 0=w at *;generalize QS l=j at *;generalize G: (1#64 <<< (i % 64))=q at *;generalize t:w ^^^ q=o at *;have d:Qn .shl (.int .u64 1) (.int .i64 ((i:Int) % 64))=some (Tr q):=v;have B:j.take (i / 64)++ Tr o:: j.drop (i / 64+1)=j.set (i / 64) (Tr o):=by rw[Js,Qg (by omega)]
 unfold Tr at *;simp[-getElem?_pos,-Qn,f547C,x,E,d,C,z,A,u,p,D,g,k,B,a,m,e]
def Qbx {l:Qj} {i p} {c:QB} (h: (c.drop (i*4)).take 4=Qd p): ((c.map AV.strip).drop (i*4)).take 4=Qd p:=by
 rw[<- PG,<- SC,h,Zc]
def Qeq {l i p} (h:l[i]? =some p) (c): ((Qk l ++ c).drop (i*4)).take 4=Qd p:=by
 obtain⟨b,rfl⟩:=XR.1 h;have a:l=l.take i ++ l[i]:: l.drop (i+1):=by rw[Jz,PA]
 have:=Vo (f:=Qd) (k:=4) QE a c;rwa[Z9,JO (by omega)]at this
def QmY {l t B T S c} (hl:l.length < 100000000) (W:l≠[]->S=4/\B[T]? =some (Qk l ++ c)) (X: ∀p∈l,p.mass < big) (U:t.mass < big) (ha:Asc l):
  ∀d i j b,j - i<=d->i<=j->j<=l.length->(∀k p,l[k]? =some p->k < i->Qo p t < 0)->(∀k p,l[k]? =some p->j<=k->¬Qo p t < 0)->
  b 0= .gs T 0 S l.length->b 4= .bx (Qd t)->b 2= .fn 30 []->b 8= .int .i64 l.length->b 9= .int .i64 i->b 10= .int .i64 j->
  Qfg l t B (R tb (.loop f546l0) b B (Qh 0 (Qs tb f546r0 (QA f546 B)))):=by
 have x: ∀(i j:Nat) (p q:Tm),l[i]? =some p->l[j]? =some q->i<=j->Qo q t < 0->Qo p t < 0:=by intro i j p q n z C h;rcases ZI i j with I | hge;obtain⟨h1,rfl⟩:=XR.1 n;obtain⟨g,rfl⟩:=XR.1 z;exact XG (NF.1 ha i j h1 g I) h;(have:i=j:=by omega);subst this;rw[n]at z;cases z;exact h
 intro d;induction d with | zero=>intro i j b hd C L s u w G g H A a;(have:i=j:=by omega);subst this;refine⟨i,⟨L,s,u⟩,?_⟩;rw[Qb f546l0.eq_1];by_cases N:i < l.length;have n:=Za N;obtain⟨rfl,o⟩:=W (by intro e;subst e;simp at N);have M:=Qbx (l:=l) (Qeq n c);have E:=X _ (V3 N);(have r:i*4+4<=(Qk l ++ c).length:=by rw[Q6,ZZ QE];omega);(have f: (i:Int) < (l.length:Int):=by omega);(have P:Sm l t i=decide (Qo l[i] t=0):=by simp[Sm,n]);rw[P];generalize l[i]=p at *;have K:=call_Compare p t B E U;generalize Qk l ++ c=cc at *;simp[f546r0,w,g,G,H,A,a,f,o,r,M,K];(have P:Sm l t i=false:=by simp[Sm,ZP (GY N)]);(have f: ¬(i:Int) < (l.length:Int):=by omega);simp[f546r0,w,g,H,A,a,f,P] | succ d O=>intro i j b hd C L s u w G g H A a;by_cases I:i < j;(have D: (i+j) / 2 < l.length:=by omega);have Y:=FF (i:=i) (j:=j) (by omega);have n:=Za D;obtain⟨rfl,o⟩:=W (by intro e;subst e;simp at D);have M:=Qbx (l:=l) (Qeq n c);have E:=X _ (V3 D);(have r: (i+j) / 2*4+4<=(Qk l ++ c).length:=by rw[Q6,ZZ QE];omega);(have y: (i:Int) < (j:Int):=by omega);(have hb1:i<=(i+j) / 2:=by omega);(have Z: (i+j) / 2 < j:=by omega);generalize l[(i+j) / 2]=p at *;generalize hmm: (i+j) / 2=m at *;have K:=call_Compare p t B E U;(have J:IntKind.i64.wrap ((m:Int)+1)=((m+1:Nat):Int):=by rw[QC (by omega) (by omega)];omega);(have f: (m:Int) < (l.length:Int):=by omega);generalize hcc:Qk l ++ c=cc at *;rw[Qb f546l0.eq_1];by_cases v:Qo p t < 0;have Q:=fun b=>O (m+1) j b (by omega) (by omega) L (fun k q z V=>x k m q p z n (by omega) v) u;simp[-getElem?_pos,w,g,G,A,a,y,Y,J,f,o,r,M,K,v];refine Q _ ?_ ?_ ?_ ?_ ?_ ?_ <;> simp[w,g,G,H,a];have Q:=fun b=>O i m b (by omega) (by omega) (by omega) s (fun k q z V h=>v (x m k p q n z V h));simp[-getElem?_pos,w,g,G,A,a,y,Y,J,f,o,r,M,K,v];refine Q _ ?_ ?_ ?_ ?_ ?_ ?_ <;> simp[w,g,G,H,A];exact O i j b (by omega) C L s u w G g H A a
def QoV {l t B id sz c} (e:l.length < 100000000) (g:l≠[]->sz=4/\B[id]? =some (Qk l ++ c)) (d: ∀p∈l,p.mass < big) (i:t.mass < big) (f:Asc l):
  Qfg l t B (call tb 546 [.gs id 0 sz l.length,.agg (Qd t),.fn 30 []] B):=by
 rw[zcc 546 rfl rfl];simp[f546C];refine(fun h=>QmY e g d i f l.length 0 l.length h (by omega) (by omega) (by omega) (fun k p _ b=>by omega) (fun k p a b=>by rw[ZP b]at a;cases a)) _ ?_ ?_ ?_ ?_ ?_ ?_ <;> simp
def TSg (B:Qr) (v:AV) (l:Qj):Prop:=∃id sz,v= .gs id 0 sz l.length/\∃c,l≠[]->sz=4/\B[id]? =some (Qk l ++ c)
def QmX {l t k} (h:Sm l t k=true):l[k]? =some t:=by
 unfold Sm at h;rcases a:l[k]? with _ | p;rw[a]at h;cases h;rw[a]at h;have:p=t:=Wz.1 (by simpa using h);rw[this]
def QoU {C B g i b} (j:B[g]? =some (i:: b)) (o:TSg B i C) (q:C.length < 1000000) (e: ∀x∈C,x.mass < big) (d:Asc C) {y} (f:y∈C):
  ∃k:Nat,C[k]? =some y/\call tb 545 [.gp g 0,.agg (Qd y)] B=some (.int .i64 k,B):=by
 obtain⟨id,sz,rfl,c,m⟩:=o;obtain⟨k,p,a⟩:=QoV (B:=B) (id:=id) (sz:=sz) (c:=c) (l:=C) (t:=y) (by omega) m e (e y f) d;have h:Sm C y k=true:=by rw[Gr d p];exact Zz.2 f
 rw[h]at a;have n:=QJ j;refine⟨k,QmX h,?_⟩;rw[zcc 545 rfl rfl];simp[-getElem?_pos,Ql,Q0,f545C,j,a,Qc]
def QiB (l): (UA l).length=l.length:=by simp[UA]
def QiA {l k} (h:k < l.length): (UA l)[k]? =some [Tr (l.getD k 0)]:=by
 simp[UA,h,ZT]
def Vb (a b:Sq) (k:Nat):Sq:=(VN (a.take k) (b.take k))++ a.drop k
def QgS (a b):Vb a b 0=a:=by simp[Vb,VN]
def Qkv {a b} (h:a.length=b.length):Vb a b a.length=VN a b:=by
 have e:b.take a.length=b:=by rw[h,JJ]
 rw[Vb,JJ,e,Ap,Qy]
def Cj {a b} (h:a.length=b.length) (k): (Vb a b k).length=a.length:=by
 simp only[Vb,VN,Q6,List.length_zipWith,Z9,UP];omega
def QgQ {a b} (h:a.length=b.length) {k} (d:k < a.length): (Vb a b k).getD k 0=a.getD k 0:=by
 have c: (VN (a.take k) (b.take k)).length=k:=by simp[VN];omega
 simp only[Vb,ZT];rw[Yv (by omega),c,To,Vk,PH]
def QgR {a b} (h:a.length=b.length) {k} (d:k < a.length): (Vb a b k).set k (a.getD k 0 ^^^ b.getD k 0)=Vb a b (k+1):=by
 have e: (VN (a.take k) (b.take k)).length=k:=by simp[VN];omega
 have c:k < b.length:=by omega
 simp only[Vb];rw[Sr _ _ (by omega),e,To];rw[(LG d),LK];have f:VN (a.take (k+1)) (b.take (k+1))=VN (a.take k) (b.take k)++ [a[k] ^^^ b[k]]:=by unfold VN;rw[Jt d,Jt c,List.zipWith_append (by simp;omega)];rfl
 rw[f];simp[ZT,d,c]
def Qna (a b c B) (s:c < B.length) (d:a.length=b.length) (Y:a.length < 1000000):
  ∀n k o e,a.length - k<=n->k<=a.length->e 0= .gs c 0 1 a.length->e 1= .sl o 1 (UA b)->e 6= .int .i64 a.length->e 7= .int .i64 k->
  R tb (.loop f550l0) e (B.set c (QS (Vb a b k))) (Qh 0 (QA f550 B))=some (.tup [],B.set c (QS (VN a b))):=by
 intro n;induction n with | zero=>intro k o e S E m p h q;(have:k=a.length:=by omega);subst this;rw[Qkv d];have v: (B.set c (QS (VN a b))).take B.length=B.set c (QS (VN a b)):=Z2 (by simp);rw[Qb f550l0.eq_1];simp[h,q,(Fl B c (QS (VN a b)) (Qer _)),v] | succ n A=>intro k o e S E m p h q;by_cases g:k < a.length;(have G: (k:Int) < (a.length:Int):=by omega);(have x:IntKind.i64.wrap ((k:Int)+1)=((k+1:Nat):Int):=by rw[QC (by omega) (by omega)];omega);have t:=Gk (l:=Vb a b k) (k:=k) (by rwa[Cj d]);rw[QgQ d g]at t;have j:=QiA (l:=b) (k:=k) (by omega);have C:=Av (a.getD k 0) (b.getD k 0);have f:=Qby (Vb a b k) k (a.getD k 0 ^^^ b.getD k 0);rw[QgR d g]at f;(have i: (B.set c (QS (Vb a b k)))[c]? =some (QS (Vb a b k)):=by rw[QG,Qg rfl,Qg s]);(have r: (QS (Vb a b k)).length=a.length:=by rw[OG,Cj d]);(have z: (B.set c (QS (Vb a b k))).set c (QS (Vb a b (k+1)))=B.set c (QS (Vb a b (k+1))):=by rw[T6]);(have V: (k:Int) < (b.length:Int):=by omega);have P:=QiB b;(have Q:k < b.length:=by omega);have y:k+1<=a.length:=g;have K:=fun o e=>A (k+1) o e (by omega) (by omega);have L:=QJ i;generalize T:QS (Vb a b (k+1))=D at *;generalize I:QS (Vb a b k)=u at *;generalize X:B.set c D=Z at *;generalize O:B.set c u=B0 at *;generalize J:a.getD k 0 ^^^ b.getD k 0=U at *;generalize a.getD k 0=w at *;generalize b.getD k 0=w2 at *;(have H:u.take k ++ Tr U:: u.drop (k+1)=D:=by rw[<- f,Js,Qg (by omega)]);unfold Tr at t j C H;(have W:Qn .add (.int .i64 k) (.int .i64 1)=some (.int .i64 ((k+1:Nat):Int)):=by simp[Qn,x]);(have N:Qn .lss (.int .i64 k) (.int .i64 a.length)=some (.bool true):=by simp[Qn,G]);rw[Qb f550l0.eq_1];simp[-getElem?_pos,Ql,-Qn,m,p,h,q,W,N,G,i,t,j,C,r,y,H,z];refine K o _ ?_ ?_ ?_ ?_ <;> simp[m,p,h];(have M:k=a.length:=by omega);exact A k o e (by omega) E m p h q
end Go.Am
