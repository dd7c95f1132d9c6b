/-
  Kn3, Kn4, Kn22, Kn23, Kn40, Kn41, Kn42, Kn43.
-/
import Derived.Test.YthlnfdbbneaelaaGreatDoorG17
set_option linter.all false
open Go.Am.F
namespace Go.Am
set_option maxRecDepth 20000
def QcV (x y a) (b:x.mass < big) (c:y.mass < big):call tb 536 [.agg (Qd x),.agg (Qd y)] a=some (.bool (decide (Qm x y=0)),a):=by
 rw[zcc 536 rfl rfl];simp[f536C,(call_Compare x y a b c)]
def QoL (x y a) (b:x.mass < big) (c:y.mass < big):call tb 528 [.agg (Qd x),.agg (Qd y)] a=some (.bool (decide (Qm x y=0)),a):=by
 rw[zcc 528 rfl rfl];simp[f528C,(call_Compare x y a b c)]
def QtP:EqF 528:=QoL
def F4 (l o B) (r:l.length < 1000000) (i: ∀x∈l,x.mass < big):call tb 527 [.sl o 4 (Qa l)] B=some (.sl true 4 (Qa (QL l)),B):=by
 rw[zcc 527 rfl rfl];by_cases c:l=[];subst c;have g:call tb 193 [.sl false 4 []] B=some (.gs 0 0 0 0,B):=by rw[Xv tb_193];simp[WD,Ui]
 have b:call tb 170 [.gs 0 0 0 0,.fn 30 []] B=some (.tup [],B):=by rw[Xv tb_170];simp[NG]
 have a:=Aa 528 B;simp[f527C,g,b,a,Qa,QL,Xd];have g:call tb 193 [.sl false 4 (Qa l)] B=some (.gs B.length 0 4 l.length,B ++ [Ql l]):=by rw[Xv tb_193];(have j: (Qa l).flatten.map AV.strip=Ql l:=by(have: (Qa l).flatten=Ql l:=by rw[ZM];rfl);rw[this,Yn Zi]);(have k: (Qa l).length=l.length:=by simp);(have m:l.length*56<=140737488355328:=by omega);simp[WD,Ui,j,k,(YG l),c,m]
 have h: (B ++ [Ql l])[B.length]? =some (Ql l):=Yv;have b:=MN l (B ++ [Ql l]) B.length h (by omega) i;have q:=QF h;have a:=QcO 528 QtP (XK l) ((B ++ [Ql l]).set B.length (Ql (XK l))) B.length (by simp) (by intro e;obtain⟨x,d⟩:=Gf l c;have:=(UP (l:=l)).2 d;grind) (by rw[Va];omega) fun x d=>i x (UP.1 d);rw[OB,Va]at a;unfold LZ at a;rw[TJ]at a;have f: ((B ++ [Ql l]).set B.length []).take B.length=B:=by simp
 generalize (B ++ [Ql l]).set B.length (Ql (XK l))=s at *;generalize (B ++ [Ql l]).set B.length []=n at *;generalize B ++ [Ql l]=p at *;simp[-getElem?_pos,f527C,g,b,a,(YG (QL l)),f]
def Hk (t l o a) (b:l.length < 1000000):call tb 160 [.agg (Qd t),.sl o 1 (MU l)] a=some (.bool (decide (t.kind=3) && l.contains t.name),a):=by
 rw[zcc 160 rfl rfl];by_cases c:t.kind=3 <;> simp[f160C,c,(QkV l t.name false a b),-List.contains_eq_mem]
def Rm (t) (n:Nm) (o a):call tb 160 [.agg (Qd t),.sl o 1 [[.str n]]] a=some (.bool (isB t n),a):=by
 have h:=Hk t [n] o a (by simp);have e: [n].contains t.name=(t.name == n):=by grind
 rwa[e]at h
def Hl (t) (n m:Nm) (o a):call tb 160 [.agg (Qd t),.sl o 1 [[.str n],[.str m]]] a=some (.bool (isB t n || isB t m),a):=by
 have h:=Hk t [n,m] o a (by simp);have e: (decide (t.kind=3) && [n,m].contains t.name)=(isB t n || isB t m):=by(have: [n,m].contains t.name=(t.name == n || t.name == m):=by grind);rw[this];unfold isB;grind
 rwa[e]at h
def Nl:Zq:=[104,97,115,104]
def Oc (n:Zq):Bool:=n == Z3 || n == ENC || n == Zz || n == PK || n == Yc || n == Nl
def AB (n): [Z3,ENC,Zz,PK,Yc,Nl].contains n=Oc n:=by
 unfold Oc;grind
def Mn (s:Qj) (u:Tm):Bool:=decide (u.kind=3) && Oc u.name && u.kids.all (QA s)
def QoP (s x g a) (b:a[g]? =some [.sl false 4 (Qa s)]) (e:s.length < 100000000) (c: ∀p∈s,p.mass < big) (h:x.mass < big) (f:Asc s):
  call tb 533 [.agg (Qd x),.gp g 0] a=some (.bool (!QA s x),a):=by
 have d:=QF b;rw[zcc 533 rfl rfl];simp[-getElem?_pos,Qo,f533C,(PZ s x false a e c h f),b]
def QoO (s u o a) (j:s.length < 100000000) (k: ∀p∈s,p.mass < big) (l:u.mass < 1000000) (h:Asc s):
  call tb 532 [.sl o 4 (Qa s),.agg (Qd u)] a=some (.bool (Mn s u),a):=by
 have c: ∀x∈u.kids,x.mass < big:=fun x d=>by have:=QY d;have:=QI u;unfold big;omega
 have b:=Hk u [Z3,ENC,Zz,PK,Yc,Nl] false (a ++ [[AV.sl false 4 (Qa s)]]) (by simp);rw[AB]at b;have b:call tb 160 [.agg (Qd u),.sl false 1 [[.str [112,97,105,114]],[.str [101,110,99]],[.str [97,101,110,99]],[.str [112,107]],[.str [115,105,103,110]],[.str [104,97,115,104]]]] (a ++ [[AV.sl false 4 (Qa s)]])=some (.bool (decide (u.kind=3) && Oc u.name),a ++ [[AV.sl false 4 (Qa s)]]):=b;have f:=B7 u.kids 533 [.gp a.length 0] (fun x=> !QA s x) false (a ++ [[AV.sl false 4 (Qa s)]]) (by have:=QI u;omega) (by simp) fun x d=>QoP s x a.length _ (Yv) j k (c x d) h;have e: (u.kids.any fun x=> !QA s x)= !u.kids.all (QA s):=by grind
 rw[e]at f;have i: (a ++ [[AV.sl false 4 (Qa s)]]).take a.length=a:=by simp
 rw[zcc 532 rfl rfl];unfold Mn;generalize u.kids.all (QA s)=q at *;cases g: (decide (u.kind=3) && Oc u.name);rw[g]at b;simp[-List.any_eq_false,-List.any_eq_true,f532C,b];rw[g]at b;simp[-List.any_eq_false,-List.any_eq_true,f532C,b,f]
def LJ (s t o a) (c:s.length < 100000000) (b: ∀x∈s,x.mass < big) (d:t.mass < big):
  call tb 307 [.sl o 4 (Qa s),.agg (Qd t)] a=some (.bool (QA s t),a):=by
 rw[zcc 307 rfl rfl];simp[f307C,(P8 s t false a c b d),Qf]
def Qih (s u k) (r:s.length < 100000000) (w: ∀x∈s,x.mass < big) (A:u.mass < 1000000):
  ∀a b o c,u.kids=b ++ a->c 0= .sl o 4 (Qa s)->c 3= .bx (Qd u)->c 5= .int .i64 b.length->
  R tb (.loop f309l0) c k (Qi 1 (Qu tb f309r0 (Qz f309 k)))=some (.bool (a.all (QA s)),k):=by
 have z:u.kids.length < 1000000:=by have:=QI u;omega
 intro a;induction a with | nil=>intro b o c d h f g;simp only[QH]at d;rw[<- d]at g;rw[Qc f309l0.eq_1];simp[h,f,g,f309r0] | cons x a n=>intro b o c d h f g;have m:=QB d;have v:=QJ d;have i:=wr1 b.length (by omega);have e:=QN d;(have y:x.mass < big:=by have:=QY (x:=x) (ks:=u.kids) (by grind);have:=QI u;unfold big;omega);have j:=LJ s x false k r w y;rw[Qc f309l0.eq_1];cases l:QA s x;rw[l]at j;simp[h,f,g,m,e,i,j,l,Qf];rw[l]at j;simp[h,f,g,m,e,i,j,l,Qf];refine(fun o c p t q=>n (b ++ [x]) o c (by grind) p t q) o _ ?_ ?_ ?_ <;> simp[h,f]
def LD:=@beq_false_of_ne
def Qor (s u o b) (r:s.length < 100000000) (w: ∀p∈s,p.mass < big) (v:u.mass < 1000000):
  call tb 309 [.sl o 4 (Qa s),.agg (Qd u)] b=some (.bool (Mn s u),b):=by
 have h:=fun t=>Qih s u b r w v u.kids [] false t rfl;rw[zcc 309 rfl rfl];unfold Mn;by_cases a:u.kind=3;by_cases l:u.name=Z3;simp[f309C,Oc,Z3,ENC,Zz,PK,Yc,Nl,a,l];simp_all;by_cases q:u.name=ENC;simp[f309C,Oc,Z3,ENC,Zz,PK,Yc,Nl,a,q];simp_all;by_cases j:u.name=Zz;simp[f309C,Oc,Z3,ENC,Zz,PK,Yc,Nl,a,j];simp_all;by_cases c:u.name=PK;simp[f309C,Oc,Z3,ENC,Zz,PK,Yc,Nl,a,c];simp_all;by_cases d:u.name=Yc;simp[f309C,Oc,Z3,ENC,Zz,PK,Yc,Nl,a,d];simp_all;by_cases k:u.name=Nl;simp[f309C,Oc,Z3,ENC,Zz,PK,Yc,Nl,a,k];simp_all;have e:=LD l;have i:=LD q;have g:=LD j;have n:=LD c;have f:=LD d;have m:=LD k;simp only[Z3,ENC,Zz,PK,Yc,Nl]at e i g n f m;simp[f309C,Oc,Z3,ENC,Zz,PK,Yc,Nl,a,e,i,g,n,f,m];simp[f309C,a]
def PF (t:Tm):Int:=if thV t≠0 then thV t else if isB t ENC then 0 else if isB t Zz then(if isB (kid t 1) PK then 0 else 4)else 10
def PG (t:Tm):Tm:=if PF t≠0 then QU else if isB t ENC then kid t 1 else kid (kid t 1) 0
def LN (t:Tm):AV:= .tup [.agg (Qd (PG t)),.int .i64 (PF t)]
def Qh5 (t a) (b:t.mass < big):call tb 46 [.agg (Qd t)] a=some (.agg (Qd t),a):=by
 rw[zcc 46 rfl rfl];simp[f46,f46C,Qk5 t a b]
def XD {t n} (b:Zn t=true) (h:isB t n=true) (a:Tg n): ∃x y,t.kids=[x,y]:=by
 have:=(gd2 b h a).1;match c:t.kids with | [x,y]=>simp | []=>grind | [_]=>grind | _:: _:: _:: _=>grind
def AZ {t} (d:Zn t=true) (h:isB t PK=true): ∃x,t.kids=[x]:=by
 obtain⟨c,b⟩:=RN.1 h;obtain⟨e,a⟩:=UN d c;rw[b]at a;have:t.kids.length=1:=by unfold Xb at a;simpa[PK,Z3,ENC,Zz,Yc,EXP,FST,SND,DEC,YM,Xa,READ]using a
 match f:t.kids with | [x]=>simp | []=>grind | _:: _:: _=>grind
def TR:Qd QU=[AV.int IntKind.i64 0,AV.str [],AV.int IntKind.i64 0,AV.sl false 4 []]:=by simp[QU,Qd,Qa]
def Qop (t d) (j:Zn t=true) (n:t.mass < 1000000):call tb 304 [.agg (Qd t)] d=some (LN t,d):=by
 have f:=JO t d (by unfold big;omega);have g:=Ww t ENC d;have h:=Ww t Zz d;have i:=fun x=>Ww x PK d;unfold ENC at g;unfold Zz at h;unfold PK at i;rw[zcc 304 rfl rfl];unfold LN PG PF;by_cases v:thV t=0;cases a:isB t ENC;cases b:isB t Zz;unfold ENC at a;unfold Zz at b;simp[f304C,f,g,h,v,a,b,TR,Qf];obtain⟨x,y,c⟩:=XD j b (by simp[Tg]);have k:kid t 1=y:=by simp[kid,c]
 rw[k];cases e:isB y PK;unfold ENC at a;unfold Zz at b;unfold PK at e;simp[f304C,f,g,h,i,v,a,b,e,TR,Qa,c,Qf];obtain⟨z,l⟩:=AZ (X7.1 (VA j) y (by grind)) e;have m:kid y 0=z:=by simp[kid,l]
 unfold ENC at a;unfold Zz at b;unfold PK at e;simp[f304C,f,g,h,i,v,a,b,e,m,Qa,c,l,Qf];obtain⟨x,y,c⟩:=XD j a (by simp[Tg]);have k:kid t 1=y:=by simp[kid,c]
 unfold ENC at a;simp[f304C,f,g,v,a,k,Qa,c,Qf];simp[f304C,f,v,TR,Qf]
def QoI (t b) (k:Zn t=true) (q:t.mass < 1000000):call tb 418 [.agg (Qd t)] b=some (LN t,b):=by
 have h:=Mm t b (by unfold big;omega);have g:=RG t ENC b;have i:=RG t Zz b;have m:=fun x=>RG x PK b;unfold ENC at g;unfold Zz at i;unfold PK at m;have f: ∀x∈t.kids,x.mass < 1000000:=fun x o=>by have:=QY o;have:=QI t;omega
 rw[zcc 418 rfl rfl];unfold LN PG PF;by_cases v:thV t=0;cases a:isB t ENC;cases c:isB t Zz;unfold ENC at a;unfold Zz at c;simp[f418C,h,g,i,v,a,c,TR,Qf];obtain⟨x,y,d⟩:=XD k c (by simp[Tg]);have j:kid t 1=y:=by simp[kid,d]
 rw[j];have r:=f y (by grind);cases e:isB y PK;unfold ENC at a;unfold Zz at c;unfold PK at e;simp[f418C,h,g,i,m,v,a,c,e,TR,Qa,d,Qf];obtain⟨z,n⟩:=AZ (X7.1 (VA k) y (by grind)) e;have p:kid y 0=z:=by simp[kid,n]
 have l:=Qh5 z b (by have:=QY (x:=z) (ks:=y.kids) (by grind);have:=QI y;unfold big;omega);unfold ENC at a;unfold Zz at c;unfold PK at e;simp[f418C,h,g,i,m,l,v,a,c,e,p,Qa,d,n,Qf];obtain⟨x,y,d⟩:=XD k a (by simp[Tg]);have j:kid t 1=y:=by simp[kid,d]
 have l:=Qh5 y b (by have:=f y (by grind);unfold big;omega);unfold ENC at a;simp[f418C,h,g,l,v,a,j,Qa,d,Qf];simp[f418C,h,v,TR,Qf]
def QhW (l g t p q) (A:l.length < 1000000) (u: ∀x∈t,x.ok=true) (w: ∀x∈l,call tb g (.agg (Qd x):: t) q=some (.bool (p x),q)):
  ∀b a o d,l=a ++ b->a.any p=false->d 0= .sl o 4 (Qa l)->d 1= .fn g t->d 7= .int .i64 l.length->d 8= .int .i64 a.length->
  FY (l.any p) q (R tb (.loop f538l0) d q (Qi 0 (Qu tb f538r0 (Qz f538 q)))):=by
 intro b;induction b with | nil=>intro a o d h e i j k m;simp only[QH]at h;rw[<- h]at m e;rw[Qc f538l0.eq_1];refine⟨-1,?_,by grind⟩;simp[i,j,k,m,f538r0] | cons x b z=>intro a o d h e i j k m;have n:=QB h;have y:=QJ h;have r:=QN h;have c:=w x (by grind);have f:=eq_true u;rw[Qc f538l0.eq_1];cases s:p x;simp[i,j,k,m,r,n,(wr1 a.length (by omega)),c,f,s,-List.any_eq_false,-List.any_eq_true];apply(fun d=>(fun d e=>z (a ++ [x]) o d (by grind) e) d (by grind)) <;> simp[i,j,k];have v:l.any p=true:=T9.2 ⟨x,by grind,s⟩;refine⟨a.length,?_,by grind⟩;simp[i,j,k,m,r,n,c,f,s]
def Ab (l g c p o a) (f:l.length < 1000000) (b: ∀x∈c,x.ok=true) (j: ∀x∈l,call tb g (.agg (Qd x):: c) a=some (.bool (p x),a)):
  call tb 537 [.sl o 4 (Qa l),.fn g c] a=some (.bool (l.any p),a):=by
 have m:=fun k=>QhW l g c p a f b j l [] false k rfl rfl;have d:=eq_true b;have h:FY (l.any p) a (call tb 538 [.sl false 4 (Qa l),.fn g c] a):=by rw[zcc 538 rfl rfl];simp[f538C,-List.any_eq_false,-List.any_eq_true];simp_all
 obtain⟨i,e,n⟩:=h;rw[zcc 537 rfl rfl];simp[f537C,e,-List.any_eq_false,-List.any_eq_true];grind
def KD (s:Qj) (u t:Tm):Bool:=
 if isB t Z3 then decide (Qm (kid t 0) u=0) || decide (Qm (kid t 1) u=0)
 else if isB t Yc then decide (Qm (kid t 0) u=0)
 else if isB t ENC || isB t Zz then decide (PF t=0) && decide (Qm (kid t 0) u=0) && QA s (PG t)
 else false
def Lm (s:Qj) (u:Tm):Bool:=s.any (KD s u)
def GS (s:Qj):Prop:=s.length < 1000000/\∀x∈s,Zn x=true/\x.mass < 1000000
def GS.bg {s} (h:GS s): ∀x∈s,x.mass < big:=fun x a=>by have:=(h.2 x a).2;unfold big;omega
def Dt (t): (PG t).mass<=t.mass:=by
 unfold PG;split;have:=QI t;simp[QU,QI,Qv];omega;split;exact VN t 1;exact Y8 (VN _ 0) (VN t 1)
def RP {t} (h:t.mass < 1000000) (i): (kid t i).mass < big:=by have:=VN t i;unfold big;omega
def QoR (s u t A C e) (b:e[A]? =some (Qd u)) (p:e[C]? =some [.sl false 4 (Qa s)]) (w:GS s) (E:Asc s) (H:u.mass < 1000000) (D:t∈s):
  call tb 535 [.agg (Qd t),.gp A 0,.gp C 0] e=some (.bool (KD s u t),e):=by
 obtain⟨o,n⟩:=w.2 t D;have G:=QF b;have I:=QF p;have g:=Rm t Z3 false e;have m:=Rm t Yc false e;have q:=Hl t ENC Zz false e;unfold Z3 at g;unfold Yc at m;unfold ENC Zz at q;have v:=fun x (k:x.mass < big)=>QcV x u e k (by unfold big;omega);rw[zcc 535 rfl rfl];unfold KD;cases c:isB t Z3;cases f:isB t Yc;cases j: (isB t ENC || isB t Zz);unfold Z3 at c;unfold Yc at f;unfold ENC Zz at j;simp[-getElem?_pos,f535C,g,m,q,c,f,j];have ⟨x,y,d⟩: ∃x y,t.kids=[x,y]:=by rcases Bool.or_eq_true_iff.1 j with h | h;exact XD o h (by simp[Tg]);exact XD o h (by simp[Tg])
 have i:kid t 0=x:=by simp[kid,d]
 have k:x.mass < big:=by rw[<- i];exact RP n 0
 have a:=v x k;have r:=QoI t e o n;unfold LN at r;unfold Z3 at c;unfold Yc at f;unfold ENC Zz at j;rw[i];by_cases l:PF t=0;cases B:decide (Qm x u=0);rw[B]at a;simp[-getElem?_pos,Qo,Zd,f535C,g,m,q,c,f,j,r,d,b,a,l,Qf,Qa];rw[B]at a;simp[-getElem?_pos,Qo,Zd,f535C,g,m,q,c,f,j,r,d,b,p,a,l,(PZ s (PG t) false e (by have:=w.1;omega) w.bg (by have:=Dt t;unfold big;omega) E),Qf,Qa];simp[-getElem?_pos,Qo,Zd,f535C,g,m,q,c,f,j,r,d,l,Qf,Qa];obtain⟨x,y,d⟩:=XD o f (by simp[Tg]);have i:kid t 0=x:=by simp[kid,d]
 have k:x.mass < big:=by rw[<- i];exact RP n 0
 have a:=v x k;unfold Z3 at c;unfold Yc at f;rw[i];simp[-getElem?_pos,Qo,Zd,f535C,g,m,c,f,d,b,a,Qf,Qa];obtain⟨x,y,d⟩:=XD o c (by simp[Tg]);have i:kid t 0=x:=by simp[kid,d]
 have z:kid t 1=y:=by simp[kid,d]
 have k:x.mass < big:=by rw[<- i];exact RP n 0
 have a:=v x k;unfold Z3 at c;rw[i,z];cases l:decide (Qm x u=0);rw[l]at a;simp[-getElem?_pos,Qo,Zd,f535C,g,c,d,b,a,(v y (by rw[<- z];exact RP n 1)),Qf,Qa];rw[l]at a;simp[-getElem?_pos,Qo,f535C,g,c,d,b,a,Qf,Qa]
def QoQ (s u o a) (b:GS s) (e:Asc s) (c:u.mass < 1000000):
  call tb 534 [.sl o 4 (Qa s),.agg (Qd u)] a=some (.bool (Lm s u),a):=by
 have h:=Ab s 535 [.gp (a.length+1) 0,.gp a.length 0] (KD s u) false (a ++ [[AV.sl false 4 (Qa s)],Qd u]) b.1 (by simp) fun x d=>QoR s u x (a.length+1) a.length _ (by simp) (by simp) b e c d;rw[zcc 534 rfl rfl];unfold Lm;generalize s.any (KD s u)=q at *;simp[f534C,h]
def Qcc (s u m) (S:GS s) (hu:u.mass < 1000000):
  ∀f l o r,s=l ++ f->r 0= .sl o 4 (Qa s)->r 3= .bx (Qd u)->r 5= .int .i64 l.length->
  R tb (.loop f310l0) r m (Qi 0 (Qu tb f310r0 (Qz f310 m)))=some (.bool (f.any (KD s u)),m):=by
 have W:=S.1;intro f;induction f with | nil=>intro l o r K g i k;simp only[QH]at K;rw[<- K]at k;rw[Qc f310l0.eq_1];simp[g,k,f310r0] | cons t f X=>intro l o r K g i k;have d:=QB K;have hll:=QJ K;have c:=wr1 l.length (by omega);have e:=QN K;obtain⟨M,L⟩:=S.2 t (by grind);have I:=fun o r Y a3 a5=>X (l ++ [t]) o r (by grind) Y a3 a5;have n:=Ww t Z3 m;have z:=Ww t Yc m;have J:=Ww t ENC m;have H:=Ww t Zz m;unfold Z3 at n;unfold Yc at z;unfold ENC at J;unfold Zz at H;have Q:=fun x (D:x.mass < big)=>Vs x u m D (by unfold big;omega);rw[GL];have hb:KD s u t=(if isB t Z3 then decide (Qm (kid t 0) u=0) || decide (Qm (kid t 1) u=0)else if isB t Yc then decide (Qm (kid t 0) u=0)else if isB t ENC || isB t Zz then decide (PF t=0) && decide (Qm (kid t 0) u=0) && QA s (PG t)else false):=rfl;rw[hb];rw[Qc f310l0.eq_1];cases j:isB t Z3;(· cases p:isB t Yc;(· cases U: (isB t ENC || isB t Zz);obtain⟨C,A⟩:=(Gl.1 U);unfold Z3 at j;unfold Yc at p;unfold ENC at C;unfold Zz at A;simp[g,k,d,e,c,n,z,J,H,j,p,C,A,Qf];refine I o _ ?_ ?_ ?_ <;> simp[g,i]; · (have ⟨x,y,b⟩: ∃x y,t.kids=[x,y]:=by rcases Bool.or_eq_true_iff.1 U with h | h;exact XD M h (by simp[Tg]);exact XD M h (by simp[Tg]));(have B:kid t 0=x:=by simp[kid,b]);(have D:x.mass < big:=by rw[<- B];exact RP L 0);have a:=Q x D;have N:=Qop t m M L;unfold LN at N;have P:=LJ s (PG t) false m (by omega) S.bg (by have:=Dt t;unfold big;omega);rw[B];(have key: ∀(G E:Bool),isB t ENC=G->isB t Zz=E->(G || E)=true->R tb (.loop f310l0) r m (Qi 0 (Qu tb f310r0 (Qz f310 m)))=some (.bool ((decide (PF t=0) && decide (Qm x u=0) && QA s (PG t)) || f.any (KD s u)),m):=by intro G E C A v;unfold Z3 at j;unfold Yc at p;unfold ENC at C;unfold Zz at A;rw[Qc f310l0.eq_1];by_cases q:PF t=0;(· cases O:decide (Qm x u=0);(· rw[O]at a;(cases G <;> cases E <;> first | cases v;done | skip);all_goals simp[g,i,k,d,e,c,n,z,J,H,j,p,C,A,N,b,a,q,Qf,Qa];refine I o _ ?_ ?_ ?_ <;> simp[g,i]); · rw[O]at a;cases T:QA s (PG t);(· rw[T]at P;(cases G <;> cases E <;> first | cases v;done | skip);all_goals simp[g,i,k,d,e,c,n,z,J,H,j,p,C,A,N,b,a,q,P,Qf,Qa];refine I o _ ?_ ?_ ?_ <;> simp[g,i]); · rw[T]at P;(cases G <;> cases E <;> first | cases v;done | skip);all_goals simp[g,i,k,d,e,c,n,z,J,H,j,p,C,A,N,b,a,q,P,Qf,Qa]); · (cases G <;> cases E <;> first | cases v;done | skip);all_goals simp[g,i,k,d,e,c,n,z,J,H,j,p,C,A,N,b,q,Qf,Qa];refine I o _ ?_ ?_ ?_ <;> simp[g,i]);rw[<- Qc f310l0.eq_1];grind);obtain⟨x,y,b⟩:=XD M p (by simp[Tg]);(have B:kid t 0=x:=by simp[kid,b]);(have D:x.mass < big:=by rw[<- B];exact RP L 0);have a:=Q x D;unfold Z3 at j;unfold Yc at p;rw[B];cases q:decide (Qm x u=0);rw[q]at a;simp[g,i,k,d,e,c,n,z,j,p,b,a,Qf,Qa];refine I o _ ?_ ?_ ?_ <;> simp[g,i];rw[q]at a;simp[g,i,k,d,e,c,n,z,j,p,b,a,Qf,Qa]);obtain⟨x,y,b⟩:=XD M j (by simp[Tg]);(have B:kid t 0=x:=by simp[kid,b]);(have V:kid t 1=y:=by simp[kid,b]);(have D:x.mass < big:=by rw[<- B];exact RP L 0);(have Z:y.mass < big:=by rw[<- V];exact RP L 1);have a:=Q x D;have w:=Q y Z;unfold Z3 at j;rw[B,V];cases q:decide (Qm x u=0);rw[q]at a;cases O:decide (Qm y u=0);rw[O]at w;simp[g,i,k,d,e,c,n,j,b,a,w,Qf,Qa];refine I o _ ?_ ?_ ?_ <;> simp[g,i];rw[O]at w;simp[g,i,k,d,e,c,n,j,b,a,w,Qf,Qa];rw[q]at a;simp[g,i,k,d,e,c,n,j,b,a,Qf,Qa]
def Qos (s u o a) (d:GS s) (c:u.mass < 1000000):
  call tb 310 [.sl o 4 (Qa s),.agg (Qd u)] a=some (.bool (Lm s u),a):=by
 rw[zcc 310 rfl rfl];simp[f310C];refine(fun b=>Qcc s u a d c s [] false b rfl) _ ?_ ?_ ?_ <;> simp
abbrev Zp:=List (List Int)
def rwE (rs:Zp) (i:Nat):Q4:=rs.getD i []
def ceE (rs:Zp) (i c:Nat):Int:=(rwE rs i).getD c 0
abbrev Z6:=List Bool
def acE (rs:Zp) (us:Z6) (c i:Nat):Bool:= !(us.getD i true) && !decide (ceE rs i c=0)
def Zc (a p:Q4) (q:Int):Q4:=List.zipWith (fun x y=>x - q*y) a p
def okE (a:Q4):Bool:=a.all fun x=>decide (x.natAbs<=1099511627776)
def scE (rs:Zp) (us:Z6) (c:Nat):Nat->Rc×Nat
 | 0=>(none,0)
 | k+1=>if acE rs us c k then(match (scE rs us c k).1 with
   | none=>(some k,(scE rs us c k).2+1)
   | some j=>(if(ceE rs k c).natAbs < (ceE rs j c).natAbs then some k else some j,(scE rs us c k).2+1))else scE rs us c k
def nwE (rs:Zp) (c b k:Nat):Q4:=Zc (rwE rs k) (rwE rs b) ((ceE rs k c).tdiv (ceE rs b c))
def rnE (rs:Zp) (us:Z6) (c b:Nat):Nat->Zp
 | 0=>rs
 | k+1=>if !decide (k=b) && acE rs us c k then(rnE rs us c b k).set k (nwE rs c b k)else rnE rs us c b k
def orE (rs:Zp) (us:Z6) (c b:Nat):Nat->Bool
 | 0=>true
 | k+1=>orE rs us c b k && (!(!decide (k=b) && acE rs us c k) || okE (nwE rs c b k))
def coE (c:Nat):Nat->Zp->Z6->Option (Zp×Z6×Int)
 | 0,_,_=>none
 | f+1,rs,us=>match scE rs us c rs.length with
  | (none,_)=>some (rs,us,-1)
  | (some b,n)=>if n=1 then some (rs,us.set b true,(b:Int))else if orE rs us c b rs.length then coE c f (rnE rs us c b rs.length) us else none
def msE (rs:Zp) (us:Z6) (c:Nat):Xs
 | 0=>0
 | k+1=>msE rs us c k+if acE rs us c k then(ceE rs k c).natAbs else 0
def elE (rs:Zp):Nat->Option (Zp×Z6×Q4)
 | 0=>some (rs,List.replicate rs.length false,[])
 | c+1=>(elE rs c).bind fun s=>(coE c (msE s.1 s.2.1 c s.1.length+1) s.1 s.2.1).map fun x=>(x.1,x.2.1,s.2.2 ++ [x.2.2])
def rdE (rs:Zp) (pv:Q4):Nat->Nat->Q4->Int
 | 0,_,_=>0
 | k+1,c,t=>if t.getD c 0=0 then rdE rs pv k (c+1) t else if pv.getD c (-1) < 0 then 4
  else if(t.getD c 0).tmod (ceE rs (pv.getD c (-1)).toNat c)≠0 then 4
  else if okE (Zc t (rwE rs (pv.getD c (-1)).toNat) ((t.getD c 0).tdiv (ceE rs (pv.getD c (-1)).toNat c)))then
   rdE rs pv k (c+1) (Zc t (rwE rs (pv.getD c (-1)).toNat) ((t.getD c 0).tdiv (ceE rs (pv.getD c (-1)).toNat c)))else 3
def Xx {a p} (q) (h:a.length=p.length): (Zc a p q).length=a.length:=by simp[Zc,h]
def Sq {a p q} (h:a.length=p.length) (j): (Zc a p q).getD j 0=a.getD j 0 - q*p.getD j 0:=by
 simp only[Zh,Zc,List.getElem?_zipWith];rcases Zt j a.length with b | b;rw[Q0 b,Q0 (by omega:j < p.length)];rfl;rw[ZF b,ZF (by omega:p.length<=j)];simp
def Y7 (a us c b): ∀k,(rnE a us c b k).length=a.length
 | 0=>rfl
 | k+1=>by
  simp only[rnE];split;rw[WJ,Y7 a us c b k];exact Y7 a us c b k
def R5 (a k j x) (b:k < a.length):rwE (a.set k x) j=if j=k then x else rwE a j:=by
 simp only[rwE,Zh,Qy];by_cases h:k=j;subst h;simp[b];have: ¬j=k:=fun e=>h e.symm;simp[h,this]
def VJ (d f c b): ∀k,k<=d.length->∀j,rwE (rnE d f c b k) j=if j < k/\j≠b/\acE d f c j=true then nwE d c b j else rwE d j
 | 0,_,j=>by simp[rnE]
 | k+1,l,j=>by
  have i:=VJ d f c b k (by omega);simp only[rnE];by_cases h: (!decide (k=b) && acE d f c k)=true;rw[Qe h,R5 _ _ _ _ (by rw[Y7];omega)];simp only[Qr,Tp,Oz]at h;by_cases g:j=k;subst g;rw[Qe rfl,Qe ⟨by omega,h.1,h.2⟩];rw[Qb g,i j];by_cases e:j < k;have:j < k+1:=by omega
  simp[e,this];have: ¬j < k+1:=by omega
  simp[e,this];rw[Qb h,i j];simp only[Qr,Tp,Oz]at h;by_cases g:j=k;subst g;have e: ¬(j < j+1/\j≠b/\acE d f c j=true):=fun⟨_,x,y⟩=>h ⟨x,y⟩;rw[Qb e,Qb (by omega)];by_cases e:j < k;have:j < k+1:=by omega
  simp[e,this];have: ¬j < k+1:=by omega
  simp[e,this]
def Qa6 {a d c b k} (e:k<=a.length):rwE (rnE a d c b k) k=rwE a k:=by
 rw[VJ _ _ _ _ k e,Qb (by omega)]
def Qwi {a e c b k} (d:k<=a.length):rwE (rnE a e c b k) b=rwE a b:=by
 rw[VJ _ _ _ _ k d,Qb (fun h=>h.2.1 rfl)]
structure ScI (rs:List (List Int)) (us:List Bool) (c k:Nat):Prop where
 nn: (scE rs us c k).1=none->(scE rs us c k).2=0/\∀j,j < k->acE rs us c j=false
 sm: ∀b,(scE rs us c k).1=some b->b < k/\acE rs us c b=true/\0 < (scE rs us c k).2/\∀j,j < k->acE rs us c j=true->(ceE rs b c).natAbs<=(ceE rs j c).natAbs
 tw: ∀b,(scE rs us c k).1=some b->2<=(scE rs us c k).2->∃j,j < k/\j≠b/\acE rs us c j=true
 on: ∀b,(scE rs us c k).1=some b->(scE rs us c k).2=1->∀j,j < k->acE rs us c j=true->j=b
def Pc:=@Nat.lt_succ_iff_lt_or_eq
def scI (m us c): ∀k,ScI m us c k
 | 0=>⟨fun _=>⟨rfl,fun j l=>by omega⟩,fun b f=>by simp[scE]at f,fun b f=>by simp[scE]at f,fun b f=>by simp[scE]at f⟩
 | k+1=>by
  have r:=scI m us c k;cases q:acE m us c k;have e:scE m us c (k+1)=scE m us c k:=by simp[scE,q]
  refine⟨?_,?_,?_,?_⟩ <;> rw[e];intro h;refine⟨(r.nn h).1,fun j l=> ?_⟩;rcases Pc.1 l with p | p;exact(r.nn h).2 j p;subst p;exact q;intro b f;obtain⟨x,p,w,v⟩:=r.sm b f;refine⟨by omega,p,w,fun j l a=> ?_⟩;rcases Pc.1 l with g | g;exact v j g a;subst g;rw[q]at a;cases a;intro b f o;obtain⟨j,x,p,w⟩:=r.tw b f o;exact⟨j,by omega,p,w⟩;intro b f o j l a;rcases Pc.1 l with g | g;exact r.on b f o j g a;subst g;rw[q]at a;cases a;rcases u: (scE m us c k).1 with _ | d;obtain⟨y,t⟩:=r.nn u;have e:scE m us c (k+1)=(.some k,1):=by simp[scE,q,u,y]
  refine⟨?_,?_,?_,?_⟩ <;> rw[e];intro h;cases h;intro b f;cases f;refine⟨by omega,q,by simp,fun j l a=> ?_⟩;rcases Pc.1 l with g | g;rw[t j g]at a;cases a;subst g;exact QX _;intro b f o;simp at o;intro b f o j l a;injection f with f;rcases Pc.1 l with g | g;rw[t j g]at a;cases a;omega;obtain⟨x,p,w,v⟩:=r.sm d u;by_cases s: (ceE m k c).natAbs < (ceE m d c).natAbs;have e:scE m us c (k+1)=(.some k,(scE m us c k).2+1):=by simp[scE,q,u,s]
  refine⟨?_,?_,?_,?_⟩ <;> rw[e];intro h;cases h;intro b f;cases f;refine⟨by omega,q,by simp,fun j l a=> ?_⟩;rcases Pc.1 l with g | g;have:=v j g a;omega;subst g;exact QX _;intro b f o;cases f;exact⟨d,by omega,by omega,p⟩;intro b f o;simp only at o;omega;have e:scE m us c (k+1)=(.some d,(scE m us c k).2+1):=by simp[scE,q,u,s]
  refine⟨?_,?_,?_,?_⟩ <;> rw[e];intro h;cases h;intro b f;cases f;refine⟨by omega,p,by simp,fun j l a=> ?_⟩;rcases Pc.1 l with g | g;exact v j g a;subst g;omega;intro b f o;cases f;exact⟨k,by omega,by omega,q⟩;intro b f o;simp only at o;omega
def Qm0 (a b:Int):a - a.tdiv b*b=a.tmod b:=by
 rw[Int.tmod_def,JH]
def BK:=@Int.natAbs_tmod
def Es {a b:Int} (h:b≠0): (a.tmod b).natAbs < b.natAbs:=by
 rw[BK];exact WU _ (by omega)
def QuA {d c b j L} (f: (rwE d j).length=L) (e: (rwE d b).length=L): (nwE d c b j).getD c 0=(ceE d j c).tmod (ceE d b c):=by
 unfold nwE;rw[Sq (by rw[f,e])];exact Qm0 _ _
def Ca {d us c b L} (p: ∀i,i < d.length->(rwE d i).length=L) (q:b < d.length) (l:ceE d b c≠0) (f: ∀j,j < d.length->acE d us c j=true->(ceE d b c).natAbs<=(ceE d j c).natAbs):
  ∀k,k<=d.length->msE (rnE d us c b d.length) us c k<=msE d us c k/\((∃j,j < k/\j≠b/\acE d us c j=true)->msE (rnE d us c b d.length) us c k < msE d us c k)
 | 0,_=>⟨QX _,fun⟨j,A,_⟩=>by omega⟩
 | k+1,B=>by
  obtain⟨z,u⟩:=Ca p q l f k (by omega);have n:=VJ d us c b d.length (QX _) k;simp only[msE];by_cases g:k≠b/\acE d us c k=true;rw[Qe ⟨by omega,g.1,g.2⟩]at n;have o:ceE (rnE d us c b d.length) k c=(ceE d k c).tmod (ceE d b c):=by unfold ceE at *;rw[n];exact QuA (p k (by omega)) (p b q)
  have v:=Es (a:=ceE d k c) l;have s:=f k (by omega) g.2;rw[Qe g.2,o];have: (if acE (rnE d us c b d.length) us c k=true then((ceE d k c).tmod (ceE d b c)).natAbs else 0) < (ceE d k c).natAbs:=by split <;> omega
  exact⟨by omega,fun _=>by omega⟩;rw[Qb (fun⟨_,x,y⟩=>g ⟨x,y⟩)]at n;have r:ceE (rnE d us c b d.length) k c=ceE d k c:=by unfold ceE;rw[n]
  have w:acE (rnE d us c b d.length) us c k=acE d us c k:=by unfold acE;rw[r]
  rw[r,w];refine⟨by omega,fun⟨j,t,h,m⟩=> ?_⟩;have:j≠k:=by intro e;subst e;exact g ⟨h,m⟩
  have:=u ⟨j,by omega,h,m⟩;omega
def JI {n} (c: -9000000000000000000 < n) (d:n < 9000000000000000000) (a):call tb 565 [.int .i64 n] a=some (.int .i64 (n.natAbs:Int),a):=by
 have b:IntKind.i64.wrap (-n)= -n:=QC (by omega) (by omega);rw[zcc 565 rfl rfl];have e: (if n < -n then -n else n)=(n.natAbs:Int):=by split <;> omega
 simp[f565C,b,e]
def O7 {n} (d: -9000000000000000000 < n) (f:n < 9000000000000000000) (b):call tb 329 [.int .i64 n] b=some (.int .i64 (n.natAbs:Int),b):=by
 have c:IntKind.i64.wrap (-n)= -n:=QC (by omega) (by omega);rw[zcc 329 rfl rfl];have e: (if n < -n then -n else n)=(n.natAbs:Int):=by split <;> omega
 simp[f329C,c,e]
def bsS (B:Qp) (ia x0:Nat) (c0 c1 c2:AV) (A:Q4) (lg:Bool):Qp:=(B.set ia (Qq A)).set x0 [c0,c1,c2,.bool lg]
structure FZ (B:List (List AV)) (ia ip x0:Nat) (p:List Int):Prop where
 la:ia < B.length
 lx:x0 < B.length
 hp:B[ip]? =some (Qq p)
 n1:ia≠ip
 n2:ia≠x0
 n3:ip≠x0
def Qh3 {B a g b p} (h:FZ B a g b p) (j f c A d): (bsS B a b j f c A d)[a]? =some (Qq A):=by
 unfold bsS;rw[Qy,Qb (fun e=>h.n2 e.symm),Qy,Qe rfl,Qe h.la]
def Qtp {B c a b p} (h:FZ B c a b p) (j f d A g): (bsS B c b j f d A g)[a]? =some (Qq p):=by
 unfold bsS;rw[Qy,Qb (fun e=>h.n3 e.symm),Qy,Qb h.n1];exact h.hp
def GU {B c g a p} (h:FZ B c g a p) (f e b A d): (bsS B c a f e b A d)[a]? =some [f,e,b,.bool d]:=by
 unfold bsS;rw[Qy,Qe rfl,Qe (by rw[WJ];exact h.lx)]
def QkU {B a m b p} (h:FZ B a m b p) (j g c A f d): (bsS B a b j g c A d).set a (Qq f)=bsS B a b j g c f d:=by
 unfold bsS;rw[JF _ _ (fun e=>h.n2 e.symm),TJ]
def BW {B ia x0} (a c b A e d): (bsS B ia x0 a c b A e).set x0 [a,c,b,.bool d]=bsS B ia x0 a c b A d:=by
 unfold bsS;rw[TJ]
def XV {l k} (h:k < l.length): (Qq l)[k]? =some (.int .i64 (l.getD k 0)):=by
 simp[Qq,h,Zh]
def stE (a p:Q4) (q:Int) (i:Nat):Q4:=(Zc a p q).take i ++ a.drop i
def Qee {a p q} (h:a.length=p.length) {i} (b:i<=a.length): (stE a p q i).length=a.length:=by
 simp[stE,Xx q h];omega
def QmR {a p q} (h:a.length=p.length) {i} (c:i < a.length): (stE a p q i).getD i 0=a.getD i 0:=by
 have b: ((Zc a p q).take i).length=i:=by rw[Ye,Xx q h];omega
 simp only[stE,Zh];rw[Yq (by omega),b,U7,Vf,Pn]
def Bl:=@List.take_succ_eq_append_getElem
def Qbs {a p q} (h:a.length=p.length) {i} (d:i < a.length): (stE a p q i).set i (a.getD i 0 - q*p.getD i 0)=stE a p q (i+1):=by
 have c: ((Zc a p q).take i).length=i:=by rw[Ye,Xx q h];omega
 simp only[stE];rw[T3 _ _ (by omega),c,U7,Lt d,Lx];have b:i < (Zc a p q).length:=by rwa[Xx q h]
 have e: (Zc a p q)[i]=a.getD i 0 - q*p.getD i 0:=by rw[<- Sq h i];simp[Zh,b]
 rw[Bl b,e];simp
def Qq6 {a p q} (h:a.length=p.length):stE a p q a.length=Zc a p q:=by
 simp only[stE];rw[BJ,QH,Z7 (by rw[Xx q h];exact QX _)]
def okK (a p:Q4) (q:Int):Nat->Bool
 | 0=>true
 | i+1=>okK a p q i && decide ((a.getD i 0 - q*p.getD i 0).natAbs<=1099511627776)
def NS {a p q} (h:a.length=p.length):okK a p q a.length=okE (Zc a p q):=by
 have b: ∀i,i<=a.length->okK a p q i=okE ((Zc a p q).take i):=by intro i;induction i with | zero=>intro _;rfl | succ i d=>intro f;(have c:i < (Zc a p q).length:=by rw[Xx q h];omega);(have e: (Zc a p q)[i]=a.getD i 0 - q*p.getD i 0:=by rw[<- Sq h i];simp[Zh,c]);rw[Bl c,e];simp only[okK,d (by omega),okE,GA,Mb,List.all_nil,Sb]
 rw[b _ (QX _),Z7 (by rw[Xx q h];exact QX _)]
def KB {a p q i}: ∀{j},i<=j->okK a p q i=false->okK a p q j=false
 | 0,h,b=>by
  have:i=0:=by omega
  subst this;exact b
 | j+1,h,b=>by
  rcases Zt j i with c | c;have:i=j+1:=by omega
  subst this;exact b;simp only[okK,KB c b,GC]
def UE:=@Int.natAbs_mul
def Qkd {q p} (b:p≠0) (h: ((4611686018427387904:Int).tdiv (p.natAbs:Int)) < (q.natAbs:Int)) {a:Int} (d:a.natAbs<=1099511627776): ¬(a - q*p).natAbs<=1099511627776:=by
 have e: (4611686018427387904:Int).tdiv (p.natAbs:Int)=((4611686018427387904 / p.natAbs:Nat):Int):=rfl;rw[e]at h;have f:4611686018427387904 < q.natAbs*p.natAbs:=(Bq (by omega)).1 (by omega);have c:=UE q p;omega
def Gi:=@Nat.le_div_iff_mul_le
def QmS {q p:Int} (h:p=0\/¬((4611686018427387904:Int).tdiv (p.natAbs:Int)) < (q.natAbs:Int)): (q*p).natAbs<=4611686018427387904:=by
 rcases h with h | h;subst h;simp;by_cases a:p=0;subst a;simp;have e: (4611686018427387904:Int).tdiv (p.natAbs:Int)=((4611686018427387904 / p.natAbs:Nat):Int):=rfl;rw[e]at h;have b:q.natAbs*p.natAbs<=4611686018427387904:=(Gi (by omega)).1 (by omega);rwa[UE]
def nrE (a:Q4):Nat:=(a.map Int.natAbs).sum
def rtE (a:Q4) (c:Nat):Nat:=nrE (a.set c 0)
def UF:=@List.sum_cons
def GQ:=@Nat.mul_add
def Qi7 (q): ∀{a p},a.length=p.length->nrE (Zc a p q)<=nrE a+q.natAbs*nrE p
 | [],[],_=>by simp[nrE,Zc]
 | x:: a,y:: p,h=>by
  have c:=Qi7 q (a:=a) (p:=p) (by simpa using h);have b: (x - q*y).natAbs<=x.natAbs+q.natAbs*y.natAbs:=by have:=UE q y;omega
  simp only[nrE,Zc,List.zipWith_cons_cons,ZI,UF]at *;rw[GQ];omega
def Qek (q): ∀{a p} c,a.length=p.length->(Zc a p q).set c 0=Zc (a.set c 0) (p.set c 0) q
 | [],[],c,_=>by simp[Zc]
 | x:: a,y:: p,0,h=>by simp[Zc]
 | x:: a,y:: p,c+1,h=>by
  have b:=Qek q (a:=a) (p:=p) c (by simpa using h);simp only[Zc,List.zipWith_cons_cons,Ly]at *;rw[b]
def QuQ {a p} (q c) (h:a.length=p.length):rtE (Zc a p q) c<=rtE a c+q.natAbs*rtE p c:=by
 unfold rtE;rw[Qek q c h];exact Qi7 q (by simp[h])
def Mw: ∀{a c},c < a.length->nrE a=(a.getD c 0).natAbs+rtE a c
 | x:: a,0,_=>by simp[nrE,rtE]
 | x:: a,c+1,h=>by
  have b:=Mw (a:=a) (c:=c) (by simpa using h);simp only[nrE,rtE,ZI,UF,Ly,Bx]at *;omega
def Quz {a}: ∀x∈a,x.natAbs<=nrE a:=by
 intro x b;induction a with | nil=>cases b | cons y a c=>simp only[nrE,ZI,UF];rcases Zf.1 b with rfl | b;omega;have:=c b;simp only[nrE]at this;omega
def D5:=@decide_eq_true
def Qwb {a} (h:nrE a<=1099511627776):okE a=true:=by
 rw[okE,X0];intro x b;have:=Quz x b;exact D5 (by omega)
def aE (rs:Zp) (c i:Nat):Nat:=(ceE rs i c).natAbs
def xE (rs:Zp) (c i:Nat):Nat:=rtE (rwE rs i) c
def YB {d b c i}:acE d b c i=true↔b.getD i true=false/\aE d c i≠0:=by
 simp only[acE,aE,Qr,Tp,Oz];constructor;intro ⟨a,e⟩;exact⟨a,by omega⟩;intro ⟨a,e⟩;exact⟨a,by omega⟩
def EC {a us c b L} (d: ∀i,i < a.length->(rwE a i).length=L) (g:b < a.length) {i} (f:i < a.length):
  aE (rnE a us c b a.length) c i=if i≠b/\acE a us c i=true then aE a c i % aE a c b else aE a c i:=by
 unfold aE ceE;rw[VJ _ _ _ _ _ (QX _)];by_cases h:i≠b/\acE a us c i=true;rw[Qe ⟨f,h⟩,Qe h];unfold nwE;rw[(Sq (by rw[d i f,d b g]) c)];have e: (rwE a i).getD c 0 - (ceE a i c).tdiv (ceE a b c)* (rwE a b).getD c 0=((rwE a i).getD c 0).tmod ((rwE a b).getD c 0):=by rw[Int.tmod_def,JH];rfl
 rw[e,BK];rw[Qb h,Qb (fun⟨_,j⟩=>h j)]
def Qtn:=@Int.natAbs_tdiv
def Qa8 {d us c b L} (e: ∀i,i < d.length->(rwE d i).length=L) (g:b < d.length) {i} (f:i < d.length):
  xE (rnE d us c b d.length) c i<=if i≠b/\acE d us c i=true then xE d c i+aE d c i / aE d c b*xE d c b else xE d c i:=by
 unfold xE;rw[VJ _ _ _ _ _ (QX _)];by_cases h:i≠b/\acE d us c i=true;rw[Qe ⟨f,h⟩,Qe h];have:=QuQ (a:=rwE d i) (p:=rwE d b) ((ceE d i c).tdiv (ceE d b c)) c (by rw[e i f,e b g]);rwa[Qtn]at this;rw[Qb h,Qb (fun⟨_,j⟩=>h j)];exact QX _
def Qa7 {a us c b L} (d: ∀i,i < a.length->(rwE a i).length=L) (f:b < a.length): ∀i,i < a.length->(rwE (rnE a us c b a.length) i).length=L:=by
 intro i e;rw[VJ _ _ _ _ _ (QX _)];split;unfold nwE;rw[Xx _ (by rw[d i e,d b f]),d i e];exact d i e
def QaH {a d c b}: ∀k,k<=a.length->(∀i,i < k->i≠b->acE a d c i=true->okE (nwE a c b i)=true)->orE a d c b k=true
 | 0,_,_=>rfl
 | k+1,l,h=>by
  simp only[orE,(QaH k (by omega) fun i j=>h i (by omega)),VS];by_cases e:k≠b/\acE a d c k=true;rw[h k (by omega) e.1 e.2];simp;have: (!decide (k=b) && acE a d c k)=false:=by by_cases f:k=b;simp[f];(have:acE a d c k=false:=by cases g:acE a d c k;rfl;exact absurd ⟨f,g⟩ e);simp[this]
  simp[this]
def unE (us:Z6) (i:Nat):Prop:=us.getD i true=false
def Qlg {d c L M} (J:Zp->Prop) (G:c < L)
  (A: ∀a b,a.length=M->(∀i,i < a.length->(rwE a i).length=L)->J a->(scE a d c a.length).1=some b->2<=(scE a d c a.length).2->(∀i,i < a.length->unE d i->aE (rnE a d c b a.length) c i+xE (rnE a d c b a.length) c i<=1099511627776)/\J (rnE a d c b a.length)):
  ∀f a,a.length=M->(∀i,i < a.length->(rwE a i).length=L)->J a->msE a d c a.length < f->
   ∃g k p,coE c f a d=some (g,k,p)/\J g/\g.length=M/\(∀i,i < g.length->(rwE g i).length=L)/\((p= -1/\k=d)\/∃b:Nat,p=(b:Int)/\b < M/\unE d b/\k=d.set b true)/\(scE g d c g.length).2<=1
 | 0,_,_,_,_,h=>by omega
 | f+1,a,x,n,o,U=>by
  have y:=scI a d c a.length;rcases m: (scE a d c a.length).1 with _ | b;have s:scE a d c a.length=(none,(scE a d c a.length).2):=by rw[<- m]
  exact⟨a,d,-1,by rw[coE,s],o,x,n,.inl ⟨rfl,rfl⟩,by have:=(y.nn m).1;omega⟩;obtain⟨z,B,V,I⟩:=y.sm b m;have s:scE a d c a.length=(some b,(scE a d c a.length).2):=by rw[<- m]
  by_cases l: (scE a d c a.length).2=1;refine⟨a,d.set b true,(b:Int),?_,o,x,n,.inr ⟨b,rfl,by omega,(YB.1 B).1,rfl⟩,by omega⟩;rw[coE,s];simp only[Qe l];have D:2<=(scE a d c a.length).2:=by omega
  obtain⟨S,E⟩:=A a b x n o m D;have q:=Qa7 (us:=d) (c:=c) n z;have t:orE a d c b a.length=true:=by refine QaH a.length (QX _) fun i v u r=>Qwb ?_;have C:=S i v (YB.1 r).1;(have e:rwE (rnE a d c b a.length) i=nwE a c b i:=by rw[VJ _ _ _ _ _ (QX _),Qe ⟨v,u,r⟩]);have O:=q i v;unfold aE xE ceE at C;rw[e]at C O;rwa[Mw (c:=c) (by omega)]
  have N:msE (rnE a d c b a.length) d c a.length < msE a d c a.length:=by exact(Ca n z (by have:=(YB.1 B).2;unfold aE at this;omega) (fun j o w=>I j o w) a.length (QX _)).2 (y.tw b m D)
  obtain⟨g,k,p,H,T,Q,K,P,R⟩:=Qlg J G A f (rnE a d c b a.length) (by rwa[Y7]) (by rwa[Y7]) E (by rw[Y7];omega);refine⟨g,k,p,?_,T,Q,K,P,R⟩;rw[coE,s];simp only[Qb l,t,QT];exact H
def J2 (us:Z6) (c Z:Nat) (rs:Zp):Prop:=
 (∀i,i < rs.length->unE us i->aE rs c i<=Z/\aE rs c i+xE rs c i<=Z*Z)/\
 ∀i j,i < rs.length->j < rs.length->i≠j->acE rs us c i=true->acE rs us c j=true->aE rs c i*xE rs c j+aE rs c j*xE rs c i+Z<=Z*Z
def XG:=@Nat.mul_le_mul_left
def QdF {m c Z d} (x:1<=Z) (h: ∀i,i < d.length->unE m i->aE d c i+xE d c i<=Z):J2 m c Z d:=by
 refine⟨fun i e l=> ?_,fun i j e z o t v=> ?_⟩;have:=h i e l;have L:Z*1<=Z*Z:=XG _ x;omega;obtain⟨y,M⟩:=YB.1 t;obtain⟨s,K⟩:=YB.1 v;have C:=h i e y;have f:=h j z s;generalize aE d c i=A at *;generalize aE d c j=B at *;generalize xE d c i=X at *;generalize xE d c j=Y at *;obtain⟨a,rfl⟩: ∃a,A=a+1:=⟨A - 1,by omega⟩;obtain⟨b,rfl⟩: ∃b,B=b+1:=⟨B - 1,by omega⟩;obtain⟨u,l⟩: ∃u,Z=(a+1)+X+u:=⟨Z - (a+1+X),by omega⟩;have J:=f;have w: (a+1)*Y<=(a+1)* (Z - (b+1)):=XG _ (by omega);have D: (b+1)*X<=(b+1)* (Z - (a+1)):=XG _ (by omega);obtain⟨p,k⟩: ∃p,Z=(a+1)+p:=⟨Z - (a+1),by omega⟩;obtain⟨q,n⟩: ∃q,Z=(b+1)+q:=⟨Z - (b+1),by omega⟩;rw[show Z - (b+1)=q by omega]at w;rw[show Z - (a+1)=p by omega]at D;have r:a+p=b+q:=by omega
 have N:Z*Z=(a+1+p)* (b+1+q):=by rw[<- k,<- n]
 have E: (a+1+p)* (b+1+q)=(a+1)*q+ (b+1)*p+ ((a+1)* (b+1)+p*q):=by simp only[GQ,Nat.mul_comm];omega
 have H:Z<=(a+1)* (b+1)+p*q:=by rw[k];by_cases g:q=0;subst g;(have:b=a+p:=by omega);subst this;(have: (a+1)* (a+p+1)=a* (a+p+1)+ (a+p+1):=by rw[Yk,O6]);omega;have G:p*1<=p*q:=XG _ (by omega);have I: (a+1)*1<=(a+1)* (b+1):=XG _ (by omega);omega
 omega
def QdG {us c Z L a b} (M: ∀i,i < a.length->(rwE a i).length=L) (A: ∃i j,∀k,k < a.length->unE us k->k=i\/k=j) (W:J2 us c Z a) (S: (scE a us c a.length).1=some b):J2 us c Z (rnE a us c b a.length):=by
 obtain⟨l,w,s3,s4⟩:=(scI a us c a.length).sm b S;obtain⟨B,I⟩:=YB.1 w;obtain⟨C,K⟩:=W;have x:=fun i d=>EC (us:=us) (c:=c) M l (i:=i) d;have y:=fun i d=>Qa8 (us:=us) (c:=c) M l (i:=i) d;refine⟨fun i d q=> ?_,fun i j d m v V P=> ?_⟩;rw[Y7]at d;have n:=x i d;have t:=y i d;obtain⟨T,k2⟩:=C i d q;by_cases g:i≠b/\acE a us c i=true;rw[Qe g]at n t;have O:=K i b d l g.1 g.2 w;have H:=WU (aE a c i) (Ph I);have N:=(C b l B).1;have o:=JC (aE a c i) (aE a c b);have Y:aE a c b* (xE a c i+aE a c i / aE a c b*xE a c b)<=aE a c b*xE a c i+aE a c i*xE a c b:=by rw[GQ,<- Nat.mul_assoc];have:aE a c b* (aE a c i / aE a c b)<=aE a c i:=Nat.mul_div_le _ _;have:=Yy (xE a c b) this;omega
 have R:1* (xE a c i+aE a c i / aE a c b*xE a c b)<=aE a c b* (xE a c i+aE a c i / aE a c b*xE a c b):=Yy _ (Ph I);rw[O6]at R;rw[n];refine⟨by omega,?_⟩;omega;rw[Qb g]at n t;rw[n];exact⟨T,by omega⟩;rw[Y7]at d m;obtain⟨r,s⟩:=YB.1 V;obtain⟨E,Q⟩:=YB.1 P;have p: ∀i,i < a.length->i≠b->unE us i->aE (rnE a us c b a.length) c i≠0->aE (rnE a us c b a.length) c i*xE (rnE a us c b a.length) c b+aE (rnE a us c b a.length) c b*xE (rnE a us c b a.length) c i+Z<=Z*Z:=by intro i d f r s;have u:=x i d;have J:=y i d;have G:=x b l;have D:=y b l;rw[Qb (fun h=>h.1 rfl)]at G D;by_cases g:acE a us c i=true;rw[Qe ⟨f,g⟩]at u J;have O:=K i b d l f g w;have o:=JC (aE a c i) (aE a c b);rw[u,G];have p1:aE a c i % aE a c b*xE (rnE a us c b a.length) c b<=aE a c i % aE a c b*xE a c b:=XG _ D;have p2:aE a c b*xE (rnE a us c b a.length) c i<=aE a c b* (xE a c i+aE a c i / aE a c b*xE a c b):=XG _ J;(have p3:aE a c b* (xE a c i+aE a c i / aE a c b*xE a c b)=aE a c b*xE a c i+aE a c b* (aE a c i / aE a c b)*xE a c b:=by rw[GQ,Nat.mul_assoc]);(have p4:aE a c i*xE a c b=aE a c b* (aE a c i / aE a c b)*xE a c b+aE a c i % aE a c b*xE a c b:=by rw[<- Yk,o]);omega;rw[Qb (fun h=>g h.2)]at u;rw[u]at s;exact absurd (YB.2 ⟨r,s⟩) g
 obtain⟨i1,X,q⟩:=A;by_cases f:i=b;subst f;have:=p j m (fun e=>v e.symm) E Q;omega;by_cases z:j=b;subst z;exact p i d f r s;exfalso;rcases q i d r with n | n <;> rcases q j m E with t | t <;> rcases q b l B with U | U <;> omega
def cnE (rs:Zp) (us:Z6) (c k:Nat):Nat:=(scE rs us c k).2
def SI (b a c k):cnE b a c (k+1)=cnE b a c k+if acE b a c k then 1 else 0:=by
 unfold cnE;simp only[scE];grind
def Qfk {rs rs2 us c}: ∀k,(∀i,i < k->acE rs2 us c i=true->acE rs us c i=true)->cnE rs2 us c k<=cnE rs us c k
 | 0,_=>by simp[cnE,scE]
 | k+1,h=>by
  have b:=Qfk k fun i a=>h i (by omega);rw[SI,SI];grind
def Qnq {rs rs2 us c i}: ∀k,(∀i,i < k->acE rs2 us c i=true->acE rs us c i=true)->i < k->acE rs us c i=true->acE rs2 us c i=false->cnE rs2 us c k+1<=cnE rs us c k
 | 0,_,h,_,_=>by omega
 | k+1,h,f,d,b=>by
  rw[SI,SI];by_cases a:i=k;subst a;have:=Qfk i fun j e=>h j (by omega);grind;have g:=Qnq k (fun j e=>h j (by omega)) (by omega) d b;grind
def Qer {rs us c k} (h:2<=cnE rs us c k) (b): ∃i,i < k/\i≠b/\acE rs us c i=true:=by
 have e:=scI rs us c k;rcases a: (scE rs us c k).1 with _ | d;have:=(e.nn a).1;unfold cnE at h;omega;obtain⟨o,g,f,p⟩:=e.sm d a;obtain⟨j,n,m,l⟩:=e.tw d a h;grind
def Qlf {f a c e b d}: ∀k,(∀i,i < k->unE a i->i=e\/i=b\/i=d)->cnE f a c k<=3:=by
 intro k h;have j: ∀k,(∀i,i < k->unE a i->i=e\/i=b\/i=d)->cnE f a c k<=(if e < k then 1 else 0)+ (if b < k then 1 else 0)+ (if d < k then 1 else 0):=by intro k;induction k with | zero=>intro _;simp[cnE,scE] | succ k g=>intro h;have g:=g fun i m=>h i (by omega);rw[SI];cases l:acE f a c k;grind; · simp only[QT];have:=h k (by omega) (YB.1 l).1;grind
 grind
def J3 (us:Z6) (c Z G:Nat) (rs:Zp):Prop:=
 (∀i,i < rs.length->unE us i->aE rs c i<=Z/\xE rs c i<=G)/\
 ((∀i,i < rs.length->unE us i->aE rs c i+xE rs c i<=Z)\/cnE rs us c rs.length<=1\/
  ∃b W i0,b < rs.length/\i0 < rs.length/\acE rs us c b=true/\acE rs us c i0=true/\i0≠b/\(∀i,i < rs.length->i≠b->acE rs us c i=true->aE rs c i < aE rs c b)/\(∀i,i < rs.length->acE rs us c i=true->xE rs c i<=W)/\W*aE rs c b*aE rs c i0*2 ^ (cnE rs us c rs.length - 1)<=G)
def Quq {Z m A:Nat} (a:m<=Z) (c:A<=Z):m* (Z - A)+A* (Z - m)<=Z*Z:=by
 obtain⟨u,rfl⟩: ∃u,Z=m+u:=⟨Z - m,by omega⟩;obtain⟨v,b⟩: ∃v,m+u=A+v:=⟨m+u - A,by omega⟩;rw[show m+u - A=v by omega,show m+u - m=u by omega];have e: (m+u)* (m+u)=(m+u)* (A+v):=by grind
 grind
def QhO:=@Nat.div_le_self
def Bu:=@Nat.pow_le_pow_right
def Qqb {us c Z G L a b} (hG:2* (Z*Z*Z)<=G) (hZ:2<=Z) (hL: ∀i,i < a.length->(rwE a i).length=L) (hu3: ∃t i2 i3,∀k,k < a.length->unE us k->k=t\/k=i2\/k=i3) (hj:J3 us c Z G a) (hs: (scE a us c a.length).1=some b) (hn:2<=(scE a us c a.length).2):J3 us c Z G (rnE a us c b a.length):=by
 obtain⟨x,X,s3,s4⟩:=(scI a us c a.length).sm b hs;obtain⟨ub,ab⟩:=YB.1 X;have s:=Ph ab;obtain⟨h1,C⟩:=hj;have B:=fun i g=>EC (us:=us) (c:=c) hL x (i:=i) g;have S:=fun i g=>Qa8 (us:=us) (c:=c) hL x (i:=i) g;have p:=Y7 a us c b a.length;obtain⟨d,Q⟩: ∃d,rnE a us c b a.length=d:=⟨_,rfl⟩;rw[Q]at B S p ⊢;have w:aE d c b=aE a c b:=by grind
 have hXb:xE d c b<=xE a c b:=by grind
 have D:acE d us c b=true:=YB.2 ⟨ub,by omega⟩;have j: ∀i,i < a.length->acE d us c i=true->acE a us c i=true:=by intro i g h;obtain⟨ui,T⟩:=YB.1 h;rw[B i g]at T;by_cases hc:i≠b/\acE a us c i=true;grind;rw[Qb hc]at T;exact YB.2 ⟨ui,T⟩
 have u: ∀i,i < a.length->i≠b->acE d us c i=true->aE d c i < aE d c b:=by intro i g r h;rw[B i g,Qe ⟨r,j i g h⟩,w];exact WU _ s
 have hcn:=Qfk (rs:=a) (rs2:=d) (us:=us) (c:=c) a.length j;have hc3:cnE d us c a.length<=3:=by obtain⟨t,i2,i3,h⟩:=hu3;exact Qlf a.length h
 have M: ∀n,n<=3->2 ^ (n - 1)<=4:=by intro n hn;match n,hn with | 0,_=>decide | 1,_=>decide | 2,_=>decide | 3,_=>decide
 have hZZ:Z*Z*2<=Z*Z*Z:=XG _ hZ;have hZ1:Z*1<=Z*Z:=XG _ (by omega);rcases C with C | C | ⟨f,W,l,U,g2,g3,V,g5,g6,g7,g8⟩;have hbL:=C b x ub;have hW: ∀i,i < a.length->acE a us c i=true->aE a c b*xE d c i<=Z*Z:=by intro i g o;obtain⟨ui,T⟩:=YB.1 o;have P:=C i g ui;have H:=S i g;by_cases r:i=b;subst r;have h5:aE a c i*xE d c i<=Z*Z:=Ma (by omega) (by omega);omega;rw[Qe ⟨r,o⟩]at H;have p1:=XG (aE a c b) H;(have p2:aE a c b* (xE a c i+aE a c i / aE a c b*xE a c b)=aE a c b*xE a c i+aE a c b* (aE a c i / aE a c b)*xE a c b:=by grind);have p3:=Yy (xE a c b) (Nat.mul_div_le (aE a c i) (aE a c b));have p4:aE a c b*xE a c i<=aE a c b* (Z - aE a c i):=XG _ (by omega);have p5:aE a c i*xE a c b<=aE a c i* (Z - aE a c b):=XG _ (by omega);have p6:=Quq (Z:=Z) (m:=aE a c b) (A:=aE a c i) (by omega) (by omega);omega
 have z: ∀i,i < a.length->acE a us c i=true->xE d c i<=Z*Z / aE a c b:=fun i g o=>(Gi s).2 (by grind);have hdv:=QhO (Z*Z) (aE a c b);refine⟨fun i g hu=> ?_,?_⟩;rw[p]at g;have P:=C i g hu;by_cases q:acE a us c i=true;have H:=z i g q;have o:=B i g;refine⟨?_,by omega⟩;rw[o];split;have:=Nat.mod_le (aE a c i) (aE a c b);omega;omega;grind;rw[p];by_cases h1c:cnE d us c a.length<=1;omega;obtain⟨l,v,K,N⟩:=Qer (rs:=d) (us:=us) (c:=c) (k:=a.length) (by omega) b;refine .inr (.inr ⟨b,Z*Z / aE a c b,l,x,v,D,N,K,u,fun i g o=>z i g (j i g o),?_⟩);have q:=j l v N;have O:=B l v;rw[Qe ⟨K,q⟩]at O;have hmin':aE a c b<=aE a c l:=(s4 l v q);have P:=C l v (YB.1 q).1;rw[w,O];have q2:=M _ hc3;have q3:Z*Z / aE a c b*aE a c b* (aE a c l % aE a c b)<=Z*Z* (aE a c l % aE a c b):=Yy _ (Nat.div_mul_le_self _ _);have q4:Z*Z* (2* (aE a c l % aE a c b))<=Z*Z*Z:=XG _ (by have J:=JC (aE a c l) (aE a c b);have e2:=WU (aE a c l) s;have e3:1<=aE a c l / aE a c b:=(Gi s).2 (by omega);have R:=XG (aE a c b) e3;omega);have q5:Z*Z* (2* (aE a c l % aE a c b))=2* (Z*Z* (aE a c l % aE a c b)):=by grind
 have q6:Z*Z / aE a c b*aE a c b* (aE a c l % aE a c b)*2 ^ (cnE d us c a.length - 1)<=Z*Z / aE a c b*aE a c b* (aE a c l % aE a c b)*4:=XG _ q2;omega;unfold cnE at C;omega;have E:b≠f:=by intro e;subst e;have J:=g6 l g2 g5 V;have e2:=s4 l g2 V;unfold aE at J;omega
 have hbb0:=g6 b x E X;have hcn2:2<=cnE a us c a.length:=hn;have hF:W*aE a c f*aE a c b*2 ^ (cnE a us c a.length - 1)<=G:=by refine Y8 (Yy _ (XG _ (s4 l g2 V))) g8
 have I: ∀i,i < a.length->acE a us c i=true->xE d c i<=W* (1+aE a c f / aE a c b):=by intro i g o;have H:=S i g;have hw:=g7 i g o;by_cases r:i=b;grind;rw[Qe ⟨r,o⟩]at H;(have hle:aE a c i<=aE a c f:=by by_cases h:i=f;grind;exact Nat.le_of_lt (g6 i g h o));have p1:aE a c i / aE a c b*xE a c b<=aE a c f / aE a c b*W:=Ma (Nat.div_le_div_right hle) (g7 b x X);grind
 have hq:1+aE a c f / aE a c b<=2* (aE a c f*aE a c b):=by have J:=QhO (aE a c f) (aE a c b);have e2:aE a c f*1<=aE a c f*aE a c b:=XG _ s;omega
 have hW2:W* (1+aE a c f / aE a c b)<=G:=by have p1:=XG W hq;(have p2:W* (2* (aE a c f*aE a c b))=W*aE a c f*aE a c b*2:=by grind);have p3:=XG (W*aE a c f*aE a c b) (by have:2 ^ 1<=2 ^ (cnE a us c a.length - 1):=Bu (by decide) (by omega);omega);omega
 refine⟨fun i g hu=> ?_,?_⟩;rw[p]at g;obtain⟨v,K⟩:=h1 i g hu;by_cases q:acE a us c i=true;have H:=I i g q;have o:=B i g;refine⟨?_,by omega⟩;rw[o];split;have:=Nat.mod_le (aE a c i) (aE a c b);omega;omega;have o:=B i g;have H:=S i g;grind;rw[p];by_cases h1c:cnE d us c a.length<=1;omega;have y:=B f U;rw[Qe ⟨fun e=>E e.symm,g3⟩]at y;have hdm:=JC (aE a c f) (aE a c b);by_cases hz:aE a c f % aE a c b=0;have hc2:=Qnq (rs:=a) (rs2:=d) (us:=us) (c:=c) (i:=f) a.length j U g3 (by cases h:acE d us c f;rfl;have:=(YB.1 h).2;omega);obtain⟨t,v,K,N⟩:=Qer (rs:=d) (us:=us) (c:=c) (k:=a.length) (by omega) b;refine .inr (.inr ⟨b,W* (1+aE a c f / aE a c b),t,x,v,D,N,K,u,fun i g o=>I i g (j i g o),?_⟩);have ha1:=u t v K N;rw[w]at ha1 ⊢;have J: (1+aE a c f / aE a c b)*aE d c t<=(1+aE a c f / aE a c b)*aE a c b:=XG _ (by omega);have e2: (1+aE a c f / aE a c b)*aE a c b=aE a c b+aE a c b* (aE a c f / aE a c b):=by grind
 have e3: (1+aE a c f / aE a c b)*aE d c t<=2*aE a c f:=by omega
 obtain⟨e,he⟩: ∃e,cnE a us c a.length - 1=e+1:=⟨cnE a us c a.length - 2,by omega⟩;rw[he,Nat.pow_succ]at hF;have R:2 ^ (cnE d us c a.length - 1)<=2 ^ e:=Bu (by decide) (by omega);have e5:W* (1+aE a c f / aE a c b)*aE a c b*aE d c t=W*aE a c b* ((1+aE a c f / aE a c b)*aE d c t):=by grind
 have e6:=XG (W*aE a c b) e3;have e7:W*aE a c b* (2*aE a c f)=W*aE a c f*aE a c b*2:=by grind
 have Y:W* (1+aE a c f / aE a c b)*aE a c b*aE d c t<=W*aE a c f*aE a c b*2:=by omega
 have e9:=Ma Y R;grind;refine .inr (.inr ⟨b,W* (1+aE a c f / aE a c b),f,x,U,D,(YB.2 ⟨(YB.1 g3).1,by omega⟩),fun e=>E e.symm,u,fun i g o=>I i g (j i g o),?_⟩);rw[w,y];have J: (1+aE a c f / aE a c b)* (aE a c f % aE a c b)<=aE a c f:=by have p1:aE a c f / aE a c b* (aE a c f % aE a c b)<=aE a c f / aE a c b*aE a c b:=XG _ (Nat.le_of_lt (WU (aE a c f) s));grind
 have e5:W* (1+aE a c f / aE a c b)*aE a c b* (aE a c f % aE a c b)=W*aE a c b* ((1+aE a c f / aE a c b)* (aE a c f % aE a c b)):=by grind
 have e6:=XG (W*aE a c b) J;have e7:W*aE a c b*aE a c f=W*aE a c f*aE a c b:=by grind
 have Y:W* (1+aE a c f / aE a c b)*aE a c b* (aE a c f % aE a c b)<=W*aE a c f*aE a c b:=by omega
 have R:2 ^ (cnE d us c a.length - 1)<=2 ^ (cnE a us c a.length - 1):=Bu (by decide) (by omega);have e9:=Ma Y R;omega
structure S4 where
 a0:Nat
 x0:Nat
 a1:Nat
 x1:Nat
 a2:Nat
 x2:Nat
 a3:Nat
 x3:Nat
def S4.a (s:S4):Xs
 | 0=>s.a0
 | 1=>s.a1
 | 2=>s.a2
 | _=>s.a3
def S4.x (s:S4):Xs
 | 0=>s.x0
 | 1=>s.x1
 | 2=>s.x2
 | _=>s.x3
def rA (p:Bool) (m a:Nat):Nat:=if p then a else a % m
def rX (p:Bool) (m y a x:Nat):Nat:=if p then x else x+a / m*y
def S4.step (s:S4) (b:Nat):S4:=
 ⟨rA (b == 0) (s.a b) s.a0,rX (b == 0) (s.a b) (s.x b) s.a0 s.x0,rA (b == 1) (s.a b) s.a1,rX (b == 1) (s.a b) (s.x b) s.a1 s.x1,
  rA (b == 2) (s.a b) s.a2,rX (b == 2) (s.a b) (s.x b) s.a2 s.x2,rA (b == 3) (s.a b) s.a3,rX (b == 3) (s.a b) (s.x b) s.a3 s.x3⟩
def S4.min (s:S4) (b:Nat):Bool:=s.a b != 0 && (s.a0 == 0 || Nat.ble (s.a b) s.a0) && (s.a1 == 0 || Nat.ble (s.a b) s.a1) && (s.a2 == 0 || Nat.ble (s.a b) s.a2) && (s.a3 == 0 || Nat.ble (s.a b) s.a3)
def S4.bnd (s:S4):Bool:=Nat.ble (s.a0+s.x0) 72 && Nat.ble (s.a1+s.x1) 72 && Nat.ble (s.a2+s.x2) 72 && Nat.ble (s.a3+s.x3) 72
def nz1 (n:Nat):Nat:=if n == 0 then 0 else 1
def S4.one (s:S4):Bool:=Nat.ble (nz1 s.a0+nz1 s.a1+nz1 s.a2+nz1 s.a3) 1
def S4.safe:Nat->S4->Bool
 | 0,s=>s.bnd && s.one
 | f+1,s=>s.bnd && (s.one || ((!s.min 0 || S4.safe f (s.step 0)) && (!s.min 1 || S4.safe f (s.step 1)) && (!s.min 2 || S4.safe f (s.step 2)) && (!s.min 3 || S4.safe f (s.step 3))))
def Lf (p:Nat->Bool):Nat->Bool
 | 0=>true
 | n+1=>p n && Lf p n
def HD (a b c d:Nat):S4:=⟨a,9 - a,b,9 - b,c,9 - c,d,9 - d⟩
def QpZ:Lf (fun a=>Lf (fun b=>Lf (fun c=>Lf (fun d=>S4.safe 5 (HD a b c d)) 10) 10) 10) 10=true:=by kernel_rfl
def Sd {p}: ∀{n},Lf p n=true->∀i,i < n->p i=true
 | n+1,h,i,b=>by
  simp only[Lf,Qr]at h;rcases Pc.1 b with a | a;exact Sd h.2 i a;subst a;exact h.1
def QiL {a b c d} (h:a<=9) (e:b<=9) (f:c<=9) (g:d<=9):S4.safe 5 (HD a b c d)=true:=
 Sd (Sd (Sd (Sd QpZ a (by omega)) b (by omega)) c (by omega)) d (by omega)
def J4 (c:Nat) (rs:Zp):Prop:=∃f s,S4.safe f s=true/\∀i,i < 4->aE rs c i=s.a i/\xE rs c i<=s.x i
def QmH {f s} (h:S4.safe f s=true):s.bnd=true:=by
 cases f <;> simp only[S4.safe,Qr]at h <;> exact h.1
def Fp {c d} (h:J4 c d): ∀i,i < 4->aE d c i+xE d c i<=72:=by
 obtain⟨f,s,k,j⟩:=h;have e:=QmH k;simp only[S4.bnd,Qr,Nat.ble_eq]at e;obtain⟨⟨⟨l,m⟩,n⟩,o⟩:=e;intro i g;obtain⟨b,a⟩:=j i g;match i,g with | 0,_=>simp only[S4.a,S4.x]at b a;omega | 1,_=>simp only[S4.a,S4.x]at b a;omega | 2,_=>simp only[S4.a,S4.x]at b a;omega | 3,_=>simp only[S4.a,S4.x]at b a;omega
def QdI {c a} (h: ∀i,i < 4->aE a c i+xE a c i<=9):J4 c a:=by
 refine⟨5,HD (aE a c 0) (aE a c 1) (aE a c 2) (aE a c 3),QiL ?_ ?_ ?_ ?_,?_⟩;have:=h 0 (by omega);omega;have:=h 1 (by omega);omega;have:=h 2 (by omega);omega;have:=h 3 (by omega);omega;intro i b;have:=h i b;match i,b with | 0,_=>exact⟨rfl,by simp only[S4.x,HD];omega⟩ | 1,_=>exact⟨rfl,by simp only[S4.x,HD];omega⟩ | 2,_=>exact⟨rfl,by simp only[S4.x,HD];omega⟩ | 3,_=>exact⟨rfl,by simp only[S4.x,HD];omega⟩
def QhP:=@Bool.and_false
def QhV:=@beq_self_eq_true
def QdJ {us c L g b} (M:g.length=4) (Y: ∀i,i < 4->unE us i) (I: ∀i,i < g.length->(rwE g i).length=L) (K:J4 c g) (hs: (scE g us c g.length).1=some b) (hn:2<=(scE g us c g.length).2):J4 c (rnE g us c b g.length):=by
 obtain⟨H,R,s3,N⟩:=(scI g us c g.length).sm b hs;obtain⟨ub,ab⟩:=YB.1 R;obtain⟨f,s,z,t⟩:=K;have d: ∀i,i < 4->acE g us c i=(s.a i != 0):=by intro i j;have e:=(t i j).1;rw[Gz,YB,e];constructor;intro h;simpa using h.2;intro h;exact⟨Y i j,by simpa using h⟩
 have o:s.one=false:=by(have B:cnE g us c 4=nz1 s.a0+nz1 s.a1+nz1 s.a2+nz1 s.a3:=by rw[SI,SI,SI,SI,d 0 (by omega),d 1 (by omega),d 2 (by omega),d 3 (by omega)];simp only[S4.a,nz1,cnE,scE];cases h0:s.a0 <;> cases z:s.a1 <;> cases t:s.a2 <;> cases h3:s.a3 <;> simp);(have:2<=cnE g us c 4:=by rwa[<- M]);rw[B]at this;cases h:s.one;rfl;simp only[S4.one,Nat.ble_eq]at h;omega
 have n:b < 4:=by omega
 have w:s.min b=true:=by(have m: ∀i,i < 4->(s.a i == 0 || Nat.ble (s.a b) (s.a i))=true:=by intro i j;by_cases r:s.a i=0;simp[r];have:=N i (by omega) (by rw[d i j];simpa using r);have q:=(t i j).1;have E:=(t b n).1;unfold aE at q E;rw[q,E]at this;simp[this]);(have D: (s.a b != 0)=true:=by rwa[<- d b n]);have U: (s.a0 == 0 || Nat.ble (s.a b) s.a0)=true:=m 0 (by omega);have Q: (s.a1 == 0 || Nat.ble (s.a b) s.a1)=true:=m 1 (by omega);have X: (s.a2 == 0 || Nat.ble (s.a b) s.a2)=true:=m 2 (by omega);have O: (s.a3 == 0 || Nat.ble (s.a b) s.a3)=true:=m 3 (by omega);simp only[S4.min,D,VS];rw[U,Q,X,O];rfl
 obtain⟨C,W⟩: ∃C,S4.safe C (s.step b)=true:=by cases f with | zero=>simp only[S4.safe,o,QhP]at z;cases z | succ f=>simp only[S4.safe,o,Pm,Qr,WI,Tp]at z;obtain⟨_,⟨⟨⟨S,P⟩,Z⟩,V⟩⟩:=z;refine⟨f,?_⟩;(have l: ∀k,(s.min k=false\/S4.safe f (s.step k)=true)->b=k->S4.safe f (s.step b)=true:=by intro k u e;subst e;rcases u with u | u;rw[w]at u;cases u;exact u);match b,n with | 0,_=>exact l 0 S rfl | 1,_=>exact l 1 P rfl | 2,_=>exact l 2 Z rfl | 3,_=>exact l 3 V rfl
 refine⟨C,s.step b,W,fun i j=> ?_⟩;have v:=(fun i j=>EC (us:=us) (c:=c) I H (i:=i) j) i (by omega);have y:=(fun i j=>Qa8 (us:=us) (c:=c) I H (i:=i) j) i (by omega);obtain⟨q,E⟩:=t i j;obtain⟨J,T⟩:=t b n;have A: (s.step b).a i=rA (b == i) (s.a b) (s.a i)/\(s.step b).x i=rX (b == i) (s.a b) (s.x b) (s.a i) (s.x i):=by match i,j with | 0,_=>exact⟨rfl,rfl⟩ | 1,_=>exact⟨rfl,rfl⟩ | 2,_=>exact⟨rfl,rfl⟩ | 3,_=>exact⟨rfl,rfl⟩
 rw[A.1,A.2];by_cases p:i=b;subst p;rw[Qb (fun h=>h.1 rfl)]at v y;simp only[rA,rX,QhV,QT];exact⟨by rw[v,q],by omega⟩;have G: (b == i)=false:=by simp only[Lw,ne_eq];exact fun e=>p e.symm
 simp only[rA,rX,G,Xn,ZT];by_cases r:s.a i=0;rw[Qb (by rw[d i j,r];simp)]at v y;rw[v,q,r];exact⟨by simp,by simp;omega⟩;rw[Qe (⟨p,by rw[d i j];simpa using r⟩)]at v y;rw[v,q,J];rw[q,J]at y;refine⟨rfl,Y8 y ?_⟩;have:=XG (s.a i / s.a b) T;omega
end Go.Am
