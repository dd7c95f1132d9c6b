/-
  Kn19, Kn21, Kn61, Kn62, Kn63, Kn64, Kn65, Kn66, Rc45, Kn67, Kn68, Kn69, Kn70.
-/
import Derived.Test.YthlnfdbbneaelaaGreatDoorG20
import Derived.Test.YthlnfdbbneaelaaGreatDoorG24
import Derived.Test.YthlnfdbbneaelaaGreatDoorG15
import Derived.Test.YthlnfdbbneaelaaGreatDoorG21
set_option linter.all false
open Go.Am.F
namespace Go.Am
set_option maxRecDepth 20000
def QhF (l t z) (G:l.length < 100000000) (E: ∀x∈l,x.mass < big) (C:t.mass < big):
  ∀a c b d n,l=c ++ a->b.length<=c.length+1->(d=false->b.length=c.length)->n 0= .sl false 4 (Qa l)->n 3= .bx (Qd t)->n 5= .sl true 4 (Qa b)->n 6= .bool d->n 7= .int .i64 c.length->
  R tb (.loop f731l0) n z (Qi 0 (Qu tb f731r0 (Qz f731 z)))=some (.sl true 4 (Qa (b ++ if d then a else ZA t a)),z):=by
 intro a;induction a with | nil=>intro c b d n i B u h j p q o;simp only[QH]at i;rw[<- i]at o B u;(have f: (b.length+1)*56<=140737488355328:=by omega);rw[Qc f731l0.eq_1];cases d;simp[h,j,p,q,o,f731r0,f,ZA,Qf,ZN,Q7];simp[h,j,p,q,o,f731r0,f] | cons x a s=>intro c b d n i B u h j p q o;have w:=QB i;have D:=QJ i;have m:=wr1 c.length (by omega);have k:=QN i;have f: (b.length+1)*56<=140737488355328:=Wb (by omega);have g: (b.length+1+1)*56<=140737488355328:=Wb (by clear f;omega);have y:=Uw t x z C (E x (by rw[i];simp));rw[Qc f731l0.eq_1];cases d;have u:=u rfl;by_cases v:Qm t x < 0;(have r:Qm t x<=0:=by omega);(have e:b ++ (if false=true then x:: a else ZA t (x:: a))=(b ++ [t]++ [x])++ (if true=true then a else ZA t a):=by simp[ZA,v]);rw[e];simp[h,j,p,q,o,w,k,m,y,v,r,f,g,Qf,ZN,Q7];clear f g;rw[s (c ++ [x]) (b ++ [t]++ [x]) true] <;> simp[h,j,i] <;> omega;by_cases A:Qm t x=0;(have e:b ++ (if false=true then x:: a else ZA t (x:: a))=(b ++ [x])++ (if true=true then a else ZA t a):=by simp[ZA,A]);rw[e];simp[h,j,p,q,o,w,k,m,y,A,f,Qf,ZN,Q7];clear f g;rw[s (c ++ [x]) (b ++ [x]) true] <;> simp[h,j,i] <;> omega;(have r: ¬Qm t x<=0:=by omega);(have e:b ++ (if false=true then x:: a else ZA t (x:: a))=(b ++ [x])++ (if false=true then a else ZA t a):=by simp[ZA,v,A]);rw[e];simp[h,j,p,q,o,w,k,m,y,v,r,f,Qf,ZN,Q7];clear f g;rw[s (c ++ [x]) (b ++ [x]) false] <;> simp[h,j,i] <;> omega;(have e:b ++ (if true=true then x:: a else ZA t (x:: a))=(b ++ [x])++ (if true=true then a else ZA t a):=by simp);rw[e];simp[h,j,p,q,o,w,k,m,y,f,Qf,ZN,Q7];clear f g;rw[s (c ++ [x]) (b ++ [x]) true] <;> simp[h,j,i] <;> omega
def Qpg (l t o a) (c:l.length < 100000000) (b: ∀x∈l,x.mass < big) (d:t.mass < big):
  call tb 731 [.sl o 4 (Qa l),.agg (Qd t)] a=some (.sl true 4 (Qa (ZA t l)),a):=by
 have h:=fun e=>QhF l t a c b d l [] [] false e rfl (by simp) (fun _=>rfl);rw[zcc 731 rfl rfl];simp[f731C];simp at h;refine h _ ?_ ?_ ?_ ?_ ?_ <;> simp[Qa]
def QhG (l t n) (B:l.length < 100000000) (s: ∀x∈l,x.mass < big) (z:t.mass < big):
  ∀b a d,l=a ++ b->d 0= .sl false 4 (Qa l)->d 3= .bx (Qd t)->d 5= .sl true 4 (Qa (a.filter (fun x=> !decide (Qm x t=0))))->d 6= .int .i64 a.length->
  R tb (.loop f730l0) d n (Qi 0 (Qu tb f730r0 (Qz f730 n)))=some (.sl true 4 (Qa (l.filter (fun x=> !decide (Qm x t=0)))),n):=by
 intro b;induction b with | nil=>intro a d c f h e g;simp only[QH]at c;rw[<- c]at e g;rw[Qc f730l0.eq_1];simp[f,e,g,f730r0] | cons x b r=>intro a d c f h e g;have q:=QB c;have v:=QJ c;have j:=wr1 a.length (by omega);have i:=QN c;have y:=Sz (fun x=> !decide (Qm x t=0)) a;have u: ((a.filter (fun x=> !decide (Qm x t=0))).length+1)*56<=140737488355328:=Wb (by omega);have p:=Vs x t n (s x (by rw[c];simp)) z;have m:=r (a ++ [x]);rw[Qc f730l0.eq_1];by_cases k:Qm x t=0;(have o: (a ++ [x]).filter (fun x=> !decide (Qm x t=0))=a.filter (fun x=> !decide (Qm x t=0)):=by simp[k]);rw[o]at m;generalize a.filter (fun x=> !decide (Qm x t=0))=A at *;generalize l.filter (fun x=> !decide (Qm x t=0))=w at *;simp[f,h,e,g,q,i,j,p,k,Qf];rw[m] <;> simp[f,h,e,c];(have o: (a ++ [x]).filter (fun x=> !decide (Qm x t=0))=a.filter (fun x=> !decide (Qm x t=0))++ [x]:=by simp[k]);rw[o]at m;generalize a.filter (fun x=> !decide (Qm x t=0))=A at *;generalize l.filter (fun x=> !decide (Qm x t=0))=w at *;simp[f,h,e,g,q,i,j,p,k,u,Qf,ZN,Q7];rw[m] <;> simp[f,h,c]
def Qpf (l t o a) (d:l.length < 100000000) (c: ∀x∈l,x.mass < big) (f:t.mass < big):
  call tb 730 [.sl o 4 (Qa l),.agg (Qd t)] a=some (.sl true 4 (Qa (WS l t)),a):=by
 have h:=fun i=>QhG l t a d c f l [] i rfl;have g:=P8 l t false a d c f;rw[zcc 730 rfl rfl];cases b:QA l t;have e:WS l t=ZA t l:=by simp[WS,b]
 rw[e];simp[f730C,Qf,g,b,(Qpg l t false a d c f)];have e:WS l t=l.filter (fun x=> !decide (Qm x t=0)):=by simp[WS,b]
 rw[e];generalize l.filter (fun x=> !decide (Qm x t=0))=j at *;simp[f730C,Qf,g,b];refine h _ ?_ ?_ ?_ ?_ <;> simp[Qa]
def QbC (b k) (w:b.length < 40000000) (u: ∀x∈b,x.mass < big):
  ∀c d a e,b=d ++ c->a.length+c.length < 90000000->(∀x∈a,x.mass < big)->e 1= .sl false 4 (Qa b)->e 5= .sl true 4 (Qa a)->e 6= .int .i64 d.length->
  R tb (.loop f729l0) e k (Qi 0 (Qu tb f729r0 (Qz f729 k)))=some (.sl true 4 (Qa (Yz a c)),k):=by
 intro c;induction c with | nil=>intro d a e f n g j l i;simp only[QH]at f;rw[<- f]at i;rw[Qc f729l0.eq_1];simp[j,l,i,f729r0,Yz] | cons x c o=>intro d a e f n g j l i;have r:=QJ f;have p:=u x (by rw[f];simp);(have q:a.length+ (c.length+1) < 90000000:=by simpa using n);have s:=Qpf a x false k (by omega) g p;(have t: (WS a x).length<=a.length+1:=by have:=UR [x] a;simpa[Yz]using this);(have m: ∀y∈WS a x,y.mass < big:=fun y v=>by rcases HH.1 v with h | h;exact g y h.1;rwa[h.1]);rw[Qc f729l0.eq_1];simp[j,l,i,(QB f),(QN f),(wr1 d.length (by omega)),s];rw[show Yz a (x:: c)=Yz (WS a x) c from rfl];refine(fun e=>o (d ++ [x]) (WS a x) e (by rw[f];simp) (by omega) m) _ ?_ ?_ ?_ <;> simp[j]
def Qpe (a b o h f) (j:a.length < 40000000) (g:b.length < 40000000) (d: ∀x∈a,x.mass < big) (e: ∀x∈b,x.mass < big):
  call tb 729 [.sl o 4 (Qa a),.sl h 4 (Qa b)] f=some (.sl true 4 (Qa (Yz a b)),f):=by
 have c:a.length*56<=140737488355328:=Wb (by omega);rw[zcc 729 rfl rfl];simp[f729C,c];refine(fun i=>QbC b f g e b [] a i rfl (by omega) d) _ ?_ ?_ ?_ <;> simp
def QeT (t e) (G:t.mass < 30000000) (E: ∀x∈t.kids,∀e,call tb 728 [.agg (Qd x)] e=some (.sl true 4 (Qa (QD x)),e)):
  ∀b c a d,t.kids=c ++ b->a.length+Qs b < 30000000->(∀x∈a,x.mass < big)->d 1= .bx (Qd t)->d 3= .sl true 4 (Qa a)->d 4= .int .i64 c.length->
  R tb (.loop f728l0) d e (Qi 0 (Qu tb f728r0 (Qz f728 e)))=some (.sl true 4 (Qa (Z0 a b)),e):=by
 have D:=QI t;intro b;induction b with | nil=>intro c a d f r g m o n;simp only[QH]at f;rw[<- f]at n;rw[Qc f728l0.eq_1];simp[m,o,n,f728r0,Z0] | cons x b u=>intro c a d f r g m o n;have s:=QB f;have v:=QJ f;(have A:t.kids[c.length]'(by omega)=x:=by have:=Q0 (l:=t.kids) (i:=c.length) (by omega);rw[s]at this;injection this with this;exact this.symm);(have k:x∈t.kids:=by rw[f];simp);have C:=QY k;have B:=YU x;have w:=WC x;simp only[Qs]at r;(have j: ∀y∈QD x,y.mass < big:=fun y p=>by have:=V5 x y (Rx x y p);unfold big;omega);have z:=UR (QD x) a;(have q: ∀y∈Yz a (QD x),y.mass < big:=fun y p=>by rcases W0 (WV x) p with h | h;exact g y h;exact j y h);rw[Qc f728l0.eq_1];simp[m,o,n,s,(QN f),(wr1 c.length (by omega)),(E x k e),(Qpe a (QD x) false false e (by omega) (by omega) g j),Z0];refine(fun d=>u (c ++ [x]) (Yz a (QD x)) d (by rw[f];simp) (by omega) q) _ ?_ ?_ ?_ <;> simp[m]
def Qpd: ∀t f,t.mass < 30000000->call tb 728 [.agg (Qd t)] f=some (.sl true 4 (Qa (QD t)),f):=by
 refine YC ?_;intro k n s a p f l;have h:=QI (.mk k n s a);have m:=Y6 a;simp only[ZP,Y5]at h;rw[zcc 728 rfl rfl];by_cases b:k=3;by_cases d:n=Ys;rcases a with _ | ⟨x,o⟩;simp[f728C,Qd,Qa,QD,b,d,Ys];simp only[Ys]at d;have: ¬((o.length:Int)+1=0):=by omega
 simp[f728C,Qd,QD,b,d,Ys,XOR,this,Qa];by_cases c:n=XOR;have e:QD (.mk k n s a)=Z0 [] a:=by simp[QD,b,c,Ys,XOR]
 rw[e];have g: (n == [122,101,114,111])=false:=by simpa[Ys]using d
 simp only[XOR]at c;simp[f728C,Qd,b,c];refine(fun r=>QeT (.mk k n s a) f l (fun x c f=>p x c f (by have:=QY c;simp at this;omega)) a [] [] r rfl (by simp;omega) (by simp)) _ ?_ ?_ ?_ <;> simp[Qd,Qa,b,c];have e:QD (.mk k n s a)=[.mk k n s a]:=by simp[QD,b,c,d]
 rw[e];have g: (n == [122,101,114,111])=false:=by simpa[Ys]using d
 have i: (n == [120,111,114])=false:=by simpa[XOR]using c
 have j: (n != [120,111,114])=true:=by simpa[XOR]using c
 simp[f728C,Qd,b,g,i,Qa];have e:QD (.mk k n s a)=[.mk k n s a]:=by simp[QD,b]
 rw[e];have q: (k != 3)=true:=by simp[b]
 simp[f728C,Qd,b,q,Qa]
def QcI (t B) (c:t.mass < 1000000) (b:QR t=0):call tb 312 [.agg (Qd t)] B=some (.otup 4 (Qa (QD t)) [.int .i64 0],B):=by
 have a:=WW t B (by unfold big;omega);rw[b]at a;rw[zcc 312 rfl rfl];simp[f312C,a,(Qpd t B (by omega)),Qf,(YG (QD t))]
def QqP (s u) (h:SH s u) (t):
  ∀f a j,s=a ++ f->j 0= .sl false 4 (Qa s)->j 3= .bx (Qd u)->j 5= .sl true 4 (Qa (YH s u))->j 10= .sl true 4 (Qa (a.filter (XP (YH s u))))->j 11= .int .i64 a.length->
  R tb (.loop f311l1) j t (Qi 2 (Qu tb f311r0 (Qz f311 t)))=some (.bool (Sr s u),t):=by
 have N:=HG h;have I:=h.len;intro f;induction f with | nil=>intro a j m l w q c g;simp only[QH]at m;rw[<- m]at g c;have Q:=Uy (XP (YH s u)) s;have H:=h.nod;obtain⟨v,e,G,P⟩:=Qou (KL s u) u false t (by unfold KL;omega) (fun x r=>h.mass x (X1.1 r).1) h.um h.right;have O:KL s u=s.filter (XP (YH s u)):=rfl;rw[O]at G;(have L:decide (e=0)=Sr s u:=by unfold Sr;rwa[Jx]);rw[<- L];generalize s.filter (XP (YH s u))=S at *;rw[Qc f311l1.eq_1];simp[l,w,c,g,f311r0,Qf,G] | cons x f J=>intro a j m l w q c g;have C:=QB m;have M:=QJ m;have o:=wr1 a.length (by omega);have n:=QN m;(have A:x∈s:=by rw[m];simp);(have B:x.mass < big:=by have:=h.mass x A;unfold big;omega);have b:=Ww x XOR t;have d:=LJ (YH s u) x false t (by omega) (Ii h) B;have K:=Sz (XP (YH s u)) a;(have i: ((a.filter (XP (YH s u))).length+1)*56<=140737488355328:=by omega);have p:=fun j=>J (a ++ [x]) j (by rw[m];simp);simp only[XOR]at b;rw[Qc f311l1.eq_1];by_cases r:isB x XOR=true;(have y: (a ++ [x]).filter (XP (YH s u))=a.filter (XP (YH s u))++ [x]:=by simp[SD,XP,r]);rw[y]at p;simp only[XOR]at r;rw[r]at b;generalize a.filter (XP (YH s u))=D at *;generalize YH s u=E at *;simp[l,c,g,C,n,o,Qf,b,i,ZN,Q7];refine p _ ?_ ?_ ?_ ?_ ?_ <;> simp[l,w,q];(have k:isB x XOR=false:=by simpa using r);simp only[XOR]at k;rw[k]at b;cases z:QA (YH s u) x;(have y: (a ++ [x]).filter (XP (YH s u))=a.filter (XP (YH s u)):=by simp[SD,XP,XOR,k,z]);rw[y]at p;rw[z]at d;generalize a.filter (XP (YH s u))=D at *;generalize YH s u=E at *;simp[l,q,c,g,C,n,o,Qf,b,d,i,ZN,Q7];refine p _ ?_ ?_ ?_ ?_ ?_ <;> simp[l,w,q,c];(have y: (a ++ [x]).filter (XP (YH s u))=a.filter (XP (YH s u))++ [x]:=by simp[SD,XP,XOR,k,z]);rw[y]at p;rw[z]at d;generalize a.filter (XP (YH s u))=D at *;generalize YH s u=E at *;simp[l,q,c,g,C,n,o,Qf,b,d,i,ZN,Q7];refine p _ ?_ ?_ ?_ ?_ ?_ <;> simp[l,w,q]
def QqO (s u) (h:SH s u) (k):
  ∀b a d,s=a ++ b->d 0= .sl false 4 (Qa s)->d 3= .bx (Qd u)->d 5= .sl true 4 (Qa (QD u ++ YR (a.filter fun t=>isB t XOR)))->d 7= .int .i64 a.length->
  R tb (.loop f311l0) d k (Qi 0 (Qu tb f311r1 (Qz f311 k)))=some (.bool (Sr s u),k):=by
 have B:=h.len;have C:=h.nod;intro b;induction b with | nil=>intro a d f i n g m;simp only[QH]at f;rw[<- f]at m g;have z:=fun d=>QqP s u h k s [] d rfl;have e:QD u ++ YR (s.filter fun t=>isB t XOR)=YH s u:=rfl;rw[e]at g;generalize YH s u=K at *;rw[Qc f311l0.eq_1];simp[i,m,f311r1];refine z _ ?_ ?_ ?_ ?_ ?_ <;> simp[i,n,g,Qa] | cons x b G=>intro a d f i n g m;have A:=QB f;have H:=QJ f;have r:=wr1 a.length (by omega);have o:=QN f;(have q:x∈s:=by rw[f];simp);have c:=Ww x XOR k;have l:=fun d=>G (a ++ [x]) d (by rw[f];simp);simp only[XOR]at c;rw[Qc f311l0.eq_1];by_cases v:isB x XOR=true;(have w: (a ++ [x]).filter (fun t=>isB t XOR)=a.filter (fun t=>isB t XOR)++ [x]:=by simp[SD,v]);(have J: (QD u ++ YR (a.filter fun t=>isB t XOR)).length+ (QD x).length < 90000:=by have z:=WC u;have L:=Ro (a.filter fun t=>isB t XOR);have n:=Uy (fun t=>isB t XOR) a;have M:=WC x;(have g:Qs s=Qs a+ (x.nodes+Qs b):=by rw[f,YT];simp[Qs]);simp only[Zl];omega);(have p: ((QD u ++ YR (a.filter fun t=>isB t XOR)).length+ (QD x).length)*56<=140737488355328:=by omega);rw[w,Ao,<- ZX]at l;(have E:YR [x]=QD x:=by simp[YR]);rw[E]at l;simp only[XOR]at v;rw[v]at c;generalize QD u ++ YR (a.filter fun t=>isB t XOR)=y at *;(have I: (Qa y).length=y.length:=by simp[ZM]);(have D: (Qa (QD x)).length=(QD x).length:=by simp[ZM]);simp[i,g,m,A,o,r,Qf,c,(QcI x k (h.mass x q) (h.v x q)),p,I,D];refine l _ ?_ ?_ ?_ ?_ <;> simp[n,i,Q7];(have j:isB x XOR=false:=by simpa using v);(have w: (a ++ [x]).filter (fun t=>isB t XOR)=a.filter (fun t=>isB t XOR):=by simp[SD,j]);rw[w]at l;simp only[XOR]at j;rw[j]at c;generalize QD u ++ YR (a.filter fun t=>isB t XOR)=y at *;simp[i,m,A,o,r,Qf,c];refine l _ ?_ ?_ ?_ ?_ <;> simp[n,i,g]
def Qot (s u) (h:SH s u) (o a):call tb 311 [.sl o 4 (Qa s),.agg (Qd u)] a=some (.bool (Sr s u),a):=by
 rw[zcc 311 rfl rfl];simp[f311C,(QcI u a h.um h.uv),Qf];refine(fun b=>QqO s u h a s [] b rfl) _ ?_ ?_ ?_ ?_ <;> simp[YR]
def YY (t:Tm):Bool:=isB t MUL || isB t INV
def Z9 (s:Qj) (l:Qw):Qw:=l.filter fun p=> !QA s p.1
def Xq (s0 s:Qj):List Qw:=(s.filter YY).map fun t=>Z9 s0 (ofP t)
def UY (s:Qj) (m:Qw):Bool:=decide (meE (Xq s s) (Z9 s m)=0)
def HX (s l): (Z9 s l).length<=l.length:=Sz _ _
def EE {l} (s) (h:SmP l):SmP (Z9 s l):=⟨Nat.lt_of_le_of_lt (HX s l) h.1,fun q a=>h.2 q (X1.1 a).1⟩
def Qed {a}: ∀{s},(∀x∈s,x.mass < 1000000)->∀g∈Xq a s,SmP g:=by
 intro s h g b;obtain⟨t,c,rfl⟩:=Yg.1 b;exact EE a (TY (h t (X1.1 c).1))
def Km (a s): (Xq a s).length<=s.length:=by simp[Xq];exact Sz _ _
def Qoo (t b):call tb 297 [.agg (Qd t)] b=some (.bool (YY t),b):=by
 have a:=Ww t MUL b;have d:=Ww t INV b;unfold MUL at a;unfold INV at d;rw[zcc 297 rfl rfl];unfold YY MUL INV;cases c:isB t [109,117,108];rw[c]at a;simp[f297C,a,d,Qf];rw[c]at a;simp[f297C,a,Qf]
def Qm7 (s a p):Z9 s (a ++ [p])=Z9 s a ++ (if QA s p.1 then []else [p]):=by
 simp only[Z9,SD];cases h:QA s p.1 <;> simp[h]
def Qwy (s l) (B:s.length < 1000000) (C: ∀x∈s,x.mass < big) (r:SmP l) (t):
  ∀b a o h d,l=a ++ b->d 0= .sl o 5 (Qt l)->d 1= .sl h 4 (Qa s)->d 5= .sl true 5 (Qt (Z9 s a))->d 6= .int .i64 a.length->
  R tb (.loop f321l0) d t (Qi 0 (Qu tb f321r0 (Qz f321 t)))=some (.sl false 5 (Qt (Z9 s l)),t):=by
 intro b;induction b with | nil=>intro a o h d f i j k u;simp only[QH]at f;subst f;rw[Qc f321l0.eq_1];simp[i,j,k,u,f321r0] | cons p b z=>intro a o h d f i j k u;have y:=QB f;have E:=QJ f;have q:IntKind.i64.wrap ((a.length:Int)+1)=(a.length:Int)+1:=QC (by have:=r.1;omega) (by have:=r.1;omega);have m:=QN f;(have v:p∈l:=by rw[f];simp);have D:=r.2 p v;have c:=LJ s p.1 false t (by omega) C (by unfold big;omega);have g:=fun o h d=>z (a ++ [p]) o h d (by rw[f];simp);rw[Qm7]at g;have A:=HX s a;(have e: ((Z9 s a).length+1)*64<=140737488355328:=by have:=r.1;omega);(have n:Qt (Z9 s a)++ [Q9 p]=Qt (Z9 s a ++ [p]):=by simp[Qt]);rw[Qc f321l0.eq_1];cases w:QA s p.1;rw[w]at c g;simp only[Xn,ZT]at g;simp[i,j,k,u,y,m,q,c,e,n];apply g o h <;> simp[i,j];rw[w]at c g;simp only[QT,QH]at g;simp[i,j,k,u,y,m,q,c,e];apply g o h <;> simp[i,j,k]
def QcM (s l o c a) (b:s.length < 1000000) (d: ∀x∈s,x.mass < big) (e:SmP l):
  call tb 321 [.sl o 5 (Qt l),.sl c 4 (Qa s)] a=some (.sl false 5 (Qt (Z9 s l)),a):=by
 rw[zcc 321 rfl rfl];simp[f321C];apply(fun f=>Qwy s l b d e a l [] false false f rfl) <;> simp[Z9,Qt]
def Qui (s m) (L:s.length < 100000) (B: ∀x∈s,x.mass < 1000000) (E:SmP m) (g):
  ∀b a o i f,s=a ++ b->f 0= .sl o 4 (Qa s)->f 1= .sl i 5 (Qt m)->f 5= .sl true 1 (ZS (Xq s a))->f 6= .int .i64 a.length->
  R tb (.loop f320l0) f g (Qi 0 (Qu tb f320r0 (Qz f320 g)))=some (.bool (UY s m),g):=by
 have q: ∀x∈s,x.mass < big:=fun x G=>by have:=B x G;unfold big;omega
 intro b;induction b with | nil=>intro a o i f h j w r A;simp only[QH]at h;subst h;have d:=QcM s m false false g (by omega) q E;obtain⟨O,e,n,K⟩:=Qoz (Xq s s) (Z9 s m) false false g (by have:=Km s s;omega) (Qed B) (EE s E);(have u:UY s m=decide (e=0):=by unfold UY;exact Jx.2 K.symm);(have I:Qn .eql (.int .i64 e) (.int .i64 0)=some (.bool (decide (e=0))):=by by_cases M:e=0 <;> simp[Qn,M]);rw[u];rw[Qc f320l0.eq_1];simp[-Qn,show ∀x y,Qn .lss (.int .i64 x) (.int .i64 y)=some (.bool (decide (x < y)))from fun x y=>by simp only[Qn,QT],j,w,r,A,f320r0,d,n,I] | cons t b H=>intro a o i f h j w r A;have u:=QB h;have N:=QJ h;have k:=wr1 a.length (by omega);have p:=QN h;have D:=B t (by rw[h];simp);have c:=Qoo t g;have d:=QcM s (ofP t) false false g (by omega) q (TY D);have v:=fun o i f=>H (a ++ [t]) o i f (by rw[h];simp);have J:=Km s a;(have l: ((Xq s a).length+1)*24<=140737488355328:=by omega);rw[Qc f320l0.eq_1];cases z:YY t;(have C:Xq s (a ++ [t])=Xq s a:=by simp[Xq,z]);rw[z]at c;rw[C]at v;simp[j,A,u,p,k,c,Qf];apply v o i <;> simp[j,w,r];(have C:Xq s (a ++ [t])=Xq s a ++ [Z9 s (ofP t)]:=by simp[Xq,z]);rw[z]at c;rw[C,<- (Nv (Xq s a) [Z9 s (ofP t)])]at v;simp[j,r,A,u,p,k,c,(NK t g (by omega)),d,Qf,(Nx (Z9 s (ofP t))),l];apply v o i <;> simp[j,w]
def QcL (s m o f a) (b:s.length < 100000) (c: ∀x∈s,x.mass < 1000000) (d:SmP m):
  call tb 320 [.sl o 4 (Qa s),.sl f 5 (Qt m)] a=some (.bool (UY s m),a):=by
 rw[zcc 320 rfl rfl];simp[f320C];apply(fun e=>Qui s m b c d a s [] false false e rfl) <;> simp[Xq,ZS]
def Er (s:Qj) (u:Tm):Bool:=decide (ofE u=0) && UY s (ofP u)
def Ey (s:Qj) (u:Tm):Bool:=s.any fun t=>Rk u t && UY s (PJ u t)
def QoD (s u o b) (c:s.length < 100000) (e: ∀x∈s,x.mass < 1000000) (d:u.mass < 1000000):
  call tb 330 [.sl o 4 (Qa s),.agg (Qd u)] b=some (.bool (Er s u),b):=by
 have a:=NK u b (by omega);rw[zcc 330 rfl rfl];unfold Er;by_cases h:ofE u=0;simp[f330C,a,(QcL s (ofP u) false false b c e (TY d)),h,Qf];simp[f330C,a,h,Qf]
def QuM (s u) (D:s.length < 100000) (J: ∀x∈s,x.mass < 1000000) (M:u.mass < 1000000) (L: ∀x∈s,isB x EXP=true->x.kids.length=2) (l):
  ∀b d o n h,s=d ++ b->h 0= .sl o 4 (Qa s)->h 5= .bx (Qd (Ws u))->h 6= .sl n 5 (Qt (YO u))->h 7= .int .i64 d.length->
  R tb (.loop f317l0) h l (Qi 0 (Qu tb f317r0 (Qz f317 l)))=some (.bool (b.any fun t=>Rk u t && UY s (PJ u t)),l):=by
 obtain⟨E,_⟩:=M7 M;have Q:=Nt u;intro b;induction b with | nil=>intro d o n h m e i j p;simp only[QH]at m;subst m;rw[Qc f317l0.eq_1];simp[e,p,f317r0] | cons t b P=>intro d o n h m e i j p;have A:=QB m;have O:=QJ m;have f:=wr1 d.length (by omega);have g:=QN m;(have k:t∈s:=by rw[m];simp);have q:=J t k;obtain⟨I,B⟩:=QcK t l q (L t k);obtain⟨K,N⟩:=M7 q;have H:=Qbq K;have C:=fun o=>Qoy (YO t) o l K.1 N;have y:=fun o I=>QcH (YO u) (Yt (YO t)) o I l (by have:=E.1;omega) (by have:=H.1;omega) E.big H.big;have S:=Nt t;have z:=Vs (Ws u) (Ws t) l (by unfold big;omega) (by unfold big;omega);have G:=fun o n h=>P (d ++ [t]) o n h (by rw[m];simp);have a:=QcL s (PJ u t) false false l D J (Qbp E H);unfold PJ at a;simp only[GL];rw[Qc f317l0.eq_1];by_cases c:Qm (Ws u) (Ws t)=0;by_cases w:VP (YO u) (Yt (YO t))=0;(have v:Rk u t=true:=by simp[Rk,c,w]);rw[v];cases r:UY s (PJ u t);rw[show UY s (X2 (YO u) (Yt (YO t)))=false from r]at a;simp[e,i,j,p,A,g,f,B,C,y,z,c,w,a,Qf];rw[G o n] <;> simp[e,i,j];rw[show UY s (X2 (YO u) (Yt (YO t)))=true from r]at a;simp[e,i,j,p,A,g,f,B,C,y,z,c,w,a,Qf];(have v:Rk u t=false:=by simp[Rk,w]);rw[v];simp[e,i,j,p,A,g,f,B,C,y,z,c,w,Qf];rw[G o n] <;> simp[e,i,j];(have v:Rk u t=false:=by simp[Rk,c]);rw[v];simp[e,i,j,p,A,g,f,B,C,y,z,c,Qf];rw[G o n] <;> simp[e,i,j]
def Qox (s u o a) (c:s.length < 100000) (g: ∀x∈s,x.mass < 1000000) (e:u.mass < 1000000) (f: ∀x∈s,isB x EXP=true->x.kids.length=2) (b:isB u EXP=true->u.kids.length=2):
  call tb 317 [.sl o 4 (Qa s),.agg (Qd u)] a=some (.bool (Ey s u),a):=by
 obtain⟨d,h⟩:=QcK u a e b;rw[zcc 317 rfl rfl];simp[f317C,h,Qf];unfold Ey;apply(fun d i=>QuM s u c g e f a s [] false d i rfl) false <;> simp
noncomputable def XS (s:Qj) (u:Tm):Bool:=QA s u || Uv u || Mn s u || Lm s u || Sr s u || Ey s u || Er s u
structure StC (s:List Tm) (u:Tm):Prop where
 len:s.length < 100000
 gs:GS s
 um:u.mass < 1000000
 ek: ∀x∈s,isB x EXP=true->x.kids.length=2
 eu:isB u EXP=true->u.kids.length=2
 sh:Uv u=false->SH s u
def Qoq (s u o a) (h:StC s u):call tb 308 [.sl o 4 (Qa s),.agg (Qd u)] a=some (.bool (XS s u),a):=by
 have v:=h.gs.1;have q:=fun x t=>(h.gs.2 x t).2;have d:=LJ s u false a (by omega) h.gs.bg (by have:=h.um;unfold big;omega);have e:=Qod u a h.um;have g:=Qor s u false a (by omega) h.gs.bg h.um;have i:=Qos s u false a h.gs h.um;have n:=Qox s u false a h.len q h.um h.ek h.eu;have r:=QoD s u false a h.len q h.um;rw[zcc 308 rfl rfl];unfold XS;cases b:QA s u;cases c:Uv u;have l:=Qot s u (h.sh c) false a;cases f:Mn s u;cases j:Lm s u;cases k:Sr s u;cases m:Ey s u;cases p:Er s u;simp[f308C,d,e,g,i,l,n,r,b,c,f,j,k,m,p,Qf];simp[f308C,d,e,g,i,l,n,r,b,c,f,j,k,m,p,Qf];simp[f308C,d,e,g,i,l,n,b,c,f,j,k,m,Qf];simp[f308C,d,e,g,i,l,b,c,f,j,k,Qf];simp[f308C,d,e,g,i,b,c,f,j,Qf];simp[f308C,d,e,g,b,c,f,Qf];simp[f308C,d,e,b,c,Qf];simp[f308C,d,b,Qf]
def kpW (s:Qj) (p:Pw):Bool:= !QA s p.1
def YK (ks:Qw):Qx:=ks.flatMap Q9
def QlH (a): (a.map Q9).flatten.map AV.strip=YK a:=by
 induction a with | nil=>rfl | cons k a b=>simp only[ZI,To,Xt,b,Wt,YK,BG]
def RL (a): (YK a).length=a.length*5:=by
 induction a with | nil=>rfl | cons k a b=>simp only[YK,BG,Zl,WY]at *;grind
def MW (a b):YK (a ++ b)=YK a ++ YK b:=by simp[YK]
def Tu (a b):YK (a:: b)=Q9 a ++ YK b:=by simp[YK]
@[simp] def Qqh: ∀l:Qw,ZL (l.map Q9)=true
 | []=>rfl
 | k:: l=>by simp[ZL,Qqh l]
def Aw (b): ∀a n,a.length=n->ZW (a ++ YK b) n 5 b.length=b.map Q9:=by
 induction b with | nil=>intro a n h;rfl | cons k b c=>intro a n h;unfold ZW at *;rw[ZH,List.range_succ_eq_map,ZI,Mc,ZI,<- (c (a ++ Q9 k) (n+5) (by simp_all))];refine List.cons_eq_cons.2 ⟨?_,S6 fun j _=> ?_⟩;rw[Tu];simp_all;simp only[Function.comp_apply,Tu,ZX];grind
def K1 (a):ZW (YK a) 0 5 a.length=a.map Q9:=Aw a [] 0 rfl
def Qmj {c a b x} (h:c=a ++ x:: b): ((YK c).drop (a.length*5)).take 5=Q9 x:=by
 subst h;rw[MW,Tu,<- RL];simp
def Qgt {c a b} (h:c=a ++ b): (YK c).take (a.length*5)=YK a:=by
 subst h;rw[MW,<- RL];simp
def Qfo {c b a} (h:c=b ++ a): (YK c).drop (b.length*5)=YK a:=by
 subst h;rw[MW,<- RL];simp
def Li (a): (YK a).map AV.strip=YK a:=by
 induction a with | nil=>rfl | cons k a b=>rw[Tu,Xt,b,Wt]
def Ty {α:Type} (p:α->Bool) (i:Nat):List α->Int
 | []=> -1
 | x:: xs=>if p x then i else Ty p (i+1) xs
def QbB (c s u g d) (q:d[u]? =some (YK c)) (A:d[g]? =some [.sl false 4 (Qa s)]) (B: ∀(x:Pw) (d:Qp),x∈c->d[g]? =some [.sl false 4 (Qa s)]->call tb 558 [.agg (Q9 x),.gp g 0] d=some (.bool (!kpW s x),d)) (C:c.length < 1000000):
  ∀b a f,c=a ++ b->f 0= .gs u 0 5 c.length->f 1= .fn 558 [.gp g 0]->f 7= .int .i64 c.length->f 8= .int .i64 a.length->
  R tb (.loop f205l0) f d (Qi 0 (Qu tb f205r0 (Qz f205 d)))=
   some (.int .i64 (Ty (fun k=> !kpW s k) a.length b),d):=by
 intro b;induction b with | nil=>intro a f e j l o r;rw[Qc f205l0.eq_1];simp only[QH]at e;rw[<- e]at r;simp[j,l,o,r,f205r0,Ty] | cons x b z=>intro a f e j l o r;have y:=QJ e;have n:=wr1 a.length (by omega);have m:=QN e;have t:=Qmj e;have i:=RL c;(have p:a.length*5+5<=c.length*5:=by omega);have w:=B x d (by grind) A;have h:=Li c;generalize YK c=D at *;rw[Qc f205l0.eq_1];cases v:kpW s x;simp[j,l,o,r,n,m,q,t,i,p,w,v,h,Ty];simp[j,l,o,r,n,m,q,t,i,p,w,v,h,Ty];rw[z (a ++ [x])] <;> simp[j,l,o,e]
def Ax {c a n}:ZW c 0 a n=ZW ((c.map AV.strip).take (n*a)) 0 a n:=by
 unfold ZW;refine S6 fun j b=> ?_;have b:=O4.1 b;have d:j*a+a<=n*a:=by have:=Yy a (Nat.succ_le_of_lt b);grind
 simp only[Z1];rw[List.drop_take,LF,JD (by omega),<- O5,<- S7,Mc];exact S6 fun x _=>(OP x).symm
def JU {c K} (h: (c.map AV.strip).take (K.length*5)=YK K):ZW c 0 5 K.length=K.map Q9:=by
 rw[Ax,h,K1]
def QnJ (n K i B c) (m:i < B.length) (h:c.length=n*5) (t:K.length<=n) (z:n < 1000000) (u: (c.map AV.strip).take (K.length*5)=YK K)
  (p) (j:p 0= .gs i 0 5 n) (k:p 5= .int .i64 K.length):
  ∃o w,R tb f559r0 p (B.set i c) (Qz f559 B)=some (.sl o 5 (K.map Q9),B.set i w):=by
 have v: (K.length:Int)<=(n:Int):=by omega
 by_cases f:n - K.length=0;by_cases a:K.length=0;have:K=[]:=Yu a;subst this;refine⟨false,c,?_⟩;simp at f;subst f;have l:=Yu (by rw[h]);subst l;simp[f559r0,j,k,Yh,Z8,Z7];have d:=JU u;refine⟨true,[],?_⟩;have r:K≠[]:=fun e=>a (by grind);have b:K.length*5<=n*5:=by omega
 simp[f559r0,j,k,Yh,f,a,t,b,Z8,Z7,m,h,d];have b:K.length*5+ (n - K.length)*5<=n*5:=by omega
 by_cases a:K.length=0;have:K=[]:=Yu a;subst this;refine⟨false,put c 0 (List.replicate (n*5) .undef),?_⟩;simp at f b;have x:c.drop (n*5)=[]:=Pr (by omega);simp[f559r0,j,k,Yh,f,h,m,x,Z8,Z7];have d:ZW (put c (K.length*5) (List.replicate ((n - K.length)*5) .undef)) 0 5 K.length=K.map Q9:=by apply JU;rw[put,ZX,Xt,S7,Pq (by grind),LF,Nat.min_self,u]
 refine⟨true,[],?_⟩;have r:K≠[]:=fun e=>a (by grind);have g:K.length*5<=n*5:=by omega
 have q: (put c (K.length*5) (List.replicate ((n - K.length)*5) .undef)).length=n*5:=by simp[put,h];omega
 generalize s:put c (K.length*5) (List.replicate ((n - K.length)*5) .undef)=y at *;simp[put]at s;simp[f559r0,j,k,Yh,f,a,t,b,g,q,s,Z8,Z7,m,h,d]
def Qjn {c:Qx} {n a d K b x} (l:c.length=n*5) (h:a=K.length) (g:a<=d) (j:d < n)
  (f: (c.map AV.strip).take (a*5)=YK K) (k: (c.map AV.strip).drop (d*5)=YK (x:: b)):
  (c.take (a*5)++ (Q9 x ++ c.drop (a*5+5))).length=n*5/\
  ((c.take (a*5)++ (Q9 x ++ c.drop (a*5+5))).map AV.strip).take ((a+1)*5)=YK (K ++ [x])/\
  ((c.take (a*5)++ (Q9 x ++ c.drop (a*5+5))).map AV.strip).drop ((d+1)*5)=YK b:=by
 have i: (c.take (a*5)).length=a*5:=by grind
 have e:=WY x;refine⟨by grind,?_,?_⟩;rw[Xt,Xt,S7,f,Wt,MW,show YK [x]=Q9 x by simp[YK],<- ZX,Pq (by grind)];grind;rw[Xt,Xt,O0,Pr (by grind),Xg,O0,Pr (by grind),Xg,O5,GE];simp only[UD,i,e];rw[show a*5+5+ ((d+1)*5 - a*5 - 5)=d*5+5 by omega,<- GE,k,Tu];simp
def QgG (K:Qw) (B:Qp) (id:Nat) (r:Option (AV×Qp)):Prop:=∃o c',r=some (.sl o 5 (K.map Q9),B.set id c')
def QgH (f s h g B) (G:h < B.length) (S:g≠h) (W:B[g]? =some [.sl false 4 (Qa s)]) (T: ∀(x:Pw) (H:Qp),x∈f->H[g]? =some [.sl false 4 (Qa s)]->call tb 558 [.agg (Q9 x),.gp g 0] H=some (.bool (!kpW s x),H)) (P:f.length < 1000000):
  ∀b a c d,f=a ++ b->c.length=f.length*5->(c.map AV.strip).take ((a.filter (kpW s)).length*5)=YK (a.filter (kpW s))->
   (c.map AV.strip).drop (a.length*5)=YK b->d 0= .gs h 0 5 f.length->d 1= .fn 558 [.gp g 0]->d 5= .int .i64 (a.filter (kpW s)).length->d 6= .int .i64 a.length->
  QgG (f.filter (kpW s)) B h (R tb (.loop f559l0) d (B.set h c) (Qi 0 (Qu tb f559r0 (Qz f559 B)))):=by
 intro b;induction b with | nil=>intro a c d y j J C i t r A;simp only[QH]at y;subst y;rw[Qc f559l0.eq_1];simp[i,A];exact(fun d=>QnJ f.length (f.filter (kpW s)) h B c G j (Sz _ _) P J d) _ (by simp[i]) (by simp[r]) | cons x b N=>intro a c d y j J C i t r A;have O:=QJ y;have I:=Sz (kpW s) a;have w:=wr1 a.length (by omega);have L:IntKind.i64.wrap (((a.filter (kpW s)).length:Int)+1)=((a.filter (kpW s)).length:Int)+1:=QC (by omega) (by omega);have u:=QN y;(have l: ((a.filter (kpW s)).length:Int) < (f.length:Int):=by omega);(have z:List.take 5 (List.drop (a.length*5) (c.map AV.strip))=Q9 x:=by rw[C,Tu];simp);(have p:a.length*5+5<=f.length*5:=by omega);(have v: (a.filter (kpW s)).length*5+5<=f.length*5:=by omega);(have K: (B.set h c)[g]? =some [.sl false 4 (Qa s)]:=by grind);have n:=T x (B.set h c) (by grind) K;have o:=Wt x;have q:List.take 5 (Q9 x)=Q9 x:=Z7 (by simp);have k:=WY x;(have Q:Q3 (Q9 x)=true:=by simp);(have e:f=(a ++ [x])++ b:=by grind);rw[Qc f559l0.eq_1];cases D:kpW s x;(have E: (a ++ [x]).filter (kpW s)=a.filter (kpW s):=by simp[D]);(have M: (c.map AV.strip).drop ((a ++ [x]).length*5)=YK b:=by rw[show(a ++ [x]).length*5=a.length*5+5 by grind,<- GE,C,Tu];simp);have m:=fun d=>N (a ++ [x]) c d e j (by grind) M;rw[E]at m;simp[i,t,r,A,G,w,u,z,j,p,n,D,q,k,o];exact m _ (by simp[i]) (by simp[t]) (by simp[r]) (by simp);obtain⟨U,X,V⟩:=Qjn j rfl I (by omega) J C;(have E: (a ++ [x]).filter (kpW s)=a.filter (kpW s)++ [x]:=by simp[D]);have m:=fun d=>N (a ++ [x]) _ d e U (by rwa[E,Zl]) (by rwa[Zl]);rw[E]at m;simp[i,t,r,A,G,w,L,u,l,z,j,p,v,n,D,q,k,o];exact m _ (by simp[i]) (by simp[t]) (by simp) (by simp)
def Fk {b} (p): ∀(l:List b) i,Ty p i l= -1->l.any p=false
 | [],_,_=>rfl
 | x:: c,i,h=>by
  simp only[Ty]at h;cases a:p x;rw[a]at h;simp only[GL,a,Pm];exact Fk p c (i+1) (by omega);grind
def Fl {f} (p): ∀(l:List f) i,Ty p i l≠ -1->∃b a,l=b ++ a/\b.any p=false/\Ty p i l=(i+b.length:Nat)/\∃x c,a=x:: c/\p x=true
 | [],_,h=>by simp[Ty]at h
 | x:: d,i,h=>by
  cases e:p x;simp only[Ty,e]at h ⊢;obtain⟨b,a,j,m,k,y,q,g⟩:=Fl p d (i+1) (by grind);grind;exact⟨[],x:: d,rfl,rfl,by simp[Ty,e],x,d,rfl,e⟩
def QbM (b s c g a) (d:a[c]? =some (YK b)) (f:a[g]? =some [.sl false 4 (Qa s)]) (h: ∀(x:Pw) (a:Qp),x∈b->a[g]? =some [.sl false 4 (Qa s)]->call tb 558 [.agg (Q9 x),.gp g 0] a=some (.bool (!kpW s x),a)) (i:b.length < 1000000):
  call tb 205 [.gs c 0 5 b.length,.fn 558 [.gp g 0]] a=some (.int .i64 (Ty (fun k=> !kpW s k) 0 b),a):=by
 rw[zcc 205 rfl rfl];simp[f205C];have:=fun e=>QbB b s c g a d f h i b [] e rfl;simp_all
def Ae (a s d g B) (e:B[d]? =some (YK a)) (r:g≠d) (C:B[g]? =some [.sl false 4 (Qa s)]) (A: ∀(x:Pw) (w:Qp),x∈a->w[g]? =some [.sl false 4 (Qa s)]->call tb 558 [.agg (Q9 x),.gp g 0] w=some (.bool (!kpW s x),w)) (z:a.length < 1000000):
  ∃o I,call tb 559 [.gs d 0 5 a.length,.fn 558 [.gp g 0]] B=some (.sl o 5 ((a.filter (kpW s)).map Q9),B.set d I):=by
 have f: ∀c,B[d]? =some c->B.set d c=B:=fun c h=>U4 fun j=>by grind
 have i:=QbM a s d g B e C A z;show QgG (a.filter (kpW s)) B d _;rw[zcc 559 rfl rfl];by_cases n:Ty (fun k=> !kpW s k) 0 a= -1;have M:=Fk _ a 0 n;have t:=RL a;have u:=K1 a;rcases a with _ | ⟨k,a⟩;refine⟨false,YK [],?_⟩;rw[f _ e];simp only[Xy]at i;rw[n]at i;simp[f559C,i,Z8];refine⟨true,[],?_⟩;rw[(BA.2 fun k E=>by grind)];have p:Q3 (Q9 k)=true:=by simp
 simp only[ZH]at *;rw[n]at i;simp[f559C,i,Z8,e,t,u,p,Z7];obtain⟨b,y,H,N,K,x,l,L,O⟩:=Fl _ a 0 n;have v:IntKind.i64.wrap ((b.length:Int)+1)=(b.length:Int)+1:=QC (by omega) (by grind);have G:b.filter (kpW s)=b:=BA.2 fun k E=>by grind
 have m: (b ++ [x]).filter (kpW s)=b:=by grind
 have D:=fun J=>QgH a s d g B (by grind) r C A z l (b ++ [x]) (YK a) J (by grind) (RL a) (by rw[m,Li];exact Qgt H) (by rw[Li];exact Qfo (by grind));rw[m,f _ e]at D;have q:Ty (fun k=> !kpW s k) 0 a=(b.length:Int):=by omega
 rw[q]at i;simp[f559C,i,(by omega),v];simp_all
def Qo0 (s p g a) (e:s.length < 100000000) (b: ∀x∈s,x.mass < big) (f:p.1.mass < big) (d:Asc s) (c:a[g]? =some [.sl false 4 (Qa s)]):
  call tb 558 [.agg (Q9 p),.gp g 0] a=some (.bool (!kpW s p),a):=by
 rw[zcc 558 rfl rfl];simp[f558C,c,(PZ s p.1 false a e b f d),kpW]
def UnR (s:Qj) (l:Qw) (bs:Qp) (r:Out):Prop:=∃o,r=some (.sl o 5 (Qt (Z9 s l)),bs)
def Qrn (s l):l.filter (kpW s)=Z9 s l:=rfl
def Qc3 (s l o p a) (h:s.length < 100000000) (w: ∀x∈s,x.mass < big) (z:Asc s) (n:SmP l):
  UnR s l a (call tb 556 [.sl o 4 (Qa s),.sl p 5 (Qt l)] a):=by
 rw[zcc 556 rfl rfl];by_cases c:l=[];subst c;have d: ∀B,call tb 557 [.sl false 5 []] B=some (.gs 0 0 0 0,B):=fun B=>by rw[Xv tb_557];simp[WD,Ui]
 have b: ∀B,call tb 205 [.gs 0 0 0 0,.fn 558 [.gp a.length 0]] B=some (.int .i64 (-1),B):=fun B=>by rw[zcc 205 rfl rfl];simp[f205C];rw[Qc f205l0.eq_1];simp[f205r0]
 have q: ∀B,call tb 559 [.gs 0 0 0 0,.fn 558 [.gp a.length 0]] B=some (.sl true 5 [],B):=fun B=>by have:=b B;rw[zcc 559 rfl rfl];simp[f559C,this,Z8]
 refine⟨true,?_⟩;simp[f556C,d,q,Qt,Z9];have g:=n.1;have d:call tb 557 [.sl false 5 (Qt l)] (a ++ [[AV.sl false 4 (Qa s)]])=some (.gs (a.length+1) 0 5 l.length,a ++ [[AV.sl false 4 (Qa s)]]++ [YK l]):=by rw[Xv tb_557];have A: (Qt l).flatten.map AV.strip=YK l:=QlH l;(have f: (Qt l).length=l.length:=by simp[Qt]);have C: ¬Qt l=[]:=fun e=>c (by rw[e]at f;exact Yu f.symm);(have r:l.length*64<=140737488355328:=by omega);simp[WD,Ui,A,f,(Mp l),c,r]
 obtain⟨m,k,b⟩:=Ae l s (a.length+1) a.length _ (by(have:a.length+1=(a ++ [[AV.sl false 4 (Qa s)]]).length:=by simp);rw[this];exact Yv) (by omega) (Za (Yv) _) (fun x B u y=>Qo0 s x a.length B h w (n.big x u) z y) g;rw[Qrn]at b;have i: ((a ++ [[AV.sl false 4 (Qa s)]]++ [YK l]).set (a.length+1) k).take a.length=a:=by rw[T3 _ _ (by simp)];simp
 refine⟨m,?_⟩;generalize D:Qt l=E at *;generalize v: (a ++ [[AV.sl false 4 (Qa s)]]++ [YK l]).set (a.length+1) k=t at *;have j:call tb 559 [.gs (a.length+1) 0 5 l.length,.fn 558 [.gp a.length 0]] (a ++ [[AV.sl false 4 (Qa s)]]++ [YK l])=some (.sl m 5 (Qt (Z9 s l)),t):=b;simp[-List.append_assoc,f556C,d,j,i]
def J7 (s:Qj) (m:Qw):Bool:=decide (Z9 s m=[]) || UY s m
def QcS (t a):call tb 522 [.agg (Qd t)] a=some (.bool (YY t),a):=by
 have h:=Hl t MUL INV true a;have b:=Hl t MUL INV false a;unfold MUL INV at h b;rw[zcc 522 rfl rfl];unfold YY MUL INV;simp[f522C,b,Qf]
def QqF (s m) (I:s.length < 100000) (E: ∀x∈s,x.mass < 1000000) (L:Asc s) (M:SmP m) (k):
  ∀c a o j l g,s=a ++ c->g 0= .sl o 4 (Qa s)->g 1= .sl j 5 (Qt (Z9 s m))->g 5= .sl true 1 (ZS (Xq s a))->g 18= .sl l 4 (Qa s)->g 19= .int .i64 s.length->g 20= .int .i64 a.length->
  R tb (.loop f555l0) g k (Qi 0 (Qu tb f555r0 (Qz f555 k)))=some (.bool (UY s m),k):=by
 intro c;induction c with | nil=>intro a o j l g i w z A f d h;simp only[QH]at i;subst i;obtain⟨T,e,n,O⟩:=Qo1 (Xq s s) (Z9 s m) false false k (by have:=Km s s;omega) (Qed E) (EE s M);(have C:UY s m=decide (e=0):=by unfold UY;exact Jx.2 O.symm);(have J:Qn .eql (.int .i64 e) (.int .i64 0)=some (.bool (decide (e=0))):=by by_cases H:e=0 <;> simp[Qn,H]);rw[C];rw[Qc f555l0.eq_1];simp[-Qn,show ∀x y,Qn .lss (.int .i64 x) (.int .i64 y)=some (.bool (decide (x < y)))from fun x y=>by simp only[Qn,QT],z,A,f,d,h,f555r0,n,J] | cons t c Q=>intro a o j l g i w z A f d h;have C:=QB i;have K:=QJ i;have q:=wr1 a.length (by omega);have r:=QN i;have G:=E t (by rw[i];simp);have b:=QcS t k;obtain⟨S,p⟩:=Qc3 s (ofP t) false false k (by omega) (fun x N=>by have:=E x N;unfold big;omega) L (TY G);have v:=fun o j l g=>Q (a ++ [t]) o j l g (by rw[i];simp);have P:=Km s a;(have u: ((Xq s a).length+1)*24<=140737488355328:=by omega);rw[Qc f555l0.eq_1];cases B:YY t;(have D:Xq s (a ++ [t])=Xq s a:=by simp[Xq,B]);rw[B]at b;rw[D]at v;simp[f,d,h,C,r,q,b,Qf];apply v o j l <;> simp[w,z,A,f,d];(have D:Xq s (a ++ [t])=Xq s a ++ [Z9 s (ofP t)]:=by simp[Xq,B]);rw[B]at b;rw[D,<- (Nv (Xq s a) [Z9 s (ofP t)])]at v;simp[w,A,f,d,h,C,r,q,b,(RE t k (by omega)),p,Qf,(Nx (Z9 s (ofP t))),u];apply v o j l <;> simp[w,z,f,d]
def Qc2 (s m o f b) (d:s.length < 100000) (k: ∀x∈s,x.mass < 1000000) (i:Asc s) (j:SmP m):
  call tb 555 [.sl o 4 (Qa s),.sl f 5 (Qt m)] b=some (.bool (J7 s m),b):=by
 have h:=fun f r=>QqF s m d k i j b s [] false f false r rfl;obtain⟨p,a⟩:=Qc3 s m false false b (by omega) (fun x l=>by have:=k x l;unfold big;omega) i j;have g: (Qt (Z9 s m)).length=(Z9 s m).length:=by simp[Qt]
 rw[zcc 555 rfl rfl];unfold J7;by_cases c:Z9 s m=[];have q:Qt []=[]:=rfl;rw[c,q]at a;simp[f555C,a,c];have t: ¬(Z9 s m).length=0:=fun e=>c (Yu e);have n: ¬((Z9 s m).length:Int)=0:=by omega
 rw[Xe c,Pm];generalize u:Qt (Z9 s m)=E at *;generalize Z9 s m=U at *;simp[f555C,a,t,g];apply h p <;> simp[Xq,ZS]
def FC (s:Qj) (u:Tm):Bool:=decide (ofE u=0) && J7 s (ofP u)
def Qo6 (s u o b) (c:s.length < 100000) (d: ∀x∈s,x.mass < 1000000) (e:Asc s) (f:u.mass < 1000000):
  call tb 568 [.sl o 4 (Qa s),.agg (Qd u)] b=some (.bool (FC s u),b):=by
 have a:=RE u b (by omega);rw[zcc 568 rfl rfl];unfold FC;by_cases h:ofE u=0;simp[f568C,a,(Qc2 s (ofP u) false false b c d e (TY f)),h,Qf];simp[f568C,a,h,Qf]
def IC (t d) (j:t.mass < 1000000) (h:isB t EXP=true->t.kids.length=2):Qru t d (call tb 553 [.agg (Qd t)] d):=by
 have b:=Rm t EXP true d;have a:=Rm t EXP false d;have f:=Ya t;rw[zcc 553 rfl rfl];cases c:isB t EXP;have e:Rf t=false:=by simp[Rf,c]
 rw[c]at b a;unfold EXP at b a;refine⟨false,?_⟩;simp[f553C,a,Ws,YO,e,Qt,Qf];have g:=h c;have e:Rf t=true:=by simp[Rf,c,g]
 rw[c]at b a;unfold EXP at b a;have k:=VN t 1;refine⟨false,?_⟩;have i:Qa t.kids=[Qd (kid t 0),Qd (kid t 1)]:=by rw[(ML g)];simp[Qa]
 rw[i]at f;simp only[f]at b a ⊢;simp[f553C,a,(RE (kid t 1) d (by omega)),Ws,YO,e,Qf]
def Ez (s:Qj) (u:Tm):Bool:=s.any fun t=>Rk u t && J7 s (PJ u t)
def QoZ (s u t n y z a) (d:a[n]? =some (Qd (Ws u))) (o) (e:a[y]? =some [.sl o 5 (Qt (YO u))]) (m:a[z]? =some [.sl false 4 (Qa s)]) (h:s.length < 100000) (q: ∀x∈s,x.mass < 1000000) (E:Asc s) (B:u.mass < 1000000) (C:t∈s) (D:isB t EXP=true->t.kids.length=2):
  call tb 554 [.agg (Qd t),.gp n 0,.gp y 0,.gp z 0] a=some (.bool (Rk u t && J7 s (PJ u t)),a):=by
 have f:=q t C;obtain⟨j,_⟩:=M7 B;have G:=Nt u;obtain⟨v,k⟩:=IC t a f D;obtain⟨l,A⟩:=M7 f;have g:=Qbq l;obtain⟨H,p⟩:=QoE (YO t) false a l.1 l.big A;have r:=fun o v=>QcD (YO u) (Yt (YO t)) o v a (by have:=j.1;omega) (by have:=g.1;omega) j.big g.big;have I:=Nt t;have i:=QcV (Ws u) (Ws t) a (by unfold big;omega) (by unfold big;omega);have b:=Qc2 s (PJ u t) false false a h q E (Qbp j g);unfold PJ at b;rw[zcc 554 rfl rfl];unfold Rk PJ;by_cases c:Qm (Ws u) (Ws t)=0;by_cases w:VP (YO u) (Yt (YO t))=0;simp[-getElem?_pos,Qo,Zd,f554C,d,e,m,k,p,r,i,c,w,b,Qf];simp[-getElem?_pos,Qo,Zd,f554C,d,e,k,p,r,i,c,w,Qf];simp[-getElem?_pos,Qo,Zd,f554C,d,e,k,i,c,Qf]
def QoY (s u o a) (f:s.length < 100000) (l: ∀x∈s,x.mass < 1000000) (i:Asc s) (e:u.mass < 1000000) (j: ∀x∈s,isB x EXP=true->x.kids.length=2) (c:isB u EXP=true->u.kids.length=2):
  call tb 552 [.sl o 4 (Qa s),.agg (Qd u)] a=some (.bool (Ez s u),a):=by
 obtain⟨w,r⟩:=IC u a e c;have p:=fun(x:Qx)=>IC u (a ++ [x]) e c;obtain⟨v,n⟩:=IC u (a ++ [[AV.sl false 4 (Qa s)]]) e c;have d: ∀b:Bool,call tb 537 [.sl false 4 (Qa s),.fn 554 [.gp (a.length+1) 0,.gp (a.length+2) 0,.gp a.length 0]] (a ++ [[AV.sl false 4 (Qa s)],Qd (Ws u),[.sl b 5 (Qt (YO u))]])=some (.bool (Ez s u),a ++ [[AV.sl false 4 (Qa s)],Qd (Ws u),[.sl b 5 (Qt (YO u))]]):=fun b=>by(have h: (a ++ [[AV.sl false 4 (Qa s)],Qd (Ws u),[.sl b 5 (Qt (YO u))]])[a.length]? =some [.sl false 4 (Qa s)]:=by rw[Yq (QX _)];simp);(have m: (a ++ [[AV.sl false 4 (Qa s)],Qd (Ws u),[.sl b 5 (Qt (YO u))]])[a.length+1]? =some (Qd (Ws u)):=by rw[Yq (by omega)];simp);(have k: (a ++ [[AV.sl false 4 (Qa s)],Qd (Ws u),[.sl b 5 (Qt (YO u))]])[a.length+2]? =some [.sl b 5 (Qt (YO u))]:=by rw[Yq (by omega)];simp);exact Ab s 554 [.gp (a.length+1) 0,.gp (a.length+2) 0,.gp a.length 0] (fun t=>Rk u t && J7 s (PJ u t)) false _ (by omega) (by simp) fun x g=>QoZ s u x (a.length+1) (a.length+2) a.length _ m b k h f l i e g (j x g)
 rw[zcc 552 rfl rfl];generalize Ez s u=q at *;simp[f552C,n,Qf,(d false)]
noncomputable def TC (s:Qj) (u:Tm):Bool:=QA s u || Uv u || Mn s u || Lm s u || Sr s u || Ez s u || FC s u
def QoN (s u o a) (h:StC s u) (j:Asc s):call tb 531 [.sl o 4 (Qa s),.agg (Qd u)] a=some (.bool (TC s u),a):=by
 have w:=h.gs.1;have q:=fun x v=>(h.gs.2 x v).2;have d:=PZ s u false a (by omega) h.gs.bg (by have:=h.um;unfold big;omega) j;have e:=QnW u a h.um;have g:=QoO s u false a (by omega) h.gs.bg h.um j;have i:=QoQ s u false a h.gs j h.um;have p:=QoY s u false a h.len q j h.um h.ek h.eu;have t:=Qo6 s u false a h.len q j h.um;rw[zcc 531 rfl rfl];unfold TC;cases b:QA s u;cases c:Uv u;have m:=QoS s u (h.sh c) false a;cases f:Mn s u;cases k:Lm s u;cases l:Sr s u;cases n:Ez s u;cases r:FC s u;simp[f531C,d,e,g,i,m,p,t,b,c,f,k,l,n,r,Qf];simp[f531C,d,e,g,i,m,p,t,b,c,f,k,l,n,r,Qf];simp[f531C,d,e,g,i,m,p,b,c,f,k,l,n,Qf];simp[f531C,d,e,g,i,m,b,c,f,k,l,Qf];simp[f531C,d,e,g,i,b,c,f,k,Qf];simp[f531C,d,e,g,b,c,f,Qf];simp[f531C,d,e,b,c,Qf];simp[f531C,d,b,Qf]
def UV {x:Tm}: ∀{l:Qj},x∈Zk l↔∃t∈l,x∈Zu t
 | []=>by simp[Zk]
 | t:: ts=>by simp[Zk,UV (l:=ts)]
mutual
theorem SE: ∀(t y z:Tm),y∈Zu t->z∈Zu y->z∈Zu t
 | .mk k n s ks,y,z,hy,hz=>by
  simp only[Zu,Zf]at hy;rcases hy with rfl | hy
  ·exact hz
  ·simp only[Zu,Zf];exact .inr (Qcy ks y z hy hz)
theorem Qcy: ∀(ts:List Tm) (y z:Tm),y∈Zk ts->z∈Zu y->z∈Zk ts
 | [],y,z,hy,_=>by simp[Zk]at hy
 | t:: ts,y,z,hy,hz=>by
  simp only[Zk,Ze]at hy ⊢;rcases hy with hy | hy
  ·exact .inl (SE t y z hy hz)
  ·exact .inr (Qcy ts y z hy hz)
end
def LG {t}: ∀{a},t∈a->∀y∈Zu t,y∈Zk a
 | [],h,_,_=>by simp at h
 | x:: a,h,y,b=>by
  simp only[Zk,Ze];rcases Zf.1 h with rfl | h;exact .inl b;exact .inr (LG h y b)
def nL1 (l:Qw):Nat:=(l.map fun q=>q.2.natAbs).sum
def nnN (t:Tm):Prop:=(isB t XOR=true->QD t≠[])/\(YY t=true->nL1 (ofP t)<=8)
def HN (t:Tm):Prop:=∀x∈Zu t,nnN x
def Qad {t y} (h:HN t) (a:y∈Zu t):HN y:=fun x b=>h x (SE t y x a b)
def QiW {t x} (h:HN t) (a:x∈t.kids):HN x:=Qad h (by rw[Ix];exact Tl _ (LG a x (X3 x)))
def OH {k n s b} (h:nnN (.mk k n s b)) (d: ∀x∈b,HN x):HN (.mk k n s b):=by
 intro x a;simp only[Zu,Zf]at a;rcases a with rfl | a;exact h;obtain⟨t,e,c⟩:=UV.1 a;exact d t e x c
def HK {t} (a:isB t XOR=false) (b:YY t=false):nnN t:=
 ⟨fun h=>absurd (a.symm.trans h) (by decide),fun h=>absurd (b.symm.trans h) (by decide)⟩
def LR {n c} (a:n≠XOR) (d:n≠MUL) (b:n≠INV):nnN (.mk 3 n 0 c):=HK (by simp[isB,a]) (by simp[YY,isB,d,b])
def Uc:HN QU:=OH (HK rfl rfl) (fun x a=>by simp at a)
mutual
theorem Qcq: ∀(t y:Tm),y∈QD t->QD y=[y]
 | .mk k n s ks,y,h=>by
  have h0:=h;simp only[QD]at h;split at h
  ·simp at h
  ·rename_i c1;split at h
   ·rcases OQ ks [] y h with h | h
    ·simp at h
    ·exact h
   ·rename_i c2;simp at h;subst h;simp only[QD,Qb c1,Qb c2]
theorem OQ: ∀(ts acc:List Tm) (y:Tm),y∈Z0 acc ts->y∈acc\/QD y=[y]
 | [],acc,y,h=> .inl h
 | t:: ts,acc,y,h=>by
  rcases OQ ts _ y h with h | h
  ·rcases W0 (WV t) h with h | h
   ·exact .inl h
   ·exact .inr (Qcq t y h)
  ·exact .inr h
end
def Iu: ∀c a,(∀y∈c,QD y=[y])->c.Nodup->(∀y∈c,y ∉ a)->∀y,y∈a\/y∈c->y∈Z0 a c
 | [],a,_,_,_,y,h=>by
  rcases h with h | h;exact h;simp at h
 | t:: m,a,j,l,k,y,h=>by
  have d:=JB.1 l;have i:=k t (by simp);simp only[Z0];have e: ∀z,z∈Yz a (QD t)↔z∈a\/z=t:=by intro z;rw[Nb (WV t),(j t (by simp)),XH];constructor;intro h;rcases h with h | h;exact .inl h.1;exact .inr h.2;intro h;by_cases b:z=t;subst b;exact .inr ⟨i,rfl⟩;rcases h with h | h;exact .inl ⟨h,b⟩;exact absurd h b
  apply Iu m _ (fun z b=>j z (by simp[b])) d.2;intro z b f;rcases(e z).1 f with g | g;exact k z (by simp[b]) g;subst g;exact d.1 b;rcases h with h | h;exact .inl ((e y).2 (.inl h));rcases Zf.1 h with h | h;exact .inl ((e y).2 (.inr h));exact .inr h
def O9 {l} (h:Asc l):l.Nodup:=by
 refine List.Pairwise.imp ?_ h;intro a b c e;subst e;rw[Xc]at c;omega
def Qp8 {a} (h: ∀x∈a,HN x):HN (W5 a).1:=by
 unfold W5;split;exact Uc;split;exact Uc;have d: ∀y∈Z0 [] a,HN y/\QD y=[y]:=fun y c=>by constructor;rcases Ox a [] y c with b | b;simp at b;obtain⟨t,l,g⟩:=UV.1 b;exact Qad (h t l) g;rcases OQ a [] y c with b | b;simp at b;exact b
 have k:=O9 (Mk a [] Asc.nil);show HN (tmX (Z0 [] a));match j:Z0 [] a with | []=>exact OH (LR (by decide) (by decide) (by decide)) (fun x f=>by simp at f) | [p]=>simp only[tmX];exact(d p (by rw[j];simp)).1 | p:: q:: r=>simp only[tmX];rw[j]at d k;refine OH ⟨fun _=> ?_,fun n=> ?_⟩ (fun x f=>(d x f).1);have i:=Iu (p:: q:: r) [] (fun y c=>(d y c).2) k (fun y _ c=>by simp at c) p (.inr (by simp));intro e;(have m:QD (.mk 3 XOR 0 (p:: q:: r))=Z0 [] (p:: q:: r):=by simp[QD]);rw[m]at e;rw[e]at i;simp at i;exact absurd n (by simp[YY,isB,XOR,MUL,INV])
def KK (l:Qw):Prop:=∀q∈l,HN q.1/\Yx q.1=false
def QdL {l t m} (h:KK l) (b:HN t) (c:Yx t=false):KK (YX l t m):=by
 intro q a;rcases VL a with a | rfl | ⟨_,_,rfl,_⟩;exact h q a;exact⟨b,c⟩;exact⟨b,c⟩
def QdM: ∀t l m,KK l->HN t->KK (X6 l t m):=by
 refine YC ?_;intro k n s c g l m h d;have j: ∀(b:Qj) (l:Qw) (m:Int),(∀x∈b,x∈c)->KK l->KK (ZZ l b m):=by intro b;induction b with | nil=>intro l m _ h;simpa[ZZ]using h | cons x b e=>intro l m a h;simp only[ZZ];exact e _ m (fun y f=>a y (by simp[f])) (g x (a x (by simp)) l m h (QiW d (a x (by simp))))
 rw[XT];cases i:Yx (.mk k n s c);exact QdL h d i;exact j c l _ (fun x a=>a) h
def Fs: ∀b a,KK a->KK b->KK (Xo a b)
 | [],a,h,_=>h
 | q:: b,a,h,c=>Fs b _ (QdL h (c q (by simp)).1 (c q (by simp)).2) fun x d=>c x (by simp[d])
def Qal {t} (h:HN t):KK (ofP t):=by
 unfold ofP;split;exact QdM t [] 1 (fun q a=>by simp at a) h;intro q a;simp at a
def Qqe {a b} (c:KK a) (e:KK b):KK (X2 a b):=by
 unfold X2;split;exact Fs b a c e;intro q d;simp at d
def Kw: ∀l t m,nL1 (YX l t m)<=nL1 l+m.natAbs
 | [],t,m=>by simp[YX,nL1]
 | p:: r,t,m=>by
  have a:=Kw r t m;simp only[nL1,YX]at a ⊢;split;simp;omega;split;split;simp;omega;simp;omega;simp;omega
def opX (x:Tm):Prop:=Yx x=false\/∃y,Yx y=false/\x=Wp y
def Qau {l x} (h:opX x):nL1 (X6 l x 1)<=nL1 l+1:=by
 rcases h with h | ⟨y,h,rfl⟩;rw[XT,h];exact Kw l x 1;have a:Yx (Wp y)=true:=by simp[Yx,Wp]
 rw[XT,a];simp only[QT,Wp,Tm.kids,Tm.name,beq_self_eq_true,ZZ];rw[XT,h];exact Kw l y (-1)
def Dm: ∀a l,(∀x∈a,opX x)->nL1 (ZZ l a 1)<=nL1 l+a.length
 | [],l,_=>by simp[ZZ]
 | x:: a,l,h=>by
  simp only[ZZ,ZH];have c:=Dm a (X6 l x 1) fun y b=>h y (by simp[b]);have d:=Qau (l:=l) (h x (by simp));omega
def FE {t b} (h:nL1 (X6 [] t 1)<=b):nL1 (ofP t)<=b:=by
 unfold ofP;split;exact h;simp[nL1]
def Ql8 {l} (h:KK l): ∀x∈Zo l,opX x/\HN x:=by
 intro x a;simp only[Zo,XJ,XX,Ze,Sa,Yg]at a;rcases a with⟨_,⟨q,b,rfl⟩,a⟩ | ⟨_,⟨q,b,rfl⟩,a⟩;rw[Re a];exact⟨.inl (h q b).2,(h q b).1⟩;rw[Re a];have c:opX (Wp q.1):= .inr ⟨q.1,(h q b).2,rfl⟩;refine⟨c,OH ⟨fun e=>absurd e (by simp[isB,INV,XOR]),fun _=> ?_⟩ fun y d=> ?_⟩;refine FE (Y8 (Qau (l:=[]) c) ?_);simp[nL1];simp at d;subst d;exact(h q b).1
def Qae {l} (h:KK l):HN (Z2 l).1:=by
 unfold Z2;split;exact Uc;split;exact Uc;rename_i d;split;exact Uc;have b:=Ql8 h;show HN (Zv (Zo l));match c:Zo l with | []=>exact OH (LR (by decide) (by decide) (by decide)) (fun x a=>by simp at a) | [p]=>simp only[Zv];exact(b p (by rw[c];simp)).2 | p:: q:: r=>simp only[Zv];rw[c]at b d;refine OH ⟨fun e=>absurd e (by simp[isB,MUL,XOR]),fun _=> ?_⟩ (fun x a=>(b x a).2);(have f:Yx (.mk 3 MUL 0 (p:: q:: r))=true:=by simp[Yx]);refine FE ?_;rw[XT,f];simp only[QT];have e: (if(Tm.mk 3 MUL 0 (p:: q:: r)).name == INV then(-1:Int)else 1)=1:=rfl;rw[e];have:=Dm (p:: q:: r) [] fun x a=>(b x a).1;simp only[nL1,Vv,List.sum_nil,Z1]at this;exact Y8 this (by omega)
def Quj {b e} (c:HN b) (d:HN e):HN (.mk 3 EXP 0 [b,e]):=OH (LR (by decide) (by decide) (by decide)) fun x a=>by
 simp at a;rcases a with rfl | rfl;exact c;exact d
def QdB {b p} (a:HN b) (c:KK p):HN (Vb b p).1:=by
 unfold Vb;split;exact a;split;exact Uc;exact Quj a (Qae c)
def Ei {t} (h:HN t) (i):HN (kid t i):=by
 unfold kid;rw[Zh];rcases a:t.kids[i]? with _ | x;simpa using Uc;exact QiW h (X9 a)
def Qp7 {b e} (a:HN b) (c:HN e):HN (XY b e).1:=by
 unfold XY;split;exact Uc;split;split;exact Uc;split;exact Uc;exact QdB (Ei a 0) (Qqe (Qal (Ei a 1)) (Qal c));exact QdB a (Qal c)
def Eh {a:Qj} (h: ∀x∈a,HN x) (i):HN (a.getD i QU):=by
 rw[Zh];rcases b:a[i]? with _ | x;simpa using Uc;exact h x (X9 b)
def QlT {n a} (b:Uq n=true) (h: ∀x∈a,HN x):HN (Q8 n a):=by
 simp only[Q8];repeat' split
 all_goals first | exact(by refine OH (LR ?_ ?_ ?_) h <;> (intro e;subst e;revert b;decide)) | exact(fun i=>Ei (Eh h 0) i) _
def QlU {n b} (h: ∀x∈b,HN x):HN (Yo n b).1:=by
 unfold Yo;split;rename_i o;exact QlT o h;split;exact Qp8 h;split;rename_i r g d;unfold YV;split;exact Uc;refine Qae ?_;unfold ofP;split;rw[XT];have k: ∀(a:Qj) (l:Qw) (m:Int),(∀x∈a,x∈b)->KK l->KK (ZZ l a m):=by intro a;induction a with | nil=>intro l m _ h;simpa[ZZ]using h | cons x a j=>intro l m c s;simp only[ZZ];exact j _ m (fun y p=>c y (by simp[p])) (QdM x l m s (h x (c x (by simp))))
 have i:Yx (.mk 3 n 0 b)=true:=by rcases d with rfl | rfl | rfl <;> simp[Yx]
 rw[i];exact k b [] _ (fun x c=>c) (fun q f=>by simp at f);intro q f;simp at f;rename_i r g d;split;exact Qp7 (Eh h 0) (Eh h 1);exact OH (LR g (fun e=>d (.inl e)) (fun e=>d (.inr (.inl e)))) h
mutual
theorem Qac: ∀t:Tm,XO t=0->HN (ZJ t).1
 | .mk k n s ks,h=>by
  simp only[XO]at h;split at h
  ·rename_i h1;exact absurd h h1
  ·rename_i h1;obtain⟨_,_,_,hb⟩:=Om (t:= .mk k n s ks) (by simpa using h1);simp only[Ux,ZP]at hb;simp only[ZJ];split
   ·split
    ·exact QlU (Qab ks h)
    ·exact Uc
   ·rename_i hk;have:=hb hk;subst this;exact OH (HK (by simp[isB,hk]) (by simp[YY,isB,hk])) fun x hx=>by simp at hx
theorem Qab: ∀ts:List Tm,Vo ts=0->∀x∈(YE ts).1,HN x
 | [],_,x,hx=>by simp[YE]at hx
 | t:: ts,h,x,hx=>by
  simp only[Vo]at h;split at h
  ·rename_i h1;exact absurd h h1
  ·rename_i h1;simp only[YE]at hx;split at hx
   ·split at hx
    ·simp at hx;rcases hx with rfl | hx
     ·exact Qac t (by simpa using h1)
     ·exact Qab ts h x hx
    ·simp at hx
   ·simp at hx
end
mutual
theorem AM: ∀(t x:Tm),XO t=0->x∈Zu t->XO x=0
 | .mk k n s ks,x,h,hx=>by
  simp only[Zu,Zf]at hx;rcases hx with rfl | hx
  ·exact h
  ·simp only[XO]at h;split at h
   ·rename_i h1;exact absurd h h1
   ·exact AL ks x h hx
theorem AL: ∀(ts:List Tm) (x:Tm),Vo ts=0->x∈Zk ts->XO x=0
 | [],x,_,hx=>by simp[Zk]at hx
 | t:: ts,x,h,hx=>by
  simp only[Vo]at h;simp only[Zk,Ze]at hx;split at h
  ·rename_i h1;exact absurd h h1
  ·rename_i h1;rcases hx with hx | hx
   ·exact AM t x (by simpa using h1) hx
   ·exact AL ts x h hx
end
mutual
theorem Dq: ∀(t x:Tm),x∈Zu t->x.nodes<=t.nodes
 | .mk k n s ks,x,hx=>by
  simp only[Zu,Zf]at hx;rcases hx with rfl | hx
  ·exact QX _
  ·have:=FF ks x hx;simp only[Tm.nodes];omega
theorem FF: ∀(ts:List Tm) (x:Tm),x∈Zk ts->x.nodes<=Qs ts
 | [],x,hx=>by simp[Zk]at hx
 | t:: ts,x,hx=>by
  simp only[Zk,Ze]at hx;simp only[Qs];rcases hx with hx | hx
  ·have:=Dq t x hx;omega
  ·have:=FF ts x hx;omega
end
mutual
theorem E0: ∀(t x:Tm),x∈Zu t->x.depth<=t.depth
 | .mk k n s ks,x,hx=>by
  simp only[Zu,Zf]at hx;rcases hx with rfl | hx
  ·exact QX _
  ·have:=G3 ks x hx;simp only[Tm.depth];omega
theorem G3: ∀(ts:List Tm) (x:Tm),x∈Zk ts->x.depth<=XC ts
 | [],x,hx=>by simp[Zk]at hx
 | t:: ts,x,hx=>by
  simp only[Zk,Ze]at hx;simp only[XC];rcases hx with hx | hx
  ·have:=E0 t x hx;omega
  ·have:=G3 ts x hx;omega
end
def Qbz {t} (h:QR t=0):t.depth<=40:=by
 unfold QR at h;split at h;rename_i a;exact absurd h a;split at h;cases h;omega
def PT {t x} (h:QR t=0) (a:x∈Zu t):QR x=0:=by
 obtain⟨b,g,c⟩:=Xm h;have d:=Dq t x a;have e:=E0 t x a;have f:=Qbz h;unfold QR;rw[Qb (by simp[(AM t x b a)]),Qb (by omega)]
def Qlh: ∀t l m q,q∈X6 l t m->(∃p∈l,p.1=q.1)\/(q.1∈Zu t/\Yx q.1=false):=by
 refine YC ?_;intro k n s f v l m q d;have r: ∀(c:Qj) (l:Qw) (m:Int) (q:Pw),(∀x∈c,x∈f)->q∈ZZ l c m->(∃p∈l,p.1=q.1)\/(q.1∈Zk f/\Yx q.1=false):=by intro c;induction c with | nil=>intro l m q _ h;simp only[ZZ]at h;exact .inl ⟨q,h,rfl⟩ | cons x c w=>intro l m q b h;simp only[ZZ]at h;rcases w _ m q (fun y A=>b y (by simp[A])) h with⟨p,u,e⟩ | h;rcases v x (b x (by simp)) l m p u with⟨z,j,o⟩ | ⟨a,g⟩;exact .inl ⟨z,j,o.trans e⟩;rw[e]at a g;exact .inr ⟨LG (b x (by simp)) _ a,g⟩;exact .inr h
 rw[XT]at d;cases i:Yx (.mk k n s f);rw[i]at d;rcases VL (by simpa using d)with h | rfl | ⟨B,a,rfl,_⟩;exact .inl ⟨q,h,rfl⟩;exact .inr ⟨X3 _,i⟩;exact .inl ⟨_,a,rfl⟩;rw[i]at d;rcases r f l _ q (fun x b=>b) (by simpa using d)with h | ⟨a,g⟩;exact .inl h;exact .inr ⟨by simp only[Zu,Zf];exact .inr a,g⟩
def Ql5 {t q} (h:q∈ofP t):q.1∈Zu t/\Yx q.1=false:=by
 unfold ofP at h;split at h;rcases Qlh t [] 1 q h with⟨p,a,_⟩ | h;simp at a;exact h;simp at h
def FV: ∀l b,(∀q∈l,QR q.1=0/\Yx q.1=false/\q.2≠0/\ -1000<=q.2/\q.2<=1000)->Asc (QW l)->(∀a,b=some a->∀q∈l,Qm a q.1 < 0)->vPL b l=0
 | [],b,_,_,_=>by simp[vPL]
 | p:: r,b,h,k,f=>by
  obtain⟨g,m,j,n,o⟩:=h p (by simp);have c: (∀y∈QW r,Qm p.1 y < 0)/\Asc (QW r):=by(have:QW (p:: r)=p.1:: QW r:=by simp[QW]);rwa[this,YQ]at k
  have i:Wq p.2=false:=by simp only[Wq,Xe (show ¬p.2 < -1000 by omega),Xe (show ¬1000 < p.2 by omega),Bool.or_self]
  simp only[vPL];rw[Qb (by simp[g]),Qb (by simp[m]),Qb (by simp[j,i]),Qe (by unfold gtO;rcases b with _ | a;rfl;exact D5 (f a rfl p (by simp)))];exact FV r _ (fun q d=>h q (by simp[d])) c.2 fun a e q d=>by cases e;exact c.1 q.1 (by simp[QW];exact⟨q.2,d⟩)
def Qqk {l q} (h:q∈l):q.2.natAbs<=nL1 l:=by
 induction l with | nil=>simp at h | cons p r a=>simp only[nL1,ZI,UF]at a ⊢;rcases Zf.1 h with rfl | h;omega;have:=a h;omega
def Kx (f): ∀l:Qw,nL1 (l.filter f)<=nL1 l
 | []=>by simp[nL1]
 | p:: r=>by
  have a:=Kx f r;simp only[Jy];split;simp only[nL1,ZI,UF]at a ⊢;omega;simp only[nL1,ZI,UF]at a ⊢;omega
def Ql6 {t} (h:t.mass < big):Uf (ofP t) t.nodes:=by
 unfold ofP;split;have:=M4 t [] 1 0 h (.inl rfl) Mz;rwa[Z1]at this;exact Mz.mono (Pp _)
def DG {s t} (c:QR t=0) (k:nL1 (ofP t)<=8):Q5 (Z9 s (ofP t))=0:=by
 have j:t.mass < big:=by have:=(Xm c).2.2;unfold big;omega
 have d:=Ql6 j;have l:=Uz t;have i:=HX s (ofP t);unfold Q5;rw[Qb (by omega)];refine FV _ _ (fun q h=> ?_) ?_ (fun a e=>by cases e);have b:=(X1.1 h).1;obtain⟨g,f⟩:=Ql5 b;have:=Qqk b;exact⟨PT c g,f,d.nz q b,by omega,by omega⟩;have:QW (Z9 s (ofP t))=(QW (ofP t)).filter fun x=> !QA s x:=by simp only[QW,Z9,List.filter_map];rfl
 rw[this];exact Vr _ d.asc
def QdW (a b):nrE (a ++ b)=nrE a+nrE b:=by simp[nrE]
def QdX (m):nrE (List.replicate m 0)=0:=by
 induction m with | zero=>rfl | succ m a=>rw[SC];simp only[nrE,ZI,UF]at a ⊢;rw[a];rfl
def HL: ∀m i,nrE ((List.replicate m (0:Int)).set i 1)<=1
 | 0,i=>by simp[nrE]
 | m+1,0=>by
  rw[SC,Lx];have:=QdX m;simp only[nrE,ZI,UF]at this ⊢;rw[this];decide
 | m+1,i+1=>by
  rw[SC,Ly];have:=HL m i;simp only[nrE,ZI,UF]at this ⊢;simpa using this
def QaW (g q): ∀a:Qj,q.1 ∉ a->nrE (a.map (pwT (q:: g)))=nrE (a.map (pwT g))
 | [],_=>rfl
 | t:: a,h=>by
  have c:=QaW g q a fun e=>h (by simp[e]);have b:Qm q.1 t≠0:=fun e=>h (by rw[Z4 _ _ e];simp);simp only[nrE,ZI,UF,pwT,Qb b]at c ⊢;rw[c]
def QaX (g q): ∀a:Qj,a.Nodup->nrE (a.map (pwT (q:: g)))<=q.2.natAbs+nrE (a.map (pwT g))
 | [],_=>by simp[nrE]
 | t:: a,h=>by
  have b:=JB.1 h;by_cases e:Qm q.1 t=0;have d:=QaW g q a (by rw[(Z4 _ _ e)];exact b.1);simp only[nrE,ZI,UF,pwT,Qe e]at d ⊢;omega;have c:=QaX g q a b.2;simp only[nrE,ZI,UF,pwT,Qb e]at c ⊢;omega
def QaY: ∀a:Qj,a.map (pwT [])=List.replicate a.length 0
 | []=>rfl
 | t:: a=>by rw[ZI,QaY a,ZH,SC];rfl
def Ev: ∀g (a:Qj),a.Nodup->nrE (a.map (pwT g))<=nL1 g
 | [],a,_=>by
  have:=QaY a;rw[this,QdX];exact Pp _
 | q:: g,a,h=>by
  have b:=QaX g q a h;have c:=Ev g a h;have:nL1 (q:: g)=q.2.natAbs+nL1 g:=by simp[nL1]
  omega
def Qa3 (b a t) (h: ∀j,t.getD j 0=0): ∀k c,rdE b a k c t=0
 | 0,_=>rfl
 | k+1,c=>by simp only[rdE,Qe (h c)];exact Qa3 b a t h k (c+1)
def Ki: ∀{l},(∀g∈l,Q5 g=0)->YW l=0
 | [],_=>rfl
 | g:: l,h=>by
  simp only[YW,h g (by simp),ne_eq,N9,ZT];exact Ki fun x a=>h x (by simp[a])
def Qqi {l} (p:l.length<=4) (e: ∀g∈l,Q5 g=0) (k: ∀g∈l,nL1 g<=8) (n: (Y9 (l ++ [[]])).length<=12):meE l []=0:=by
 have c:Asc (Y9 (l ++ [[]])):=XW _;obtain⟨a,b⟩: ∃a,Y9 (l ++ [[]])=a:=⟨_,rfl⟩;unfold meE;rw[b]at n c ⊢;rw[Qb (by omega),Qb (by simp[Ki e]),Qb (by decide),Qb (by omega)];have f:=W9 a l;obtain⟨s,m,_⟩:=Qns (rs:=Yf a l) (L:=a.length+l.length) (by omega) (fun i h=>by rw[V9 (by omega)];exact Ot _ _ _ _) (fun i h=>by rw[V9 (by omega),VQ,QdW];(have o:l.getD i []∈l:=by rw[Zh,Q0 (by omega)];exact VH _);have d:=Ev (l.getD i []) a (O9 c);have r:=k _ o;have q:=HL l.length i;omega) a.length (by omega);rw[m];simp only[meF];refine Qa3 _ _ _ (fun j=> ?_) _ _;have:WR a l.length []=List.replicate (a.length+l.length) 0:=by have d:=QaY a;rw[WR,d,List.replicate_append_replicate]
 rw[this,Zh,Lu];split <;> rfl
def WT: ∀c a,Asc a->Asc c->(∀x∈a,x∈c)->a.length<=c.length
 | [],a,_,_,h=>by
  rcases a with _ | ⟨x,j⟩;exact QX _;have:=h x (by simp);simp at this
 | y:: l,a,b,f,h=>by
  rw[YQ]at f;rcases a with _ | ⟨x,j⟩;simp;have g:=b;rw[YQ]at b;rcases Zf.1 (h x (by simp))with e | e;subst e;have:=WT l j b.2 f.2 fun z d=>by rcases Zf.1 (h z (by simp[d]))with e | e;subst e;exact absurd (b.1 z d) (PD z);exact e
  simp;exact this;have:=WT l (x:: j) g f.2 fun z d=>by rcases Zf.1 d with k | k;rwa[k];rcases Zf.1 (h z d)with i | i;subst i;exact absurd (XE (f.1 x e) (b.1 z k)) (PD z);exact i
  simp at this ⊢;omega
def Wz (u:Qj):Qj:=(u.map fun t=>if YY t then QW (ofP t)else if isB t EXP then QW (ofP (kid t 1))else []).flatten
structure UC (u:List Tm):Prop where
 len:u.length<=200
 v: ∀x∈u,QR x=0
 g: ∀x∈u,Zn x=true
 hn: ∀x∈u,HN x
 ex: (u.filter YY).length<=4
 fac: (QL (Wz u)).length<=8
def Ed {u t q} (a:t∈u) (c:YY t=true) (b:q∈ofP t):q.1∈Wz u:=by
 simp only[Wz,Sa,Yg];refine⟨_,⟨t,a,rfl⟩,?_⟩;rw[Qe c];exact Yg.2 ⟨q,b,rfl⟩
def Quh {u s} (i:UC u) (l:Asc u) (k:Asc s) (n: ∀x∈s,x∈u) (m):J7 s m=UY s m:=by
 unfold J7;by_cases c:Z9 s m=[];rw[D5 c,Md];unfold UY;rw[c];have d: ∀g∈Xq s s,∃t∈u,YY t=true/\g=Z9 s (ofP t):=fun g e=>by obtain⟨t,b,rfl⟩:=Yg.1 e;obtain⟨h,j⟩:=X1.1 b;exact⟨t,n t h,j,rfl⟩
 refine(D5 (Qqi ?_ ?_ ?_ ?_)).symm;have h:=WT (u.filter YY) (s.filter YY) (Vr _ k) (Vr _ l) fun x a=>by obtain⟨h,j⟩:=X1.1 a;exact X1.2 ⟨n x h,j⟩
 have j:=i.ex;simp only[Xq,UD];omega;intro g e;obtain⟨t,b,f,rfl⟩:=d g e;exact DG (i.v t b) (((i.hn t b) t (X3 t)).2 f);intro g e;obtain⟨t,b,f,rfl⟩:=d g e;exact Y8 (Kx _ _) (((i.hn t b) t (X3 t)).2 f);have h:=WT (QL (Wz u)) (Y9 (Xq s s ++ [[]])) (XW _) (XW _) fun x a=>by have a:=ZO.1 a;rw[QkL]at a;simp only[QW,Vv,QH]at a;simp only[Vx,Sa,Yg]at a;obtain⟨_,⟨g,e,rfl⟩,a⟩:=a;obtain⟨t,b,f,rfl⟩:=d g e;obtain⟨q,o,rfl⟩:=Yg.1 a;exact ZO.2 (Ed b f (X1.1 o).1)
 have:=i.fac;omega;rw[Xe c,Pm]
def Qq8 {u s} (c:UC u) (b:Asc u) (a:Asc s) (d: ∀x∈s,x∈u) (t):TC s t=XS s t:=by
 unfold TC XS Ez Ey FC Er;simp only[(fun m=>Quh c b a d m)]
def PE: ∀{s},(∀x∈s,QR x=0)->Qs s<=400*s.length
 | [],_=>by simp[Qs]
 | x:: s,h=>by
  have b:=(Xm (h x (by simp))).2.1;have c:=PE (s:=s) fun y a=>h y (by simp[a]);simp only[Qs,ZH];omega
def Qka {u s} (d:UC u) (j:Asc u) (l:Asc s) (e: ∀x∈s,x∈u) {t} (f:t∈u):StC s t:=by
 have z:=WT u s l j e;have q:=d.len;have i: ∀x∈u,x.mass < 1000000:=fun x c=>by have:=(Xm (d.v x c)).2.2;omega
 have g: ∀x∈u,isB x EXP=true->x.kids.length=2:=fun x c w=>by obtain⟨a,b,r⟩:=XD (d.g x c) w (by simp[Tg]);rw[r];rfl
 have h: ∀x∈u,isB x XOR=true->QD x≠[]:=fun x c=>((d.hn x c) x (X3 x)).1;refine⟨by omega,⟨by omega,fun x c=>⟨d.g x (e x c),i x (e x c)⟩⟩,i t f,fun x c=>g x (e x c),g t f,fun v=>⟨by omega,?_,fun x c=>i x (e x c),i t f,fun x c=>d.v x (e x c),d.v t f,fun x c=>h x (e x c),?_⟩⟩;have A:=PE (s:=s) fun x c=>d.v x (e x c);have p:=(Xm (d.v t f)).2.1;omega;by_cases c:isB t XOR=true;exact h t f c;obtain⟨k,n,o,m⟩:=t;simp only[QD];split;rename_i y;obtain⟨rfl,rfl,rfl⟩:=y;exact absurd v (by simp[Uv,Tm.kind,Tm.name,Tm.kids]);split;rename_i p;exact absurd (RN.2 (show(Tm.mk k n o m).kind=3/\(Tm.mk k n o m).name=XOR from p)) c;simp
end Go.Am
