/-
  Kn19, Kn21, Kn61, Kn62, Kn63, Kn64, Kn65, Kn66, Rc45, Kn67, Kn68, Kn40, Kn41.
-/
import Derived.Test.YtgjaamacjmjjcaaGreatDoorG21
import Derived.Test.YtgjaamacjmjjcaaGreatDoorG23
import Derived.Test.YtgjaamacjmjjcaaGreatDoorG16
import Derived.Test.YtgjaamacjmjjcaaGreatDoorG19
set_option linter.all false
open Go.Am.F
namespace Go.Am
set_option maxRecDepth 20000
def QhX (l t z) (G:l.length < 100000000) (E: ∀x∈l,x.mass < big) (C:t.mass < big):
  ∀a c b d n,l=c ++ a->b.length<=c.length+1->(d=false->b.length=c.length)->n 0= .sl false 4 (Qa l)->n 3= .bx (Qd t)->n 5= .sl true 4 (Qa b)->n 6= .bool d->n 7= .int .i64 c.length->
  R tb (.loop f731l0) n z (Qh 0 (Qs tb f731r0 (QA f731 z)))=some (.sl true 4 (Qa (b ++ if d then a else QT t a)),z):=by
 intro a;induction a with | nil=>intro c b d n i B u h j p q o;simp only[Qy]at i;rw[<- i]at o B u;(have f: (b.length+1)*56<=140737488355328:=by omega);rw[Qb f731l0.eq_1];cases d;simp[h,j,p,q,o,f731r0,f,QT,Qc,ZH,QQ];simp[h,j,p,q,o,f731r0,f] | cons x a s=>intro c b d n i B u h j p q o;have w:=Qv i;have D:=QD i;have m:=wr1 c.length (by omega);have k:=QF i;have f: (b.length+1)*56<=140737488355328:=X7 (by omega);have g: (b.length+1+1)*56<=140737488355328:=X7 (by clear f;omega);have y:=UH t x z C (E x (by rw[i];simp));rw[Qb f731l0.eq_1];cases d;have u:=u rfl;by_cases v:Qo t x < 0;(have r:Qo t x<=0:=by omega);(have e:b ++ (if false=true then x:: a else QT t (x:: a))=(b ++ [t]++ [x])++ (if true=true then a else QT t a):=by simp[QT,v]);rw[e];simp[h,j,p,q,o,w,k,m,y,v,r,f,g,Qc,ZH,QQ];clear f g;rw[s (c ++ [x]) (b ++ [t]++ [x]) true] <;> simp[h,j,i] <;> omega;by_cases A:Qo t x=0;(have e:b ++ (if false=true then x:: a else QT t (x:: a))=(b ++ [x])++ (if true=true then a else QT t a):=by simp[QT,A]);rw[e];simp[h,j,p,q,o,w,k,m,y,A,f,Qc,ZH,QQ];clear f g;rw[s (c ++ [x]) (b ++ [x]) true] <;> simp[h,j,i] <;> omega;(have r: ¬Qo t x<=0:=by omega);(have e:b ++ (if false=true then x:: a else QT t (x:: a))=(b ++ [x])++ (if false=true then a else QT t a):=by simp[QT,v,A]);rw[e];simp[h,j,p,q,o,w,k,m,y,v,r,f,Qc,ZH,QQ];clear f g;rw[s (c ++ [x]) (b ++ [x]) false] <;> simp[h,j,i] <;> omega;(have e:b ++ (if true=true then x:: a else QT t (x:: a))=(b ++ [x])++ (if true=true then a else QT t a):=by simp);rw[e];simp[h,j,p,q,o,w,k,m,y,f,Qc,ZH,QQ];clear f g;rw[s (c ++ [x]) (b ++ [x]) true] <;> simp[h,j,i] <;> omega
def Qpo (l t o a) (c:l.length < 100000000) (b: ∀x∈l,x.mass < big) (d:t.mass < big):
  call tb 731 [.sl o 4 (Qa l),.agg (Qd t)] a=some (.sl true 4 (Qa (QT t l)),a):=by
 have h:=fun e=>QhX l t a c b d l [] [] false e rfl (by simp) (fun _=>rfl);rw[zcc 731 rfl rfl];simp[f731C];simp at h;refine h _ ?_ ?_ ?_ ?_ ?_ <;> simp[Qa]
def QhY (l t n) (B:l.length < 100000000) (s: ∀x∈l,x.mass < big) (z:t.mass < big):
  ∀b a d,l=a ++ b->d 0= .sl false 4 (Qa l)->d 3= .bx (Qd t)->d 5= .sl true 4 (Qa (a.filter (fun x=> !decide (Qo x t=0))))->d 6= .int .i64 a.length->
  R tb (.loop f730l0) d n (Qh 0 (Qs tb f730r0 (QA f730 n)))=some (.sl true 4 (Qa (l.filter (fun x=> !decide (Qo x t=0)))),n):=by
 intro b;induction b with | nil=>intro a d c f h e g;simp only[Qy]at c;rw[<- c]at e g;rw[Qb f730l0.eq_1];simp[f,e,g,f730r0] | cons x b r=>intro a d c f h e g;have q:=Qv c;have v:=QD c;have j:=wr1 a.length (by omega);have i:=QF c;have y:=Ux (fun x=> !decide (Qo x t=0)) a;have u: ((a.filter (fun x=> !decide (Qo x t=0))).length+1)*56<=140737488355328:=X7 (by omega);have p:=W2 x t n (s x (by rw[c];simp)) z;have m:=r (a ++ [x]);rw[Qb f730l0.eq_1];by_cases k:Qo x t=0;(have o: (a ++ [x]).filter (fun x=> !decide (Qo x t=0))=a.filter (fun x=> !decide (Qo x t=0)):=by simp[k]);rw[o]at m;generalize a.filter (fun x=> !decide (Qo x t=0))=A at *;generalize l.filter (fun x=> !decide (Qo x t=0))=w at *;simp[f,h,e,g,q,i,j,p,k,Qc];rw[m] <;> simp[f,h,e,c];(have o: (a ++ [x]).filter (fun x=> !decide (Qo x t=0))=a.filter (fun x=> !decide (Qo x t=0))++ [x]:=by simp[k]);rw[o]at m;generalize a.filter (fun x=> !decide (Qo x t=0))=A at *;generalize l.filter (fun x=> !decide (Qo x t=0))=w at *;simp[f,h,e,g,q,i,j,p,k,u,Qc,ZH,QQ];rw[m] <;> simp[f,h,c]
def Qpn (l t o a) (d:l.length < 100000000) (c: ∀x∈l,x.mass < big) (f:t.mass < big):
  call tb 730 [.sl o 4 (Qa l),.agg (Qd t)] a=some (.sl true 4 (Qa (WY l t)),a):=by
 have h:=fun i=>QhY l t a d c f l [] i rfl;have g:=Kk l t false a d c f;rw[zcc 730 rfl rfl];cases b:Qx l t;have e:WY l t=QT t l:=by simp[WY,b]
 rw[e];simp[f730C,Qc,g,b,(Qpo l t false a d c f)];have e:WY l t=l.filter (fun x=> !decide (Qo x t=0)):=by simp[WY,b]
 rw[e];generalize l.filter (fun x=> !decide (Qo x t=0))=j at *;simp[f730C,Qc,g,b];refine h _ ?_ ?_ ?_ ?_ <;> simp[Qa]
def QbY (b k) (w:b.length < 40000000) (u: ∀x∈b,x.mass < big):
  ∀c d a e,b=d ++ c->a.length+c.length < 90000000->(∀x∈a,x.mass < big)->e 1= .sl false 4 (Qa b)->e 5= .sl true 4 (Qa a)->e 6= .int .i64 d.length->
  R tb (.loop f729l0) e k (Qh 0 (Qs tb f729r0 (QA f729 k)))=some (.sl true 4 (Qa (Yr a c)),k):=by
 intro c;induction c with | nil=>intro d a e f n g j l i;simp only[Qy]at f;rw[<- f]at i;rw[Qb f729l0.eq_1];simp[j,l,i,f729r0,Yr] | cons x c o=>intro d a e f n g j l i;have r:=QD f;have p:=u x (by rw[f];simp);(have q:a.length+ (c.length+1) < 90000000:=by simpa using n);have s:=Qpn a x false k (by omega) g p;(have t: (WY a x).length<=a.length+1:=by have:=U5 [x] a;simpa[Yr]using this);(have m: ∀y∈WY a x,y.mass < big:=fun y v=>by rcases H7.1 v with h | h;exact g y h.1;rwa[h.1]);rw[Qb f729l0.eq_1];simp[j,l,i,(Qv f),(QF f),(wr1 d.length (by omega)),s];rw[show Yr a (x:: c)=Yr (WY a x) c from rfl];refine(fun e=>o (d ++ [x]) (WY a x) e (by rw[f];simp) (by omega) m) _ ?_ ?_ ?_ <;> simp[j]
def Qpm (a b o h f) (j:a.length < 40000000) (g:b.length < 40000000) (d: ∀x∈a,x.mass < big) (e: ∀x∈b,x.mass < big):
  call tb 729 [.sl o 4 (Qa a),.sl h 4 (Qa b)] f=some (.sl true 4 (Qa (Yr a b)),f):=by
 have c:a.length*56<=140737488355328:=X7 (by omega);rw[zcc 729 rfl rfl];simp[f729C,c];refine(fun i=>QbY b f g e b [] a i rfl (by omega) d) _ ?_ ?_ ?_ <;> simp
def Qe9 (t e) (G:t.mass < 30000000) (E: ∀x∈t.kids,∀e,call tb 728 [.agg (Qd x)] e=some (.sl true 4 (Qa (QI x)),e)):
  ∀b c a d,t.kids=c ++ b->a.length+Qp b < 30000000->(∀x∈a,x.mass < big)->d 1= .bx (Qd t)->d 3= .sl true 4 (Qa a)->d 4= .int .i64 c.length->
  R tb (.loop f728l0) d e (Qh 0 (Qs tb f728r0 (QA f728 e)))=some (.sl true 4 (Qa (Ym a b)),e):=by
 have D:=QL t;intro b;induction b with | nil=>intro c a d f r g m o n;simp only[Qy]at f;rw[<- f]at n;rw[Qb f728l0.eq_1];simp[m,o,n,f728r0,Ym] | cons x b u=>intro c a d f r g m o n;have s:=Qv f;have v:=QD f;(have A:t.kids[c.length]'(by omega)=x:=by have:=Za (l:=t.kids) (i:=c.length) (by omega);rw[s]at this;injection this with this;exact this.symm);(have k:x∈t.kids:=by rw[f];simp);have C:=QR k;have B:=Yu x;have w:=WH x;simp only[Qp]at r;(have j: ∀y∈QI x,y.mass < big:=fun y p=>by have:=VD x y (RV x y p);unfold big;omega);have z:=U5 (QI x) a;(have q: ∀y∈Yr a (QI x),y.mass < big:=fun y p=>by rcases VI (Vr x) p with h | h;exact g y h;exact j y h);rw[Qb f728l0.eq_1];simp[m,o,n,s,(QF f),(wr1 c.length (by omega)),(E x k e),(Qpm a (QI x) false false e (by omega) (by omega) g j),Ym];refine(fun d=>u (c ++ [x]) (Yr a (QI x)) d (by rw[f];simp) (by omega) q) _ ?_ ?_ ?_ <;> simp[m]
def Qpl: ∀t f,t.mass < 30000000->call tb 728 [.agg (Qd t)] f=some (.sl true 4 (Qa (QI t)),f):=by
 refine Yp ?_;intro k n s a p f l;have h:=QL (.mk k n s a);have m:=YN a;simp only[ZJ,Yy]at h;rw[zcc 728 rfl rfl];by_cases b:k=3;by_cases d:n=Yl;rcases a with _ | ⟨x,o⟩;simp[f728C,Qd,Qa,QI,b,d,Yl];simp only[Yl]at d;have: ¬((o.length:Int)+1=0):=by omega
 simp[f728C,Qd,QI,b,d,Yl,XOR,this,Qa];by_cases c:n=XOR;have e:QI (.mk k n s a)=Ym [] a:=by simp[QI,b,c,Yl,XOR]
 rw[e];have g: (n == [122,101,114,111])=false:=by simpa[Yl]using d
 simp only[XOR]at c;simp[f728C,Qd,b,c];refine(fun r=>Qe9 (.mk k n s a) f l (fun x c f=>p x c f (by have:=QR c;simp at this;omega)) a [] [] r rfl (by simp;omega) (by simp)) _ ?_ ?_ ?_ <;> simp[Qd,Qa,b,c];have e:QI (.mk k n s a)=[.mk k n s a]:=by simp[QI,b,c,d]
 rw[e];have g: (n == [122,101,114,111])=false:=by simpa[Yl]using d
 have i: (n == [120,111,114])=false:=by simpa[XOR]using c
 have j: (n != [120,111,114])=true:=by simpa[XOR]using c
 simp[f728C,Qd,b,g,i,Qa];have e:QI (.mk k n s a)=[.mk k n s a]:=by simp[QI,b]
 rw[e];have q: (k != 3)=true:=by simp[b]
 simp[f728C,Qd,b,q,Qa]
def Qc7 (t B) (c:t.mass < 1000000) (b:QZ t=0):call tb 312 [.agg (Qd t)] B=some (.otup 4 (Qa (QI t)) [.int .i64 0],B):=by
 have a:=W3 t B (by unfold big;omega);rw[b]at a;rw[zcc 312 rfl rfl];simp[f312C,a,(Qpl t B (by omega)),Qc,(ZL (QI t))]
def QqS (s u) (h:SH s u) (t):
  ∀f a j,s=a ++ f->j 0= .sl false 4 (Qa s)->j 3= .bx (Qd u)->j 5= .sl true 4 (Qa (Yx s u))->j 10= .sl true 4 (Qa (a.filter (XQ (Yx s u))))->j 11= .int .i64 a.length->
  R tb (.loop f311l1) j t (Qh 2 (Qs tb f311r0 (QA f311 t)))=some (.bool (SS s u),t):=by
 have N:=H6 h;have I:=h.len;intro f;induction f with | nil=>intro a j m l w q c g;simp only[Qy]at m;rw[<- m]at g c;have Q:=UJ (XQ (Yx s u)) s;have H:=h.nod;obtain⟨v,e,G,P⟩:=Qou (NB s u) u false t (by unfold NB;omega) (fun x r=>h.mass x (VP.1 r).1) h.um h.right;have O:NB s u=s.filter (XQ (Yx s u)):=rfl;rw[O]at G;(have L:decide (e=0)=SS s u:=by unfold SS;rwa[JI]);rw[<- L];generalize s.filter (XQ (Yx s u))=S at *;rw[Qb f311l1.eq_1];simp[l,w,c,g,f311r0,Qc,G] | cons x f J=>intro a j m l w q c g;have C:=Qv m;have M:=QD m;have o:=wr1 a.length (by omega);have n:=QF m;(have A:x∈s:=by rw[m];simp);(have B:x.mass < big:=by have:=h.mass x A;unfold big;omega);have b:=Xw x XOR t;have d:=Sb (Yx s u) x false t (by omega) (IE h) B;have K:=Ux (XQ (Yx s u)) a;(have i: ((a.filter (XQ (Yx s u))).length+1)*56<=140737488355328:=by omega);have p:=fun j=>J (a ++ [x]) j (by rw[m];simp);simp only[XOR]at b;rw[Qb f311l1.eq_1];by_cases r:isB x XOR=true;(have y: (a ++ [x]).filter (XQ (Yx s u))=a.filter (XQ (Yx s u))++ [x]:=by simp[UW,XQ,r]);rw[y]at p;simp only[XOR]at r;rw[r]at b;generalize a.filter (XQ (Yx s u))=D at *;generalize Yx s u=E at *;simp[l,c,g,C,n,o,Qc,b,i,ZH,QQ];refine p _ ?_ ?_ ?_ ?_ ?_ <;> simp[l,w,q];(have k:isB x XOR=false:=by simpa using r);simp only[XOR]at k;rw[k]at b;cases z:Qx (Yx s u) x;(have y: (a ++ [x]).filter (XQ (Yx s u))=a.filter (XQ (Yx s u)):=by simp[UW,XQ,XOR,k,z]);rw[y]at p;rw[z]at d;generalize a.filter (XQ (Yx s u))=D at *;generalize Yx s u=E at *;simp[l,q,c,g,C,n,o,Qc,b,d,i,ZH,QQ];refine p _ ?_ ?_ ?_ ?_ ?_ <;> simp[l,w,q,c];(have y: (a ++ [x]).filter (XQ (Yx s u))=a.filter (XQ (Yx s u))++ [x]:=by simp[UW,XQ,XOR,k,z]);rw[y]at p;rw[z]at d;generalize a.filter (XQ (Yx s u))=D at *;generalize Yx s u=E at *;simp[l,q,c,g,C,n,o,Qc,b,d,i,ZH,QQ];refine p _ ?_ ?_ ?_ ?_ ?_ <;> simp[l,w,q]
def QqR (s u) (h:SH s u) (k):
  ∀b a d,s=a ++ b->d 0= .sl false 4 (Qa s)->d 3= .bx (Qd u)->d 5= .sl true 4 (Qa (QI u ++ YJ (a.filter fun t=>isB t XOR)))->d 7= .int .i64 a.length->
  R tb (.loop f311l0) d k (Qh 0 (Qs tb f311r1 (QA f311 k)))=some (.bool (SS s u),k):=by
 have B:=h.len;have C:=h.nod;intro b;induction b with | nil=>intro a d f i n g m;simp only[Qy]at f;rw[<- f]at m g;have z:=fun d=>QqS s u h k s [] d rfl;have e:QI u ++ YJ (s.filter fun t=>isB t XOR)=Yx s u:=rfl;rw[e]at g;generalize Yx s u=K at *;rw[Qb f311l0.eq_1];simp[i,m,f311r1];refine z _ ?_ ?_ ?_ ?_ ?_ <;> simp[i,n,g,Qa] | cons x b G=>intro a d f i n g m;have A:=Qv f;have H:=QD f;have r:=wr1 a.length (by omega);have o:=QF f;(have q:x∈s:=by rw[f];simp);have c:=Xw x XOR k;have l:=fun d=>G (a ++ [x]) d (by rw[f];simp);simp only[XOR]at c;rw[Qb f311l0.eq_1];by_cases v:isB x XOR=true;(have w: (a ++ [x]).filter (fun t=>isB t XOR)=a.filter (fun t=>isB t XOR)++ [x]:=by simp[UW,v]);(have J: (QI u ++ YJ (a.filter fun t=>isB t XOR)).length+ (QI x).length < 90000:=by have z:=WH u;have L:=RM (a.filter fun t=>isB t XOR);have n:=UJ (fun t=>isB t XOR) a;have M:=WH x;(have g:Qp s=Qp a+ (x.nodes+Qp b):=by rw[f,ZK];simp[Qp]);simp only[Q6];omega);(have p: ((QI u ++ YJ (a.filter fun t=>isB t XOR)).length+ (QI x).length)*56<=140737488355328:=by omega);rw[w,A8,<- ZU]at l;(have E:YJ [x]=QI x:=by simp[YJ]);rw[E]at l;simp only[XOR]at v;rw[v]at c;generalize QI u ++ YJ (a.filter fun t=>isB t XOR)=y at *;(have I: (Qa y).length=y.length:=by simp[Zr]);(have D: (Qa (QI x)).length=(QI x).length:=by simp[Zr]);simp[i,g,m,A,o,r,Qc,c,(Qc7 x k (h.mass x q) (h.v x q)),p,I,D];refine l _ ?_ ?_ ?_ ?_ <;> simp[n,i,QQ];(have j:isB x XOR=false:=by simpa using v);(have w: (a ++ [x]).filter (fun t=>isB t XOR)=a.filter (fun t=>isB t XOR):=by simp[UW,j]);rw[w]at l;simp only[XOR]at j;rw[j]at c;generalize QI u ++ YJ (a.filter fun t=>isB t XOR)=y at *;simp[i,m,A,o,r,Qc,c];refine l _ ?_ ?_ ?_ ?_ <;> simp[n,i,g]
def Qot (s u) (h:SH s u) (o a):call tb 311 [.sl o 4 (Qa s),.agg (Qd u)] a=some (.bool (SS s u),a):=by
 rw[zcc 311 rfl rfl];simp[f311C,(Qc7 u a h.um h.uv),Qc];refine(fun b=>QqR s u h a s [] b rfl) _ ?_ ?_ ?_ ?_ <;> simp[YJ]
def XJ (t:Tm):Bool:=isB t MUL || isB t INV
def Xn (s:Qj) (l:Q9):Q9:=l.filter fun p=> !Qx s p.1
def WC (s0 s:Qj):List Q9:=(s.filter XJ).map fun t=>Xn s0 (ofP t)
def SL (s:Qj) (m:Q9):Bool:=decide (meE (WC s s) (Xn s m)=0)
def Gs (s l): (Xn s l).length<=l.length:=Ux _ _
def Di {l} (s) (h:SmP l):SmP (Xn s l):=⟨Nat.lt_of_le_of_lt (Gs s l) h.1,fun q a=>h.2 q (VP.1 a).1⟩
def Qex {a}: ∀{s},(∀x∈s,x.mass < 1000000)->∀g∈WC a s,SmP g:=by
 intro s h g b;obtain⟨t,c,rfl⟩:=YL.1 b;exact Di a (UN (h t (VP.1 c).1))
def KC (a s): (WC a s).length<=s.length:=by simp[WC];exact Ux _ _
def I3 (t b):call tb 297 [.agg (Qd t)] b=some (.bool (XJ t),b):=by
 have a:=Xw t MUL b;have d:=Xw t INV b;unfold MUL at a;unfold INV at d;rw[zcc 297 rfl rfl];unfold XJ MUL INV;cases c:isB t [109,117,108];rw[c]at a;simp[f297C,a,d,Qc];rw[c]at a;simp[f297C,a,Qc]
def Qm7 (s a p):Xn s (a ++ [p])=Xn s a ++ (if Qx s p.1 then []else [p]):=by
 simp only[Xn,UW];cases h:Qx s p.1 <;> simp[h]
def QwA (s l) (B:s.length < 1000000) (C: ∀x∈s,x.mass < big) (r:SmP l) (t):
  ∀b a o h d,l=a ++ b->d 0= .sl o 5 (Qz l)->d 1= .sl h 4 (Qa s)->d 5= .sl true 5 (Qz (Xn s a))->d 6= .int .i64 a.length->
  R tb (.loop f321l0) d t (Qh 0 (Qs tb f321r0 (QA f321 t)))=some (.sl false 5 (Qz (Xn s l)),t):=by
 intro b;induction b with | nil=>intro a o h d f i j k u;simp only[Qy]at f;subst f;rw[Qb f321l0.eq_1];simp[i,j,k,u,f321r0] | cons p b z=>intro a o h d f i j k u;have y:=Qv f;have E:=QD f;have q:IntKind.i64.wrap ((a.length:Int)+1)=(a.length:Int)+1:=QC (by have:=r.1;omega) (by have:=r.1;omega);have m:=QF f;(have v:p∈l:=by rw[f];simp);have D:=r.2 p v;have c:=Sb s p.1 false t (by omega) C (by unfold big;omega);have g:=fun o h d=>z (a ++ [p]) o h d (by rw[f];simp);rw[Qm7]at g;have A:=Gs s a;(have e: ((Xn s a).length+1)*64<=140737488355328:=by have:=r.1;omega);(have n:Qz (Xn s a)++ [Zb p]=Qz (Xn s a ++ [p]):=by simp[Qz]);rw[Qb f321l0.eq_1];cases w:Qx s p.1;rw[w]at c g;simp only[Xa,ZM]at g;simp[i,j,k,u,y,m,q,c,e,n];apply g o h <;> simp[i,j];rw[w]at c g;simp only[QU,Qy]at g;simp[i,j,k,u,y,m,q,c,e];apply g o h <;> simp[i,j,k]
def Qdb (s l o c a) (b:s.length < 1000000) (d: ∀x∈s,x.mass < big) (e:SmP l):
  call tb 321 [.sl o 5 (Qz l),.sl c 4 (Qa s)] a=some (.sl false 5 (Qz (Xn s l)),a):=by
 rw[zcc 321 rfl rfl];simp[f321C];apply(fun f=>QwA s l b d e a l [] false false f rfl) <;> simp[Xn,Qz]
def Qui (s m) (L:s.length < 100000) (B: ∀x∈s,x.mass < 1000000) (E:SmP m) (g):
  ∀b a o i f,s=a ++ b->f 0= .sl o 4 (Qa s)->f 1= .sl i 5 (Qz m)->f 5= .sl true 1 (ZS (WC s a))->f 6= .int .i64 a.length->
  R tb (.loop f320l0) f g (Qh 0 (Qs tb f320r0 (QA f320 g)))=some (.bool (SL s m),g):=by
 have q: ∀x∈s,x.mass < big:=fun x G=>by have:=B x G;unfold big;omega
 intro b;induction b with | nil=>intro a o i f h j w r A;simp only[Qy]at h;subst h;have d:=Qdb s m false false g (by omega) q E;obtain⟨O,e,n,K⟩:=Qoz (WC s s) (Xn s m) false false g (by have:=KC s s;omega) (Qex B) (Di s E);(have u:SL s m=decide (e=0):=by unfold SL;exact JI.2 K.symm);(have I:Qn .eql (.int .i64 e) (.int .i64 0)=some (.bool (decide (e=0))):=by by_cases M:e=0 <;> simp[Qn,M]);rw[u];rw[Qb f320l0.eq_1];simp[-Qn,show ∀x y,Qn .lss (.int .i64 x) (.int .i64 y)=some (.bool (decide (x < y)))from fun x y=>by simp only[Qn,QU],j,w,r,A,f320r0,d,n,I] | cons t b H=>intro a o i f h j w r A;have u:=Qv h;have N:=QD h;have k:=wr1 a.length (by omega);have p:=QF h;have D:=B t (by rw[h];simp);have c:=I3 t g;have d:=Qdb s (ofP t) false false g (by omega) q (UN D);have v:=fun o i f=>H (a ++ [t]) o i f (by rw[h];simp);have J:=KC s a;(have l: ((WC s a).length+1)*24<=140737488355328:=by omega);rw[Qb f320l0.eq_1];cases z:XJ t;(have C:WC s (a ++ [t])=WC s a:=by simp[WC,z]);rw[z]at c;rw[C]at v;simp[j,A,u,p,k,c,Qc];apply v o i <;> simp[j,w,r];(have C:WC s (a ++ [t])=WC s a ++ [Xn s (ofP t)]:=by simp[WC,z]);rw[z]at c;rw[C,<- (NI (WC s a) [Xn s (ofP t)])]at v;simp[j,r,A,u,p,k,c,(R5 t g (by omega)),d,Qc,(NK (Xn s (ofP t))),l];apply v o i <;> simp[j,w]
def Qda (s m o f a) (b:s.length < 100000) (c: ∀x∈s,x.mass < 1000000) (d:SmP m):
  call tb 320 [.sl o 4 (Qa s),.sl f 5 (Qz m)] a=some (.bool (SL s m),a):=by
 rw[zcc 320 rfl rfl];simp[f320C];apply(fun e=>Qui s m b c d a s [] false false e rfl) <;> simp[WC,ZS]
def H9 (s:Qj) (u:Tm):Bool:=decide (ofE u=0) && SL s (ofP u)
def Gi (s:Qj) (u:Tm):Bool:=s.any fun t=>Rf u t && SL s (MI u t)
def QoD (s u o b) (c:s.length < 100000) (e: ∀x∈s,x.mass < 1000000) (d:u.mass < 1000000):
  call tb 330 [.sl o 4 (Qa s),.agg (Qd u)] b=some (.bool (H9 s u),b):=by
 have a:=R5 u b (by omega);rw[zcc 330 rfl rfl];unfold H9;by_cases h:ofE u=0;simp[f330C,a,(Qda s (ofP u) false false b c e (UN d)),h,Qc];simp[f330C,a,h,Qc]
def QuG (s u) (D:s.length < 100000) (J: ∀x∈s,x.mass < 1000000) (M:u.mass < 1000000) (L: ∀x∈s,isB x EXP=true->x.kids.length=2) (l):
  ∀b d o n h,s=d ++ b->h 0= .sl o 4 (Qa s)->h 5= .bx (Qd (We u))->h 6= .sl n 5 (Qz (Xk u))->h 7= .int .i64 d.length->
  R tb (.loop f317l0) h l (Qh 0 (Qs tb f317r0 (QA f317 l)))=some (.bool (b.any fun t=>Rf u t && SL s (MI u t)),l):=by
 obtain⟨E,_⟩:=Lg M;have Q:=NG u;intro b;induction b with | nil=>intro d o n h m e i j p;simp only[Qy]at m;subst m;rw[Qb f317l0.eq_1];simp[e,p,f317r0] | cons t b P=>intro d o n h m e i j p;have A:=Qv m;have O:=QD m;have f:=wr1 d.length (by omega);have g:=QF m;(have k:t∈s:=by rw[m];simp);have q:=J t k;obtain⟨I,B⟩:=Qc9 t l q (L t k);obtain⟨K,N⟩:=Lg q;have H:=QbO K;have C:=fun o=>Qoy (Xk t) o l K.1 N;have y:=fun o I=>Qc4 (Xk u) (YB (Xk t)) o I l (by have:=E.1;omega) (by have:=H.1;omega) E.big H.big;have S:=NG t;have z:=W2 (We u) (We t) l (by unfold big;omega) (by unfold big;omega);have G:=fun o n h=>P (d ++ [t]) o n h (by rw[m];simp);have a:=Qda s (MI u t) false false l D J (QbN E H);unfold MI at a;simp only[JT];rw[Qb f317l0.eq_1];by_cases c:Qo (We u) (We t)=0;by_cases w:VV (Xk u) (YB (Xk t))=0;(have v:Rf u t=true:=by simp[Rf,c,w]);rw[v];cases r:SL s (MI u t);rw[show SL s (WD (Xk u) (YB (Xk t)))=false from r]at a;simp[e,i,j,p,A,g,f,B,C,y,z,c,w,a,Qc];rw[G o n] <;> simp[e,i,j];rw[show SL s (WD (Xk u) (YB (Xk t)))=true from r]at a;simp[e,i,j,p,A,g,f,B,C,y,z,c,w,a,Qc];(have v:Rf u t=false:=by simp[Rf,w]);rw[v];simp[e,i,j,p,A,g,f,B,C,y,z,c,w,Qc];rw[G o n] <;> simp[e,i,j];(have v:Rf u t=false:=by simp[Rf,c]);rw[v];simp[e,i,j,p,A,g,f,B,C,y,z,c,Qc];rw[G o n] <;> simp[e,i,j]
def Qox (s u o a) (c:s.length < 100000) (g: ∀x∈s,x.mass < 1000000) (e:u.mass < 1000000) (f: ∀x∈s,isB x EXP=true->x.kids.length=2) (b:isB u EXP=true->u.kids.length=2):
  call tb 317 [.sl o 4 (Qa s),.agg (Qd u)] a=some (.bool (Gi s u),a):=by
 obtain⟨d,h⟩:=Qc9 u a e b;rw[zcc 317 rfl rfl];simp[f317C,h,Qc];unfold Gi;apply(fun d i=>QuG s u c g e f a s [] false d i rfl) false <;> simp
noncomputable def XD (s:Qj) (u:Tm):Bool:=Qx s u || X0 u || Uo s u || OA s u || SS s u || Gi s u || H9 s u
structure StC (s:List Tm) (u:Tm):Prop where
 len:s.length < 100000
 gs:GS s
 um:u.mass < 1000000
 ek: ∀x∈s,isB x EXP=true->x.kids.length=2
 eu:isB u EXP=true->u.kids.length=2
 sh:X0 u=false->SH s u
def Qoq (s u o a) (h:StC s u):call tb 308 [.sl o 4 (Qa s),.agg (Qd u)] a=some (.bool (XD s u),a):=by
 have v:=h.gs.1;have q:=fun x t=>(h.gs.2 x t).2;have d:=Sb s u false a (by omega) h.gs.bg (by have:=h.um;unfold big;omega);have e:=Qc0 u a h.um;have g:=Qor s u false a (by omega) h.gs.bg h.um;have i:=Qos s u false a h.gs h.um;have n:=Qox s u false a h.len q h.um h.ek h.eu;have r:=QoD s u false a h.len q h.um;rw[zcc 308 rfl rfl];unfold XD;cases b:Qx s u;cases c:X0 u;have l:=Qot s u (h.sh c) false a;cases f:Uo s u;cases j:OA s u;cases k:SS s u;cases m:Gi s u;cases p:H9 s u;simp[f308C,d,e,g,i,l,n,r,b,c,f,j,k,m,p,Qc];simp[f308C,d,e,g,i,l,n,r,b,c,f,j,k,m,p,Qc];simp[f308C,d,e,g,i,l,n,b,c,f,j,k,m,Qc];simp[f308C,d,e,g,i,l,b,c,f,j,k,Qc];simp[f308C,d,e,g,i,b,c,f,j,Qc];simp[f308C,d,e,g,b,c,f,Qc];simp[f308C,d,e,b,c,Qc];simp[f308C,d,b,Qc]
def kpW (s:Qj) (p:Pw):Bool:= !Qx s p.1
def YF (ks:Q9):QB:=ks.flatMap Zb
def QlN (a): (a.map Zb).flatten.map AV.strip=YF a:=by
 induction a with | nil=>rfl | cons k a b=>simp only[ZO,Su,Xp,b,Wv,YF,An]
def Pb (a): (YF a).length=a.length*5:=by
 induction a with | nil=>rfl | cons k a b=>simp only[YF,An,Q6,W7]at *;grind
def M6 (a b):YF (a ++ b)=YF a ++ YF b:=by simp[YF]
def TN (a b):YF (a:: b)=Zb a ++ YF b:=by simp[YF]
@[simp] def Qqh: ∀l:Q9,ZD (l.map Zb)=true
 | []=>rfl
 | k:: l=>by simp[ZD,Qqh l]
def Qad (b): ∀a n,a.length=n->ZR (a ++ YF b) n 5 b.length=b.map Zb:=by
 induction b with | nil=>intro a n h;rfl | cons k b c=>intro a n h;unfold ZR at *;rw[Zu,List.range_succ_eq_map,ZO,Mm,ZO,<- (c (a ++ Zb k) (n+5) (by simp_all))];refine List.cons_eq_cons.2 ⟨?_,Rp fun j _=> ?_⟩;rw[TN];simp_all;simp only[Function.comp_apply,TN,ZU];grind
def K8 (a):ZR (YF a) 0 5 a.length=a.map Zb:=Qad a [] 0 rfl
def Qmj {c a b x} (h:c=a ++ x:: b): ((YF c).drop (a.length*5)).take 5=Zb x:=by
 subst h;rw[M6,TN,<- Pb];simp
def QgM {c a b} (h:c=a ++ b): (YF c).take (a.length*5)=YF a:=by
 subst h;rw[M6,<- Pb];simp
def QfH {c b a} (h:c=b ++ a): (YF c).drop (b.length*5)=YF a:=by
 subst h;rw[M6,<- Pb];simp
def Lr (a): (YF a).map AV.strip=YF a:=by
 induction a with | nil=>rfl | cons k a b=>rw[TN,Xp,b,Wv]
def TQ {α:Type} (p:α->Bool) (i:Nat):List α->Int
 | []=> -1
 | x:: xs=>if p x then i else TQ p (i+1) xs
def QbX (c s u g d) (q:d[u]? =some (YF c)) (A:d[g]? =some [.sl false 4 (Qa s)]) (B: ∀(x:Pw) (d:Qr),x∈c->d[g]? =some [.sl false 4 (Qa s)]->call tb 558 [.agg (Zb x),.gp g 0] d=some (.bool (!kpW s x),d)) (C:c.length < 1000000):
  ∀b a f,c=a ++ b->f 0= .gs u 0 5 c.length->f 1= .fn 558 [.gp g 0]->f 7= .int .i64 c.length->f 8= .int .i64 a.length->
  R tb (.loop f205l0) f d (Qh 0 (Qs tb f205r0 (QA f205 d)))=
   some (.int .i64 (TQ (fun k=> !kpW s k) a.length b),d):=by
 intro b;induction b with | nil=>intro a f e j l o r;rw[Qb f205l0.eq_1];simp only[Qy]at e;rw[<- e]at r;simp[j,l,o,r,f205r0,TQ] | cons x b z=>intro a f e j l o r;have y:=QD e;have n:=wr1 a.length (by omega);have m:=QF e;have t:=Qmj e;have i:=Pb c;(have p:a.length*5+5<=c.length*5:=by omega);have w:=B x d (by grind) A;have h:=Lr c;generalize YF c=D at *;rw[Qb f205l0.eq_1];cases v:kpW s x;simp[j,l,o,r,n,m,q,t,i,p,w,v,h,TQ];simp[j,l,o,r,n,m,q,t,i,p,w,v,h,TQ];rw[z (a ++ [x])] <;> simp[j,l,o,e]
def Qaf {c a n}:ZR c 0 a n=ZR ((c.map AV.strip).take (n*a)) 0 a n:=by
 unfold ZR;refine Rp fun j b=> ?_;have b:=Ni.1 b;have d:j*a+a<=n*a:=by have:=YE a (Nat.succ_le_of_lt b);grind
 simp only[ZV];rw[List.drop_take,LQ,JO (by omega),<- PG,<- SC,Mm];exact Rp fun x _=>(OZ x).symm
def Ic {c K} (h: (c.map AV.strip).take (K.length*5)=YF K):ZR c 0 5 K.length=K.map Zb:=by
 rw[Qaf,h,K8]
def QnC (n K i B c) (m:i < B.length) (h:c.length=n*5) (t:K.length<=n) (z:n < 1000000) (u: (c.map AV.strip).take (K.length*5)=YF K)
  (p) (j:p 0= .gs i 0 5 n) (k:p 5= .int .i64 K.length):
  ∃o w,R tb f559r0 p (B.set i c) (QA f559 B)=some (.sl o 5 (K.map Zb),B.set i w):=by
 have v: (K.length:Int)<=(n:Int):=by omega
 by_cases f:n - K.length=0;by_cases a:K.length=0;have:K=[]:=Yf a;subst this;refine⟨false,c,?_⟩;simp at f;subst f;have l:=Yf (by rw[h]);subst l;simp[f559r0,j,k,Ya,ZY,Z2];have d:=Ic u;refine⟨true,[],?_⟩;have r:K≠[]:=fun e=>a (by grind);have b:K.length*5<=n*5:=by omega
 simp[f559r0,j,k,Ya,f,a,t,b,ZY,Z2,m,h,d];have b:K.length*5+ (n - K.length)*5<=n*5:=by omega
 by_cases a:K.length=0;have:K=[]:=Yf a;subst this;refine⟨false,put c 0 (List.replicate (n*5) .undef),?_⟩;simp at f b;have x:c.drop (n*5)=[]:=PN (by omega);simp[f559r0,j,k,Ya,f,h,m,x,ZY,Z2];have d:ZR (put c (K.length*5) (List.replicate ((n - K.length)*5) .undef)) 0 5 K.length=K.map Zb:=by apply Ic;rw[put,ZU,Xp,SC,PM (by grind),LQ,Nat.min_self,u]
 refine⟨true,[],?_⟩;have r:K≠[]:=fun e=>a (by grind);have g:K.length*5<=n*5:=by omega
 have q: (put c (K.length*5) (List.replicate ((n - K.length)*5) .undef)).length=n*5:=by simp[put,h];omega
 generalize s:put c (K.length*5) (List.replicate ((n - K.length)*5) .undef)=y at *;simp[put]at s;simp[f559r0,j,k,Ya,f,a,t,b,g,q,s,ZY,Z2,m,h,d]
def QjB {c:QB} {n a d K b x} (l:c.length=n*5) (h:a=K.length) (g:a<=d) (j:d < n)
  (f: (c.map AV.strip).take (a*5)=YF K) (k: (c.map AV.strip).drop (d*5)=YF (x:: b)):
  (c.take (a*5)++ (Zb x ++ c.drop (a*5+5))).length=n*5/\
  ((c.take (a*5)++ (Zb x ++ c.drop (a*5+5))).map AV.strip).take ((a+1)*5)=YF (K ++ [x])/\
  ((c.take (a*5)++ (Zb x ++ c.drop (a*5+5))).map AV.strip).drop ((d+1)*5)=YF b:=by
 have i: (c.take (a*5)).length=a*5:=by grind
 have e:=W7 x;refine⟨by grind,?_,?_⟩;rw[Xp,Xp,SC,f,Wv,M6,show YF [x]=Zb x by simp[YF],<- ZU,PM (by grind)];grind;rw[Xp,Xp,Nf,PN (by grind),Y4,Nf,PN (by grind),Y4,PG,G1];simp only[UR,i,e];rw[show a*5+5+ ((d+1)*5 - a*5 - 5)=d*5+5 by omega,<- G1,k,TN];simp
def QgX (K:Q9) (B:Qr) (id:Nat) (r:Option (AV×Qr)):Prop:=∃o c',r=some (.sl o 5 (K.map Zb),B.set id c')
def QgZ (f s h g B) (G:h < B.length) (S:g≠h) (W:B[g]? =some [.sl false 4 (Qa s)]) (T: ∀(x:Pw) (H:Qr),x∈f->H[g]? =some [.sl false 4 (Qa s)]->call tb 558 [.agg (Zb x),.gp g 0] H=some (.bool (!kpW s x),H)) (P:f.length < 1000000):
  ∀b a c d,f=a ++ b->c.length=f.length*5->(c.map AV.strip).take ((a.filter (kpW s)).length*5)=YF (a.filter (kpW s))->
   (c.map AV.strip).drop (a.length*5)=YF b->d 0= .gs h 0 5 f.length->d 1= .fn 558 [.gp g 0]->d 5= .int .i64 (a.filter (kpW s)).length->d 6= .int .i64 a.length->
  QgX (f.filter (kpW s)) B h (R tb (.loop f559l0) d (B.set h c) (Qh 0 (Qs tb f559r0 (QA f559 B)))):=by
 intro b;induction b with | nil=>intro a c d y j J C i t r A;simp only[Qy]at y;subst y;rw[Qb f559l0.eq_1];simp[i,A];exact(fun d=>QnC f.length (f.filter (kpW s)) h B c G j (Ux _ _) P J d) _ (by simp[i]) (by simp[r]) | cons x b N=>intro a c d y j J C i t r A;have O:=QD y;have I:=Ux (kpW s) a;have w:=wr1 a.length (by omega);have L:IntKind.i64.wrap (((a.filter (kpW s)).length:Int)+1)=((a.filter (kpW s)).length:Int)+1:=QC (by omega) (by omega);have u:=QF y;(have l: ((a.filter (kpW s)).length:Int) < (f.length:Int):=by omega);(have z:List.take 5 (List.drop (a.length*5) (c.map AV.strip))=Zb x:=by rw[C,TN];simp);(have p:a.length*5+5<=f.length*5:=by omega);(have v: (a.filter (kpW s)).length*5+5<=f.length*5:=by omega);(have K: (B.set h c)[g]? =some [.sl false 4 (Qa s)]:=by grind);have n:=T x (B.set h c) (by grind) K;have o:=Wv x;have q:List.take 5 (Zb x)=Zb x:=Z2 (by simp);have k:=W7 x;(have Q:Q5 (Zb x)=true:=by simp);(have e:f=(a ++ [x])++ b:=by grind);rw[Qb f559l0.eq_1];cases D:kpW s x;(have E: (a ++ [x]).filter (kpW s)=a.filter (kpW s):=by simp[D]);(have M: (c.map AV.strip).drop ((a ++ [x]).length*5)=YF b:=by rw[show(a ++ [x]).length*5=a.length*5+5 by grind,<- G1,C,TN];simp);have m:=fun d=>N (a ++ [x]) c d e j (by grind) M;rw[E]at m;simp[i,t,r,A,G,w,u,z,j,p,n,D,q,k,o];exact m _ (by simp[i]) (by simp[t]) (by simp[r]) (by simp);obtain⟨U,X,V⟩:=QjB j rfl I (by omega) J C;(have E: (a ++ [x]).filter (kpW s)=a.filter (kpW s)++ [x]:=by simp[D]);have m:=fun d=>N (a ++ [x]) _ d e U (by rwa[E,Q6]) (by rwa[Q6]);rw[E]at m;simp[i,t,r,A,G,w,L,u,l,z,j,p,v,n,D,q,k,o];exact m _ (by simp[i]) (by simp[t]) (by simp) (by simp)
def FG {b} (p): ∀(l:List b) i,TQ p i l= -1->l.any p=false
 | [],_,_=>rfl
 | x:: c,i,h=>by
  simp only[TQ]at h;cases a:p x;rw[a]at h;simp only[JT,a,T3];exact FG p c (i+1) (by omega);grind
def FH {f} (p): ∀(l:List f) i,TQ p i l≠ -1->∃b a,l=b ++ a/\b.any p=false/\TQ p i l=(i+b.length:Nat)/\∃x c,a=x:: c/\p x=true
 | [],_,h=>by simp[TQ]at h
 | x:: d,i,h=>by
  cases e:p x;simp only[TQ,e]at h ⊢;obtain⟨b,a,j,m,k,y,q,g⟩:=FH p d (i+1) (by grind);grind;exact⟨[],x:: d,rfl,rfl,by simp[TQ,e],x,d,rfl,e⟩
def Qb8 (b s c g a) (d:a[c]? =some (YF b)) (f:a[g]? =some [.sl false 4 (Qa s)]) (h: ∀(x:Pw) (a:Qr),x∈b->a[g]? =some [.sl false 4 (Qa s)]->call tb 558 [.agg (Zb x),.gp g 0] a=some (.bool (!kpW s x),a)) (i:b.length < 1000000):
  call tb 205 [.gs c 0 5 b.length,.fn 558 [.gp g 0]] a=some (.int .i64 (TQ (fun k=> !kpW s k) 0 b),a):=by
 rw[zcc 205 rfl rfl];simp[f205C];have:=fun e=>QbX b s c g a d f h i b [] e rfl;simp_all
def AU (a s d g B) (e:B[d]? =some (YF a)) (r:g≠d) (C:B[g]? =some [.sl false 4 (Qa s)]) (A: ∀(x:Pw) (w:Qr),x∈a->w[g]? =some [.sl false 4 (Qa s)]->call tb 558 [.agg (Zb x),.gp g 0] w=some (.bool (!kpW s x),w)) (z:a.length < 1000000):
  ∃o I,call tb 559 [.gs d 0 5 a.length,.fn 558 [.gp g 0]] B=some (.sl o 5 ((a.filter (kpW s)).map Zb),B.set d I):=by
 have f: ∀c,B[d]? =some c->B.set d c=B:=fun c h=>Ss fun j=>by grind
 have i:=Qb8 a s d g B e C A z;show QgX (a.filter (kpW s)) B d _;rw[zcc 559 rfl rfl];by_cases n:TQ (fun k=> !kpW s k) 0 a= -1;have M:=FG _ a 0 n;have t:=Pb a;have u:=K8 a;rcases a with _ | ⟨k,a⟩;refine⟨false,YF [],?_⟩;rw[f _ e];simp only[Xc]at i;rw[n]at i;simp[f559C,i,ZY];refine⟨true,[],?_⟩;rw[(Ah.2 fun k E=>by grind)];have p:Q5 (Zb k)=true:=by simp
 simp only[Zu]at *;rw[n]at i;simp[f559C,i,ZY,e,t,u,p,Z2];obtain⟨b,y,H,N,K,x,l,L,O⟩:=FH _ a 0 n;have v:IntKind.i64.wrap ((b.length:Int)+1)=(b.length:Int)+1:=QC (by omega) (by grind);have G:b.filter (kpW s)=b:=Ah.2 fun k E=>by grind
 have m: (b ++ [x]).filter (kpW s)=b:=by grind
 have D:=fun J=>QgZ a s d g B (by grind) r C A z l (b ++ [x]) (YF a) J (by grind) (Pb a) (by rw[m,Lr];exact QgM H) (by rw[Lr];exact QfH (by grind));rw[m,f _ e]at D;have q:TQ (fun k=> !kpW s k) 0 a=(b.length:Int):=by omega
 rw[q]at i;simp[f559C,i,(by omega),v];simp_all
def QoY (s p g a) (e:s.length < 100000000) (b: ∀x∈s,x.mass < big) (f:p.1.mass < big) (d:Asc s) (c:a[g]? =some [.sl false 4 (Qa s)]):
  call tb 558 [.agg (Zb p),.gp g 0] a=some (.bool (!kpW s p),a):=by
 rw[zcc 558 rfl rfl];simp[f558C,c,(Tq s p.1 false a e b f d),kpW]
def UnR (s:Qj) (l:Q9) (bs:Qr) (r:Out):Prop:=∃o,r=some (.sl o 5 (Qz (Xn s l)),bs)
def Qrl (s l):l.filter (kpW s)=Xn s l:=rfl
def Qds (s l o p a) (h:s.length < 100000000) (w: ∀x∈s,x.mass < big) (z:Asc s) (n:SmP l):
  UnR s l a (call tb 556 [.sl o 4 (Qa s),.sl p 5 (Qz l)] a):=by
 rw[zcc 556 rfl rfl];by_cases c:l=[];subst c;have d: ∀B,call tb 557 [.sl false 5 []] B=some (.gs 0 0 0 0,B):=fun B=>by rw[Y9 tb_557];simp[X2,VE]
 have b: ∀B,call tb 205 [.gs 0 0 0 0,.fn 558 [.gp a.length 0]] B=some (.int .i64 (-1),B):=fun B=>by rw[zcc 205 rfl rfl];simp[f205C];rw[Qb f205l0.eq_1];simp[f205r0]
 have q: ∀B,call tb 559 [.gs 0 0 0 0,.fn 558 [.gp a.length 0]] B=some (.sl true 5 [],B):=fun B=>by have:=b B;rw[zcc 559 rfl rfl];simp[f559C,this,ZY]
 refine⟨true,?_⟩;simp[f556C,d,q,Qz,Xn];have g:=n.1;have d:call tb 557 [.sl false 5 (Qz l)] (a ++ [[AV.sl false 4 (Qa s)]])=some (.gs (a.length+1) 0 5 l.length,a ++ [[AV.sl false 4 (Qa s)]]++ [YF l]):=by rw[Y9 tb_557];have A: (Qz l).flatten.map AV.strip=YF l:=QlN l;(have f: (Qz l).length=l.length:=by simp[Qz]);have C: ¬Qz l=[]:=fun e=>c (by rw[e]at f;exact Yf f.symm);(have r:l.length*64<=140737488355328:=by omega);simp[X2,VE,A,f,(Mw l),c,r]
 obtain⟨m,k,b⟩:=AU l s (a.length+1) a.length _ (by(have:a.length+1=(a ++ [[AV.sl false 4 (Qa s)]]).length:=by simp);rw[this];exact Yc) (by omega) (Zd (Yc) _) (fun x B u y=>QoY s x a.length B h w (n.big x u) z y) g;rw[Qrl]at b;have i: ((a ++ [[AV.sl false 4 (Qa s)]]++ [YF l]).set (a.length+1) k).take a.length=a:=by rw[Sr _ _ (by simp)];simp
 refine⟨m,?_⟩;generalize D:Qz l=E at *;generalize v: (a ++ [[AV.sl false 4 (Qa s)]]++ [YF l]).set (a.length+1) k=t at *;have j:call tb 559 [.gs (a.length+1) 0 5 l.length,.fn 558 [.gp a.length 0]] (a ++ [[AV.sl false 4 (Qa s)]]++ [YF l])=some (.sl m 5 (Qz (Xn s l)),t):=b;simp[-List.append_assoc,f556C,d,j,i]
def Iq (s:Qj) (m:Q9):Bool:=decide (Xn s m=[]) || SL s m
def Qdi (t a):call tb 522 [.agg (Qd t)] a=some (.bool (XJ t),a):=by
 have h:=HI t MUL INV true a;have b:=HI t MUL INV false a;unfold MUL INV at h b;rw[zcc 522 rfl rfl];unfold XJ MUL INV;simp[f522C,b,Qc]
def QqD (s m) (I:s.length < 100000) (E: ∀x∈s,x.mass < 1000000) (L:Asc s) (M:SmP m) (k):
  ∀c a o j l g,s=a ++ c->g 0= .sl o 4 (Qa s)->g 1= .sl j 5 (Qz (Xn s m))->g 5= .sl true 1 (ZS (WC s a))->g 18= .sl l 4 (Qa s)->g 19= .int .i64 s.length->g 20= .int .i64 a.length->
  R tb (.loop f555l0) g k (Qh 0 (Qs tb f555r0 (QA f555 k)))=some (.bool (SL s m),k):=by
 intro c;induction c with | nil=>intro a o j l g i w z A f d h;simp only[Qy]at i;subst i;obtain⟨T,e,n,O⟩:=QoZ (WC s s) (Xn s m) false false k (by have:=KC s s;omega) (Qex E) (Di s M);(have C:SL s m=decide (e=0):=by unfold SL;exact JI.2 O.symm);(have J:Qn .eql (.int .i64 e) (.int .i64 0)=some (.bool (decide (e=0))):=by by_cases H:e=0 <;> simp[Qn,H]);rw[C];rw[Qb f555l0.eq_1];simp[-Qn,show ∀x y,Qn .lss (.int .i64 x) (.int .i64 y)=some (.bool (decide (x < y)))from fun x y=>by simp only[Qn,QU],z,A,f,d,h,f555r0,n,J] | cons t c Q=>intro a o j l g i w z A f d h;have C:=Qv i;have K:=QD i;have q:=wr1 a.length (by omega);have r:=QF i;have G:=E t (by rw[i];simp);have b:=Qdi t k;obtain⟨S,p⟩:=Qds s (ofP t) false false k (by omega) (fun x N=>by have:=E x N;unfold big;omega) L (UN G);have v:=fun o j l g=>Q (a ++ [t]) o j l g (by rw[i];simp);have P:=KC s a;(have u: ((WC s a).length+1)*24<=140737488355328:=by omega);rw[Qb f555l0.eq_1];cases B:XJ t;(have D:WC s (a ++ [t])=WC s a:=by simp[WC,B]);rw[B]at b;rw[D]at v;simp[f,d,h,C,r,q,b,Qc];apply v o j l <;> simp[w,z,A,f,d];(have D:WC s (a ++ [t])=WC s a ++ [Xn s (ofP t)]:=by simp[WC,B]);rw[B]at b;rw[D,<- (NI (WC s a) [Xn s (ofP t)])]at v;simp[w,A,f,d,h,C,r,q,b,(R4 t k (by omega)),p,Qc,(NK (Xn s (ofP t))),u];apply v o j l <;> simp[w,z,f,d]
def Qdr (s m o f b) (d:s.length < 100000) (k: ∀x∈s,x.mass < 1000000) (i:Asc s) (j:SmP m):
  call tb 555 [.sl o 4 (Qa s),.sl f 5 (Qz m)] b=some (.bool (Iq s m),b):=by
 have h:=fun f r=>QqD s m d k i j b s [] false f false r rfl;obtain⟨p,a⟩:=Qds s m false false b (by omega) (fun x l=>by have:=k x l;unfold big;omega) i j;have g: (Qz (Xn s m)).length=(Xn s m).length:=by simp[Qz]
 rw[zcc 555 rfl rfl];unfold Iq;by_cases c:Xn s m=[];have q:Qz []=[]:=rfl;rw[c,q]at a;simp[f555C,a,c];have t: ¬(Xn s m).length=0:=fun e=>c (Yf e);have n: ¬((Xn s m).length:Int)=0:=by omega
 rw[Y0 c,T3];generalize u:Qz (Xn s m)=E at *;generalize Xn s m=U at *;simp[f555C,a,t,g];apply h p <;> simp[WC,ZS]
def FZ (s:Qj) (u:Tm):Bool:=decide (ofE u=0) && Iq s (ofP u)
def Qo4 (s u o b) (c:s.length < 100000) (d: ∀x∈s,x.mass < 1000000) (e:Asc s) (f:u.mass < 1000000):
  call tb 568 [.sl o 4 (Qa s),.agg (Qd u)] b=some (.bool (FZ s u),b):=by
 have a:=R4 u b (by omega);rw[zcc 568 rfl rfl];unfold FZ;by_cases h:ofE u=0;simp[f568C,a,(Qdr s (ofP u) false false b c d e (UN f)),h,Qc];simp[f568C,a,h,Qc]
def I7 (t d) (j:t.mass < 1000000) (h:isB t EXP=true->t.kids.length=2):Qrt t d (call tb 553 [.agg (Qd t)] d):=by
 have b:=RH t EXP true d;have a:=RH t EXP false d;have f:=ZN t;rw[zcc 553 rfl rfl];cases c:isB t EXP;have e:PP t=false:=by simp[PP,c]
 rw[c]at b a;unfold EXP at b a;refine⟨false,?_⟩;simp[f553C,a,We,Xk,e,Qz,Qc];have g:=h c;have e:PP t=true:=by simp[PP,c,g]
 rw[c]at b a;unfold EXP at b a;have k:=Vu t 1;refine⟨false,?_⟩;have i:Qa t.kids=[Qd (kid t 0),Qd (kid t 1)]:=by rw[(MV g)];simp[Qa]
 rw[i]at f;simp only[f]at b a ⊢;simp[f553C,a,(R4 (kid t 1) d (by omega)),We,Xk,e,Qc]
def De (s:Qj) (u:Tm):Bool:=s.any fun t=>Rf u t && Iq s (MI u t)
def QoX (s u t n y z a) (d:a[n]? =some (Qd (We u))) (o) (e:a[y]? =some [.sl o 5 (Qz (Xk u))]) (m:a[z]? =some [.sl false 4 (Qa s)]) (h:s.length < 100000) (q: ∀x∈s,x.mass < 1000000) (E:Asc s) (B:u.mass < 1000000) (C:t∈s) (D:isB t EXP=true->t.kids.length=2):
  call tb 554 [.agg (Qd t),.gp n 0,.gp y 0,.gp z 0] a=some (.bool (Rf u t && Iq s (MI u t)),a):=by
 have f:=q t C;obtain⟨j,_⟩:=Lg B;have G:=NG u;obtain⟨v,k⟩:=I7 t a f D;obtain⟨l,A⟩:=Lg f;have g:=QbO l;obtain⟨H,p⟩:=QoE (Xk t) false a l.1 l.big A;have r:=fun o v=>QcY (Xk u) (YB (Xk t)) o v a (by have:=j.1;omega) (by have:=g.1;omega) j.big g.big;have I:=NG t;have i:=Qdk (We u) (We t) a (by unfold big;omega) (by unfold big;omega);have b:=Qdr s (MI u t) false false a h q E (QbN j g);unfold MI at b;rw[zcc 554 rfl rfl];unfold Rf MI;by_cases c:Qo (We u) (We t)=0;by_cases w:VV (Xk u) (YB (Xk t))=0;simp[-getElem?_pos,Ql,Q0,f554C,d,e,m,k,p,r,i,c,w,b,Qc];simp[-getElem?_pos,Ql,Q0,f554C,d,e,k,p,r,i,c,w,Qc];simp[-getElem?_pos,Ql,Q0,f554C,d,e,k,i,c,Qc]
def QoW (s u o a) (f:s.length < 100000) (l: ∀x∈s,x.mass < 1000000) (i:Asc s) (e:u.mass < 1000000) (j: ∀x∈s,isB x EXP=true->x.kids.length=2) (c:isB u EXP=true->u.kids.length=2):
  call tb 552 [.sl o 4 (Qa s),.agg (Qd u)] a=some (.bool (De s u),a):=by
 obtain⟨w,r⟩:=I7 u a e c;have p:=fun(x:QB)=>I7 u (a ++ [x]) e c;obtain⟨v,n⟩:=I7 u (a ++ [[AV.sl false 4 (Qa s)]]) e c;have d: ∀b:Bool,call tb 537 [.sl false 4 (Qa s),.fn 554 [.gp (a.length+1) 0,.gp (a.length+2) 0,.gp a.length 0]] (a ++ [[AV.sl false 4 (Qa s)],Qd (We u),[.sl b 5 (Qz (Xk u))]])=some (.bool (De s u),a ++ [[AV.sl false 4 (Qa s)],Qd (We u),[.sl b 5 (Qz (Xk u))]]):=fun b=>by(have h: (a ++ [[AV.sl false 4 (Qa s)],Qd (We u),[.sl b 5 (Qz (Xk u))]])[a.length]? =some [.sl false 4 (Qa s)]:=by rw[Yv (QY _)];simp);(have m: (a ++ [[AV.sl false 4 (Qa s)],Qd (We u),[.sl b 5 (Qz (Xk u))]])[a.length+1]? =some (Qd (We u)):=by rw[Yv (by omega)];simp);(have k: (a ++ [[AV.sl false 4 (Qa s)],Qd (We u),[.sl b 5 (Qz (Xk u))]])[a.length+2]? =some [.sl b 5 (Qz (Xk u))]:=by rw[Yv (by omega)];simp);exact AQ s 554 [.gp (a.length+1) 0,.gp (a.length+2) 0,.gp a.length 0] (fun t=>Rf u t && Iq s (MI u t)) false _ (by omega) (by simp) fun x g=>QoX s u x (a.length+1) (a.length+2) a.length _ m b k h f l i e g (j x g)
 rw[zcc 552 rfl rfl];generalize De s u=q at *;simp[f552C,n,Qc,(d false)]
noncomputable def TX (s:Qj) (u:Tm):Bool:=Qx s u || X0 u || Uo s u || OA s u || SS s u || De s u || FZ s u
def QoL (s u o a) (h:StC s u) (j:Asc s):call tb 531 [.sl o 4 (Qa s),.agg (Qd u)] a=some (.bool (TX s u),a):=by
 have w:=h.gs.1;have q:=fun x v=>(h.gs.2 x v).2;have d:=Tq s u false a (by omega) h.gs.bg (by have:=h.um;unfold big;omega) j;have e:=QnQ u a h.um;have g:=QoM s u false a (by omega) h.gs.bg h.um j;have i:=QoO s u false a h.gs j h.um;have p:=QoW s u false a h.len q j h.um h.ek h.eu;have t:=Qo4 s u false a h.len q j h.um;rw[zcc 531 rfl rfl];unfold TX;cases b:Qx s u;cases c:X0 u;have m:=QoQ s u (h.sh c) false a;cases f:Uo s u;cases k:OA s u;cases l:SS s u;cases n:De s u;cases r:FZ s u;simp[f531C,d,e,g,i,m,p,t,b,c,f,k,l,n,r,Qc];simp[f531C,d,e,g,i,m,p,t,b,c,f,k,l,n,r,Qc];simp[f531C,d,e,g,i,m,p,b,c,f,k,l,n,Qc];simp[f531C,d,e,g,i,m,b,c,f,k,l,Qc];simp[f531C,d,e,g,i,b,c,f,k,Qc];simp[f531C,d,e,g,b,c,f,Qc];simp[f531C,d,e,b,c,Qc];simp[f531C,d,b,Qc]
def Ol {x:Tm}: ∀{l:Qj},x∈Q3 l↔∃t∈l,x∈Zs t
 | []=>by simp[Q3]
 | t:: ts=>by simp[Q3,Ol (l:=ts)]
mutual
theorem LS: ∀(t y z:Tm),y∈Zs t->z∈Zs y->z∈Zs t
 | .mk k n s ks,y,z,hy,hz=>by
  simp only[Zs,Zl]at hy;rcases hy with rfl | hy
  ·exact hz
  ·simp only[Zs,Zl];exact .inr (QcT ks y z hy hz)
theorem QcT: ∀(ts:List Tm) (y z:Tm),y∈Q3 ts->z∈Zs y->z∈Q3 ts
 | [],y,z,hy,_=>by simp[Q3]at hy
 | t:: ts,y,z,hy,hz=>by
  simp only[Q3,Zp]at hy ⊢;rcases hy with hy | hy
  ·exact .inl (LS t y z hy hz)
  ·exact .inr (QcT ts y z hy hz)
end
def IY {t}: ∀{a},t∈a->∀y∈Zs t,y∈Q3 a
 | [],h,_,_=>by simp at h
 | x:: a,h,y,b=>by
  simp only[Q3,Zp];rcases Zl.1 h with rfl | h;exact .inl b;exact .inr (IY h y b)
def nL1 (l:Q9):Nat:=(l.map fun q=>q.2.natAbs).sum
def nnN (t:Tm):Prop:=(isB t XOR=true->QI t≠[])/\(XJ t=true->nL1 (ofP t)<=8)
def HN (t:Tm):Prop:=∀x∈Zs t,nnN x
def QaK {t y} (h:HN t) (a:y∈Zs t):HN y:=fun x b=>h x (LS t y x a b)
def Qi1 {t x} (h:HN t) (a:x∈t.kids):HN x:=QaK h (by rw[Ew];exact Rw _ (IY a x (Ud x)))
def OR {k n s b} (h:nnN (.mk k n s b)) (d: ∀x∈b,HN x):HN (.mk k n s b):=by
 intro x a;simp only[Zs,Zl]at a;rcases a with rfl | a;exact h;obtain⟨t,e,c⟩:=Ol.1 a;exact d t e x c
def Gd {t} (a:isB t XOR=false) (b:XJ t=false):nnN t:=
 ⟨fun h=>absurd (a.symm.trans h) (by decide),fun h=>absurd (b.symm.trans h) (by decide)⟩
def L5 {n c} (a:n≠XOR) (d:n≠MUL) (b:n≠INV):nnN (.mk 3 n 0 c):=Gd (by simp[isB,a]) (by simp[XJ,isB,d,b])
def Uj:HN Q7:=OR (Gd rfl rfl) (fun x a=>by simp at a)
mutual
theorem QcL: ∀(t y:Tm),y∈QI t->QI y=[y]
 | .mk k n s ks,y,h=>by
  have h0:=h;simp only[QI]at h;split at h
  ·simp at h
  ·rename_i c1;split at h
   ·rcases LA ks [] y h with h | h
    ·simp at h
    ·exact h
   ·rename_i c2;simp at h;subst h;simp only[QI,Qe c1,Qe c2]
theorem LA: ∀(ts acc:List Tm) (y:Tm),y∈Ym acc ts->y∈acc\/QI y=[y]
 | [],acc,y,h=> .inl h
 | t:: ts,acc,y,h=>by
  rcases LA ts _ y h with h | h
  ·rcases VI (Vr t) h with h | h
   ·exact .inl h
   ·exact .inr (QcL t y h)
  ·exact .inr h
end
def Cg: ∀c a,(∀y∈c,QI y=[y])->c.Nodup->(∀y∈c,y ∉ a)->∀y,y∈a\/y∈c->y∈Ym a c
 | [],a,_,_,_,y,h=>by
  rcases h with h | h;exact h;simp at h
 | t:: m,a,j,l,k,y,h=>by
  have d:=G0.1 l;have i:=k t (by simp);simp only[Ym];have e: ∀z,z∈Yr a (QI t)↔z∈a\/z=t:=by intro z;rw[Nr (Vr t),(j t (by simp)),Vz];constructor;intro h;rcases h with h | h;exact .inl h.1;exact .inr h.2;intro h;by_cases b:z=t;subst b;exact .inr ⟨i,rfl⟩;rcases h with h | h;exact .inl ⟨h,b⟩;exact absurd h b
  apply Cg m _ (fun z b=>j z (by simp[b])) d.2;intro z b f;rcases(e z).1 f with g | g;exact k z (by simp[b]) g;subst g;exact d.1 b;rcases h with h | h;exact .inl ((e y).2 (.inl h));rcases Zl.1 h with h | h;exact .inl ((e y).2 (.inr h));exact .inr h
def Dp {l} (h:Asc l):l.Nodup:=by
 refine List.Pairwise.imp ?_ h;intro a b c e;subst e;rw[Xd]at c;omega
def Qp4 {a} (h: ∀x∈a,HN x):HN (Uv a).1:=by
 unfold Uv;split;exact Uj;split;exact Uj;have d: ∀y∈Ym [] a,HN y/\QI y=[y]:=fun y c=>by constructor;rcases K2 a [] y c with b | b;simp at b;obtain⟨t,l,g⟩:=Ol.1 b;exact QaK (h t l) g;rcases LA a [] y c with b | b;simp at b;exact b
 have k:=Dp (HE a [] Asc.nil);show HN (tmX (Ym [] a));match j:Ym [] a with | []=>exact OR (L5 (by decide) (by decide) (by decide)) (fun x f=>by simp at f) | [p]=>simp only[tmX];exact(d p (by rw[j];simp)).1 | p:: q:: r=>simp only[tmX];rw[j]at d k;refine OR ⟨fun _=> ?_,fun n=> ?_⟩ (fun x f=>(d x f).1);have i:=Cg (p:: q:: r) [] (fun y c=>(d y c).2) k (fun y _ c=>by simp at c) p (.inr (by simp));intro e;(have m:QI (.mk 3 XOR 0 (p:: q:: r))=Ym [] (p:: q:: r):=by simp[QI]);rw[m]at e;rw[e]at i;simp at i;exact absurd n (by simp[XJ,isB,XOR,MUL,INV])
def KK (l:Q9):Prop:=∀q∈l,HN q.1/\Xm q.1=false
def Qea {l t m} (h:KK l) (b:HN t) (c:Xm t=false):KK (XE l t m):=by
 intro q a;rcases SE a with a | rfl | ⟨_,_,rfl,_⟩;exact h q a;exact⟨b,c⟩;exact⟨b,c⟩
def Qeb: ∀t l m,KK l->HN t->KK (Vh l t m):=by
 refine Yp ?_;intro k n s c g l m h d;have j: ∀(b:Qj) (l:Q9) (m:Int),(∀x∈b,x∈c)->KK l->KK (Wk l b m):=by intro b;induction b with | nil=>intro l m _ h;simpa[Wk]using h | cons x b e=>intro l m a h;simp only[Wk];exact e _ m (fun y f=>a y (by simp[f])) (g x (a x (by simp)) l m h (Qi1 d (a x (by simp))))
 rw[Ug];cases i:Xm (.mk k n s c);exact Qea h d i;exact j c l _ (fun x a=>a) h
def FN: ∀b a,KK a->KK b->KK (Vc a b)
 | [],a,h,_=>h
 | q:: b,a,h,c=>FN b _ (Qea h (c q (by simp)).1 (c q (by simp)).2) fun x d=>c x (by simp[d])
def QaS {t} (h:HN t):KK (ofP t):=by
 unfold ofP;split;exact Qeb t [] 1 (fun q a=>by simp at a) h;intro q a;simp at a
def Qqe {a b} (c:KK a) (e:KK b):KK (WD a b):=by
 unfold WD;split;exact FN b a c e;intro q d;simp at d
def Gc: ∀l t m,nL1 (XE l t m)<=nL1 l+m.natAbs
 | [],t,m=>by simp[XE,nL1]
 | p:: r,t,m=>by
  have a:=Gc r t m;simp only[nL1,XE]at a ⊢;split;simp;omega;split;split;simp;omega;simp;omega;simp;omega
def opX (x:Tm):Prop:=Xm x=false\/∃y,Xm y=false/\x=Tt y
def QaY {l x} (h:opX x):nL1 (Vh l x 1)<=nL1 l+1:=by
 rcases h with h | ⟨y,h,rfl⟩;rw[Ug,h];exact Gc l x 1;have a:Xm (Tt y)=true:=by simp[Xm,Tt]
 rw[Ug,a];simp only[QU,Tt,Tm.kids,Tm.name,beq_self_eq_true,Wk];rw[Ug,h];exact Gc l y (-1)
def D1: ∀a l,(∀x∈a,opX x)->nL1 (Wk l a 1)<=nL1 l+a.length
 | [],l,_=>by simp[Wk]
 | x:: a,l,h=>by
  simp only[Wk,Zu];have c:=D1 a (Vh l x 1) fun y b=>h y (by simp[b]);have d:=QaY (l:=l) (h x (by simp));omega
def F1 {t b} (h:nL1 (Vh [] t 1)<=b):nL1 (ofP t)<=b:=by
 unfold ofP;split;exact h;simp[nL1]
def Ql9 {l} (h:KK l): ∀x∈YK l,opX x/\HN x:=by
 intro x a;simp only[YK,Vv,VW,Zp,Nd,YL]at a;rcases a with⟨_,⟨q,b,rfl⟩,a⟩ | ⟨_,⟨q,b,rfl⟩,a⟩;rw[LH a];exact⟨.inl (h q b).2,(h q b).1⟩;rw[LH a];have c:opX (Tt q.1):= .inr ⟨q.1,(h q b).2,rfl⟩;refine⟨c,OR ⟨fun e=>absurd e (by simp[isB,INV,XOR]),fun _=> ?_⟩ fun y d=> ?_⟩;refine F1 (WP (QaY (l:=[]) c) ?_);simp[nL1];simp at d;subst d;exact(h q b).1
def QaL {l} (h:KK l):HN (YT l).1:=by
 unfold YT;split;exact Uj;split;exact Uj;rename_i d;split;exact Uj;have b:=Ql9 h;show HN (YG (YK l));match c:YK l with | []=>exact OR (L5 (by decide) (by decide) (by decide)) (fun x a=>by simp at a) | [p]=>simp only[YG];exact(b p (by rw[c];simp)).2 | p:: q:: r=>simp only[YG];rw[c]at b d;refine OR ⟨fun e=>absurd e (by simp[isB,MUL,XOR]),fun _=> ?_⟩ (fun x a=>(b x a).2);(have f:Xm (.mk 3 MUL 0 (p:: q:: r))=true:=by simp[Xm]);refine F1 ?_;rw[Ug,f];simp only[QU];have e: (if(Tm.mk 3 MUL 0 (p:: q:: r)).name == INV then(-1:Int)else 1)=1:=rfl;rw[e];have:=D1 (p:: q:: r) [] fun x a=>(b x a).1;simp only[nL1,Vn,List.sum_nil,ZV]at this;exact WP this (by omega)
def Quj {b e} (c:HN b) (d:HN e):HN (.mk 3 EXP 0 [b,e]):=OR (L5 (by decide) (by decide) (by decide)) fun x a=>by
 simp at a;rcases a with rfl | rfl;exact c;exact d
def Qd5 {b p} (a:HN b) (c:KK p):HN (Ur b p).1:=by
 unfold Ur;split;exact a;split;exact Uj;exact Quj a (QaL c)
def E3 {t} (h:HN t) (i):HN (kid t i):=by
 unfold kid;rw[ZT];rcases a:t.kids[i]? with _ | x;simpa using Uj;exact Qi1 h (TD a)
def Qp3 {b e} (a:HN b) (c:HN e):HN (WW b e).1:=by
 unfold WW;split;exact Uj;split;split;exact Uj;split;exact Uj;exact Qd5 (E3 a 0) (Qqe (QaS (E3 a 1)) (QaS c));exact Qd5 a (QaS c)
def E0 {a:Qj} (h: ∀x∈a,HN x) (i):HN (a.getD i Q7):=by
 rw[ZT];rcases b:a[i]? with _ | x;simpa using Uj;exact h x (TD b)
def QlV {n a} (b:Tj n=true) (h: ∀x∈a,HN x):HN (Zj n a):=by
 simp only[Zj];repeat' split
 all_goals first | exact(by refine OR (L5 ?_ ?_ ?_) h <;> (intro e;subst e;revert b;decide)) | exact(fun i=>E3 (E0 h 0) i) _
def QlW {n b} (h: ∀x∈b,HN x):HN (XK n b).1:=by
 unfold XK;split;rename_i o;exact QlV o h;split;exact Qp4 h;split;rename_i r g d;unfold XZ;split;exact Uj;refine QaL ?_;unfold ofP;split;rw[Ug];have k: ∀(a:Qj) (l:Q9) (m:Int),(∀x∈a,x∈b)->KK l->KK (Wk l a m):=by intro a;induction a with | nil=>intro l m _ h;simpa[Wk]using h | cons x a j=>intro l m c s;simp only[Wk];exact j _ m (fun y p=>c y (by simp[p])) (Qeb x l m s (h x (c x (by simp))))
 have i:Xm (.mk 3 n 0 b)=true:=by rcases d with rfl | rfl | rfl <;> simp[Xm]
 rw[i];exact k b [] _ (fun x c=>c) (fun q f=>by simp at f);intro q f;simp at f;rename_i r g d;split;exact Qp3 (E0 h 0) (E0 h 1);exact OR (L5 g (fun e=>d (.inl e)) (fun e=>d (.inr (.inl e)))) h
mutual
theorem QaJ: ∀t:Tm,Y6 t=0->HN (Z8 t).1
 | .mk k n s ks,h=>by
  simp only[Y6]at h;split at h
  ·rename_i h1;exact absurd h h1
  ·rename_i h1;obtain⟨_,_,_,hb⟩:=Gf (t:= .mk k n s ks) (by simpa using h1);simp only[UI,ZJ]at hb;simp only[Z8];split
   ·split
    ·exact QlW (QaI ks h)
    ·exact Uj
   ·rename_i hk;have:=hb hk;subst this;exact OR (Gd (by simp[isB,hk]) (by simp[XJ,isB,hk])) fun x hx=>by simp at hx
theorem QaI: ∀ts:List Tm,Uq ts=0->∀x∈(Xg ts).1,HN x
 | [],_,x,hx=>by simp[Xg]at hx
 | t:: ts,h,x,hx=>by
  simp only[Uq]at h;split at h
  ·rename_i h1;exact absurd h h1
  ·rename_i h1;simp only[Xg]at hx;split at hx
   ·split at hx
    ·simp at hx;rcases hx with rfl | hx
     ·exact QaJ t (by simpa using h1)
     ·exact QaI ts h x hx
    ·simp at hx
   ·simp at hx
end
def nrE (a:Z1):Nat:=(a.map Int.natAbs).sum
def rtE (a:Z1) (c:Nat):Nat:=nrE (a.set c 0)
def T4:=@List.sum_cons
def Fa:=@Nat.mul_add
def Qje (q): ∀{a p},a.length=p.length->nrE (Zg a p q)<=nrE a+q.natAbs*nrE p
 | [],[],_=>by simp[nrE,Zg]
 | x:: a,y:: p,h=>by
  have c:=Qje q (a:=a) (p:=p) (by simpa using h);have b: (x - q*y).natAbs<=x.natAbs+q.natAbs*y.natAbs:=by have:=JR q y;omega
  simp only[nrE,Zg,List.zipWith_cons_cons,ZO,T4]at *;rw[Fa];omega
def QeE (q): ∀{a p} c,a.length=p.length->(Zg a p q).set c 0=Zg (a.set c 0) (p.set c 0) q
 | [],[],c,_=>by simp[Zg]
 | x:: a,y:: p,0,h=>by simp[Zg]
 | x:: a,y:: p,c+1,h=>by
  have b:=QeE q (a:=a) (p:=p) c (by simpa using h);simp only[Zg,List.zipWith_cons_cons,LM]at *;rw[b]
def QuM {a p} (q c) (h:a.length=p.length):rtE (Zg a p q) c<=rtE a c+q.natAbs*rtE p c:=by
 unfold rtE;rw[QeE q c h];exact Qje q (by simp[h])
def Gg: ∀{a c},c < a.length->nrE a=(a.getD c 0).natAbs+rtE a c
 | x:: a,0,_=>by simp[nrE,rtE]
 | x:: a,c+1,h=>by
  have b:=Gg (a:=a) (c:=c) (by simpa using h);simp only[nrE,rtE,ZO,T4,LM,Af]at *;omega
def Qut {a}: ∀x∈a,x.natAbs<=nrE a:=by
 intro x b;induction a with | nil=>cases b | cons y a c=>simp only[nrE,ZO,T4];rcases Zl.1 b with rfl | b;omega;have:=c b;simp only[nrE]at this;omega
def Qwc {a} (h:nrE a<=1099511627776):okE a=true:=by
 rw[okE,Wc];intro x b;have:=Qut x b;exact Xy (by omega)
def aE (rs:Xv) (c i:Nat):Nat:=(ceE rs i c).natAbs
def xE (rs:Xv) (c i:Nat):Nat:=rtE (rwE rs i) c
def XP {d b c i}:acE d b c i=true↔b.getD i true=false/\aE d c i≠0:=by
 simp only[acE,aE,Qu,Sv,OL];constructor;intro ⟨a,e⟩;exact⟨a,by omega⟩;intro ⟨a,e⟩;exact⟨a,by omega⟩
def Qgq {a us c b L} (d: ∀i,i < a.length->(rwE a i).length=L) (g:b < a.length) {i} (f:i < a.length):
  aE (rnE a us c b a.length) c i=if i≠b/\acE a us c i=true then aE a c i % aE a c b else aE a c i:=by
 unfold aE ceE;rw[UM _ _ _ _ _ (QY _)];by_cases h:i≠b/\acE a us c i=true;rw[Qg ⟨f,h⟩,Qg h];unfold nwE;rw[(MP (by rw[d i f,d b g]) c)];have e: (rwE a i).getD c 0 - (ceE a i c).tdiv (ceE a b c)* (rwE a b).getD c 0=((rwE a i).getD c 0).tmod ((rwE a b).getD c 0):=by rw[Int.tmod_def,G5];rfl
 rw[e,Int.natAbs_tmod];rw[Qe h,Qe (fun⟨_,j⟩=>h j)]
def Qml {d us c b L} (e: ∀i,i < d.length->(rwE d i).length=L) (g:b < d.length) {i} (f:i < d.length):
  xE (rnE d us c b d.length) c i<=if i≠b/\acE d us c i=true then xE d c i+aE d c i / aE d c b*xE d c b else xE d c i:=by
 unfold xE;rw[UM _ _ _ _ _ (QY _)];by_cases h:i≠b/\acE d us c i=true;rw[Qg ⟨f,h⟩,Qg h];have:=QuM (a:=rwE d i) (p:=rwE d b) ((ceE d i c).tdiv (ceE d b c)) c (by rw[e i f,e b g]);rwa[JQ]at this;rw[Qe h,Qe (fun⟨_,j⟩=>h j)];exact QY _
def QjH {a us c b L} (d: ∀i,i < a.length->(rwE a i).length=L) (f:b < a.length): ∀i,i < a.length->(rwE (rnE a us c b a.length) i).length=L:=by
 intro i e;rw[UM _ _ _ _ _ (QY _)];split;unfold nwE;rw[X1 _ (by rw[d i e,d b f]),d i e];exact d i e
def Qa8 {a d c b}: ∀k,k<=a.length->(∀i,i < k->i≠b->acE a d c i=true->okE (nwE a c b i)=true)->orE a d c b k=true
 | 0,_,_=>rfl
 | k+1,l,h=>by
  simp only[orE,(Qa8 k (by omega) fun i j=>h i (by omega)),V4];by_cases e:k≠b/\acE a d c k=true;rw[h k (by omega) e.1 e.2];simp;have: (!decide (k=b) && acE a d c k)=false:=by by_cases f:k=b;simp[f];(have:acE a d c k=false:=by cases g:acE a d c k;rfl;exact absurd ⟨f,g⟩ e);simp[this]
  simp[this]
def unE (us:WN) (i:Nat):Prop:=us.getD i true=false
def Qtw {d c L M} (J:Xv->Prop) (G:c < L)
  (A: ∀a b,a.length=M->(∀i,i < a.length->(rwE a i).length=L)->J a->(scE a d c a.length).1=some b->2<=(scE a d c a.length).2->(∀i,i < a.length->unE d i->aE (rnE a d c b a.length) c i+xE (rnE a d c b a.length) c i<=1099511627776)/\J (rnE a d c b a.length)):
  ∀f a,a.length=M->(∀i,i < a.length->(rwE a i).length=L)->J a->msE a d c a.length < f->
   ∃g k p,coE c f a d=some (g,k,p)/\J g/\g.length=M/\(∀i,i < g.length->(rwE g i).length=L)/\((p= -1/\k=d)\/∃b:Nat,p=(b:Int)/\b < M/\unE d b/\k=d.set b true)/\(scE g d c g.length).2<=1
 | 0,_,_,_,_,h=>by omega
 | f+1,a,x,n,o,U=>by
  have y:=scI a d c a.length;rcases m: (scE a d c a.length).1 with _ | b;have s:scE a d c a.length=(none,(scE a d c a.length).2):=by rw[<- m]
  exact⟨a,d,-1,by rw[coE,s],o,x,n,.inl ⟨rfl,rfl⟩,by have:=(y.nn m).1;omega⟩;obtain⟨z,B,V,I⟩:=y.sm b m;have s:scE a d c a.length=(some b,(scE a d c a.length).2):=by rw[<- m]
  by_cases l: (scE a d c a.length).2=1;refine⟨a,d.set b true,(b:Int),?_,o,x,n,.inr ⟨b,rfl,by omega,(XP.1 B).1,rfl⟩,by omega⟩;rw[coE,s];simp only[Qg l];have D:2<=(scE a d c a.length).2:=by omega
  obtain⟨S,E⟩:=A a b x n o m D;have q:=QjH (us:=d) (c:=c) n z;have t:orE a d c b a.length=true:=by refine Qa8 a.length (QY _) fun i v u r=>Qwc ?_;have C:=S i v (XP.1 r).1;(have e:rwE (rnE a d c b a.length) i=nwE a c b i:=by rw[UM _ _ _ _ _ (QY _),Qg ⟨v,u,r⟩]);have O:=q i v;unfold aE xE ceE at C;rw[e]at C O;rwa[Gg (c:=c) (by omega)]
  have N:msE (rnE a d c b a.length) d c a.length < msE a d c a.length:=by exact(CI n z (by have:=(XP.1 B).2;unfold aE at this;omega) (fun j o w=>I j o w) a.length (QY _)).2 (y.tw b m D)
  obtain⟨g,k,p,H,T,Q,K,P,R⟩:=Qtw J G A f (rnE a d c b a.length) (by rwa[XT]) (by rwa[XT]) E (by rw[XT];omega);refine⟨g,k,p,?_,T,Q,K,P,R⟩;rw[coE,s];simp only[Qe l,t,QU];exact H
def J2 (us:WN) (c Z:Nat) (rs:Xv):Prop:=
 (∀i,i < rs.length->unE us i->aE rs c i<=Z/\aE rs c i+xE rs c i<=Z*Z)/\
 ∀i j,i < rs.length->j < rs.length->i≠j->acE rs us c i=true->acE rs us c j=true->aE rs c i*xE rs c j+aE rs c j*xE rs c i+Z<=Z*Z
def WO:=@Nat.mul_le_mul_left
def Qp7 {m c Z d} (x:1<=Z) (h: ∀i,i < d.length->unE m i->aE d c i+xE d c i<=Z):J2 m c Z d:=by
 refine⟨fun i e l=> ?_,fun i j e z o t v=> ?_⟩;have:=h i e l;have L:Z*1<=Z*Z:=WO _ x;omega;obtain⟨y,M⟩:=XP.1 t;obtain⟨s,K⟩:=XP.1 v;have C:=h i e y;have f:=h j z s;generalize aE d c i=A at *;generalize aE d c j=B at *;generalize xE d c i=X at *;generalize xE d c j=Y at *;obtain⟨a,rfl⟩: ∃a,A=a+1:=⟨A - 1,by omega⟩;obtain⟨b,rfl⟩: ∃b,B=b+1:=⟨B - 1,by omega⟩;obtain⟨u,l⟩: ∃u,Z=(a+1)+X+u:=⟨Z - (a+1+X),by omega⟩;have J:=f;have w: (a+1)*Y<=(a+1)* (Z - (b+1)):=WO _ (by omega);have D: (b+1)*X<=(b+1)* (Z - (a+1)):=WO _ (by omega);obtain⟨p,k⟩: ∃p,Z=(a+1)+p:=⟨Z - (a+1),by omega⟩;obtain⟨q,n⟩: ∃q,Z=(b+1)+q:=⟨Z - (b+1),by omega⟩;rw[show Z - (b+1)=q by omega]at w;rw[show Z - (a+1)=p by omega]at D;have r:a+p=b+q:=by omega
 have N:Z*Z=(a+1+p)* (b+1+q):=by rw[<- k,<- n]
 have E: (a+1+p)* (b+1+q)=(a+1)*q+ (b+1)*p+ ((a+1)* (b+1)+p*q):=by simp only[Fa,Nat.mul_comm];omega
 have H:Z<=(a+1)* (b+1)+p*q:=by rw[k];by_cases g:q=0;subst g;(have:b=a+p:=by omega);subst this;(have: (a+1)* (a+p+1)=a* (a+p+1)+ (a+p+1):=by rw[Yg,G8]);omega;have G:p*1<=p*q:=WO _ (by omega);have I: (a+1)*1<=(a+1)* (b+1):=WO _ (by omega);omega
 omega
def Qp8 {us c Z L a b} (M: ∀i,i < a.length->(rwE a i).length=L) (A: ∃i j,∀k,k < a.length->unE us k->k=i\/k=j) (W:J2 us c Z a) (S: (scE a us c a.length).1=some b):J2 us c Z (rnE a us c b a.length):=by
 obtain⟨l,w,s3,s4⟩:=(scI a us c a.length).sm b S;obtain⟨B,I⟩:=XP.1 w;obtain⟨C,K⟩:=W;have x:=fun i d=>Qgq (us:=us) (c:=c) M l (i:=i) d;have y:=fun i d=>Qml (us:=us) (c:=c) M l (i:=i) d;refine⟨fun i d q=> ?_,fun i j d m v V P=> ?_⟩;rw[XT]at d;have n:=x i d;have t:=y i d;obtain⟨T,k2⟩:=C i d q;by_cases g:i≠b/\acE a us c i=true;rw[Qg g]at n t;have O:=K i b d l g.1 g.2 w;have H:=T7 (aE a c i) (Na I);have N:=(C b l B).1;have o:=JN (aE a c i) (aE a c b);have Y:aE a c b* (xE a c i+aE a c i / aE a c b*xE a c b)<=aE a c b*xE a c i+aE a c i*xE a c b:=by rw[Fa,<- Nat.mul_assoc];have:aE a c b* (aE a c i / aE a c b)<=aE a c i:=Nat.mul_div_le _ _;have:=YE (xE a c b) this;omega
 have R:1* (xE a c i+aE a c i / aE a c b*xE a c b)<=aE a c b* (xE a c i+aE a c i / aE a c b*xE a c b):=YE _ (Na I);rw[G8]at R;rw[n];refine⟨by omega,?_⟩;omega;rw[Qe g]at n t;rw[n];exact⟨T,by omega⟩;rw[XT]at d m;obtain⟨r,s⟩:=XP.1 V;obtain⟨E,Q⟩:=XP.1 P;have p: ∀i,i < a.length->i≠b->unE us i->aE (rnE a us c b a.length) c i≠0->aE (rnE a us c b a.length) c i*xE (rnE a us c b a.length) c b+aE (rnE a us c b a.length) c b*xE (rnE a us c b a.length) c i+Z<=Z*Z:=by intro i d f r s;have u:=x i d;have J:=y i d;have G:=x b l;have D:=y b l;rw[Qe (fun h=>h.1 rfl)]at G D;by_cases g:acE a us c i=true;rw[Qg ⟨f,g⟩]at u J;have O:=K i b d l f g w;have o:=JN (aE a c i) (aE a c b);rw[u,G];have p1:aE a c i % aE a c b*xE (rnE a us c b a.length) c b<=aE a c i % aE a c b*xE a c b:=WO _ D;have p2:aE a c b*xE (rnE a us c b a.length) c i<=aE a c b* (xE a c i+aE a c i / aE a c b*xE a c b):=WO _ J;(have p3:aE a c b* (xE a c i+aE a c i / aE a c b*xE a c b)=aE a c b*xE a c i+aE a c b* (aE a c i / aE a c b)*xE a c b:=by rw[Fa,Nat.mul_assoc]);(have p4:aE a c i*xE a c b=aE a c b* (aE a c i / aE a c b)*xE a c b+aE a c i % aE a c b*xE a c b:=by rw[<- Yg,o]);omega;rw[Qe (fun h=>g h.2)]at u;rw[u]at s;exact absurd (XP.2 ⟨r,s⟩) g
 obtain⟨i1,X,q⟩:=A;by_cases f:i=b;subst f;have:=p j m (fun e=>v e.symm) E Q;omega;by_cases z:j=b;subst z;exact p i d f r s;exfalso;rcases q i d r with n | n <;> rcases q j m E with t | t <;> rcases q b l B with U | U <;> omega
end Go.Am
