/-
  Kn75, Kn76, Kn77, Kn78, Kn79, Kn80, Kn81, Kn82.
-/
import Derived.Test.YtgjaamacjmjjcaaGreatDoorG25
set_option linter.all false
open Go.Am.F
namespace Go.Am
set_option maxRecDepth 20000
def byt (n:Int):UInt8:=UInt8.ofNat n.toNat
mutual
def VK:Tm->List UInt8
 | .mk k n s ks=>[byt k,byt s,byt ks.length]++ (n ++ (40:: (Ut ks ++ [41])))
def Ut:List Tm->List UInt8
 | []=>[]
 | t:: ts=>VK t ++ (44:: Ut ts)
end
def QqC (t):VK t=[byt t.kind,byt t.sort,byt t.kids.length]++ (t.name ++ (40:: (Ut t.kids ++ [41]))):=by cases t;simp[VK]
def Qbb: ∀a b,Ut (a ++ b)=Ut a ++ Ut b
 | [],b=>by simp[Ut]
 | t:: a,b=>by simp[Ut,Qbb a b]
mutual
theorem Qbe: ∀t:Tm,(VK t).length<=6*t.mass
 | .mk k n s ks=>by
  have:=KT ks;simp only[VK,Tm.mass,Q6,Zu,Xc];omega
theorem KT: ∀l:List Tm,(Ut l).length<=6*Qw l+l.length
 | []=>by simp[Ut]
 | t:: l=>by
  have h1:=Qbe t;have h2:=KT l;simp only[Ut,Qw,Q6,Zu];omega
end
structure FT (t:Tm):Prop where
 k:1<=t.kind/\t.kind<=3
 s:0<=t.sort/\t.sort<=5
 l:t.kids.length<=8
 n:VQ t.name=true
def Ky {t} (h:RD t=0):FT t:=by
 unfold RD at h;by_cases c:t.kind=1\/t.kind=2;rw[Qg c]at h;split at h;cases h;split at h;cases h;split at h;cases h;rename_i d a b;exact⟨by omega,by omega,by omega,by simpa using a⟩;rw[Qe c]at h;split at h;split at h;cases h;split at h;cases h;split at h;cases h;rename_i e d a b;exact⟨by omega,by omega,by omega,by simpa using a⟩;cases h
def SJ {t} (h:Y6 t=0):RD t=0/\∀x∈t.kids,Y6 x=0:=by
 have c: ∀{l:Qj},Uq l=0->∀x∈l,Y6 x=0:=by intro l;induction l with | nil=>intro _ x b;cases b | cons y l d=>intro h x b;simp only[Uq]at h;split at h;rename_i a;exact absurd h a;rename_i a;rcases Zl.1 b with rfl | b;simpa using a;exact d h x b
 obtain⟨k,n,s,e⟩:=t;simp only[Y6]at h;split at h;rename_i a;exact absurd h a;rename_i a;exact⟨by simpa using a,c h⟩
def Qld (t) (D:FT t) (H:t.mass < 100000000) (l: ∀x∈t.kids,∀s,call tb 302 [.agg (Qd x)] s=some (.str (VK x),s)) (B):
  ∀b a d,t.kids=a ++ b->d 1= .bx (Qd t)->d 3= .str ([byt t.kind,byt t.sort,byt t.kids.length]++ (t.name ++ (40:: Ut a)))->d 4= .int .i64 a.length->
  R tb (.loop f302l0) d B (Qh 0 (Qs tb f302r0 (QA f302 B)))=some (.str (VK t),B):=by
 have z:=D.l;have C:=QL t;have r:=ZN t;intro b;induction b with | nil=>intro a d c f i h;simp only[Qy]at c;rw[<- c]at i h;have m:=KT t.kids;(have g:t.name.length+ ((Ut t.kids).length+1)+1+1+1+1<=9223372036854775807:=by omega);rw[QqC];rw[r]at f;have e: (Qa t.kids).length=t.kids.length:=QX _;generalize Qa t.kids=v at *;generalize Ut t.kids=o at *;rw[Qb f302l0.eq_1];simp[f,i,h,e,f302r0,g] | cons x b A=>intro a d c f i h;have w:=QD c;have l:=l x (by rw[c];simp) B;have G:x.mass<=Qw t.kids:=QR (by rw[c];simp);have m:=KT a;(have E:Qw a<=Qw t.kids:=by rw[c,Y3];omega);have y:=Qbe x;have p:=fun d=>A (a ++ [x]) d (by rw[c];simp);(have k:Ut (a ++ [x])=Ut a ++ (VK x ++ [44]):=by rw[Qbb];simp[Ut]);rw[k]at p;(have j: (Qa t.kids)[a.length]? =some (Qd x):=by rw[Xf,(Qv c)];rfl);have e: (Qa t.kids).length=t.kids.length:=QX _;rw[r]at f p;generalize Qa t.kids=v at *;generalize Ut a=o at *;generalize VK x=u at *;(have q:t.name.length+ (o.length+1)+1+1+1+u.length<=9223372036854775807:=by omega);(have n:t.name.length+ (o.length+u.length+1)+1+1+1+1<=9223372036854775807:=by omega);rw[Qb f302l0.eq_1];simp[-getElem?_pos,f,i,h,e,(QF c),(wr1 a.length (by omega)),j,l,q,n,Qc,Ql,Q0];apply p <;> simp[f]
def I4: ∀t,t.mass < 100000000->Y6 t=0->∀B,call tb 302 [.agg (Qd t)] B=some (.str (VK t),B):=by
 refine Yp ?_;intro k n s a o p z B;obtain⟨j,r⟩:=SJ z;have g:=Ky j;have f:=fun C=>Qld (.mk k n s a) g p (fun x d y=>o x d (by have D:x.mass<=Qw a:=QR d;have:=QL (.mk k n s a);simp only[ZJ]at this;omega) (r x d) y) B a [] C rfl;obtain⟨⟨I,E⟩,⟨h,J⟩,H,G⟩:=g;simp only[ZJ,UI,S8,Yy]at *;have u:IntKind.u8.wrap k=k:=by rw[IntKind.wrap_u8];omega
 have A:IntKind.u8.wrap s=s:=by rw[IntKind.wrap_u8];omega
 have m:IntKind.u8.wrap (a.length:Int)=(a.length:Int):=by rw[IntKind.wrap_u8];omega
 have e:=QL (.mk k n s a);simp only[ZJ,Yy]at e;have l:n.length+1+1+1<=9223372036854775807:=by omega
 have c:n.length+1+1+1+1<=9223372036854775807:=by omega
 rw[zcc 302 rfl rfl];simp only[Qd]at f ⊢;have b:3+n.length<=9223372036854775807:=by omega
 have q: (0:Int)<=k:=by omega
 have v:k < 256:=by omega
 have w:s < 256:=by omega
 have i: (a.length:Int) < 256:=by omega
 simp[f302C,u,A,m,(QX _),Lh,AJ,q,v,w,i,h,c,b];apply f <;> simp[byt,Ut]
def ED {a b} (c:0<=a/\a<=255) (d:0<=b/\b<=255) (h:byt a=byt b):a=b:=by
 have:=UV UInt8.toNat h;simp only[byt,UInt8.toNat_ofNat']at this;omega
def Qei {c} (h:TU c=true):c≠40:=by
 rintro rfl;revert h;decide
def QaZ {n} (h:VQ n=true):n.all TU=true:=by
 rcases n with _ | ⟨c,r⟩;rfl;simp only[VQ,Qu]at h;simp only[Tl,Qu];exact⟨h.1.1.1.1.2,h.2⟩
def F2: ∀{n m x y},n.all TU=true->m.all TU=true->n ++ 40:: x=m ++ 40:: y->n=m/\x=y
 | [],[],x,y,_,_,h=>⟨rfl,by simpa using h⟩
 | [],c:: m,x,y,_,a,h=>by
  simp only[Y4,Xb,Mj]at h;simp only[Tl,Qu]at a;exact absurd h.1.symm (Qei a.1)
 | c:: n,[],x,y,b,_,h=>by
  simp only[Y4,Xb,Mj]at h;simp only[Tl,Qu]at b;exact absurd h.1 (Qei b.1)
 | c:: n,d:: m,x,y,b,a,h=>by
  simp only[Xb,Mj]at h;simp only[Tl,Qu]at b a;obtain⟨f,e⟩:=F2 b.2 a.2 h.2;exact⟨by rw[h.1,f],e⟩
def Qbc: ∀a b r q,(∀x∈a,∀u r q,Y6 u=0->VK x ++ r=VK u ++ q->x=u/\r=q)->(∀x∈b,Y6 x=0)->a.length=b.length->Ut a ++ r=Ut b ++ q->a=b/\r=q
 | [],[],r,q,_,_,_,h=>⟨rfl,by simpa[Ut]using h⟩
 | [],_:: _,_,_,_,_,c,_=>by simp at c
 | _:: _,[],_,_,_,_,c,_=>by simp at c
 | x:: a,y:: b,r,q,g,e,c,h=>by
  simp only[Ut,ZU]at h;obtain⟨i,f⟩:=g x (by simp) y _ _ (e y (by simp)) h;simp only[Xb,Mj,Xq]at f;obtain⟨k,j⟩:=Qbc a b r q (fun z d=>g z (by simp[d])) (fun z d=>e z (by simp[d])) (by simpa using c) f;exact⟨by rw[i,k],j⟩
def Qjp: ∀t,Y6 t=0->∀u r q,Y6 u=0->VK t ++ r=VK u ++ q->t=u/\r=q:=by
 refine Yp ?_;intro k n s y w p u r q a h;obtain⟨z,f⟩:=SJ p;obtain⟨j,l⟩:=SJ a;obtain⟨H,K,L,b⟩:=u;obtain⟨D,N,I,g⟩:=(Ky z);obtain⟨E,G,J,m⟩:=(Ky j);simp only[ZJ,UI,S8,Yy]at *;simp only[VK,Xb,Y4,ZU,Mj]at h;obtain⟨o,C,A,v⟩:=h;have M:=ED (by omega) (by omega) A;obtain⟨e,i⟩:=F2 (QaZ g) (QaZ m) v;obtain⟨B,c⟩:=Qbc y b _ _ (fun x d u r q a h=>w x d (f x d) u r q a h) l (by omega) i;simp only[Mj,Xq]at c;exact⟨by rw[(ED (by omega) (by omega) o),(ED (by omega) (by omega) C),e,B],c⟩
def Qbd {t u} (b:Y6 t=0) (a:Y6 u=0) (h:VK t=VK u):t=u:=(Qjp t b u [] [] a (by simpa using h)).1
def ixU (x:Tm):Qj->Nat
 | []=>0
 | y:: u=>if Qo y x=0 then 0 else ixU x u+1
def L2 {x}: ∀{u},x∈u->u[ixU x u]? =some x
 | y:: u,h=>by
  simp only[ixU];by_cases c:Qo y x=0;rw[Qg c,YP _ _ c];rfl;rw[Qe c];rcases Zl.1 h with rfl | h;exact absurd (Xd _) c;simpa using L2 h
def FJ {x u} (h:x∈u):ixU x u < u.length:=by
 have:=L2 h;exact(XR.1 this).1
def Wf:Nat->Qj->QB
 | _,[]=>[]
 | k,t:: u=> .agg [.str (VK t),.int .i64 (k:Int)]:: Wf (k+1) u
def Qar: ∀a b k,Wf k (a ++ b)=Wf k a ++ Wf (k+a.length) b
 | [],b,k=>by simp[Wf]
 | t:: a,b,k=>by
  simp only[Xb,Wf,Qar a b (k+1),Zu];congr 3;omega
def HW {x} (i:Y6 x=0): ∀u k,(∀y∈u,Y6 y=0)->x∈u->Wg true (Wf k u) (.str (VK x))=some (some (.int .i64 ((k+ixU x u:Nat):Int))):=by
 intro u;induction u with | nil=>intro k _ h;cases h | cons y u g=>intro k d f;simp only[Wf,Wg,P3];by_cases c:Qo y x=0;have e:=YP _ _ c;subst e;simp[ixU,c];(have a: (VK x == VK y)=false:=by simp only[O8,ne_eq];intro e;exact c (by rw[Qbd i (d y (by simp)) e];exact Xd _));(have b:x∈u:=by rcases Zl.1 f with e | e;exact absurd (by rw[e];exact Xd _) c;exact e);rw[a];simp only[g (k+1) (fun z j=>d z (by simp[j])) b,ixU,Qe c];congr 4;omega
def Qrn {x} (g:Y6 x=0) (v): ∀u k,(∀y∈u,Y6 y=0)->x ∉ u->Og true (Wf k u) (.str (VK x)) v=some (Wf k u ++ [.agg [.str (VK x),v]]):=by
 intro u;induction u with | nil=>intro k _ _;simp[Wf,Og,P2] | cons y u f=>intro k b c;simp only[Wf,Og,P3];(have a: (VK x == VK y)=false:=by simp only[O8,ne_eq];intro e;exact c (by rw[Qbd g (b y (by simp)) e];simp));rw[a];simp only[f (k+1) (fun z d=>b z (by simp[d])) (fun h=>c (by simp[h])),Zn,Xb]
def Ix (u:Qj) (x:Tm):Int:=if VX x=0 then(ixU (WV x) u:Int)else -1
def Y5 (u:Qj) (ks:Qj):Qr:=ks.map fun y=>[.int .i64 (ixU y u:Int)]
def Yj (u:Qj) (x:Tm):QB:=[.sl false 1 (Y5 u x.kids),.int .i64 (Ix u x)]
structure UK (u:List Tm):Prop where
 len:u.length < 4000
 err: ∀x∈u,Y6 x=0
 ms: ∀x∈u,x.mass < 1000000
 gd: ∀x∈u,Zf x=true
 kids: ∀x∈u,∀y∈x.kids,y∈u
 key: ∀x∈u,VX x=0->WV x∈u
def Qwh {u} (h:UK u) (t) (I:t∈u) (B v) (O:B[v]? =some (.undef:: Wf 0 u)) (n:Nat) (M:u[n]? =some t) (H K) (Q:Out->Prop):
  ∀b a o d,t.kids=a ++ b->d 0= .sl o 4 (Qa u)->d 1= .mp v->d 5=H->d 6= .int .i64 n->d 7= .bx [.sl true 1 (Y5 u a),.int .i64 (-1)]->d 8= .int .i64 a.length->
  (∀c,c 0= .sl o 4 (Qa u)->c 1= .mp v->c 5=H->c 6= .int .i64 n->c 7= .bx [.sl true 1 (Y5 u t.kids),.int .i64 (-1)]->Q (K .normal ⟨c,B⟩))->
  Q (R tb (.loop f303l0) d B (Qh 2 K)):=by
 have L:=(Ky (SJ (h.err t I)).1).l;have G:=ZN t;have k: (Qa t.kids).length=t.kids.length:=QX _;have f: (Qa u)[n]? =some (Qd t):=by rw[Xf,M];rfl
 intro b;induction b with | nil=>intro a o d g i j w p m s y;simp only[Qy]at g;rw[<- g]at m s;rw[G]at f;rw[Qb f303l0.eq_1];simp[-getElem?_pos,i,j,p,m,s,f,k,Ql];apply y <;> simp[i,j,w,p,m] | cons x b J=>intro a o d g i j w p m s y;have N:=QD g;(have C:x∈t.kids:=by rw[g];simp);have e:=h.kids t I x C;have E:=HW (h.err x e) u 0 h.err e;(have A: (Qa t.kids)[a.length]? =some (Qd x):=by rw[Xf,(Qv g)];rfl);(have z: (Y5 u a).length=a.length:=by simp[Y5]);(have q: (a.length+1)*8<=140737488355328:=by omega);(have r:Y5 u a ++ [[.int .i64 (ixU x u:Int)]]=Y5 u (a ++ [x]):=by simp[Y5]);have D:=fun o d=>J (a ++ [x]) o d (by rw[g];simp);simp only[<- r,ZV]at D E;generalize Y5 u a=P at *;generalize Qa t.kids=S at *;rw[G]at f;rw[Qb f303l0.eq_1];simp[-getElem?_pos,i,j,p,m,s,f,k,(QF g),(wr1 a.length (by omega)),A,(I4 x (by have:=h.ms x e;omega) (h.err x e) B),O,E,z,q,Qc,Ql];apply D o <;> first | exact y | simp[i,j,w,p]
def Kt (u): ∀a:Qj,ZD (Y5 u a)=true
 | []=>rfl
 | x:: a=>by
  have:=Kt u a;simp only[Y5,ZO]at this ⊢;simp[this]
def Qbi (u): ∀l:Qj,ZD (l.map (Yj u))=true
 | []=>rfl
 | x:: l=>by
  simp[Yj,(Qbi u l),(Kt u x.kids)]
def QkI (u:Qj) (B:Qr) (r:Out):Prop:=∃o,r=some (.sl o 2 (u.map (Yj u)),B)
def Qwi {u} (e:UK u) (B A) (L:B[A]? =some (.undef:: Wf 0 u)):
  ∀b a o d,u=a ++ b->d 0= .sl o 4 (Qa u)->d 1= .mp A->d 5= .sl true 2 (a.map (Yj u))->d 6= .int .i64 a.length->
  QkI u B (R tb (.loop f303l1) d B (Qh 0 (Qs tb f303r2 (QA f303 B)))):=by
 intro b;induction b with | nil=>intro a o d g j D q i;simp only[Qy]at g;rw[<- g]at q i;refine⟨false,?_⟩;have E:=Qbi u u;rw[Qb f303l1.eq_1];generalize List.map (Yj u) u=T at *;simp[j,q,i,f303r2,E] | cons t b Q=>intro a o d g j D q i;have m:=Qv g;have S:=QD g;have P:=e.len;have y:=wr1 a.length (by omega);have r:=QF g;(have z:t∈u:=by rw[g];simp);have M:=fun K d=>Qwh e t z B A L a.length m (.sl true 2 (a.map (Yj u))) K (QkI u B) t.kids [] o d rfl;have c:=EM t B (e.gd t z) (e.ms t z);(have p: (Qa u)[a.length]? =some (Qd t):=by rw[Xf,m];rfl);have k: (Qa u).length=u.length:=QX _;(have x: (a.map (Yj u)).length=a.length:=by simp);have v:=fun o d=>Q (a ++ [t]) o d (by rw[g];simp);(have n:List.map (Yj u) (a ++ [t])=List.map (Yj u) a ++ [Yj u t]:=by simp);rw[n]at v;(have h: (a.length+1)*32<=140737488355328:=by omega);generalize List.map (Yj u) a=T at *;have O:Y5 u []=[]:=rfl;rw[Qb f303l1.eq_1];by_cases l:VX t=0;have f:=e.key t z l;have N:=HW (e.err _ f) u 0 e.err f;simp only[ZV]at N;(have H:Yj u t=[.sl false 1 (Y5 u t.kids),.int .i64 (ixU (WV t) u:Int)]:=by simp[Yj,Ix,l]);rw[H]at v;simp only[T8,l]at c;simp[-getElem?_pos,j,i,k,r];(apply M <;> first | simp[j,D,q,i,O] | skip);intro G w s I J C;simp[-getElem?_pos,f303r0,f303r1,w,s,I,J,C,p,c,(I4 (WV t) (by have:=e.ms _ f;omega) (e.err _ f) B),L,N,x,h,y,Qc,Ql,Q0];apply v o <;> simp[w,s];(have H:Yj u t=[.sl false 1 (Y5 u t.kids),.int .i64 (-1)]:=by simp[Yj,Ix,l]);rw[H]at v;simp only[T8]at c;simp[-getElem?_pos,j,i,k,r];(apply M <;> first | simp[j,D,q,i,O] | skip);intro G w s I J C;simp[-getElem?_pos,f303r0,f303r1,w,s,I,J,C,p,c,l,x,h,y,Qc,Ql,Q0];apply v o <;> simp[w,s]
def Qon {u} (c:UK u) (B a) (d:B[a]? =some (.undef:: Wf 0 u)) (o):QkI u B (call tb 303 [.sl o 4 (Qa u),.mp a] B):=by
 rw[zcc 303 rfl rfl];simp[f303C];apply(fun b=>Qwi c B a d u [] false b rfl) <;> simp
def knB (u s:Qj):QB:=u.map fun x=> .bool (Qx s x)
def N1 (u s): (knB u s).length=u.length:=by simp[knB]
def E9 {u s y} (h:y∈u): (knB u s)[ixU y u]? =some (.bool (Qx s y)):=by
 simp[knB,L2 h]
def Iz {u s y} {n:Nat} (h:u[n]? =some y): (knB u s)[n]? =some (.bool (Qx s y)):=by
 simp[knB,h]
def Qvx {u} (z:UK u) (s t) (C:t∈u) (B y) (A:B[y]? =some (knB u s)) (I):
  ∀a b d,t.kids=b ++ a->d 2= .gs y 0 1 u.length->d 3= .bx (Qd t)->d 4= .bx [.sl false 1 (Y5 u t.kids),I]->d 7= .int .i64 b.length->
  R tb (.loop f305l0) d B (Qh 1 (Qs tb f305r0 (QA f305 B)))=some (.bool (decide (t.kind=3) && a.all (Qx s)),B):=by
 have G:=(Ky (SJ (z.err t C)).1).l;have f: (Y5 u t.kids).length=t.kids.length:=by simp[Y5]
 intro a;induction a with | nil=>intro b d e q v p o;simp only[Qy]at e;rw[<- e]at o;rw[(ZN t)]at v;(have J: ((t.kind:Int) == 3)=decide (t.kind=3):=by by_cases c:t.kind=3 <;> simp[c]);rw[Qb f305l0.eq_1];simp[-getElem?_pos,Ql,q,v,p,o,f,f305r0,J] | cons x a D=>intro b d e q v p o;have E:=QD e;have n:=wr1 b.length (by omega);have i:=QF e;have k:=z.kids t C x (by rw[e];simp);have H:=FJ k;(have m: (ixU x u:Int) < (u.length:Int):=by omega);(have g:ixU x u+1<=(knB u s).length:=by rw[N1];omega);have w:=E9 (s:=s) k;(have h: (Y5 u t.kids)[b.length]? =some [.int .i64 (ixU x u:Int)]:=by simp[Y5,(Qv e)]);generalize Y5 u t.kids=K at *;generalize knB u s=L at *;generalize ixU x u=j at *;rw[Qb f305l0.eq_1];cases r:Qx s x;rw[r]at w;simp[-getElem?_pos,Ql,q,p,o,f,i,n,h,m,g,A,w,r];rw[r]at w;simp[-getElem?_pos,Ql,q,p,o,f,i,n,h,m,g,A,w,r];apply(fun d=>D (b ++ [x]) d (by rw[e];simp)) <;> simp[q,v,p]
def Qoo {u} (r:UK u) (s t) (q:t∈u) (B a) (v:B[a]? =some (knB u s)):
  call tb 305 [.agg (Qd t),.agg (Yj u t),.gs a 0 1 u.length] B=some (.bool (Uo s t),B):=by
 have h:=fun w=>Qvx r s t q B a v (.int .i64 (Ix u t)) t.kids [] w rfl;rw[zcc 305 rfl rfl];unfold Uo;have o: (decide (t.kind=3) && UE t.name && t.kids.all (Qx s))=if UE t.name then(decide (t.kind=3) && t.kids.all (Qx s))else false:=by cases UE t.name <;> cases decide (t.kind=3) <;> simp
 rw[o];generalize x: (decide (t.kind=3) && t.kids.all (Qx s))=E at *;simp only[(ZN t),Yj]at h ⊢;by_cases m:t.name=Zx;simp[f305C,UE,Zx,ENC,Zv,PK,Zw,Ta,m]at h ⊢;rw[h] <;> simp;by_cases e:t.name=ENC;simp[f305C,UE,Zx,ENC,Zv,PK,Zw,Ta,e]at h ⊢;rw[h] <;> simp;by_cases k:t.name=Zv;simp[f305C,UE,Zx,ENC,Zv,PK,Zw,Ta,k]at h ⊢;rw[h] <;> simp;by_cases f:t.name=PK;simp[f305C,UE,Zx,ENC,Zv,PK,Zw,Ta,f]at h ⊢;rw[h] <;> simp;by_cases c:t.name=Zw;simp[f305C,UE,Zx,ENC,Zv,PK,Zw,Ta,c]at h ⊢;rw[h] <;> simp;by_cases i:t.name=Ta;simp[f305C,UE,Zx,ENC,Zv,PK,Zw,Ta,i]at h ⊢;rw[h] <;> simp;have d:=T2 m;have g:=T2 e;have l:=T2 k;have b:=T2 f;have j:=T2 c;have n:=T2 i;simp only[Zx,ENC,Zv,PK,Zw,Ta]at d g l b j n;simp[f305C,UE,Zx,ENC,Zv,PK,Zw,Ta,d,g,l,b,j,n]
def Tg (s:Qj) (t:Tm):Qj:=if isB t Zx then t.kids else if isB t Zw || (decide (VX t=0) && Qx s (WV t))then t.kids.take 1 else []
def OpL (u s:Qj) (t:Tm) (B:Qr) (r:Out):Prop:=∃o,r=some (.sl o 1 (Y5 u (Tg s t)),B)
def Qmc {t} (e:Zf t=true) (h:VX t=0):1<=t.kids.length:=by
 unfold VX at h;split at h;rename_i f;exact absurd h f;split at h;rename_i d;obtain⟨a,b,c⟩:=Yq e d (by simp[Vx]);rw[c];simp;split at h;rename_i d;obtain⟨a,b,c⟩:=Yq e d (by simp[Vx]);rw[c];simp;cases h
def Qop {u} (w:UK u) (s t) (v:t∈u) (B C) (A:B[C]? =some (knB u s)):
  OpL u s t B (call tb 306 [.agg (Qd t),.agg (Yj u t),.gs C 0 1 u.length] B):=by
 have c:=Xw t Zx B;have f:=Xw t Zw B;unfold Zx at c;unfold Zw at f;have i: (Y5 u t.kids).length=t.kids.length:=by simp[Y5]
 have J:=(Ky (SJ (w.err t v)).1).l;have e:=Kt u t.kids;have d:=Kt u (t.kids.take 1);rw[zcc 306 rfl rfl];unfold OpL Tg Zx Zw;simp only[Yj];cases D:isB t [112,97,105,114];rw[D]at c;have k: (Y5 u t.kids).take 1=Y5 u (t.kids.take 1):=by simp[Y5,SC]
 cases y:isB t [115,105,103,110];rw[y]at f;by_cases g:VX t=0;have r:=w.key t v g;have x:=E9 (s:=s) r;have H:=Qmc (w.gd t v) g;have o: (1:Int)<=(t.kids.length:Int):=by omega
 have z:Ix u t=(ixU (WV t) u:Int):=by simp[Ix,g]
 have K:=FJ r;have m: (ixU (WV t) u:Int) < (u.length:Int):=by omega
 have G: (0:Int)<=(ixU (WV t) u:Int):=by omega
 have h:ixU (WV t) u+1<=(knB u s).length:=by rw[N1];omega
 rw[z];generalize knB u s=M at *;generalize ixU (WV t) u=j at *;cases E:Qx s (WV t);rw[E]at x;refine⟨true,?_⟩;simp[-getElem?_pos,Ql,Q0,f306C,c,f,m,h,A,x,g,Qc,Y5];rw[E]at x;refine⟨false,?_⟩;generalize Y5 u t.kids=I at *;simp[-getElem?_pos,Ql,Q0,f306C,c,f,m,h,A,x,g,Qc,i,o,k,e,d];have z:Ix u t= -1:=by simp[Ix,g]
 rw[z];refine⟨true,?_⟩;simp[-getElem?_pos,Ql,Q0,f306C,c,f,g,Qc,Y5];rw[y]at f;obtain⟨a,b,L⟩:=Yq (n:=Zw) (w.gd t v) y (by simp[Vx]);have q:t.kids.length=2:=by rw[L];rfl
 refine⟨false,?_⟩;generalize Y5 u t.kids=I at *;simp[-getElem?_pos,Ql,Q0,f306C,c,f,Qc,i,q,k,e,d];rw[D]at c;refine⟨false,?_⟩;simp[-getElem?_pos,Ql,f306C,c,Qc,e]
def W0 (p:Qj×Bool) (y:Tm):Qj×Bool:=if Qx p.1 y then p else(QT y p.1,true)
def frA (p:Qj×Bool) (x:Tm):Qj×Bool:=if !Qx p.1 x && (X0 x || Uo p.1 x)then(QT x p.1,true)else p
def frO (p:Qj×Bool) (x:Tm):Qj×Bool:=(if Qx p.1 x then Tg p.1 x else []).foldl W0 p
def frX (p:Qj×Bool) (x:Tm):Qj×Bool:=frO (frA p x) x
def frC (u:Qj):Nat->Qj->Qj
 | 0,s=>s
 | f+1,s=>if(u.foldl frX (s,false)).2 then frC u f (u.foldl frX (s,false)).1 else(u.foldl frX (s,false)).1
def QkS {u p y} (h:PsI u p.1) (a:y∈u):PsI u (W0 p y).1:=by
 unfold W0;split;exact h;exact Re h a
def Do {u}: ∀(l:Qj) {p},PsI u p.1->(∀y∈l,y∈u)->PsI u (l.foldl W0 p).1
 | [],p,h,_=>h
 | y:: l,p,h,a=>Do l (QkS h (a y (by simp))) fun z b=>a z (by grind)
def QdY {u p x} (h:PsI u p.1) (a:x∈u):PsI u (frA p x).1:=by
 unfold frA;split;exact Re h a;exact h
def Gh {u} (b:UK u) {s x} (c:x∈u): ∀y∈Tg s x,y∈u:=by
 intro y a;unfold Tg at a;split at a;exact b.kids x c y a;split at a;exact b.kids x c y (List.mem_of_mem_take a);grind
def Qd0 {u} (c:UK u) {p x} (h:PsI u p.1) (a:x∈u):PsI u (frX p x).1:=by
 unfold frX frO;apply Do _ (QdY h a);intro y b;split at b;exact Gh c a y b;grind
def Kx {u} (b:UK u): ∀(l:Qj) {p},PsI u p.1->(∀y∈l,y∈u)->PsI u (l.foldl frX p).1
 | [],p,h,_=>h
 | y:: l,p,h,a=>Kx b l (Qd0 b h (a y (by simp))) fun z c=>a z (by grind)
def Da {u} (b:Asc u) {s y n} (h:u[n]? =some y): (knB u s).set n (.bool true)=knB u (QT y s):=by
 apply Ss;intro i;rw[QG];by_cases c:n=i;subst c;have f:=(XR.1 h).1;have e:Qx (QT y s) y=true:=Zz.2 (Wa.2 (.inl rfl));rw[Qg rfl,Qg (by rwa[N1]),Iz h,e];rw[Qe c];rcases a:u[i]? with _ | x;simp[knB,a];have d:x≠y:=fun e=>c (by rw[e]at a;exact Ho b h a);have e:Qx (QT y s) x=Qx s x:=by rw[JM,Zz,Zz,Wa];grind
 rw[Iz a,Iz a,e]
def Dd (a:QB) (n v) (h:n < a.length):a.take n ++ v:: a.drop (n+1)=a.set n v:=by
 rw[Js,Qg h]
def FB (bs:Qr) (u s:Qj):Qr:=bs ++ [.undef:: Wf 0 u,knB u s]
def L0 (a u s): (FB a u s)[a.length+1]? =some (knB u s):=by simp[FB]
def Quc (a u s): (FB a u s)[a.length]? =some (.undef:: Wf 0 u):=by simp[FB]
def Qaw (a u s b): (FB a u s).set (a.length+1) (knB u b)=FB a u b:=by
 simp[FB]
def Qv4 {u} (hu:UK u) (Y:Asc u) (o) (l) (V: ∀y∈l,y∈u) (U:l.length < 1000) (M N) (n) (K) (Q:Out->Prop):
  ∀a b s k f d,l=b ++ a->d 1= .sl M 4 (Qa u)->d 7= .sl N 2 (u.map (Yj u))->d 8= .gs (o.length+1) 0 1 u.length->d 10= .bool k->d 11= .int .i64 n->d 12= .sl f 1 (Y5 u l)->d 13= .int .i64 b.length->
  (∀c,c 1= .sl M 4 (Qa u)->c 7= .sl N 2 (u.map (Yj u))->c 8= .gs (o.length+1) 0 1 u.length->c 10= .bool (a.foldl W0 (s,k)).2->c 11= .int .i64 n->Q (K .normal ⟨c,FB o u (a.foldl W0 (s,k)).1⟩))->
  Q (R tb (.loop f301l2) d (FB o u s) (Qh 8 K)):=by
 have C: (Y5 u l).length=l.length:=by simp[Y5]
 intro a;induction a with | nil=>intro b s k f d E J H w r m e g h;simp only[Qy]at E;rw[<- E]at g;rw[Qb f301l2.eq_1];simp_all | cons x a S=>intro b s k f d E J H w r m e g h;(have X:l.length=b.length+ (a.length+1):=by grind);have B:=wr1 b.length (by omega);(have t: (b.length:Int) < (l.length:Int):=by omega);have p:=V x (by grind);have W:=FJ p;(have A: (ixU x u:Int) < (u.length:Int):=by omega);have G:=E9 (s:=s) p;(have D: (Y5 u l)[b.length]? =some [.int .i64 (ixU x u:Int)]:=by simp[Y5,(Qv E)]);have hkl:=N1 u s;have i:=Dd (knB u s) (ixU x u) (.bool true) (by omega);rw[(Da Y (s:=s) (L2 p))]at i;have z:=L0 o u s;have L:=Qaw o u s (QT x s);have P:=fun s k d=>S (b ++ [x]) s k f d (by grind);simp only[UX,W0]at h;(have v:ixU x u+1<=(knB u s).length:=by omega);generalize Y5 u l=EI at *;generalize List.map (Yj u) u=PL at *;generalize T:knB u s=KB at *;generalize knB u (QT x s)=Z at *;generalize ixU x u=j at *;generalize I:FB o u s=Bs at *;rw[Qb f301l2.eq_1];cases O:Qx s x;rw[O]at G h;simp only[Xa,ZM]at h;simp[-getElem?_pos,Ql,w,e,g,C,t,B,D,A,z,G,i,L,v];(apply P (QT x s) true <;> first | exact h | simp[J,H,w,m,e]);rw[O]at G h;simp only[QU]at h;simp[-getElem?_pos,Ql,w,e,g,C,t,B,D,A,v,z,G];have q:=P s k;rw[I]at q;apply q <;> first | exact h | simp[J,H,w,r,m,e]
def Qv5 {u} (N:UK u) (ha:Asc u) (k) (o1 o7) (K) (Q:Out->Prop):
  ∀c a s g i,u=a ++ c->PsI u s->i 1= .sl o1 4 (Qa u)->i 7= .sl o7 2 (u.map (Yj u))->i 8= .gs (k.length+1) 0 1 u.length->i 10= .bool g->i 11= .int .i64 a.length->
  (∀h,h 1= .sl o1 4 (Qa u)->h 7= .sl o7 2 (u.map (Yj u))->h 8= .gs (k.length+1) 0 1 u.length->h 10= .bool (c.foldl frX (s,g)).2->Q (K .normal ⟨h,FB k u (c.foldl frX (s,g)).1⟩))->
  Q (R tb (.loop f301l3) i (FB k u s) (Qh 6 K)):=by
 have hul:=N.len;have H: (Qa u).length=u.length:=QX _;intro c;induction c with | nil=>intro a s g i hk hI I C B h10 d A;simp only[Qy]at hk;rw[<- hk]at d;rw[Qb f301l3.eq_1];simp_all | cons x c IH=>intro a s g i hk hI I C B h10 d A;have V:=Qv hk;(have hlp:u.length=a.length+ (c.length+1):=by grind);have D:=wr1 a.length (by omega);(have E: (a.length:Int) < (u.length:Int):=by omega);(have q:x∈u:=by grind);have hg:=fun s=>Iz (s:=s) V;(have J: (Qa u)[a.length]? =some (Qd x):=by rw[Xf,V];rfl);(have G: (List.map (Yj u) u)[a.length]? =some (Yj u x):=by grind);have b:=fun s=>Qc0 x (FB k u s) (N.ms x q);have f:=fun s=>Qoo N s x q (FB k u s) (k.length+1) (L0 k u s);have O:=fun s=>Qop N s x q (FB k u s) (k.length+1) (L0 k u s);have W:=N1 u;have y:=Dd (knB u s) a.length (.bool true) (by grind);rw[(Da ha (s:=s) V)]at y;have hfg:=L0 k u;have hfs:=Qaw k u s (QT x s);have hIA:=QdY (p:=(s,g)) hI q;have v:=Qd0 (p:=(s,g)) N hI q;have ih:=fun s g i=>IH (a ++ [x]) s g i (by rw[hk];simp);(have L: (Yj u x).take 2=Yj u x:=by simp[Yj]);(have t: (Yj u x).length=2:=by simp[Yj]);(have r:List.map AV.strip (Yj u x)=Yj u x:=by simp[Yj]);have hop:=fun s=>Gh N (s:=s) q;(have hol: ∀s,(Tg s x).length < 1000:=fun s=>by have hk8:=(Ky (SJ (N.err x q)).1).l;unfold Tg;split;omega;split;simp;omega;simp);(have hx3:a.length+1<=u.length:=by omega);have P:=fun l hl hll K Q U pre1 s g w i=>Qv4 N ha k l hl hll o1 o7 (a.length:Int) K Q U pre1 s g w i;have e0:Y5 u []=[]:=rfl;simp only[UX]at A;generalize hPL:List.map (Yj u) u=PL at *;generalize hEU:Qa u=EU at *;rw[Qb f301l3.eq_1];cases c1:Qx s x;have o:=hg s;rw[c1]at o;(have M: (X0 x || Uo s x)=true->frX (s,g) x=(Tg (QT x s) x).foldl W0 (QT x s,true):=fun T=>by have e:Qx (QT x s) x=true:=Zz.2 (Wa.2 (.inl rfl));simp only[frX,frA,frO,c1,T,LP,US,QU,e]);have Y:=hg (QT x s);rw[show Qx (QT x s) x=true from Zz.2 (Wa.2 (.inl rfl))]at Y;obtain⟨w,c6⟩:=O (QT x s);have b:=b s;have f:=f s;have j:=hfg s;have S:=hfg (QT x s);(have z:a.length+1<=(knB u s).length:=by rw[W];omega);(have hx5:a.length+1<=(knB u (QT x s)).length:=by rw[W];omega);have l2n:=fun K Q i=>P [] (by simp) (by simp) K Q [] [] s g true i rfl;have P:=fun K Q i=>P (Tg (QT x s) x) (hop _) (hol _) K Q (Tg (QT x s) x) [] (QT x s) true w i rfl;generalize hKB:knB u s=KB at *;generalize hKB2:knB u (QT x s)=KB2 at *;generalize hFs:FB k u s=Bs at *;generalize hFs2:FB k u (QT x s)=Bs2 at *;cases T:X0 x;cases c3:Uo s x;(have e:frX (s,g) x=(s,g):=by simp[frX,frA,frO,c1,T,c3]);rw[e]at A;rw[T]at b;rw[c3]at f;simp[-getElem?_pos,I,C,B,d,H,E,j,o,J,G,b,f,L,t,r,Qc,z];(apply l2n <;> first | simp[I,C,B,h10,d,e0] | skip);intro h q1 Z X n m;simp[f301r0,m,D];(apply ih s g _ hI <;> first | exact A | simp[q1,Z,X,n]);have e:=M (by rw[T,c3];rfl);rw[e]at A v;rw[T]at b;rw[c3]at f;simp[-getElem?_pos,I,C,B,d,H,E,j,S,o,Y,J,G,b,f,L,t,r,Qc,y,hfs,c6,z,hx5];(apply P <;> first | simp[I,C,B,d] | skip);intro h q1 Z X n m;simp[f301r0,m,D];refine ih _ _ _ v ?_ ?_ ?_ ?_ ?_ A <;> simp[q1,Z,X,n];have e:=M (by rw[T];rfl);rw[e]at A v;rw[T]at b;simp[-getElem?_pos,I,C,B,d,H,E,j,S,o,Y,J,G,b,L,t,r,Qc,y,hfs,c6,z,hx5];(apply P <;> first | simp[I,C,B,d] | skip);intro h q1 Z X n m;simp[f301r0,m,D];refine ih _ _ _ v ?_ ?_ ?_ ?_ ?_ A <;> simp[q1,Z,X,n];have o:=hg s;rw[c1]at o;(have e:frX (s,g) x=(Tg s x).foldl W0 (s,g):=by simp only[frX,frA,frO,c1,Ml,Mk,Xa,ZM,QU]);rw[e]at A v;obtain⟨w,c6⟩:=O s;have j:=hfg s;(have z:a.length+1<=(knB u s).length:=by rw[W];omega);have P:=fun K Q i=>P (Tg s x) (hop _) (hol _) K Q (Tg s x) [] s g w i rfl;generalize hKB:knB u s=KB at *;generalize hFs:FB k u s=Bs at *;simp[-getElem?_pos,I,C,B,d,H,E,j,o,J,G,L,t,r,Qc,c6,z];(apply P <;> first | simp[I,C,B,h10,d] | skip);intro h q1 Z X n m;simp[f301r0,m,D];refine ih _ _ _ v ?_ ?_ ?_ ?_ ?_ A <;> simp[q1,Z,X,n]
def Dn: ∀(l:Qj) p,p.1.length<=(l.foldl W0 p).1.length/\((l.foldl W0 p).2=true->p.2=true\/p.1.length < (l.foldl W0 p).1.length)
 | [],p=>⟨QY _,fun h=> .inl h⟩
 | y:: l,p=>by
  simp only[UX];have a:=Dn l (W0 p y);by_cases c:Qx p.1 y=true;have e:W0 p y=p:=by simp[W0,c]
  grind;have e:W0 p y=(QT y p.1,true):=by simp[W0,c]
  rw[e]at a ⊢;have b:=MS (t:=y) (s:=p.1) fun h=>c (Zz.2 h);grind
def Qp1 (p x):p.1.length<=(frX p x).1.length/\((frX p x).2=true->p.2=true\/p.1.length < (frX p x).1.length):=by
 unfold frX frO;have b:=Dn (if Qx (frA p x).1 x then Tg (frA p x).1 x else []) (frA p x);by_cases c: (!Qx p.1 x && (X0 x || Uo p.1 x))=true;have e:frA p x=(QT x p.1,true):=by simp only[frA,Qg c]
 simp only[Qu,Sv]at c;have a:=MS (t:=x) (s:=p.1) fun h=>by rw[Zz.2 h]at c;grind
 grind;have e:frA p x=p:=by simp only[frA,Qe c]
 grind
def HZ: ∀(l:Qj) p,p.1.length<=(l.foldl frX p).1.length/\((l.foldl frX p).2=true->p.2=true\/p.1.length < (l.foldl frX p).1.length)
 | [],p=>⟨QY _,fun h=> .inl h⟩
 | y:: l,p=>by
  simp only[UX];have a:=HZ l (frX p y);have b:=Qp1 p y;grind
def Qv6 {u} (j:UK u) (k:Asc u) (d) (h m) (K) (Q:Out->Prop):
  ∀f s a,u.length < f+s.length->PsI u s->a 1= .sl h 4 (Qa u)->a 7= .sl m 2 (u.map (Yj u))->a 8= .gs (d.length+1) 0 1 u.length->a 10= .bool true->
  (∀b,b 1= .sl h 4 (Qa u)->b 8= .gs (d.length+1) 0 1 u.length->Q (K .normal ⟨b,FB d u (frC u f s)⟩))->
  Q (R tb (.loop f301l4) a (FB d u s) (Qh 4 K)):=by
 intro f;induction f with | zero=>intro s a q g;have:=XS u s g.asc k g.sub;omega | succ f E=>intro s a q g r o v i e;have C:=HZ u (s,false);have x:=Kx j u (p:=(s,false)) g fun y n=>n;have t:=fun K Q a=>Qv5 j k d h m K Q u [] s false a rfl g;simp only[frC]at e;generalize B:FB d u s=G at *;rw[Qb f301l4.eq_1];simp[i];apply t;simp[r];simp[o];simp[v];simp;simp;intro b A D w c;cases l: (u.foldl frX (s,false)).2;rw[l]at c e;simp only[Xa,ZM]at e;generalize FB d u (u.foldl frX (s,false)).1=z at *;simp;rw[Qb f301l4.eq_1];simp[c];apply e <;> simp[A,w];rw[l]at c e;simp only[QU]at e;(have:s.length < (u.foldl frX (s,false)).1.length:=by grind);simp;grind
def FrR (l:Qj) (B:Qr) (r:Out):Prop:=∃o,r=some (.sl o 4 (Qa l),B)
def Qv7 {u} (H:UK u) (k s):
  ∀b a g e,u=a ++ b->e 1= .sl g 4 (Qa u)->e 8= .gs (k.length+1) 0 1 u.length->e 14= .sl true 4 (Qa (a.filter (Qx s)))->e 15= .int .i64 a.length->
  FrR (u.filter (Qx s)) k (R tb (.loop f301l5) e (FB k u s) (Qh 10 (Qs tb f301r1 (QA f301 k)))):=by
 have K:=H.len;have h: (Qa u).length=u.length:=QX _;intro b;induction b with | nil=>intro a g e w j i c d;simp only[Qy]at w;rw[<- w]at c d;refine⟨false,?_⟩;have z:=ZL (u.filter (Qx s));generalize Qa (u.filter (Qx s))=N at *;rw[Qb f301l5.eq_1];simp[j,i,c,d,h,f301r1,FB,z] | cons x b B=>intro a g e w j i c d;have p:=Qv w;(have M:u.length=a.length+ (b.length+1):=by grind);have n:=wr1 a.length (by omega);(have m: (a.length:Int) < (u.length:Int):=by omega);(have y: (Qa u)[a.length]? =some (Qd x):=by rw[Xf,p];rfl);have v:=Iz (s:=s) p;have l:=L0 k u s;have t:=fun g e=>B (a ++ [x]) g e (by grind);(have r:a.length+1<=(knB u s).length:=by grind);have C:=Ux (Qx s) a;have o: (Qa (a.filter (Qx s))).length=(a.filter (Qx s)).length:=QX _;(have q: ((a.filter (Qx s)).length+1)*56<=140737488355328:=by omega);have f:=QQ (a.filter (Qx s)) [x];simp only[UW]at t;generalize J:FB k u s=O at *;generalize I:knB u s=Q at *;generalize L:Qa u=S at *;rw[Qb f301l5.eq_1];cases A:Qx s x;rw[A]at v;simp[-getElem?_pos,j,i,c,d,h,m,n,l,v,r];apply t g <;> simp[j,i,c,A];rw[A]at v;(have G:Qa [x]=[Qd x]:=by simp[Qa]);rw[G]at f;(have D:List.filter (Qx s) [x]=[x]:=by grind);rw[D,<- f]at t;generalize E:Qa (a.filter (Qx s))=N at *;generalize (a.filter (Qx s)).length=P at *;simp[-getElem?_pos,j,i,c,d,h,m,n,l,v,y,Qc,q,o,r];apply t g <;> simp[j,i]
def Qv2 {u} (m:UK u) (B:Asc u) (c C K) (Q:Out->Prop):
  ∀b a f e,u=a ++ b->e 0=C->e 1= .sl f 4 (Qa u)->e 5= .mp c.length->e 6= .int .i64 a.length->
  (∀d,d 0=C->d 1= .sl f 4 (Qa u)->d 5= .mp c.length->Q (K .normal ⟨d,c ++ [.undef:: Wf 0 u]⟩))->
  Q (R tb (.loop f301l0) e (c ++ [.undef:: Wf 0 a]) (Qh 0 K)):=by
 have E:=m.len;have s: (Qa u).length=u.length:=QX _;intro b;induction b with | nil=>intro a f e g z o p q A;simp only[Qy]at g;rw[<- g]at q ⊢;rw[Qb f301l0.eq_1];simp_all | cons x b L=>intro a f e g z o p q A;(have D:u.length=a.length+ (b.length+1):=by grind);(have n: (a.length:Int) < (u.length:Int):=by omega);(have j:x∈u:=by grind);(have t: (Qa u)[a.length]? =some (Qd x):=by rw[Xf,(Qv g)];rfl);have i:=m.err x j;have H:=I4 x (by have:=m.ms x j;omega) i (c ++ [.undef:: Wf 0 a]);(have r:x ∉ a:=fun h=>by rw[g]at B;have:=JC.1 B;exact Rs x (this.2.2 x h x (by simp)));have k:=Qrn i (.int .i64 (a.length:Int)) a 0 (fun y S=>m.err y (by grind)) r;(have l:Wf 0 (a ++ [x])=Wf 0 a ++ [.agg [.str (VK x),.int .i64 (a.length:Int)]]:=by rw[Qar];simp[Wf]);rw[<- l]at k;have I:=fun e=>L (a ++ [x]) f e (by grind);have w: (c ++ [AV.undef:: Wf 0 a])[c.length]? =some (.undef:: Wf 0 a):=Yc;(have v: (c ++ [AV.undef:: Wf 0 a]).set c.length (.undef:: Wf 0 (a ++ [x]))=c ++ [.undef:: Wf 0 (a ++ [x])]:=by simp);generalize c ++ [AV.undef:: Wf 0 a]=M at *;generalize Wf 0 a=P at *;generalize G:Wf 0 (a ++ [x])=O at *;generalize J:Qa u=N at *;rw[Qb f301l0.eq_1];simp[-getElem?_pos,o,p,q,s,n,(wr1 a.length (by omega)),t,H,w,k,v,Qc];apply I <;> first | exact A | simp[z,o,p]
def Qv3 {u} (m:UK u) (P:Asc u) (c s) (S: ∀x∈s,x∈u) (M:s.length < 100000) (L H E K) (Q:Out->Prop):
  ∀b a d,s=a ++ b->d 0= .sl L 4 (Qa s)->d 1= .sl H 4 (Qa u)->d 5= .mp c.length->d 7=E->d 8= .gs (c.length+1) 0 1 u.length->d 9= .int .i64 a.length->
  (∀f,f 1= .sl H 4 (Qa u)->f 7=E->f 8= .gs (c.length+1) 0 1 u.length->Q (K .normal ⟨f,FB c u (Qq s)⟩))->
  Q (R tb (.loop f301l1) d (FB c u (Qq a)) (Qh 2 K)):=by
 have t: (Qa s).length=s.length:=QX _;intro b;induction b with | nil=>intro a d i w C o B k p A;simp only[Qy]at i;rw[<- i]at p ⊢;generalize FB c u (Qq s)=W at *;rw[Qb f301l1.eq_1];simp_all | cons x b I=>intro a d i w C o B k p A;(have N:s.length=a.length+ (b.length+1):=by grind);(have v: (a.length:Int) < (s.length:Int):=by omega);have e:=S x (by grind);(have y: (Qa s)[a.length]? =some (Qd x):=by rw[Xf,(Qv i)];rfl);have h:=m.err x e;have U:=I4 x (by have:=m.ms x e;omega) h (FB c u (Qq a));have G:=HW h u 0 m.err e;simp only[ZV]at G;have T:=FJ e;(have z: (ixU x u:Int) < (u.length:Int):=by omega);have J:=N1 u (Qq a);have g:=Dd (knB u (Qq a)) (ixU x u) (.bool true) (by omega);rw[(Da P (s:=Qq a) (L2 e))]at g;have r:=L0 c u (Qq a);have n:=Quc c u (Qq a);have q:=Qaw c u (Qq a) (QT x (Qq a));(have l:ixU x u+1<=(knB u (Qq a)).length:=by omega);have D:=fun d=>I (a ++ [x]) d (by grind);rw[Nw]at D;generalize X:knB u (Qq a)=KB at *;generalize knB u (QT x (Qq a))=V at *;generalize ixU x u=j at *;generalize O:FB c u (Qq a)=W at *;generalize Y:Qa s=Z at *;rw[Qb f301l1.eq_1];simp[-getElem?_pos,w,o,k,p,t,v,(wr1 a.length (by omega)),y,U,n,G,r,z,g,q,l,Qc];apply D <;> first | exact A | simp[w,C,o,B,k]
def D8: ∀u:Qj,List.replicate u.length (AV.bool false)=knB u (Qq [])
 | []=>rfl
 | x:: u=>by
  have a:=D8 u;have e:knB (x:: u) (Qq [])= .bool false:: knB u (Qq []):=rfl;grind
def Qom {u} (c:UK u) (f:Asc u) {s} (e:PsI u s) (o E a):
  FrR (u.filter (Qx (frC u (u.length+1) s))) a (call tb 301 [.sl o 4 (Qa s),.sl E 4 (Qa u)] a):=by
 have v:=c.len;have w:=XS u s e.asc f e.sub;have k:=fun K b=>Qv2 c f a (.sl false 4 (Qa s)) K (FrR (u.filter (Qx (frC u (u.length+1) s))) a) u [] false b rfl;obtain⟨l,d⟩:=Qon c (a ++ [.undef:: Wf 0 u]) a.length Yc false;have i:=fun K b=>Qv3 c f a s e.sub (by omega) false false (.sl l 2 (u.map (Yj u))) K (FrR (u.filter (Qx (frC u (u.length+1) s))) a) s [] b rfl;rw[QcJ e.asc]at i;have z:=fun K b=>Qv6 c f a false l K (FrR (u.filter (Qx (frC u (u.length+1) s))) a) (u.length+1) s b (by omega) e;have t:=fun b=>Qv7 c a (frC u (u.length+1) s) u [] false b rfl;have C:a ++ [AV.undef:: Wf 0 u,List.replicate u.length (AV.bool false)]=FB a u (Qq []):=by rw[D8];simp[FB]
 have g:u.length<=140737488355328:=by omega
 have h: (u.length:Int)<=4611686018427387904:=by omega
 simp only[Wf]at k;generalize FrR (u.filter (Qx (frC u (u.length+1) s))) a=Q at *;generalize List.map (Yj u) u=I at *;rw[zcc 301 rfl rfl];simp[f301C];apply k;simp;simp;simp;simp;intro p B j m;simp[f301r4,j,m,d,(QX _),g,h,C];apply i;simp[B];simp[j];simp[m];simp;simp;simp;intro n G r D;generalize FB a u s=H at *;simp[f301r3];apply z;simp[G];simp[r];simp[D];simp;intro y x q;generalize FB a u (frC u (u.length+1) s)=A at *;simp[f301r2];apply t <;> simp[x,q,Qa]
def Qa7 {t} (h:VX t=0):isB t ENC=true\/isB t Zv=true:=by
 unfold VX at h;grind
def KS {s u t} (g:Zf t=true):Lx s u t=true↔u∈Tg s t:=by
 unfold Lx Tg;by_cases d:isB t Zx=true;obtain⟨a,b,c⟩:=Yq g d (by simp[Vx]);have e:kid t 0=a:=by simp[kid,c]
 have k:kid t 1=b:=by simp[kid,c]
 rw[Qg d,Qg d,e,k,c];simp only[Wo,QM,Wz,Zl,JH,Mn];grind;rw[Qe d,Qe d];by_cases f:isB t Zw=true;obtain⟨a,b,c⟩:=Yq g f (by simp[Vx]);have e:kid t 0=a:=by simp[kid,c]
 rw[Qg f,e,c,f];simp only[PI,QU,List.take_succ_cons,List.take_zero,Zl,JH,Mn,QM,Wz];grind;rw[Qe f];have i:isB t Zw=false:=by grind
 rw[i,T3];by_cases j:VX t=0;have l:=Qa7 j;have c: ∃a b,t.kids=[a,b]:=by rcases l with h | h;exact Yq g h (by simp[Vx]);exact Yq g h (by simp[Vx])
 obtain⟨a,b,c⟩:=c;have e:kid t 0=a:=by simp[kid,c]
 rw[Qg (by grind),e,c];simp only[j,decide_true,V4,Qu,QM,Wz];grind;grind
def Dz {s c} (h: ∀x∈s,x∈c) {t} (a:Uo s t=true):Uo c t=true:=by
 unfold Uo at a ⊢;simp only[Qu,Wc]at a ⊢;exact⟨a.1,fun x b=>Zz.2 (h x (Zz.1 (a.2 x b)))⟩
def D6 {s c} (h: ∀x∈s,x∈c) {t y} (b:y∈Tg s t):y∈Tg c t:=by
 unfold Tg at b ⊢;split at b;grind;rename_i d;rw[Qe d];split at b;rename_i a;have: (isB t Zw || (decide (VX t=0) && Qx c (WV t)))=true:=by simp only[Wo,Qu]at a ⊢;rcases a with a | a;grind;exact .inr ⟨a.1,Zz.2 (h _ (Zz.1 a.2))⟩
 grind;grind
def Qjk {s c} (d: ∀x∈c,Zf x=true) (h: ∀x∈s,x∈c) {t} (b:OA s t=true):OA c t=true:=by
 unfold OA at b ⊢;obtain⟨x,a,e⟩:=UQ.1 b;exact UQ.2 ⟨x,h x a,(KS (d x (h x a))).2 (D6 h ((KS (d x (h x a))).1 e))⟩
def ClS (u c:Qj):Prop:=∀x∈u,(X0 x=true\/Uo c x=true\/OA c x=true)->x∈c
def Ay {c:Qj}: ∀(l:Qj) p,(∀x∈p.1,x∈c)->(∀y∈l,y∈c)->∀x∈(l.foldl W0 p).1,x∈c
 | [],p,h,_=>h
 | y:: l,p,h,b=>by
  simp only[UX];apply Ay l _ _ fun z d=>b z (by grind);unfold W0;split;exact h;intro x a;rcases Wa.1 a with rfl | a;grind;grind
def Qug {u c} (i:UK u) (g:ClS u c) (j: ∀x∈c,x∈u) {p x} (e:x∈u) (h: ∀y∈p.1,y∈c): ∀y∈(frX p x).1,y∈c:=by
 have d: ∀y∈(frA p x).1,y∈c:=by unfold frA;split;rename_i b;simp only[Qu,Wo]at b;intro y a;rcases Wa.1 a with rfl | a;apply g y e;rcases b.2 with f | f;grind;exact .inr (.inl (Dz h f));grind;exact h
 unfold frX frO;apply Ay _ _ d;intro y a;split at a;rename_i b;apply g y (Gh i e y a);exact .inr (.inr (UQ.2 ⟨x,(d x (Zz.1 b)),(KS (i.gd x e)).2 (D6 d a)⟩));grind
def Qd2 {u c} (d:UK u) (e:ClS u c) (a: ∀x∈c,x∈u): ∀(l:Qj) p,(∀x∈l,x∈u)->(∀y∈p.1,y∈c)->∀y∈(l.foldl frX p).1,y∈c
 | [],p,_,h=>h
 | x:: l,p,b,h=>Qd2 d e a l _ (fun z f=>b z (by grind)) (Qug d e a (b x (by simp)) h)
def QiS {u c} (b:UK u) (d:ClS u c) (a: ∀x∈c,x∈u): ∀f s,(∀y∈s,y∈c)->∀y∈frC u f s,y∈c
 | 0,s,h=>h
 | f+1,s,h=>by
  have e:=Qd2 b d a u (s,false) (fun x g=>g) h;simp only[frC];split;exact QiS b d a f _ e;omega
def Ax: ∀(l:Qj) p,(l.foldl W0 p).2=false->l.foldl W0 p=p/\∀y∈l,y∈p.1
 | [],p,_=>⟨rfl,fun y f=>by grind⟩
 | y:: l,p,h=>by
  simp only[UX]at h ⊢;obtain⟨a,d⟩:=Ax l _ h;by_cases c:Qx p.1 y=true;have e:W0 p y=p:=by simp[W0,c]
  rw[e]at a d ⊢;refine⟨a,fun z b=> ?_⟩;rcases Zl.1 b with rfl | b;exact Zz.1 c;grind;have e:W0 p y=(QT y p.1,true):=by simp[W0,c]
  grind
def Quf {p x} (h: (frX p x).2=false):frX p x=p/\((X0 x || Uo p.1 x)=true->x∈p.1)/\(x∈p.1->∀y∈Tg p.1 x,y∈p.1):=by
 unfold frX frO at h ⊢;obtain⟨d,b⟩:=Ax _ _ h;rw[d]at h ⊢;by_cases c: (!Qx p.1 x && (X0 x || Uo p.1 x))=true;have e:frA p x=(QT x p.1,true):=by simp only[frA,Qg c]
 grind;have e:frA p x=p:=by simp only[frA,Qe c]
 rw[e]at b ⊢;refine⟨rfl,fun a=> ?_,fun a y f=> ?_⟩;rw[a,US]at c;have:Qx p.1 x=true:=by grind
 exact Zz.1 this;apply b;rwa[Qg (Zz.2 a)]
def QlO {p} (h:p.2=true) (x): (frX p x).2=true:=by
 have a: ∀(l:Qj) (q:Qj×Bool),q.2=true->(l.foldl W0 q).2=true:=by intro l;induction l with | nil=>simp | cons y l b=>intro q c;simp only[UX];apply b;unfold W0;split;omega;rfl
 unfold frX frO;apply a;unfold frA;grind
def DQ: ∀(l:Qj) p,p.2=true->(l.foldl frX p).2=true
 | [],p,h=>h
 | x:: l,p,h=>DQ l _ (QlO h x)
def Qd1: ∀(l:Qj) p,(l.foldl frX p).2=false->l.foldl frX p=p/\∀x∈l,((X0 x || Uo p.1 x)=true->x∈p.1)/\(x∈p.1->∀y∈Tg p.1 x,y∈p.1)
 | [],p,_=>⟨rfl,fun y f=>by grind⟩
 | x:: l,p,h=>by
  simp only[UX]at h ⊢;obtain⟨e,i,d⟩:=Quf (by cases c: (frX p x).2;rfl;rw[DQ l _ c]at h;cases h);rw[e]at h ⊢;obtain⟨b,g⟩:=Qd1 l p h;refine⟨b,fun z a=> ?_⟩;rcases Zl.1 a with rfl | a;grind;grind
def QdZ {u} (a:UK u): ∀f s,PsI u s->PsI u (frC u f s)
 | 0,s,h=>h
 | f+1,s,h=>by
  have b:=Kx a u (p:=(s,false)) h fun y c=>c;simp only[frC];split;exact QdZ a f _ b;omega
def Aw: ∀(l:Qj) p,∀x∈p.1,x∈(l.foldl W0 p).1
 | [],p,x,h=>h
 | y:: l,p,x,h=>by
  simp only[UX];apply Aw l;unfold W0;split;exact h;exact Wa.2 (.inr h)
def Que (p x): ∀y∈p.1,y∈(frX p x).1:=by
 intro y a;unfold frX frO;apply Aw;unfold frA;split;exact Wa.2 (.inr a);omega
def EX: ∀(l:Qj) p,∀y∈p.1,y∈(l.foldl frX p).1
 | [],p,y,h=>h
 | x:: l,p,y,h=>EX l _ y (Que p x y h)
def QiR {u}: ∀f s,∀y∈s,y∈frC u f s
 | 0,s,y,h=>h
 | f+1,s,y,h=>by
  simp only[frC];split;exact QiR f _ y (EX u (s,false) y h);exact EX u (s,false) y h
def Fy {u} (g:UK u) (j:Asc u): ∀f s,u.length < f+s.length->PsI u s->ClS u (frC u f s)
 | 0,s,l,b=>by have:=XS u s b.asc j b.sub;omega
 | f+1,s,l,b=>by
  have o:=HZ u (s,false);simp only[frC];split;rename_i k;apply Fy g j f _ _ (Kx g u (p:=(s,false)) b fun y m=>m);grind;rename_i k;obtain⟨e,h⟩:=Qd1 u (s,false) (by grind);rw[e];intro x n c;rcases c with c | c | c;grind;grind;obtain⟨t,i,d⟩:=UQ.1 c;have a:=b.sub t i;exact(h t a).2 i x ((KS (g.gd t a)).1 d)
def Qqj (t):meE [] [(t,1)]≠0:=by
 unfold meE;simp only[Xc,YM];rw[Qe (by decide),Qe (by decide)];split;omega;have e:Xz ([]++ [[(t,1)]])=[t]:=by simp[Xz,Vq,QV,Qq,Yo,QT]
 rw[e];simp[Yn,VY,elE,coE,scE,meF,rdE,pwT,(Xd t)]
def JB:=@List.filter_eq_nil_iff
def Qjx {u s} (i:u.any Sl=false) (e:PsI u s) {t} (m:t∈u) (y:Zf t=true) (z:t ∉ s) (d:X0 t=false):SS s t=false:=by
 have a: ∀x∈u,isB x XOR=false:=fun x b=>by have h:=Mi.1 i x b;simp only[Sl,Wo]at h;grind
 have c:QI t=[t]:=by have w:=a t m;obtain⟨k,n,g,f⟩:=t;simp only[QI];rw[Qe,Qe];rintro⟨rfl,rfl⟩;exact absurd (Sf.2 (show(Tm.mk 3 XOR g f).kind=3/\(Tm.mk 3 XOR g f).name=XOR from⟨rfl,rfl⟩)) (by grind);rintro⟨rfl,rfl,rfl⟩;revert d;simp[X0]
 have q:s.filter (fun t=>isB t XOR)=[]:=JB.2 fun x b=>by rw[a x (e.sub x b)];simp
 have p:NB s t=[]:=by unfold NB Yx;rw[q,c];refine JB.2 fun x b=> ?_;simp only[XQ,(a x (e.sub x b)),YJ,Qy,T3];intro h;have:=Zz.1 h;grind
 cases j:SS s t;rfl;exfalso;unfold SS at j;have h:IX (NB s t) t:=by grind
 rw[p]at h;unfold IX at h;rw[c]at h;simp only[Vn]at h;have l: ∀v:Tm->Bool,Sp [] v->v=zv0:=by intro v o;induction o with | zero=>rfl | add r _ _=>grind
 have:=congrFun (l _ h) t;rw[(Zz.2 (by simp))]at this;simp[zv0]at this
def Qju {u s} (a:u.any Sl=false) (c:PsI u s) (m:Q9):WC s s=[]:=by
 have:s.filter XJ=[]:=JB.2 fun x b=>by have h:=Mi.1 a x (c.sub x b);simp only[Sl,Wo]at h;grind
 simp[WC,this]
def Qjv {u s} (f:u.any Sl=false) (p:PsI u s) {t} (m:t∈u) (l:t ∉ s) (e:X0 t=false):H9 s t=false:=by
 unfold H9;by_cases c:ofE t=0;have h:=Mi.1 f t m;simp only[Sl,Wo]at h;have j:Xm t=false:=by cases g:Xm t;rfl;obtain⟨d,b | b | b⟩:=Gq g;exact absurd (.inl (.inl (by simp[XJ,isB,d,b]))) h;exact absurd (.inl (.inl (by simp[XJ,isB,d,b]))) h;(have a:arB t=true:=by unfold ofE at c;grind);rw[AD,g]at a;simp only[Ml,T3,Qu]at a;have q:=a.1;(have o:t.kids.length=0:=by simp only[Vt,b,ONE,MUL,INV]at q;grind);revert e;simp[X0,d,b,o]
 have i:ofP t=[(t,1)]:=by unfold ofP;rw[Qg c,Ug,Qe (by grind)];rfl
 have n:Xn s [(t,1)]=[(t,1)]:=by(have:Qx s t=false:=by cases k:Qx s t;rfl;exact absurd (Zz.1 k) l);simp[Xn,this]
 rw[i];unfold SL;rw[Qju f p [],n];rw[Y0 (Qqj t),PF];grind
def Qjw {u s} (c:u.any Sl=false) (f:PsI u s) {t} (d:t∈u) (e:t ∉ s):Gi s t=false:=by
 have b: ∀x∈u,We x=x:=fun x a=>by have h:=Mi.1 c x a;simp only[Sl,Wo]at h;(have:isB x EXP=false:=by grind);simp[We,PP,this]
 unfold Gi;rw[Mi];intro x a h;simp only[Qu,Rf,QM]at h;rw[b t d,b x (f.sub x a)]at h;exact e ((YP _ _ h.1.1)▸a)
def Qgi {u s} (i:UK u) (d:u.any Sl=false) (e:PsI u s) {t} (b:t∈u) (c:t ∉ s) (h:XD s t=true):X0 t=true\/Uo s t=true\/OA s t=true:=by
 by_cases a:X0 t=true;grind;have a:X0 t=false:=by grind
 have g:Qx s t=false:=by cases f:Qx s t;rfl;exact absurd (Zz.1 f) c
 unfold XD at h;rw[g,a,Qjx d e b (i.gd t b) c a,Qjw d e b c,Qjv d e b c a]at h;grind
def Qjt {u c} (g:UK u) (k:u.any Sl=false) (l:ClS u c) (a: ∀x∈c,x∈u): ∀b x,(∀t∈b,t∈u)->PsI u x.1->(∀y∈x.1,y∈c)->∀y∈(Wh XD x b).1,y∈c
 | [],x,_,_,h=>h
 | t:: b,x,m,n,h=>by
  simp only[Wh];have j:=m t (by simp);apply Qjt g k l a b _ (fun y i=>m y (by grind));split;exact Re n j;omega;split;rename_i f;simp only[Qu,Sv]at f;intro y i;rcases Wa.1 i with rfl | i;apply l y j;rcases Qgi g k n j (fun e=>by rw[Zz.2 e]at f;grind) f.2 with d | d | d;grind;exact .inr (.inl (Dz h d));exact .inr (.inr (Qjk (fun z o=>g.gd z (a z o)) h d));grind;exact h
def Qip {u c} (e:UK u) (d:u.any Sl=false) (i:ClS u c) (a: ∀x∈c,x∈u): ∀f s,PsI u s->(∀y∈s,y∈c)->∀y∈W4 XD u f s,y∈c
 | 0,s,_,h=>h
 | f+1,s,g,h=>by
  have j:=Qjt e d i a u (s,false) (fun t b=>b) g h;simp only[W4];split;exact Qip e d i a f _ (OD XD u (s,false) (fun t b=>b) g) j;omega
def Qbg (p): ∀a x,x.2=true->(Wh p x a).2=true
 | [],x,h=>h
 | t:: a,x,h=>by
  simp only[Wh];apply Qbg;grind
def Qjs (p): ∀a x,(Wh p x a).2=false->Wh p x a=x/\∀t∈a,p x.1 t=true->t∈x.1
 | [],x,_=>⟨rfl,fun y f=>by grind⟩
 | t:: a,x,h=>by
  simp only[Wh]at h ⊢;by_cases c: (!Qx x.1 t && p x.1 t)=true;rw[Qg c]at h;rw[Qbg p a _ rfl]at h;cases h;rw[Qe c]at h ⊢;obtain⟨e,g⟩:=Qjs p a x h;refine⟨e,fun z d b=> ?_⟩;rcases Zl.1 d with rfl | d;rw[b,US]at c;have:Qx x.1 z=true:=by grind
  exact Zz.1 this;grind
def Qbf (p): ∀a x,∀y∈x.1,y∈(Wh p x a).1
 | [],x,y,h=>h
 | t:: a,x,y,h=>by
  simp only[Wh];apply Qbf;split;exact Wa.2 (.inr h);exact h
def Qio (p) {u}: ∀f s,∀y∈s,y∈W4 p u f s
 | 0,s,y,h=>h
 | f+1,s,y,h=>by
  simp only[W4];split;exact Qio p f _ y (Qbf p u (s,false) y h);exact Qbf p u (s,false) y h
def EV (p) {u}: ∀f s,PsI u s->PsI u (W4 p u f s)
 | 0,s,h=>h
 | f+1,s,h=>by
  have a:=OD p u (s,false) (fun t b=>b) h;simp only[W4];split;exact EV p f _ a;omega
def QdC (p) {u} (b:Asc u): ∀f s,u.length < f+s.length->PsI u s->∀t∈u,p (W4 p u f s) t=true->t∈W4 p u f s
 | 0,s,c,a=>by have:=XS u s a.asc b a.sub;omega
 | f+1,s,c,a=>by
  have i:=Hi p u (s,false);simp only[W4];split;rename_i d;apply QdC p b f _ _ (OD p u (s,false) (fun t g=>g) a);grind;rename_i d;obtain⟨e,h⟩:=Qjs p u (s,false) (by grind);rwa[e]
def QmT {c x} (h:X0 x=true\/Uo c x=true\/OA c x=true):XD c x=true:=by
 unfold XD;grind
def QfA {u} (d:Asc u) {f s} (c:u.length < f+s.length) (a:PsI u s):ClS u (W4 XD u f s):=by
 intro x b h;exact QdC XD d f s c a x b (QmT h)
def QiT {u} (b:UK u) (c:Asc u) (e:u.any Sl=false) {s} (a:PsI u s):u.filter (Qx (frC u (u.length+1) s))=W4 XD u (u.length+1) s:=by
 have d:=EV XD (u:=u) (u.length+1) s a;apply NW (TH _ c) d.asc;intro x;rw[VP,Zz];constructor;rintro⟨_,h⟩;exact QiS b (QfA c (f:=u.length+1) (s:=s) (by omega) a) d.sub _ s (Qio XD (u:=u) (u.length+1) s) x h;intro h;exact⟨d.sub x h,Qip b e (Fy b c (u.length+1) s (by omega) a) (QdZ b (u.length+1) s a).sub _ s a (QiR (u:=u) (u.length+1) s) x h⟩
def Qok {u} (j:UC u) (d:UK u) (e:Asc u) {s} (c:PsI u s) (o g B):
  ClR (W4 XD u (u.length+1) s) B (call tb 299 [.sl o 4 (Qa s),.sl g 4 (Qa u)] B):=by
 cases b:u.any Sl;obtain⟨k,a⟩:=Qom d e c false false B;rw[QiT d e b c]at a;rw[zcc 299 rfl rfl];simp[f299C];apply(fun l=>Qem u (by have:=d.len;omega) B (QA f299 B) (ClR (W4 XD u (u.length+1) s) B) u [] false true (.sl false 4 (Qa s)) l rfl);simp;simp;simp;simp;intro i h m f;rw[b]at f;refine⟨k,?_⟩;simp[f299r1,h,m,f,a];exact Qlc j e c b o g B
def Qtv {u} (c:UC u) (b:Asc u) {s} (d:PsI u s) (f):W4 TX u f s=W4 XD u f s:=
 Qin (fun e a t _=>Qra c b a.asc a.sub t) f s d
def E7 {t i} (h:i < t.kids.length):kid t i∈t.kids:=by
 unfold kid;rw[ZT,Za h];exact V3 _
def Hf {t x} (h:x∈t.kids):x∈Zs t:=by
 rw[Ew];exact Rw _ (IY h x (Ud x))
def QqA {t} (i:Zf t=true) (h:VX t=0):WV t∈Zs t:=by
 have k:=h;unfold WV;rw[Qe (by simpa using h)];by_cases c:isB t ENC=true;rw[Qg c];obtain⟨a,b,g⟩:=Yq i c (by simp[Vx]);exact Hf (E7 (by rw[g];simp));rw[Qe c];have l:isB t Zv=true:=by rcases(Qa7 h)with h | h;exact absurd h c;exact h
 obtain⟨a,b,g⟩:=Yq i l (by simp[Vx]);have o:kid t 1∈t.kids:=E7 (by rw[g];simp);have m:=Hf o;have f:isB (kid t 1) PK=true:=by by_cases f:isB (kid t 1) PK=true;exact f;exfalso;(have r:isB t ENC=false:=by simpa using c);(have j:isB (kid t 1) PK=false:=by simpa using f);simp only[VX,r,l,j,Xa,ZM,QU]at k;by_cases d:thV t=0 <;> simp[d]at k
 obtain⟨p,q⟩:=Sf.1 f;have e:=(U2 (Is t _ i m) p).2;have n: (kid t 1).kids.length=1:=by rw[q]at e;simpa[Y2,PK,Zx,ENC,Zv,Zw,EXP,DEC,YI,Y1]using e
 exact LS t _ _ m (Hf (E7 (by omega)))
def Qny {l} (i: ∀x∈l,RT x) (e: (Yt l).length < 4000):UK (Yt l):=by
 have a: ∀x∈Yt l,RT x:=fun x a=>by obtain⟨t,c,a⟩:=Ox.1 a;exact Dg (i t c) a
 have b: ∀x∈Yt l,∀y∈Zs x,y∈Yt l:=fun x a y d=>by obtain⟨t,c,a⟩:=Ox.1 a;exact Ox.2 ⟨t,c,LS t x y a d⟩
 exact⟨e,fun x h=>(Xu (a x h).v).1,fun x h=>by have:=(Xu (a x h).v).2.2;omega,fun x h=>(a x h).g,fun x h y d=>b x h y (Hf d),fun x h f=>b x h _ (QqA (a x h).g f)⟩
def Qej {l k} (h: ∀x∈k,x∈l):PsI (Yt l) (Qq k):=⟨XY k,fun x a=>Ox.2 ⟨x,h x (Z7.1 a),Ud x⟩⟩
structure UOk (k m:List Tm):Prop where
 uc:UC (Yt (k ++ m))
 uk:UK (Yt (k ++ m))
 asc:Asc (Yt (k ++ m))
 ps:PsI (Yt (k ++ m)) (Qq k)
 rt: ∀x∈k ++ m,RT x
def Of {k m} (h:KI (k ++ m)) (a:Z4 k m=0):UOk k m:=by
 unfold Z4 at a;split at a;cases a;split at a;rename_i c;exact absurd a c;rename_i c;have b: ∀x∈k ++ m,RT x:=fun x d=>Ea (OJ (by simpa using c) x d);exact⟨Qnx b a,Qny b (QeJ h b),HF _,Qej fun x d=>Zp.2 (.inl d),b⟩
noncomputable def kcl (u s:Qj):Qj:=W4 XD u (u.length+1) s
noncomputable def Lq (k:Qj) (t:Tm):Bool:=Qx (kcl (Yt (k ++ [t])) (Qq k)) t
def Pd {u s} (h:PsI u s):PsI u (kcl u s):=EV XD _ s h
def Si {u s} (b:UC u) (a:Asc u) (h:PsI u s):s.length<=200:=by
 have:=XS u s h.asc a h.sub;have:=b.len;omega
def Vw {u s} (a:UK u) (h:PsI u s): ∀x∈s,x.mass < 1000000:=fun x b=>a.ms x (h.sub x b)
def X8 {s:Qj} (h: ∀x∈s,x.mass < 1000000): ∀x∈s,x.mass < big:=fun x a=>by have:=h x a;unfold big;omega
def Qag {u} (b:UC u) (c:Asc u) {s} (d:PsI u s) (o a B):ClR (kcl u s) B (call tb 529 [.sl o 4 (Qa s),.sl a 4 (Qa u)] B):=by
 have:=QoK b c d o a B;rwa[Qtv b c d]at this
def Qah {u} (b:UC u) (d:UK u) (c:Asc u) {s} (e:PsI u s) (o a B):ClR (kcl u s) B (call tb 299 [.sl o 4 (Qa s),.sl a 4 (Qa u)] B):=Qok b d c e o a B
def E6 {k m} (h:KI (k ++ m)):k.length < 1000/\(∀x∈k,x.mass < 1000000):=⟨by have:=h.len;simp only[Q6]at this;omega,fun x a=>h.ms x (Zp.2 (.inl a))⟩
noncomputable def dvA (k:Qj) (t:Tm):AV:= .tup [.bool (decide (Z4 k [t]=0) && Lq k t),.int .i64 (Z4 k [t])]
def I5 (k t) (h:KI (k ++ [t])) (o B):call tb 517 [.sl o 4 (Qa k),.agg (Qd t)] B=some (dvA k t,B):=by
 obtain⟨n,a⟩:=Om k [t] h false false B;obtain⟨m,g⟩:=E6 h;have l:=h.ms t (by simp);have j:Qa [t]=[Qd t]:=by simp[Qa]
 rw[j]at a;rw[zcc 517 rfl rfl];unfold dvA;by_cases c:Z4 k [t]=0;have e:=Of h c;rw[c,Qg rfl]at a;obtain⟨p,f⟩:=Qag e.uc e.asc e.ps false false B;have i:=Pd e.ps;have b:=fun o=>Tq (kcl (Yt (k ++ [t])) (Qq k)) t o B (by have:=Si e.uc e.asc i;omega) (X8 (Vw e.uk i)) (by unfold big;omega) i.asc;change ∀o,_=some (AV.bool (Lq k t),B)at b;generalize Yt (k ++ [t])=u at *;generalize kcl u (Qq k)=C at *;generalize Lq k t=d at *;simp[f517C,a,(fun o=>NX k o B (by omega) (X8 g)),f,b,c,Qc];rw[Qe c]at a;simp[f517C,a,c,Qc]
def I2 (k t) (h:KI (k ++ [t])) (o B):call tb 292 [.sl o 4 (Qa k),.agg (Qd t)] B=some (dvA k t,B):=by
 obtain⟨n,a⟩:=EH k t h false B;obtain⟨j,g⟩:=E6 h;have l:=h.ms t (by simp);rw[zcc 292 rfl rfl];unfold dvA;by_cases c:Z4 k [t]=0;have b:=Of h c;rw[c,Qg rfl]at a;obtain⟨m,f⟩:=Qah b.uc b.uk b.asc b.ps false false B;have i:=Pd b.ps;have e:=fun o=>Sb (kcl (Yt (k ++ [t])) (Qq k)) t o B (by have:=Si b.uc b.asc i;omega) (X8 (Vw b.uk i)) (by unfold big;omega);change ∀o,_=some (AV.bool (Lq k t),B)at e;generalize Yt (k ++ [t])=u at *;generalize kcl u (Qq k)=C at *;generalize Lq k t=d at *;simp[f292C,a,(fun o=>RK k o B (by omega) (X8 g)),f,e,c,Qc];rw[Qe c]at a;simp[f292C,a,c,Qc]
noncomputable def JZ (k:Qj):Qj:=if Z4 k []=0 then kcl (Yt (k ++ [])) (Qq k)else []
def LsR (l:Qj) (e:Int) (B:Qr) (r:Out):Prop:=∃o,r=some (.tup [.sl o 4 (Qa l),.int .i64 e],B)
def Qpc (k) (h:KI (k ++ [])) (o B):LsR (JZ k) (Z4 k []) B (call tb 622 [.sl o 4 (Qa k)] B):=by
 obtain⟨i,a⟩:=Om k [] h false true B;obtain⟨f,e⟩:=E6 h;rw[WJ]at a;refine⟨false,?_⟩;rw[zcc 622 rfl rfl];unfold JZ;by_cases c:Z4 k []=0;have d:=Of h c;rw[c,Qg rfl]at a;obtain⟨g,b⟩:=Qag d.uc d.asc d.ps false false B;generalize Yt (k ++ [])=u at *;generalize kcl u (Qq k)=C at *;simp[f622C,a,(fun o=>NX k o B (by omega) (X8 e)),b,c];rw[Qe c]at a;simp[f622C,a,c,Qa]
def Qpd (k) (h:KI (k ++ [])) (o B):LsR (JZ k) (Z4 k []) B (call tb 623 [.sl o 4 (Qa k)] B):=by
 obtain⟨i,a⟩:=LV k [] h false true B;obtain⟨f,e⟩:=E6 h;rw[WJ]at a;refine⟨false,?_⟩;rw[zcc 623 rfl rfl];unfold JZ;by_cases c:Z4 k []=0;have d:=Of h c;rw[c,Qg rfl]at a;obtain⟨g,b⟩:=Qah d.uc d.uk d.asc d.ps false false B;generalize Yt (k ++ [])=u at *;generalize kcl u (Qq k)=C at *;simp[f623C,a,(fun o=>RK k o B (by omega) (X8 e)),b,c];rw[Qe c]at a;simp[f623C,a,c,Qa]
def MQ: ∀a b,Y7 (a ++ b)=if Y7 a≠0 then Y7 a else Y7 b
 | [],b=>by simp[Y7]
 | x:: a,b=>by
  simp only[Xb,Y7];by_cases c:Xl x=0;simp[c,MQ a b];simp[c]
def II (k u:Qj):Bool:=(Qq (Q3 (k ++ u))).any fun x=> !Qx (Qq u) x
noncomputable def knE (k u:Qj):Int:=if 60 < k.length\/200 < u.length then 3 else if Y7 (k ++ u)≠0 then Y7 (k ++ u)else if II k u then 4 else szT (Qq u)
noncomputable def knT (k u:Qj):Qj:=if knE k u=0 then kcl (Qq u) (Qq k)else []
structure KN (k u:List Tm):Prop where
 lk:k.length < 100000
 lu:u.length < 100000
 ms: ∀x∈k ++ u,x.mass < 1000000
def Qja {k u} (h:II k u=false):Qq u=Yt (k ++ u):=by
 apply NW (XY _) (HF _);intro x;constructor;intro a;exact Ox.2 ⟨x,Zp.2 (.inr (Z7.1 a)),Ud x⟩;intro a;have:=Mi.1 h x a;simp only[Sv,Al]at this;exact Zz.1 this
def Qqk (k u):II k u=decide ((Qq (Q3 (k ++ u))).length≠(Qq u).length):=by
 cases h:II k u;have e:=Qja h;symm;apply Y0;rw[show Qq (Q3 (k ++ u))=Yt (k ++ u)from rfl,<- e];simp;symm;apply Xy;intro e;obtain⟨x,f,c⟩:=UQ.1 h;have b:=XS ((Qq (Q3 (k ++ u))).filter (Qx (Qq u))) (Qq u) (XY _) (TH _ (XY (Q3 (k ++ u)))) fun y a=>VP.2 ⟨(fun y a=>Z7.2 (Ol.2 ⟨y,Zp.2 (.inr (Z7.1 a)),Ud y⟩)) y a,Zz.2 a⟩;have d:=List.length_filter_lt_length_iff_exists.2 ⟨x,f,by simpa using c⟩;omega
def Qo7 (s x g o a) (b:a[g]? =some [.sl o 4 (Qa s)]) (e:s.length < 100000000) (c: ∀p∈s,p.mass < big) (h:x.mass < big) (f:Asc s):
  call tb 610 [.agg (Qd x),.gp g 0] a=some (.bool (!Qx s x),a):=by
 have d:=QJ b;rw[zcc 610 rfl rfl];simp[-getElem?_pos,Ql,f610C,(fun o=>Tq s x o a e c h f),b,Qc]
def Qf3 {k u} (h:Y7 (k ++ u)=0) (e:II k u=false) (d:szT (Qq u)=0) (c: (Qq u).length < 4000):UC (Qq u)/\UK (Qq u)/\Asc (Qq u)/\PsI (Qq u) (Qq k):=by
 have b: ∀x∈k ++ u,RT x:=fun x a=>Ea (OJ h x a);rw[(Qja e)]at d c ⊢;exact⟨Qnx b d,Qny b c,HF _,Qej fun x a=>Zp.2 (.inl a)⟩
def Qi8 {k u} (h:Y7 (k ++ u)=0): (∀t∈Qq u,t.mass < 1000000)/\(∀t∈Qq u,isB t EXP=true->t.kids.length=2)/\Qp (k ++ u)<=400* (k ++ u).length/\Qw (k ++ u)<=(k ++ u).length*13200:=by
 have e: ∀x∈k ++ u,RT x:=fun x c=>Ea (OJ h x c);have d: ∀x∈Qq u,RT x:=fun x c=>e x (Zp.2 (.inr (Z7.1 c)));refine⟨fun t f=>by have:=(Xu (d t f).v).2.2;omega,fun t f j=> ?_,P6 fun x c=>(e x c).v,KJ fun x c=>(Xu (e x c).v).2.2⟩;obtain⟨a,b,i⟩:=Yq (d t f).g j (by simp[Vx]);rw[i];rfl
def Qdv (k u) (h:KN k u) (o w) (B):LsR (knT k u) (knE k u) B (call tb 609 [.sl o 4 (Qa k),.sl w 4 (Qa u)] B):=by
 obtain⟨J,O,r⟩:=h;have b:=fun o B=>Rq [k,u] o B (by simp) (by simp;omega);simp only[S3,ZO,Vn,Su,GV,Qy]at b;have c:=fun o=>Qdg (k ++ u) o B (by simp;omega) r;have d:=fun o=>NX u o B (by omega) (X8 (fun x i=>r x (Zp.2 (.inr i))));have E: (60 < k.length)↔(60:Int) < (k.length:Int):=by omega
 have I: (200 < u.length)↔(200:Int) < (u.length:Int):=by omega
 unfold knT;rw[zcc 609 rfl rfl];unfold knE;simp only[E,I];by_cases l: (60:Int) < (k.length:Int);refine⟨false,?_⟩;simp[f609C,l,Qa];by_cases n: (200:Int) < (u.length:Int);refine⟨false,?_⟩;simp[f609C,l,n,Qa];by_cases j:Y7 (k ++ u)=0;obtain⟨v,y,L,P⟩:=Qi8 j;have N: (k ++ u).length<=260:=by simp;omega
 have H: (Qq u).length<=200:=by have:=WF u;omega
 have e:=fun o B=>Qdf (k ++ u) o B (by omega) r (by omega);have t:=WF (Q3 (k ++ u));rw[RG]at t;have a:=fun o=>AM (Qq (Q3 (k ++ u))) 610 [.gp B.length 0] (fun x=> !Qx (Qq u) x) o (B ++ [[AV.sl true 4 (Qa (Qq u))]]) (by omega) (by simp) (fun x (i:x∈Qq (Q3 (k ++ u)))=>Qo7 (Qq u) x B.length true (B ++ [[AV.sl true 4 (Qa (Qq u))]]) (Yc) (by omega) (X8 v) (by have i:=Z7.1 i;have:=Fb i;unfold big;omega) (XY _));change ∀o,_=some (AV.bool (II k u),_)at a;have f:=fun o=>Qdh (Qq u) (by omega) v y o (B ++ [[AV.sl true 4 (Qa (Qq u))]]);have g:=fun o=>NX k o (B ++ [[AV.sl true 4 (Qa (Qq u))]]) (by omega) (X8 (fun x i=>r x (Zp.2 (.inl i))));rw[j]at c;cases s:II k u;by_cases q:szT (Qq u)=0;obtain⟨z,K,G,D⟩:=Qf3 j s q (by omega);obtain⟨M,p⟩:=Qag z G D false false (B ++ [[AV.sl true 4 (Qa (Qq u))]]);rw[s]at a;rw[q]at f;refine⟨false,?_⟩;generalize Qq (Q3 (k ++ u))=A at *;generalize m:Qq u=U at *;generalize kcl U (Qq k)=C at *;simp[f609C,l,n,j,q,b,c,d,e,a,f,g,p];rw[s]at a;refine⟨false,?_⟩;generalize Qq (Q3 (k ++ u))=A at *;generalize m:Qq u=U at *;simp[f609C,l,n,j,q,b,c,d,e,a,f,g,Qa];rw[s]at a;refine⟨false,?_⟩;generalize Qq (Q3 (k ++ u))=A at *;generalize m:Qq u=U at *;simp[f609C,l,n,j,b,c,d,e,a,Qa];refine⟨false,?_⟩;simp[f609C,l,n,j,b,c,Qa]
def Qdw (k u) (h:KN k u) (o o1) (B):LsR (knT k u) (knE k u) B (call tb 611 [.sl o 4 (Qa k),.sl o1 4 (Qa u)] B):=by
 obtain⟨h1,h2,R⟩:=h;have z: ∀x∈k,x.mass < 1000000:=fun x L=>R x (Zp.2 (.inl L));have E: ∀x∈u,x.mass < 1000000:=fun x L=>R x (Zp.2 (.inr L));have a:=fun o=>EL k o B (by omega) z;have b:=fun o=>EL u o B (by omega) E;have d:=fun o=>RK u o B (by omega) (X8 E);have g:=fun o=>RK k o B (by omega) (X8 z);have i1: (60 < k.length)↔(60:Int) < (k.length:Int):=by omega
 have i2: (200 < u.length)↔(200:Int) < (u.length:Int):=by omega
 have N:=QQ k u;have s:=QX k;have n:=QX u;have t:k.length*56<=140737488355328:=by omega
 have p: (k.length+u.length)*56<=140737488355328:=by omega
 unfold knT;rw[zcc 611 rfl rfl];unfold knE;simp only[i1,i2];by_cases v: (60:Int) < (k.length:Int);refine⟨false,?_⟩;simp[f611C,v,Qa];by_cases w: (200:Int) < (u.length:Int);refine⟨false,?_⟩;simp[f611C,v,w,Qa];by_cases j:Y7 (k ++ u)=0;obtain⟨S,X,g3,g4⟩:=Qi8 j;have P:Y7 k=0:=by rw[MQ]at j;by_cases c:Y7 k=0;exact c;rwa[Qg c]at j
 have W:Y7 u=0:=by rwa[MQ,Qe (by simpa using P)]at j
 have hl: (k ++ u).length<=260:=by simp;omega
 have Y: (Qq u).length<=200:=by have:=WF u;omega
 have f:=fun o=>K6 (k ++ u) o B (by omega) (by omega);have i:=fun o=>Qc6 (Qq u) (by omega) S X o B;have q: (Qa (Qq (Q3 (k ++ u)))).length=(Qq (Q3 (k ++ u))).length:=QX _;have r: (Qa (Qq u)).length=(Qq u).length:=QX _;have l:=Qqk k u;rw[P]at a;rw[W]at b;cases M:II k u;rw[M]at l;have m: (Qq (Q3 (k ++ u))).length=(Qq u).length:=by exact Classical.not_not.1 (of_decide_eq_false l.symm)
 by_cases K:szT (Qq u)=0;obtain⟨T,V,u3,Z⟩:=Qf3 j M K (by omega);obtain⟨o3,y⟩:=Qah T V u3 Z false false B;rw[K]at i;refine⟨false,?_⟩;generalize I:Qq u=U at *;generalize G:Qq (Q3 (k ++ u))=A at *;generalize J:Qa U=O at *;generalize H:Qa A=Q at *;generalize kcl U (Qq k)=C at *;simp[f611C,v,w,j,K,N,s,n,t,p,a,b,d,g,f,i,y,q,r,m];refine⟨false,?_⟩;generalize I:Qq u=U at *;generalize G:Qq (Q3 (k ++ u))=A at *;generalize J:Qa U=O at *;generalize H:Qa A=Q at *;simp[f611C,v,w,j,K,N,s,n,t,p,a,b,d,g,f,i,q,r,m,Qa];rw[M]at l;have m: ¬(Qq (Q3 (k ++ u))).length=(Qq u).length:=by have:=of_decide_eq_true l.symm;exact this
 have D: ¬((Qq (Q3 (k ++ u))).length:Int)=((Qq u).length:Int):=by omega
 refine⟨false,?_⟩;generalize I:Qq u=U at *;generalize G:Qq (Q3 (k ++ u))=A at *;generalize J:Qa U=O at *;generalize H:Qa A=Q at *;simp[f611C,v,w,j,N,s,n,t,p,a,b,d,f,q,r,D,Qa];refine⟨false,?_⟩;by_cases c:Y7 k=0;have e:Y7 (k ++ u)=Y7 u:=by rw[MQ,Qe (fun h=>h c)]
 rw[e]at j ⊢;rw[c]at a;simp[f611C,v,w,j,a,b,Qa];have e:Y7 (k ++ u)=Y7 k:=by rw[MQ,Qg c]
 rw[e];simp[f611C,v,w,c,a,Qa]
end Go.Am
