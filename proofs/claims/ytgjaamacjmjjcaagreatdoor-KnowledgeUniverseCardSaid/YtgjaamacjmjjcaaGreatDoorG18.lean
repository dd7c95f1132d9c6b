/-
  En1, En2, En3, En4, En5, En6, En7, En8, En9, En10, En11, En12, En13, En14, En15, En16, En17, En18, En19, En20, En21, En22, En23, En24, En25, En26, En30, En31, En32, En33, En34, En35, En36, En37, En38, En39, En40, En41, En42, En43, En44, En45, En46, En47, En48, Kn1, Kn2.
-/
import Derived.Test.YtgjaamacjmjjcaaGreatDoorG15
set_option linter.all false
open Go.Am.F
namespace Go.Am
set_option maxRecDepth 20000
def EqF (f:Nat):Prop:=∀(x y:Tm) (bs:Qr),x.mass < big->y.mass < big->call tb f [.agg (Qd x),.agg (Qd y)] bs=some (.bool (decide (Qo x y=0)),bs)
def L9 (L:Qj) (B:Qr) (id:Nat) (r:Option (AV×Qr)):Prop:=r=some (.sl true 4 (Qa L),B.set id [])
def QkE (B m n D c) (v:m < B.length) (H:c.length=n*4) (w:D.length<=n) (J:n < 100000000) (I:c.take (D.length*4)=Qk D) (g:D≠[])
  (o) (s:o 0= .gs m 0 4 n) (x:o 5= .int .i64 D.length):
  R tb f497r0 o (B.set m c) (Qh 1 (Qs tb f497r1 (Qs tb (.loop f497l1) (Qh 0 (Qs tb f497r2 (QA f497 B))))))=
   some (.sl true 4 (Qa D),B.set m []):=by
 have u: (0:Int)<=(D.length:Int):=by omega
 have A: (D.length:Int)<=(n:Int):=by omega
 have j: ¬D.length=0:=fun e=>g (Yf e);have z:=ZL D;have i: ∀t,ZR (Qk D ++ t) 0 4 D.length=Qa D:=fun t=>by have:=X3 (f:=Qd) (k:=4) QE Zc D t;rwa[TW]at this
 have l: (Qk D).length=D.length*4:=ZZ QE D;have d:c.take (D.length*4)++ (List.replicate ((n - D.length)*4) AV.undef ++ c.drop (D.length*4+ (n - D.length)*4))=Qk D ++ List.replicate ((n - D.length)*4) .undef:=by rw[I,PN (by omega)];simp
 have p:D.length*4+ (n - D.length)*4<=n*4:=by omega
 by_cases y:n - D.length=0;have C:D.length=n:=by omega
 have q:c=Qk D:=by grind
 have a:=i [];rw[Qy]at a;rw[<- q]at a l;have r:D.length*4<=c.length:=by omega
 generalize Qa D=E at *;simp[f497r0,s,x,u,A,w,y,j,ZY,v,r,a,z,Z2];have b:=i (List.replicate ((n - D.length)*4) .undef);have h:D.length*4<=(Qk D ++ List.replicate ((n - D.length)*4) AV.undef).length:=by grind
 rw[<- d]at b h;generalize Qa D=E at *;generalize G:c.take (D.length*4)++ (List.replicate ((n - D.length)*4) AV.undef ++ c.drop (D.length*4+ (n - D.length)*4))=X at *;simp[f497r0,s,x,u,A,w,y,v,H,p,G,j,ZY,h,b,z,Z2]
def QkC (f) (hf:EqF f) (B w n m) (Z:w < B.length) (hn:n < 100000000): ∀g D i d j r,D≠[]->D.length+i.length+1+g.length=n->m+j=D.length+i.length+1->0 < j->
   (∀x∈d:: g,x.mass < big)->r 0= .gs w 0 4 n->r 1= .fn f []->r 5= .int .i64 D.length->r 6= .gs w (m*4) 4 (n - m)->r 7= .int .i64 j->
  L9 (D ++ Z0 d g) B w (R tb (.loop f497l0) r (B.set w (Qk (D ++ i ++ d:: g)))
   (Qh 2 (Qs tb f497r0 (Qh 1 (Qs tb f497r1 (Qs tb (.loop f497l1) (Qh 0 (Qs tb f497r2 (QA f497 B))))))))):=by
 intro g;induction g with | nil=>intro D i d j r p P hk U L H u Q v S;(have o: (Qk (D ++ i ++ [d])).length=n*4:=by rw[ZZ QE];grind);(have ht: (Qk (D ++ i ++ [d])).take (D.length*4)=Qk D:=by have:=SQ (f:=Qd) (k:=4) QE (l:=D ++ i ++ [d]) (pre:=D) (post:=i ++ [d]) (by simp) [];grind);have hr:=fun r a b=>QkE B w n D (Qk (D ++ i ++ [d])) Z o (by omega) hn ht p r a b;(have hl':D.length+i.length+1=n:=by omega);(have Y: ¬((j:Int) < ((n - m:Nat):Int)):=by omega);(have hnl2: ¬(j < n - m):=by omega);rw[Qb f497l0.eq_1];simp only[Z0,Qy];unfold L9;simp[u,v,S,Y];simp_all | cons x g IH=>intro D i d j r p P hk U L H u Q v S;(have o: (Qk (D ++ i ++ d:: x:: g)).length=n*4:=by rw[ZZ QE];grind);have N: (Qk (D ++ i ++ d:: x:: g)).map AV.strip=Qk (D ++ i ++ d:: x:: g):=Z5 Zc _;(have r1: ((Qk (D ++ i ++ d:: x:: g)).drop (m*4+j*4)).take 4=Qd x:=by have:=Vo (f:=Qd) (k:=4) QE (l:=D ++ i ++ d:: x:: g) (pre:=D ++ i ++ [d]) (post:=g) (x:=x) (by simp) [];rw[<- Yg,hk];simpa[T5]using this);(have r2: ((Qk (D ++ i ++ d:: x:: g)).drop (m*4+ (j - 1)*4)).take 4=Qd d:=by have:=Vo (f:=Qd) (k:=4) QE (l:=D ++ i ++ d:: x:: g) (pre:=D ++ i) (post:=x:: g) (x:=d) (by simp) [];rw[<- Yg,show m+ (j - 1)=D.length+i.length by omega];simpa[T5]using this);(have A: (Qk (D ++ i ++ d:: x:: g)).take (D.length*4)++ (Qd x ++ (Qk (D ++ i ++ d:: x:: g)).drop (D.length*4+4))=Qk ((D ++ [x])++ (i ++ [d]).tail ++ x:: g):=by(obtain⟨y,X,t⟩: ∃y X,i ++ [d]=y:: X:=by cases i <;> simp);have:=OI (f:=Qd) (k:=4) QE (l:=D ++ i ++ d:: x:: g) (pre:=D) (post:=X ++ x:: g) (x:=y) x (by grind) [];rw[t];simpa using this);(have z:IntKind.i64.wrap ((j:Int) - 1)=((j - 1:Nat):Int):=by rw[QC (by omega) (by omega)];omega);(have E:IntKind.i64.wrap ((j:Int)+1)=((j+1:Nat):Int):=by rw[QC (by omega) (by omega)];omega);(have hw3:IntKind.i64.wrap ((D.length:Int)+1)=((D.length+1:Nat):Int):=by rw[QC (by omega) (by omega)];omega);(have O: (j:Int) < ((n - m:Nat):Int):=by simp at P;omega);(have hlt1:j < n - m:=by omega);(have s: ((j - 1:Nat):Int) < ((n - m:Nat):Int):=by omega);(have hlt2':j - 1 < n - m:=by omega);(have M: (D.length:Int) < (n:Int):=by omega);(have V:D.length < n:=by omega);(have K:m*4+j*4+4<=n*4:=by omega);(have G:m*4+ (j - 1)*4+4<=n*4:=by omega);(have W:D.length*4+4<=n*4:=by omega);(have I: (0:Int)<=((j - 1:Nat):Int):=by omega);have hc:=fun bs=>hf x d bs (L x (by simp)) (L d (by simp));(have q: ((j - 1:Nat):Int).toNat=j - 1:=by omega);have J:=IH D (i ++ [d]) x (j+1);have C:=IH (D ++ [x]) (i ++ [d]).tail x (j+1);(have htl: ((i ++ [d]).tail).length=i.length:=by simp);rw[show D ++ (i ++ [d])++ x:: g=D ++ i ++ d:: x:: g by simp]at J;rw[Qb f497l0.eq_1];generalize Qk (D ++ i ++ d:: x:: g)=c at *;generalize hkm:j - 1=km at *;generalize n - m=nk at *;by_cases T:Qo x d=0;(have e:Z0 d (x:: g)=Z0 x g:=by simp[Z0,T]);rw[e];simp[H,u,Q,v,S,O,s,I,z,E,K,G,Z,o,N,r1,r2,hc,T,q];refine J _ p (by simp at P ⊢;omega) (by simp;omega) (by omega) (fun y t=>L y (by simp at t ⊢;rcases t with h | h <;> simp[h])) ?_ ?_ ?_ ?_ ?_ <;> simp[H,u,Q,v];(have e:D ++ Z0 d (x:: g)=D ++ x:: Z0 x g:=by simp[Z0,T]);rw[e];simp only[ZU,Xb,Y4]at C;simp[H,u,Q,v,S,O,s,M,I,z,E,hw3,K,G,W,Z,o,N,r1,r2,hc,T,q,A];refine C _ (by simp) (by simp at P ⊢;omega) (by simp;omega) (by omega) (fun y t=>L y (by simp at t ⊢;rcases t with h | h <;> simp[h])) ?_ ?_ ?_ ?_ ?_ <;> simp[H,u,v]
def QkD (f) (N:EqF f) (B u n) (G:u < B.length) (S:n < 100000000): ∀d b a o,b.length+1+d.length=n->
   (∀x∈a:: d,x.mass < big)->o 0= .gs u 0 4 n->o 1= .fn f []->o 5= .int .i64 (b.length+1:Nat)->
  L9 (b ++ a:: Z0 a d) B u (R tb (.loop f497l1) o (B.set u (Qk (b ++ a:: d)))
   (Qh 0 (Qs tb f497r2 (QA f497 B)))):=by
 intro d;induction d with | nil=>intro b a o U D j m z;(have A:b.length+1=n:=by omega);(have V: ¬((b.length:Int)+1 < (n:Int)):=by omega);rw[Qb f497l1.eq_1];(have g: (Qk (b ++ [a])).length=n*4:=by rw[ZZ QE];grind);(have J: ¬n=0:=by omega);(have I:ZR (Qk (b ++ [a])) 0 4 n=Qa (b ++ [a]):=by have:=X3 (f:=Qd) (k:=4) QE Zc (b ++ [a]) [];rw[Qy,TW]at this;grind);have Q:=ZL (b ++ [a]);simp only[L9,Z0];generalize Qk (b ++ [a])=c at *;generalize Qa (b ++ [a])=e at *;simp[j,m,z,f497r2,A,ZY,J,G,g,I,Q,Z2] | cons x d P=>intro b a o U D j m z;(have A:b.length+1+ (d.length+1)=n:=by omega);(have g: (Qk (b ++ a:: x:: d)).length=n*4:=by rw[ZZ QE];grind);have p: (Qk (b ++ a:: x:: d)).map AV.strip=Qk (b ++ a:: x:: d):=Z5 Zc _;(have M: ((Qk (b ++ a:: x:: d)).drop ((b.length+1)*4)).take 4=Qd x:=by have:=Vo (f:=Qd) (k:=4) QE (l:=b ++ a:: x:: d) (pre:=b ++ [a]) (post:=d) (x:=x) (by simp) [];simp_all);(have O: ((Qk (b ++ a:: x:: d)).drop (b.length*4)).take 4=Qd a:=by have:=Vo (f:=Qd) (k:=4) QE (l:=b ++ a:: x:: d) (pre:=b) (post:=x:: d) (x:=a) (by simp) [];grind);have C:IntKind.i64.wrap (b.length:Int)=(b.length:Int):=QC (by omega) (by omega);have K:IntKind.i64.wrap ((b.length:Int)+1+1)=(b.length:Int)+1+1:=QC (by omega) (by omega);(have s: (b.length:Int)+1 < (n:Int):=by omega);(have i: (b.length:Int) < (n:Int):=by omega);(have q: (b.length+1)*4+4<=n*4:=by omega);(have E:b.length*4+4<=n*4:=by omega);(have t: (0:Int)<=(b.length:Int)+1:=by omega);(have r: (b.length:Int)+1<=(n:Int):=by omega);(have h: ((b.length:Int)+1).toNat=b.length+1:=by omega);have L:=fun T=>N x a T (D x (by simp)) (D a (by simp));have w:=P (b ++ [a]) x;have v:=QkC f N B u n (b.length+1) G S d (b ++ [a]) [] x 1;simp only[ZU,Xb,Y4]at w v;rw[Qb f497l1.eq_1];generalize Qk (b ++ a:: x:: d)=c at *;by_cases H:Qo x a=0;(have e:Z0 a (x:: d)=Z0 x d:=by simp[Z0,H]);rw[e];simp[j,m,z,s,i,t,r,C,q,E,G,g,p,M,O,L,H,h];refine v _ (by simp) (by grind) (by simp) (by omega) (fun y W=>D y (by grind)) ?_ ?_ ?_ ?_ ?_ <;> simp[j,m,z];(have e:b ++ a:: Z0 a (x:: d)=b ++ a:: x:: Z0 x d:=by simp[Z0,H]);rw[e];simp[j,m,z,s,i,t,r,C,K,q,E,G,g,p,M,O,L,H,h,f497r1];refine w _ (by grind) (fun y W=>D y (by grind)) ?_ ?_ ?_ <;> simp[j,m]
def Qde (f) (m:EqF f) (L B d) (a:B[d]? =some (Qk L)) (j:L≠[]) (o:L.length < 100000000) (i: ∀x∈L,x.mass < big):
  L9 (W5 L) B d (call tb 497 [.gs d 0 4 L.length,.fn f []] B):=by
 match L with | []=>grind | [x]=>(have g:ZR (Qk [x]) 0 4 1=Qa [x]:=by have:=X3 (f:=Qd) (k:=4) QE Zc [x] [];rwa[Qy,TW]at this);have b: (Qk [x]).length=4:=ZZ QE [x];have l:=ZL [x];rw[zcc 497 rfl rfl];show _=some (_,_);rw[show W5 [x]=[x] by simp[W5]];generalize Qa [x]=E at *;generalize Qk [x]=c at *;simp[-getElem?_pos,f497C,ZY,a,b,g,l,Z2] | x:: y:: r=>have h:=QkD f m B d (r.length+2) (QJ a) (by omega) (y:: r) [] x;rw[zcc 497 rfl rfl,PX];simp only[Y4,(QbL a)]at h;(have e: ¬((r.length:Int)+1+1 < 2):=by omega);simp[f497C,e];refine h _ (by grind) (fun z n=>i z n) ?_ ?_ ?_ <;> simp
def AP (f B):call tb 497 [.gs 0 0 0 0,.fn f []] B=some (.sl true 4 [],B):=by
 rw[zcc 497 rfl rfl];simp[f497C,ZY]
def Ch (B1 B:Qr):Prop:=B1.length<=B.length/\∀(i:Nat) (x y:QB),B1[i]? =some x->B[i]? =some y->x=y\/Q5 y=true
def Ch.refl (B):Ch B B:=⟨QY _,fun i x y a c=> .inl (by grind)⟩
def Ch.trans {f d g} (h:Ch f d) (k:Ch d g):Ch f g:=⟨WP h.1 k.1,fun i x z m l=>by
 obtain⟨y,j⟩: ∃y,d[i]? =some y:=⟨_,Za (LN (by grind) h.1)⟩;rcases k.2 i y z j l with e | e;subst e;exact h.2 i x y m j;grind⟩
def Ch.set {e B} (h:Ch e B) {c} (j:Q5 c=true) (id):Ch e (B.set id c):=⟨by rw[WZ];exact h.1,fun i x y g d=>by
 rw[QG]at d;split at d;grind;exact h.2 i x y g d⟩
def Ch.app {b B} (h:Ch b B) (M):Ch b (B ++ M):=⟨by rw[Q6];have:=h.1;omega,fun i x y c a=>by
 rw[Y8 (LN (by grind) h.1)]at a;exact h.2 i x y c a⟩
def Ch.take {a B} (h:Ch a B):X4 a (B.take a.length)=true:=ET (by rw[Z9];have:=h.1;omega) fun i x y d c=>by
 rw[V1 (by grind)]at c;exact h.2 i x y d c
def Qri {a B v l} (x o) (h:TS a B v l) (s:l.length < 1000000): ∃m d,appM 56 4 v (.sl o 4 [Qd x]) B=some (m,d)/\TS a d m (l ++ [x])/\∀c,Ch c B->Ch c d:=by
 obtain⟨M,j,r,rfl,rfl,p⟩:=h;have i:Xt 4 (.sl o 4 [Qd x]) (a ++ M)=some (1,Qd x):=by simp[Xt]
 rcases p with⟨rfl,rfl,rfl⟩ | ⟨rfl,q,b,f⟩;refine⟨.gs (a ++ M).length 0 4 1,a ++ (M ++ [Qd x]),?_,⟨M ++ [Qd x],(a ++ M).length,4,rfl,rfl,.inr ⟨rfl,by simp,by simp,?_⟩⟩,fun c g=>by rw[<- ZU];exact g.app _⟩;simp[appM,i];rw[<- ZU,Yc];simp[Qk,YZ];have n: (Qk l).length=l.length*4:=ZZ QE l;have k:Qk (l ++ [x])=Qk l ++ Qd x:=by simp[Qk,Ve,OH]
 refine⟨.gs (a ++ M).length 0 4 (l.length+1),(a ++ M).set j []++ [Qk l ++ Qd x],?_,⟨M.set (j - a.length) []++ [Qk l ++ Qd x],(a ++ M).length,4,?_,by simp,.inr ⟨rfl,by simp,by simp,?_⟩⟩,fun c g=>(g.set rfl _).app _⟩;simp only[appM,i,QN];rw[Qg ⟨by omega,(X7 (by omega))⟩,Qe (by omega),Qe (by omega),Qg ⟨trivial,trivial⟩,f];simp only[QN];rw[Qg ⟨(by intro e;rw[e]at n;simp at n;exact b (Yf (by omega))),by omega⟩,Qe (by omega),Z2 (by omega),(Z5 Zc l)];grind;simp_all
abbrev Nm:=List UInt8
def M4 (l:List Nm):Qr:=l.map fun s=>[AV.str s]
def Qiv (l): (M4 l).length=l.length:=by simp[M4]
def Qiu {l} {i:Nat} {s:Nm} (h:l[i]? =some s): (M4 l)[i]? =some [AV.str s]:=by simp[M4,h]
def ixF (l:List Nm) (x:Nm):Int:=if l.contains x then(l.idxOf x:Int)else -1
def Qi2 {x post}: ∀{pre:List Nm},x ∉ pre->(pre ++ x:: post).idxOf x=pre.length
 | [],_=>by simp
 | a:: pre,h=>by
  have b: (a == x)=false:=by simpa using fun e=>h (by simp[e])
  rw[Xb,List.idxOf_cons,b,(Qi2 (x:=x) (post:=post) (pre:=pre) fun e=>h (by simp[e]))];simp
def Qul {l a b x} (h:l=a ++ x:: b) (c:a.contains x=false):ixF l x=a.length:=by
 subst h;have: (a ++ x:: b).contains x=true:=by simp
 rw[ixF,Qg this,Qi2 (by simpa using c)]
def Qun {l x} (a:l.contains x=false):ixF l x= -1:=by rw[ixF,a];simp
def Qum {l x}:decide (0<=ixF l x)=l.contains x:=by
 unfold ixF;cases h:l.contains x <;> simp
def QuC {b} {x a:Nm} (c:b.contains x=false) (d: ¬x=a): (b ++ [a]).contains x=false:=by
 simp only[List.contains_eq_mem,OL,Zp,Vz]at c ⊢;exact fun h=>h.elim c d
def Qf1 (l x p) (t:l.length < 1000000):
  ∀d b o e,l=b ++ d->b.contains x=false->e 0= .sl o 1 (M4 l)->e 1= .str x->e 7= .int .i64 l.length->e 8= .int .i64 b.length->
  R tb (.loop f162l0) e p (Qh 0 (Qs tb f162r0 (QA f162 p)))=some (.int .i64 (ixF l x),p):=by
 intro d;induction d with | nil=>intro b o e f c h m g k;simp only[Qy]at f;rw[<- f]at k c;rw[Qb f162l0.eq_1,Qun c];simp[h,m,g,k,f162r0] | cons a d s=>intro b o e f c h m g k;have j:=Qiu (Qv f);have r:=QD f;have i:=QF f;rw[Qb f162l0.eq_1];by_cases n:x=a;rw[Qul (by rw[f,n]) c];simp[h,m,g,k,i,j,<- n];(have q: (x == a)=false:=by simpa using n);simp[h,m,g,k,i,j,(wr1 b.length (by omega)),q,-List.contains_eq_mem];apply(fun e=>(fun e c=>s (b ++ [a]) o e (by rw[f];simp) c) e (QuC c n)) <;> simp[h,m,g]
def Qk7 (l) (x:Nm) (o a) (b:l.length < 1000000):call tb 162 [.sl o 1 (M4 l),.str x] a=some (.int .i64 (ixF l x),a):=by
 rw[zcc 162 rfl rfl];simp[f162C,-List.contains_eq_mem];apply(fun c=>Qf1 l x a b l [] false c rfl rfl) <;> simp[Qiv]
def Qk6 (l) (x:Nm) (o a) (b:l.length < 1000000):call tb 161 [.sl o 1 (M4 l),.str x] a=some (.bool (l.contains x),a):=by
 rw[zcc 161 rfl rfl];simp[f161C,(Qk7 l x false a b),Qum,-List.contains_eq_mem]
def AN (l:Qj) (bs:Qr) (hl:l.length < 1000000):call tb 407 [.sl false 4 (Qa l)] bs=some (.sl true 4 (Qa l),bs):=by
 have hb:l.length*56<=140737488355328:=X7 (by omega);rw[Y9 tb_407];simp[X2,VE,hb]
def Sst (B0:Qr) (acc:Qj) (bs:Qr):Prop:=
 B0.length+1<=bs.length/\bs.take B0.length=B0/\
  ((acc=[]/\bs[B0.length]? =some [.gs 0 0 0 0])\/(acc≠[]/\∃g,B0.length < g/\bs[B0.length]? =some [.gs g 0 4 acc.length]/\bs[g]? =some (Qk acc)))
def Qcg (d a b x) (B:Sst d a b) (K:a.length < 100000000):
  ∃k,call tb 512 [.agg (Qd x),.gp d.length 0] b=some (.tup [],k)/\Sst d (a ++ [x]) k:=by
 obtain⟨G,H,i⟩:=B;have z:=Qc x;rcases i with⟨rfl,i⟩ | ⟨o,g,E,i,u⟩;have h: ¬b.length=d.length:=by omega
 refine⟨((b ++ [Qd x]).set d.length [.gs b.length 0 4 1]),?_,?_⟩;rw[zcc 512 rfl rfl];have t: (b ++ [Ua])[b.length]? =some Ua:=Yc;have p: (b ++ [Ua]).set b.length (Qd x)=b ++ [Qd x]:=by rw[PE];simp
 have q: (b ++ [Qd x])[d.length]? =some [.gs 0 0 0 0]:=by rwa[Y8 (by omega)]
 simp only[Ua]at t p;simp[f512,f512C,i,appM,Xt,h,q,XA];refine⟨by simp;omega,?_,.inr ⟨by simp,b.length,by omega,?_,?_⟩⟩;rwa[Oe (by omega) (by omega)];rw[Py (by simp;omega)];simp;rw[Ti (by omega),Yc];simp[YZ];have h: ¬b.length=d.length:=by omega
 have C:=QJ u;have c: (Qk a).length=a.length*4:=ZZ QE a;have m: (Qk a).map AV.strip=Qk a:=Z5 Zc a;have s: (Qk a).take (a.length*4)=Qk a:=Z2 (by omega);have v: (a.length+1)*56<=140737488355328:=by omega
 have r: ¬(a.length+1)*4<=a.length*4:=by omega
 have f: (Qk a ++ Ua).take (a.length*4)++ (Qd x ++ (Qk a ++ Ua).drop (a.length*4+4))=Qk (a ++ [x]):=by rw[<- c,JS,PN (by simp[Ua])];simp[Qk,Ve,OH]
 have j: (Qk a ++ Ua).length=a.length*4+4:=by rw[Q6,c];rfl
 have l:Qk a≠[]:=fun e=>by rw[e]at c;rcases a with _ | ⟨y,I⟩;exact o rfl;simp at c
 have n: (a.length:Int) < (a.length:Int)+1:=by omega
 refine⟨((b.set g []++ [Qk (a ++ [x])]).set d.length [.gs b.length 0 4 (a.length+1)]),?_,?_⟩;rw[zcc 512 rfl rfl];have t: (b.set g []++ [Qk a ++ Ua])[b.length]? =some (Qk a ++ Ua):=by(have:b.length=(b.set g []).length:=by simp);rw[this];exact Yc
 have p: (b.set g []++ [Qk a ++ Ua]).set b.length (Qk (a ++ [x]))=b.set g []++ [Qk (a ++ [x])]:=by rw[PE];simp
 have q: (b.set g []++ [Qk (a ++ [x])])[d.length]? =some [.gs g 0 4 a.length]:=by rwa[Y8 (by simp;omega),Ti (by omega)]
 have w:Ua=[.int .i64 0,.str [],.int .i64 0,.sl false 4 []]:=rfl;rw[w]at t p f j;generalize Qk (a ++ [x])=D at *;generalize Qk a=A at *;simp[f512,f512C,i,u,appM,Xt,v,l,c,r,s,m,XA];generalize A ++ [AV.int IntKind.i64 0,AV.str [],AV.int IntKind.i64 0,AV.sl false 4 []]=J at *;simp[n,q,f,j,h,XA];refine⟨by simp;omega,?_,.inr ⟨by simp,b.length,by omega,?_,?_⟩⟩;rwa[Oe (by simp;omega) (by omega),GP (by omega)];rw[Py (by simp;omega)];simp;rw[Ti (by omega)];have:b.length=(b.set g []).length:=by simp
 rw[this,Yc]
def SOk (B0:Qr) (acc:Qj) (r:Option (AV×Qr)):Prop:=∃bs',r=some (.tup [],bs')/\Sst B0 acc bs'
def QgP (j) (t:Tm) (B) (y:t.mass < 100000000)
  (q: ∀x∈t.kids,∀b h,Sst j b h->b.length+x.nodes < 100000000->SOk j (b ++ Zs x) (call tb 168 [.agg (Qd x),.fn 512 [.gp j.length 0]] h)):
  ∀a c b h d,t.kids=c ++ a->Sst j b h->b.length+Qp a < 100000000->d 1= .fn 512 [.gp j.length 0]->d 10= .sl false 4 (Qa t.kids)->d 11= .int .i64 t.kids.length->d 12= .int .i64 c.length->
  SOk j (b ++ Q3 a) (R tb (.loop f168l0) d h (Qh 0 (QA f168 B))):=by
 have s:=QL t;intro a;induction a with | nil=>intro c b h d i n o m e f g;simp only[Qy]at i;rw[<- i]at g;rw[Qb f168l0.eq_1];refine⟨h,?_,by simpa[Q3]using n⟩;simp[e,f,g] | cons x a r=>intro c b h d i n o m e f g;have w:=QD i;simp only[Qp]at o;obtain⟨l,u,k⟩:=q x (by rw[i];simp) b h n (by omega);(have v: (Zs x).length<=x.nodes:=by rw[Tc];exact QY _);have p:=fun d=>r (c ++ [x]) _ l d (by rw[i];simp) k (by rw[Q6];omega);rw[ZU,show Zs x ++ Q3 a=Q3 (x:: a) by simp[Q3]]at p;rw[Qb f168l0.eq_1];simp[m,e,f,g,(Qv i),(QF i),(wr1 c.length (by omega)),u];refine p _ ?_ ?_ ?_ ?_ <;> simp[m,e,f]
def Qfy (e): ∀t a c,t.mass < 100000000->Sst e a c->a.length+t.nodes < 100000000->
  SOk e (a ++ Zs t) (call tb 168 [.agg (Qd t),.fn 512 [.gp e.length 0]] c):=by
 refine Yp ?_;intro d n s b o a c q j l;have g:=QL (.mk d n s b);have i:=WE (.mk d n s b);simp only[ZJ,Yy]at g i;obtain⟨f,p,h⟩:=Qcg e a c (.mk d n s b) j (by omega);have m:=fun r=>QgP e (.mk d n s b) c q (fun x k a c j l=>o x k a c (by have:=QR k;simp at this;omega) j l) b [] _ f r rfl h (by rw[Q6];simp;omega);have u:a ++ Zs (.mk d n s b)=(a ++ [.mk d n s b])++ Q3 b:=by simp[Zs]
 rw[u,zcc 168 rfl rfl];simp[f168C,p];simp only[ZJ,ZU,Xb,Y4]at m;refine m _ ?_ ?_ ?_ ?_ <;> simp[ZN]
def Qq0 (L) (k B:Qr) (H:L.length < 1000000) (y: ∀x∈L,x.mass < 1000000) (X K c):
  ∀a d b j o e,L=d ++ a->Sst k b j->b.length+Qp a < 100000000->e 3= .gp k.length 0->e 6= .sl o 4 (Qa L)->e 7= .int .i64 L.length->e 8= .int .i64 d.length->
   (∀f g,Sst k (b ++ Q3 a) g->f 3= .gp k.length 0->R tb c f g K=X)->
  R tb (.loop f511l0) e j (Qh 0 (Qs tb c K))=X:=by
 intro a;induction a with | nil=>intro d b j o e i q t m n l p h;simp only[Qy]at i;rw[<- i]at p;rw[Qb f511l0.eq_1];simp[n,l,p];refine h _ j (by simpa[Q3]using q) ?_;simp[m] | cons x a E=>intro d b j o e i q t m n l p h;have I:=QD i;simp only[Qp]at t;obtain⟨g,G,s⟩:=Qfy k x b j (by have:=y x (by rw[i];simp);omega) q (by omega);have C:=Tc x;rw[Qb f511l0.eq_1];simp[m,n,l,p,(Qv i),(QF i),(wr1 d.length (by omega)),G];apply(fun e v z w D=>E (d ++ [x]) (b ++ Zs x) g o e (by rw[i];simp) s (by rw[Q6];omega) v z w D fun f r u A=>h f r (by simpa[Q3]using u) A) <;> simp[m,n,l]
def Qdf (L o b) (w:L.length < 1000000) (k: ∀x∈L,x.mass < 1000000) (u:Qp L < 100000000):
  call tb 511 [.sl o 4 (Qa L)] b=some (.sl true 4 (Qa (Qq (Q3 L))),b):=by
 rw[zcc 511 rfl rfl];simp[f511C];refine(fun D=>Qq0 L b b w k (some (.sl true 4 (Qa (Qq (Q3 L))),b)) (QA f511 b) f511r0 L [] [] _ false D rfl (⟨by simp,by simp,.inl ⟨rfl,Yc⟩⟩) (by simpa using u)) _ ?_ ?_ ?_ ?_ ?_;simp;simp;simp;simp;intro s c E m;obtain⟨G,C,j⟩:=E;rw[Y4]at j;have d: ∀x∈Q3 L,x.mass < big:=fun x a=>by(have: ∀(l:Qj),(∀y∈l,y.mass < 1000000)->∀x∈Q3 l,x.mass < 1000000:=by intro l;induction l with | nil=>intro _ x a;simp[Q3]at a | cons y r h=>intro n x a;simp only[Q3,Zp]at a;rcases a with a | a;have:=VD y x a;have:=n y (by simp);omega;exact h (fun z t=>n z (by simp[t])) x a);have:=this L k x a;unfold big;omega
 have e: (Q3 L).length < 100000000:=by(have: (Q3 L).length=Qp L:=by(have: ∀l:Qj,(Q3 l).length=Qp l:=by intro l;induction l with | nil=>simp[Q3,Qp] | cons y r h=>simp only[Q3,Qp,Q6,Tc,h]);exact this L);omega
 generalize Q3 L=A at *;rcases j with⟨f,p⟩ | ⟨f,g,p,B,q⟩;have i:=K7 c;subst f;simp[f511r0,m,p,i,C,Qq,Yo,Qa];have i:=J7 A c g q f e d;have v: (c.set g []).take b.length=b:=by rwa[GP (by omega)]
 simp[f511r0,m,B,i,v,(ZL _)]
structure Ded where
 r:Int
 n:Int
 a:List Int
 c:List Int
 t:Tm
abbrev Z1:=List Int
def Zy (l:Z1):Qr:=l.map fun i=>[AV.int .i64 i]
@[simp] def Qxd (l): (Zy l).length=l.length:=by simp[Zy]
@[simp] def Qxc (l) (i:Nat): (Zy l)[i]? =(l[i]?).map fun i=>[AV.int .i64 i]:=by simp[Zy]
@[simp] def Qpw: ∀l:Z1,ZD (Zy l)=true
 | []=>rfl
 | i:: l=>by
  have:=Qpw l;simp only[Zy]at this ⊢;simp[ZD,Q5,AV.gpfree,this]
def Qwl:List (Yi×Int):=[([],0),([103,105,118,101,110],0),([112,117,98,108,105,99],0),([112,97,105,114],2),([102,105,114,115,116],1),([115,101,99,111,110,100],1),([101,110,99],2),([100,101,99],2),([97,101,110,99],2),([97,100,101,99],2),([112,107],1),([115,105,103,110],2),([114,101,97,100],1),([104,97,115,104],1),([115,117,109],-1),([112,111,119,101,114],-2),([112,114,111,100,117,99,116],-1)]
def rOk (r:Int):Bool:=decide (1<=r) && decide (r<=16)
def CE (r:Int):Int:=if rOk r then(Qwl[r.toNat]?.getD ([],0)).2 else 0
def ZS (l:List Q9):Qr:=l.map fun g=>[AV.sl false 5 (Qz g)]
@[simp] def NJ (l): (ZS l).length=l.length:=by simp[ZS]
@[simp] def QfI (l) (i:Nat): (ZS l)[i]? =(l[i]?).map fun g=>[AV.sl false 5 (Qz g)]:=by simp[ZS]
@[simp] def Qit: ∀l:List Q9,ZD (ZS l)=true
 | []=>rfl
 | p:: l=>by
  have:=Qit l;simp only[ZS]at this ⊢;simp[ZD,Q5,AV.gpfree,this]
def NI (a b):ZS a ++ ZS b=ZS (a ++ b):=by simp[ZS]
def NK (g): [[AV.sl false 5 (Qz g)]]=ZS [g]:=rfl
def SmP (g:Q9):Prop:=g.length < 1000000/\∀q∈g,q.1.mass < 1000000
def SmP.big {g} (h:SmP g): ∀q∈g,q.1.mass < big:=fun q a=>by have:=h.2 q a;unfold Go.Am.big;omega
def QmZ {l t B} (hl:l.length < 100000000) (Y: ∀p∈l,p.mass < big) (I:t.mass < big) (U:Asc l) {n} (r:l[n]? =some t):
  ∀d i j o a,j - i<=d->i<=n->n<=j->j<=l.length->
  a 0= .sl o 4 (Qa l)->a 4= .bx (Qd t)->a 2= .fn 30 []->a 8= .int .i64 l.length->a 9= .int .i64 i->a 10= .int .i64 j->
  R tb (.loop f378l0) a B (Qh 0 (Qs tb f378r0 (QA f378 B)))=some (.tup [.int .i64 n,.bool true],B):=by
 have T:=(XR.1 r).1;have z: ∀(i j:Nat) (p q:Tm),l[i]? =some p->l[j]? =some q->i < j->Qo p q < 0:=by intro i j p q w Z G;obtain⟨V,rfl⟩:=XR.1 w;obtain⟨c,rfl⟩:=XR.1 Z;exact NF.1 U i j V c G
 have u: ∀(o:Bool) (a:Ye),a 0= .sl o 4 (Qa l)->a 4= .bx (Qd t)->a 2= .fn 30 []->a 8= .int .i64 l.length->a 9= .int .i64 n->a 10= .int .i64 n->R tb (.loop f378l0) a B (Qh 0 (Qs tb f378r0 (QA f378 B)))=some (.tup [.int .i64 n,.bool true],B):=by intro o a g k c x v b;(have S: (n:Int) < (l.length:Int):=by omega);have E:=call_Compare t t B I I;rw[((Wz).2 rfl)]at E;rw[Qb f378l0.eq_1];simp[-getElem?_pos,f378r0,g,c,k,x,v,b,S,r,E]
 intro d;induction d with | zero=>intro i j o a X y D N g k c x v b;(have K:i=n:=by omega);(have J:j=n:=by omega);subst K J;exact u o a g k c x v b | succ d O=>intro i j o a X y D N g k c x v b;by_cases Q:i < j;(have C: (i+j) / 2 < l.length:=by omega);have M:=FF (i:=i) (j:=j) (by omega);have w:=Za C;have L:=Y _ (V3 C);(have s: (i:Int) < (j:Int):=by omega);(have hb1:i<=(i+j) / 2:=by omega);(have P: (i+j) / 2 < j:=by omega);generalize l[(i+j) / 2]=p at *;generalize W: (i+j) / 2=m at *;have E:=call_Compare p t B L I;(have A:IntKind.i64.wrap ((m:Int)+1)=((m+1:Nat):Int):=by rw[QC (by omega) (by omega)];omega);rw[Qb f378l0.eq_1];by_cases f:Qo p t < 0;(have e:m+1<=n:=by rcases JG m n with h | h | h;omega;subst h;rw[w]at r;injection r with r;subst r;have:Qo p p=0:=(Wz).2 rfl;omega;exact absurd (XG f (z n m t p r w h)) (by have:Qo p p=0:=(Wz).2 rfl;omega));have H:=fun o a=>O (m+1) j o a (by omega) e D N;simp[-getElem?_pos,g,c,k,v,b,s,M,A,w,E,f];refine H o _ ?_ ?_ ?_ ?_ ?_ ?_ <;> simp[g,c,k,x,b];(have e:n<=m:=by rcases ZI m n with h | h;exact absurd (z m n p t w r h) f;exact h);have H:=fun o a=>O i m o a (by omega) y e (by omega);simp[-getElem?_pos,g,c,k,v,b,s,M,A,w,E,f];refine H o _ ?_ ?_ ?_ ?_ ?_ ?_ <;> simp[g,c,k,x,v];(have K:i=n:=by omega);(have J:j=n:=by omega);subst K J;exact u o a g k c x v b
def QoH {l t B} (o) (d:l.length < 100000000) (b: ∀p∈l,p.mass < big) (c:t.mass < big) (f:Asc l) {n:Nat} (a:l[n]? =some t):
  call tb 378 [.sl o 4 (Qa l),.agg (Qd t),.fn 30 []] B=some (.tup [.int .i64 n,.bool true],B):=by
 have e:=(XR.1 a).1;rw[zcc 378 rfl rfl];simp[-getElem?_pos,f378C];refine(fun g=>QmZ (B:=B) d b c f a l.length 0 l.length false g (by omega) (by omega) (by omega) (by omega)) _ ?_ ?_ ?_ ?_ ?_ ?_ <;> simp
def Vq (l:List Q9):Qj:=(l.map QV).flatten
def Xz (l:List Q9):Qj:=Qq (Vq l)
def QkV (a g):Vq (a ++ [g])=Vq a ++ QV g:=by simp[Vq]
def JX (g a):Vq (g:: a)=QV g ++ Vq a:=by simp[Vq]
def Ql3 {l g q} (a:g∈l) (b:q∈g):q.1∈Vq l:=by
 simp only[Vq,Nd,YL];exact⟨QV g,⟨g,a,rfl⟩,YL.2 ⟨q,b,rfl⟩⟩
def QkW {l t} (h:t∈Vq l): ∃g∈l,∃q∈g,q.1=t:=by
 simp only[Vq,Nd,YL]at h;obtain⟨d,⟨g,a,rfl⟩,c⟩:=h;obtain⟨q,b,rfl⟩:=YL.1 c;exact⟨g,a,q,b,rfl⟩
def QoG (x y a) (b:x.mass < big) (c:y.mass < big):call tb 375 [.agg (Qd x),.agg (Qd y)] a=some (.bool (decide (Qo x y=0)),a):=by
 rw[zcc 375 rfl rfl];simp[f375C,(call_Compare x y a b c)]
def QtK:EqF 375:=fun x y a c b=>QoG x y a c b
def QvA {b B v l} (h:TS b B v l) (p:l.length < 1000000) (o: ∀x∈l,x.mass < 1000000) (n) (m:n 3=v):
  R tb f373r1 n B (QA f373 b)=some (.sl true 4 (Qa (Qq l)),b):=by
 obtain⟨M,j,q,rfl,rfl,a⟩:=h;rcases a with⟨rfl,rfl,rfl⟩ | ⟨rfl,g,i,k⟩;have f:call tb 170 [.gs 0 0 0 0,.fn 30 []] (b ++ M)=some (.tup [],b ++ M):=by rw[Y9 tb_170];simp[NT]
 have a:=AP 375 (b ++ M);have e:Qq []=([]:Qj):=rfl;simp[f373r1,m,f,a,Qa,e];have d: ∀x∈l,x.mass < big:=fun x c=>by have:=o x c;unfold big;omega
 have f:=MY l (b ++ M) j k (by omega) d;have a:=Qde 375 QtK (XL l) ((b ++ M).set j (Qk (XL l))) j (by rw[QG,Qg rfl,Qg (QJ k)]) (by intro e;obtain⟨x,c⟩:=GG l i;have:=(U3 (l:=l)).2 c;rw[e]at this;simp at this) (by rw[Vg];omega) fun x c=>d x (U3.1 c);rw[ON,Vg]at a;unfold L9 at a;rw[T6]at a;simp only[WG g]at f a;simp[-getElem?_pos,f373r1,m,f,a,(ZL (Qq l))]
def Qvy (g w) (u:SmP g) (c K X):
  ∀a d e B v o f,g=d ++ a->TS w B v e->e.length+a.length < 500000->
   f 3=v->f 14= .sl o 5 (Qz g)->f 15= .int .i64 g.length->f 16= .int .i64 d.length->
   (∀b n p,TS w p n (e ++ QV a)->b 3=n->b 8=f 8->b 9=f 9->b 10=f 10->R tb c b p K=X)->
  R tb (.loop f373l0) f B (Qh 2 (Qh 1 (Qs tb c K)))=X:=by
 intro a;induction a with | nil=>intro d e B v o f l h m t k i j H;simp only[Qy]at l;rw[<- l]at j;obtain⟨P,D,rfl⟩:=Li h;rw[Qb f373l0.eq_1];simp[k,i,j];refine H _ _ _ (by simpa[QV]using h) ?_ ?_ ?_ ?_ <;> simp[t] | cons q a y=>intro d e B v o f l h m t k i j H;have G:=QD l;have r:IntKind.i64.wrap ((d.length:Int)+1)=(d.length:Int)+1:=QC (by have:=u.1;omega) (by have:=u.1;omega);simp only[Zu]at m;obtain⟨J,O,C,x,Q⟩:=Qri q.1 false h (by omega);have z:=fun f=>y (d ++ [q]) (e ++ [q.1]) O J o f (by rw[l];simp) x (by simp;omega);obtain⟨P,D,rfl⟩:=Li h;obtain⟨E,A,rfl⟩:=Li x;rw[Qb f373l0.eq_1];simp[-List.append_assoc,t,k,i,j,(QF l),(Qv l),r,C];refine z _ ?_ ?_ ?_ ?_ ?_;simp;simp[k];simp[i];simp;intro b n p N I L M s;refine H b n p (by simpa[QV]using N) I ?_ ?_ ?_;rw[L];simp;rw[M];simp;rw[s];simp
def Qvz (l t) (Q:l.length < 1000) (J: ∀g∈l,SmP g/\g.length<=200):
  ∀a f b B v o d,l=f ++ a->TS t B v b->b.length+200*a.length<=200*l.length->(∀x∈b,x.mass < 1000000)->
   d 3=v->d 8= .sl o 1 (ZS l)->d 9= .int .i64 l.length->d 10= .int .i64 f.length->
  R tb (.loop f373l1) d B (Qh 0 (Qs tb f373r1 (QA f373 t)))=some (.sl true 4 (Qa (Qq (b ++ Vq a))),t):=by
 intro a;induction a with | nil=>intro f b B v o d k i m n r w u j;simp only[Qy]at k;rw[<- k]at j;have h:=fun d r=>QvA i (by simp at m;omega) n d r;(have e:b ++ Vq []=b:=by simp[Vq]);rw[Qb f373l1.eq_1,e];simp[w,u,j];apply h;simp[r] | cons g a I=>intro f b B v o d k i m n r w u j;have M:=QD k;obtain⟨p,P⟩:=J g (by rw[k];simp);simp only[Zu]at m;(have z: (QV g).length=g.length:=by simp[QV]);(have e:b ++ Vq (g:: a)=(b ++ QV g)++ Vq a:=by rw[JX,ZU]);have h:=fun o d c K X=>Qvy g t p c K X g [] b B v o d rfl i (by omega);rw[e,Qb f373l1.eq_1];simp[-List.append_assoc,w,u,j,(QF k),(Qv k)];refine h false _ _ _ _ ?_ ?_ ?_ ?_ ?_;simp[r];simp;simp;simp;intro G S O A H D E y;obtain⟨L,N,rfl⟩:=Li A;simp[-List.append_assoc,f373r0,y,j,(wr1 f.length (by omega))];refine(fun B v d i=>I (f ++ [g]) (b ++ QV g) B v o d (by rw[k];simp) i (by rw[Q6,z];omega) (fun x s=>by rcases Zp.1 s with s | s;exact n x s;obtain⟨q,C,rfl⟩:=YL.1 s;exact p.2 q C)) O _ _ A ?_ ?_ ?_ ?_;simp[H];simp[D,w];simp[E,u];simp
def QoF (l o a) (c:l.length < 1000) (d: ∀g∈l,SmP g/\g.length<=200):
  call tb 373 [.sl o 1 (ZS l)] a=some (.sl true 4 (Qa (Xz l)),a):=by
 have h:=fun o b=>Qvz l a c d l [] [] a (.gs 0 0 0 0) o b rfl (QbV a) (by simp) (by simp);rw[zcc 373 rfl rfl];simp only[Y4]at h;unfold Xz;generalize Qa (Qq (Vq l))=e at *;simp[f373C];refine h false _ ?_ ?_ ?_ ?_ <;> simp
def pwT:Q9->Tm->Int
 | [],_=>0
 | q:: g,t=>if Qo q.1 t=0 then q.2 else pwT g t
def QjF: ∀{g q t},Qo q.1 t≠0->pwT (g ++ [q]) t=pwT g t
 | [],q,t,h=>by simp[pwT,h]
 | p:: g,q,t,h=>by simp only[Xb,pwT,QjF h]
def QjD: ∀{g q},(∀p∈g,Qo p.1 q.1≠0)->pwT (g ++ [q]) q.1=q.2
 | [],q,_=>by simp[pwT,Wz.2 rfl]
 | p:: g,q,h=>by
  simp only[Xb,pwT,Qe (h p (by simp)),(QjD (g:=g) (q:=q) fun x a=>h x (by simp[a]))]
def Qt (l:Z1):QB:=l.map fun i=>AV.int .i64 i
@[simp] def YC (l): (Qt l).length=l.length:=by simp[Qt]
@[simp] def Qxj (l) (i:Nat): (Qt l)[i]? =(l[i]?).map fun i=>AV.int .i64 i:=by simp[Qt]
@[simp] def Qwk (l): (Qt l).map AV.strip=Qt l:=by
 simp only[Qt,Mm];exact Rp fun i _=>rfl
def Js:=@List.set_eq_take_append_cons_drop
def Th (l) {n} (v) (h:n < l.length): (Qt l).take n ++ AV.int .i64 v:: (Qt l).drop (n+1)=Qt (l.set n v):=by
 rw[Js,Qg h];simp[Qt]
def QjK (l):Qt l=YZ (fun i:Int=>[AV.int .i64 i]) l:=by
 induction l with | nil=>rfl | cons a l b=>rw[SP,<- b];rfl
def OW (l):ZR (Qt l) 0 1 l.length=Zy l:=by
 have h:=X3 (f:=fun i:Int=>[AV.int .i64 i]) (k:=1) (fun _=>rfl) (fun _=>rfl) l [];rwa[Qy,<- QjK]at h
def Qmm (n) (l:Qj) (h:l.length=n):List.replicate n (AV.int .i64 0)=Qt (l.map (pwT [])):=by
 subst h;simp only[Qt,Mm];induction l with | nil=>rfl | cons a l b=>simp only[Zu,Rx,ZO,b];rfl
def QqH {a b q n} (l:Asc a) (g:a[n]? =some q.1) (m: ∀p∈b,Qo p.1 q.1≠0):
  (a.map (pwT b)).set n q.2=a.map (pwT (b ++ [q])):=by
 apply Ss;intro i;rw[QG,Nc,Nc];by_cases c:n=i;subst c;rw[Qg rfl,Qg (by simpa using((XR.1 g).1)),g];simp[QjD m];rw[Qe c];rcases o:a[i]? with _ | t;rfl;have d:Qo q.1 t≠0:=by intro e;have f:=(Wz).1 e;obtain⟨j,rfl⟩:=XR.1 o;obtain⟨k,r⟩:=XR.1 g;rw[<- r]at f;rcases ZI n i with h | h;have:=NF.1 l n i k j h;rw[f,Wz.2 rfl]at this;omega;have:=NF.1 l i n j k (by omega);rw[f,Wz.2 rfl]at this;omega
 simp[QjF d]
def Qtk {a b q} (h:Asc (QV (a ++ q:: b))): ∀p∈a,Qo p.1 q.1≠0:=by
 intro p c;simp only[QV,Xp,ZO]at h;have:=(JC.1 h).2.2 p.1 (YL.2 ⟨p,c,rfl⟩) q.1 (by simp);omega
def Sr:=@List.set_append_right
def QuB (a g i) (K:a.length < 1000000) (z: ∀t∈a,t.mass < 1000000) (G:Asc a) (H:SmP g) (M:Asc (QV g)) (v: ∀q∈g,q.1∈a):
  ∀c b o u d,g=b ++ c->d 0= .sl o 4 (Qa a)->d 5= .gs i.length 0 1 a.length->d 13= .sl u 5 (Qz g)->d 14= .int .i64 g.length->d 15= .int .i64 b.length->
  R tb (.loop f563l0) d (i ++ [Qt (a.map (pwT b))]) (Qh 0 (Qs tb f563r0 (QA f563 i)))=some (.gs i.length 0 1 a.length,i ++ [Qt (a.map (pwT g))]):=by
 intro c;induction c with | nil=>intro b o u d e D s f h k;simp only[Qy]at e;subst e;rw[Qb f563l0.eq_1];simp[s,f,h,k,f563r0] | cons q c I=>intro b o u d e D s f h k;have J:=QD e;have N:=H.1;(have E:q∈g:=by rw[e];simp);obtain⟨n,y⟩:=Ro (v q E);have m:=(XR.1 y).1;have j:=Th (a.map (pwT b)) q.2 (n:=n) (by simpa using m);rw[(QqH G y (Qtk (by rwa[<- e])))]at j;(have C: (Qt (a.map (pwT b))).length=a.length:=by simp);(have r: ∀x,(i ++ [Qt (a.map (pwT b))]).set i.length x=i ++ [x]:=fun x=>by rw[Sr _ _ (QY _)];simp);have O:=fun d=>I (b ++ [q]) o u d (by rw[e];simp);generalize Qt (a.map (pwT b))=Q at *;generalize Qt (a.map (pwT (b ++ [q])))=S at *;generalize Qt (a.map (pwT g))=P at *;have w:n+1<=a.length:=m;(have A: (n:Int) < (a.length:Int):=by omega);rw[Qb f563l0.eq_1];simp[-getElem?_pos,Ql,Q0,D,s,f,h,k,(QF e),(Qv e),(wr1 b.length (by omega)),(fun o B=>QoH (l:=a) (t:=q.1) (B:=B) o (by omega) (fun p L=>by have:=z p L;unfold big;omega) (H.big q E) G y),w,A,(Yc),C,j,r];apply O <;> simp[D,s,f,h]
def EQ (a g o k b) (d:a.length < 1000000) (f: ∀t∈a,t.mass < 1000000) (m:Asc a) (j:SmP g) (e:Asc (QV g)) (c: ∀q∈g,q.1∈a):
  call tb 563 [.sl o 4 (Qa a),.sl k 5 (Qz g)] b=some (.gs b.length 0 1 a.length,b ++ [Qt (a.map (pwT g))]):=by
 have h:=fun i=>QuB a g b d f m j e c g [] false false i rfl;have l:a.length*8<=140737488355328:=by omega
 have n: (a.length:Int)<=4611686018427387904:=by omega
 rw[zcc 563 rfl rfl];rw[<- (Qmm a.length a rfl)]at h;generalize Qt (a.map (pwT g))=p at *;simp[f563C,l,n];apply h <;> simp
def nz (i:Int):Bool:= !decide (i=0)
def okG (g:Q9):Prop:=ZA g=0/\SmP g
def okG.asc {g} (h:okG g):Asc (QV g):=(TY h.1 h.2.big).1.asc
def okG.bd {g} (h:okG g): ∀q∈g,-1000<=q.2/\q.2<=1000:=fun q b=>by
 have a:=h.1;unfold ZA at a;split at a;cases a;exact⟨((Ek g none a).1 q b).2.2.2.1,((Ek g none a).1 q b).2.2.2.2⟩
def okG.len {g} (h:okG g):g.length<=200:=(TY h.1 h.2.big).2.1
def Fm {l} (m:l.length<=1000) (e: ∀g∈l,okG g): (Xz l).length < 1000000/\(∀t∈Xz l,t.mass < 1000000)/\Asc (Xz l)/\∀g∈l,∀q∈g,q.1∈Xz l:=by
 refine⟨?_,?_,XY _,fun g c q d=>Z7.2 (Ql3 c d)⟩;have f: ∀(l:List Q9),(∀g∈l,okG g)->(Vq l).length<=200*l.length:=by intro l;induction l with | nil=>intro _;simp[Vq] | cons g l i=>intro h;have a:=(h g (by simp)).len;have b:=i fun x k=>h x (by simp[k]);rw[JX,Q6,Zu];(have: (QV g).length=g.length:=by simp[QV]);omega
 have o:=f l e;have n:=WF (Vq l);unfold Xz;omega;intro t j;obtain⟨g,c,q,d,rfl⟩:=QkW (Z7.1 j);exact(e g c).2.2 q d
def Qmq (g t l) (n:SmP g) (u:t.mass < 1000000):
  ∀a b o d,g=b ++ a->d 0= .sl o 5 (Qz g)->d 3= .bx (Qd t)->d 5= .int .i64 b.length->
  R tb (.loop f326l0) d l (Qh 0 (Qs tb f326r0 (QA f326 l)))=some (.int .i64 (pwT a t),l):=by
 intro a;induction a with | nil=>intro b o d e i k f;simp only[Qy]at e;rw[<- e]at f;rw[Qb f326l0.eq_1];simp[i,f,pwT,f326r0] | cons q a s=>intro b o d e i k f;have h:=Qv e;have p:=QD e;have r:=n.1;have j:=QF e;have m:=W2 q.1 t l (n.big q (by rw[e];simp)) (by unfold big;omega);rw[Qb f326l0.eq_1];by_cases c:Qo q.1 t=0;simp only[pwT,Qg c];simp[-getElem?_pos,i,k,f,j,h,m,c];simp only[pwT,Qe c];generalize pwT a t=X at *;simp[-getElem?_pos,i,k,f,j,h,m,c,(wr1 b.length (by omega))];apply(fun d=>s (b ++ [q]) o d (by rw[e];simp)) <;> simp[i,k]
def Qdc (g t o a) (c:SmP g) (d:t.mass < 1000000):call tb 326 [.sl o 5 (Qz g),.agg (Qd t)] a=some (.int .i64 (pwT g t),a):=by
 have h:=fun b=>Qmq g t a c d g [] false b rfl;rw[zcc 326 rfl rfl];generalize pwT g t=X at *;simp[f326C];apply h <;> simp
def QvZ (l g) (i:Nat) (v) (w:l[i]? =some g) (y:SmP g) (c K X):
  ∀a e b o k f,g=e ++ a->b.length+a.length < 500000->(∀x∈b,x.mass < 1000000)->
   f 0= .sl o 1 (ZS l)->f 3= .sl k 4 (Qa b)->f 4= .int .i64 i->f 5= .int .i64 e.length->
   (∀d k,d 0=f 0->d 3= .sl k 4 (Qa (Yo b (QV a)))->d 4=f 4->R tb c d v K=X)->
  R tb (.loop f324l0) f v (Qh 2 (Qh 1 (Qs tb c K)))=X:=by
 intro a;induction a with | nil=>intro e b o k f h p j m s r t H;simp only[Qy]at h;rw[<- h]at t;rw[Qb f324l0.eq_1];simp[-getElem?_pos,Ql,m,s,r,t,w];refine H _ k ?_ ?_ ?_ <;> simp[m,s,Yo,QV] | cons q a B=>intro e b o k f h p j m s r t H;have I:=QD h;have G:=y.1;simp only[Zu]at p;have u:=y.2 q (by rw[h];simp);have z:=Mo q.1 b;have C:=fun f=>B (e ++ [q]) (QT q.1 b) o false f (by rw[h];simp) (by omega) (fun x n=>by rcases Wa.1 n with rfl | n;exact u;exact j x n);rw[Qb f324l0.eq_1];simp[-getElem?_pos,Ql,m,s,r,t,w,(QF h),(Qv h),(wr1 e.length (by omega)),(fun o=>RJ b q.1 o v (by omega) (fun x n=>by have:=j x n;unfold big;omega) (by unfold big;omega))];refine C _ ?_ ?_ ?_ ?_ ?_;simp[m];simp;simp[r];simp;intro d J E A D;refine H d J ?_ (by simpa[QV,Yo]using A) ?_;rw[E];simp;rw[D];simp
def Qb3 (a l): (Yo a l).length<=a.length+l.length:=Ki l a
def Qv0 (l s) (I:l.length < 1000) (B: ∀g∈l,SmP g/\g.length<=200):
  ∀a d b o h f,l=d ++ a->b.length+200*a.length<=200*l.length->(∀x∈b,x.mass < 1000000)->
   f 0= .sl o 1 (ZS l)->f 3= .sl h 4 (Qa b)->f 4= .int .i64 d.length->
  R tb (.loop f324l1) f s (Qh 0 (Qs tb f324r1 (QA f324 s)))=some (.sl false 4 (Qa (Yo b (Vq a))),s):=by
 intro a;induction a with | nil=>intro d b o h f i r j n t k;simp only[Qy]at i;rw[<- i]at k;rw[Qb f324l1.eq_1];simp[n,t,k,f324r1,Vq,Yo] | cons g a w=>intro d b o h f i r j n t k;have G:=QD i;obtain⟨p,E⟩:=B g (by rw[i];simp);simp only[Zu]at r;(have z: (QV g).length=g.length:=by simp[QV]);have u:=Qb3 b (QV g);(have e:Yo b (Vq (g:: a))=Yo (Yo b (QV g)) (Vq a):=by rw[JX,Qfh]);rw[e,Qb f324l1.eq_1];simp[n,k,(QF i)];refine(fun o h f c K X=>QvZ l g d.length s (Qv i) p c K X g [] b o h f rfl (by omega) j) o h _ _ _ _ ?_ ?_ ?_ ?_ ?_;simp[n];simp[t];simp[k];simp;intro H C D y A;simp[f324r0,A,k,(wr1 d.length (by omega))];refine(fun h f=>w (d ++ [g]) (Yo b (QV g)) o h f (by rw[i];simp) (by omega) (fun x m=>by rcases KL.1 m with m | m;exact j x m;obtain⟨q,v,rfl⟩:=YL.1 m;exact p.2 q v)) C _ ?_ ?_ ?_;simp[D,n];simp[y];simp
def QoB (l o a) (c:l.length < 1000) (d: ∀g∈l,SmP g/\g.length<=200):
  call tb 324 [.sl o 1 (ZS l)] a=some (.sl false 4 (Qa (Xz l)),a):=by
 have h:=fun o b=>Qv0 l a c d l [] [] o true b rfl (by simp) (by simp);rw[zcc 324 rfl rfl];have e:Qa (Yo [] (Vq l))=Qa (Xz l):=rfl;rw[e]at h;generalize Qa (Xz l)=f at *;simp[f324C];refine h false _ ?_ ?_ ?_ <;> simp[Qa]
def YB (l:Q9):Q9:=l.map fun q=>(q.1,-q.2)
def MC (l): (YB l).length=l.length:=by simp[YB]
def QlZ (m l w t) (S:l.length < 1000000) (I: ∀q∈l,-100000000 < q.2/\q.2 < 100000000) (i:m.length<=w):
  ∀b a M d,l=a ++ b->(m ++ M)[w]? =some (Ze (YB a ++ b)++ t)->
   d 3= .gs w 0 5 l.length->d 8= .int .i64 l.length->d 9= .int .i64 a.length->
  BU (YB l) m (R tb (.loop f363l0) d (m ++ M) (Qh 0 (Qs tb f363r0 (QA f363 m)))):=by
 intro b;induction b with | nil=>intro a M d g j p r z;simp only[Qy]at g j;subst g;by_cases c:l.length=0;have:l=[]:=Yf c;subst this;refine⟨false,?_⟩;rw[Qb f363l0.eq_1];simp at p;simp[p,r,z,f363r0,ZY,Qz,YB];refine⟨true,?_⟩;(have o:l.length*5<=(Ze (YB l)++ t).length:=by rw[Q6,Wn,MC];omega);have u:ZR (Ze (YB l)++ t) 0 5 (YB l).length=Qz (YB l):=X3 (f:=Zb) (k:=5) W7 Wv (YB l) t;rw[MC]at u;have B:=Mw (YB l);generalize Ze (YB l)++ t=P at *;generalize Qz (YB l)=T at *;rw[Qb f363l0.eq_1];simp[-getElem?_pos,p,r,z,f363r0,ZY,c,j,o,u,B,WG i] | cons q b L=>intro a M d g j p r z;have C:=QF g;(have G:a.length < l.length:=by omega);have N:=I q (by rw[g];simp);have D:IntKind.i64.wrap (-q.2)= -q.2:=QC (by omega) (by omega);have h:=MC a;(have H: (YB a ++ q:: b)[a.length]? =some q:=by rw[Yv (by omega),h];simp);have v:=L7 H t;(have E: (Ze (YB a ++ q:: b)++ t).length=l.length*5+t.length:=by rw[Q6,Wn,Q6,h,(QD g),Zu]);(have n: (Ze (YB a ++ q:: b)++ t)[a.length*5+4]? =some (.int .i64 q.2):=by(have y: (((Ze (YB a ++ q:: b)++ t).drop (a.length*5)).take 5)[4]? =some (.int .i64 q.2):=by rw[v];simp);rwa[V1 (by omega),Vk]at y);(have o:a.length*5+4+1<=(Ze (YB a ++ q:: b)++ t).length:=by omega);(have s: (Ze (YB a ++ q:: b)++ t).take (a.length*5+4)++ (AV.int .i64 (-q.2):: (Ze (YB a ++ q:: b)++ t).drop (a.length*5+4+1))=Ze (YB (a ++ [q])++ b)++ t:=by(have e:YB (a ++ [q])++ b=YB a ++ (q.1,-q.2):: b:=by simp[YB]);rw[e];have y:=OI (f:=Zb) (k:=5) W7 (pre:=YB a) (q.1,-q.2) (rfl:YB a ++ q:: b=YB a ++ q:: b) t;rw[h]at y;rw[show Ze (YB a ++ (q.1,-q.2):: b)++ t=_ from y.symm];(have O: (Ze (YB a ++ q:: b)++ t).take (a.length*5+4)=(Ze (YB a ++ q:: b)++ t).take (a.length*5)++ Qd q.1:=by rw[List.take_add];congr 1;(have: ((Ze (YB a ++ q:: b)++ t).drop (a.length*5)).take 4=(((Ze (YB a ++ q:: b)++ t).drop (a.length*5)).take 5).take 4:=by rw[LQ];rfl);rw[this];rw[v];simp);rw[O];simp[Zb]);(have A: ∀x:QB,(m ++ M.set (w - m.length) x)[w]? =some x:=fun x=>by rw[<- WG i,QG,Qg rfl,Qg (QJ j)]);have J:=fun M d j=>L (a ++ [q]) M d (by rw[g];simp) j;generalize Ze (YB (a ++ [q])++ b)++ t=K at *;generalize Ze (YB a ++ q:: b)++ t=Q at *;rw[Qb f363l0.eq_1];simp[-getElem?_pos,p,r,z,C,j,n,o,D,(wr1 a.length (by omega)),s,WG i];refine J _ _ (A K) ?_ ?_ ?_ <;> simp[p,r]
def QoE (l o a) (i:l.length < 1000000) (d: ∀q∈l,q.1.mass < big) (f: ∀q∈l,-100000000 < q.2/\q.2 < 100000000):BU (YB l) a (call tb 363 [.sl o 5 (Qz l)] a):=by
 obtain⟨v,B,c,M,h,p,rfl,rfl,j⟩:=QcZ l false a (by omega) d;rw[zcc 363 rfl rfl];rcases j with⟨rfl,rfl,rfl⟩ | ⟨rfl,b,t,m,g⟩;have e:Qz []=[]:=rfl;rw[e]at c;refine⟨true,?_⟩;have n:YB []=[]:=rfl;simp[f363C,c,e,n];rw[Qb f363l0.eq_1];simp[f363r0,ZY];simp[f363C,c];apply(fun k=>QlZ a l h t i f b l [] M k rfl (by simpa[YB]using m)) <;> simp
def QjG (l g) (u:l.length < 1000000) (k: ∀q∈l,-100000000 < q.2/\q.2 < 100000000):
  ∀b a o c,l=a ++ b->c 0= .sl o 5 (Qz l)->c 3= .sl true 5 (Qz (YB a))->c 4= .int .i64 a.length->
  R tb (.loop f319l0) c g (Qh 0 (Qs tb f319r0 (QA f319 g)))=some (.sl false 5 (Qz (YB l)),g):=by
 intro b;induction b with | nil=>intro a o c d e h f;simp only[Qy]at d;subst d;rw[Qb f319l0.eq_1];simp[e,h,f,f319r0] | cons q b j=>intro a o c d e h f;have t:=QD d;have p:=k q (by rw[d];simp);have i:IntKind.i64.wrap (-q.2)= -q.2:=QC (by omega) (by omega);have r: (a.length+1)*64<=140737488355328:=KF (by omega);have s:Qd q.1 ++ [AV.int .i64 (-q.2)]=Zb (q.1,-q.2):=rfl;(have m: (Qd q.1 ++ [AV.int .i64 0]).drop 5=[]:=by simp[ZN]);(have n:Qz (YB a)++ [Zb (q.1,-q.2)]=Qz (YB (a ++ [q])):=by simp[Qz,YB]);rw[Qb f319l0.eq_1];simp[-getElem?_pos,e,h,f,(QF d),(Qv d),i,(wr1 a.length (by omega)),(MC a),r,m,s,n];apply(fun c=>j (a ++ [q]) o c (by rw[d];simp)) <;> simp[e]
def Qoy (l o a) (b:l.length < 1000000) (c: ∀q∈l,-100000000 < q.2/\q.2 < 100000000):call tb 319 [.sl o 5 (Qz l)] a=some (.sl false 5 (Qz (YB l)),a):=by
 rw[zcc 319 rfl rfl];simp[f319C];apply(fun d=>QjG l a b c l [] false d rfl) <;> simp[Qz,YB]
def UN {t} (h:t.mass < 1000000):SmP (ofP t):=⟨by have:=VR t;omega,fun q a=>by have:=MA t t.mass (QY _) q a;omega⟩
def QbN {a b} (d:SmP a) (e:SmP b):SmP (WD a b):=⟨by have:=Ga a b;omega,fun q c=>by
 have:=E8 (a:=a) (b:=b) (M:=999999) (fun q c=>by have:=d.2 q c;omega) (fun q c=>by have:=e.2 q c;omega) q c;omega⟩
def Quw {t} (h:t.mass < 1000000): ∀q∈ofP t,-100000000 < q.2/\q.2 < 100000000:=fun q a=>by
 unfold ofP at a;split at a;have:=(Lc t [] 1 0 (by unfold big;omega) (.inl rfl) MH).bd q a;have b:=Yu t;omega;cases a
def QbO {a} (b:SmP a):SmP (YB a):=⟨by rw[MC];exact b.1,fun q d=>by
 obtain⟨p,c,rfl⟩:=YL.1 d;exact b.2 p c⟩
def PP (t:Tm):Bool:=isB t EXP && decide (t.kids.length=2)
def We (t:Tm):Tm:=if PP t then kid t 0 else t
def Xk (t:Tm):Q9:=if PP t then ofP (kid t 1)else []
def MV {t} (h:t.kids.length=2):t.kids=[kid t 0,kid t 1]:=by
 rcases d:t.kids with _ | ⟨a,r⟩;rw[d]at h;simp at h;rcases r with _ | ⟨b,e⟩;rw[d]at h;simp at h;rcases e with _ | ⟨c,f⟩;simp[kid,d];rw[d]at h;simp at h
def NG (t): (We t).mass<=t.mass:=by
 unfold We;split;exact Vu t 0;exact QY _
def Lg {t} (h:t.mass < 1000000):SmP (Xk t)/\∀q∈Xk t,-100000000 < q.2/\q.2 < 100000000:=by
 unfold Xk;split;have:=Vu t 1;exact⟨UN (by omega),Quw (by omega)⟩;exact⟨⟨by simp,fun q h=>by cases h⟩,fun q h=>by cases h⟩
def Qrt (t:Tm) (bs:Qr) (r:Out):Prop:=∃o,r=some (.tup [.agg (Qd (We t)),.sl o 5 (Qz (Xk t))],bs)
def Qc9 (t b) (i:t.mass < 1000000) (h:isB t EXP=true->t.kids.length=2):Qrt t b (call tb 318 [.agg (Qd t)] b):=by
 have a:=Xw t EXP b;have e:=ZN t;rw[zcc 318 rfl rfl];cases c:isB t EXP;have d:PP t=false:=by simp[PP,c]
 rw[c]at a;unfold EXP at a;refine⟨false,?_⟩;simp[f318C,a,We,Xk,d,Qz,Qc];have f:=h c;have d:PP t=true:=by simp[PP,c,f]
 rw[c]at a;unfold EXP at a;have j:=Vu t 1;refine⟨false,?_⟩;have g:Qa t.kids=[Qd (kid t 0),Qd (kid t 1)]:=by rw[(MV f)];simp[Qa]
 rw[g]at e;simp only[e]at a ⊢;simp[f318C,a,(R5 (kid t 1) b (by omega)),We,Xk,d,Qc]
def Rf (u a:Tm):Bool:=decide (Qo (We u) (We a)=0) && decide (VV (Xk u) (YB (Xk a))=0)
def MI (u a:Tm):Q9:=WD (Xk u) (YB (Xk a))
def Qgp {t} (h:Xl t=0):Zf t=true/\t.mass<=13200:=by
 unfold Xl at h;by_cases c:thV t=0;obtain⟨_,_,a,b,_⟩:=Hl c;exact⟨a,b⟩;simp[c]at h
def Qp2 {t} (a:Zf t=true) (b:t.kind=3):t.sort=0/\Y2 t.name t.kids.length=true:=by
 rw[H0]at a;simp[b]at a;exact a.1
def Vx (n:Yi):Prop:=n=Zx\/n=ENC\/n=Zv\/n=Zw\/n=EXP
def gd2 {t n} (c:Zf t=true) (h:isB t n=true) (b:Vx n):t.kids.length=2/\t.sort=0:=by
 obtain⟨d,rfl⟩:=Sf.1 h;obtain⟨e,a⟩:=Qp2 c d;refine⟨?_,e⟩;unfold Y2 at a;rw[Qg (by unfold Vx at b;rcases b with h | h | h | h | h <;> simp[h])]at a;simpa using a
structure AOk (d:Ded) (a:List Tm):Prop where
 ok:rOk d.r=true
 n0:0<=d.n
 n1:d.n<=1000000
 len:0<=CE d.r->(a.length:Int)=CE d.r
 p15:d.r=15->a≠[]
 al:a.length < 10000
 ml:Qw a < 20000000
 good: ∀x∈a,Xl x=0
 td:Xl d.t=0
 cl:d.c.length < 1000000
def AOk.gd {d a} (h:AOk d a): ∀x∈a,Zf x=true/\x.mass < 1000000:=fun x c=>by
 obtain⟨b,e⟩:=Qgp (h.good x c);exact⟨b,by omega⟩
def AOk.one {d a} (h:AOk d a) (b:CE d.r=1): ∃x,a=[x]:=by
 have:=h.len (by omega);rw[b]at this;rcases a with _ | ⟨x,r⟩;simp at this;rcases r with _ | ⟨y,c⟩;exact⟨x,rfl⟩;simp at this;omega
def AOk.two {d a} (h:AOk d a) (c:CE d.r=2): ∃x y,a=[x,y]:=by
 have:=h.len (by omega);rw[c]at this;rcases a with _ | ⟨x,r⟩;simp at this;rcases r with _ | ⟨y,b⟩;simp at this;rcases b with _ | ⟨z,e⟩;exact⟨x,y,rfl⟩;simp at this;omega
section
variable {α:Type}
def xv (a b:α->Bool):α->Bool:=fun t=>a t ^^ b t
def zv0:α->Bool:=fun _=>false
def Mb (a:α->Bool):xv a zv0=a:=by funext t;simp[xv,zv0]
def QeN (a:α->Bool):xv zv0 a=a:=by funext t;simp[xv,zv0]
def L8 (a:α->Bool):xv a a=zv0:=by funext t;simp[xv,zv0]
def Qrr (a b:α->Bool):xv a b=xv b a:=by funext t;simp[xv,Bool.xor_comm]
def SX (a b c:α->Bool):xv (xv a b) c=xv a (xv b c):=by funext t;simp[xv]
def Lj (a b:α->Bool):xv a (xv a b)=b:=by rw[<- SX,L8,QeN]
inductive Sp (L:List (α->Bool)): (α->Bool)->Prop
 | zero:Sp L zv0
 | add {v w:α->Bool}:v∈L->Sp L w->Sp L (xv v w)
def Sp.mem {L} {v:α->Bool} (h:v∈L):Sp L v:=by
 have:=Sp.add h Sp.zero;rwa[Mb]at this
def Sp.sum {L} {v w:α->Bool} (h:Sp L v) (c:Sp L w):Sp L (xv v w):=by
 induction h with | zero=>rwa[QeN] | add a _ b=>rw[SX];exact .add a b
def Sp.sub {L M} {v:α->Bool} (h: ∀x∈L,Sp M x) (b:Sp L v):Sp M v:=by
 induction b with | zero=>exact .zero | add a _ c=>exact(h _ a).sum c
def Sp.mono {L M} {v:α->Bool} (h: ∀x∈L,x∈M) (a:Sp L v):Sp M v:=a.sub fun x d=> .mem (h x d)
def Sp.cons {r L} {v:α->Bool} (h:Sp (r:: L) v):Sp L v\/Sp L (xv r v):=by
 induction h with | zero=>exact .inl .zero | @add x w b _ a=>rcases Zl.1 b with rfl | b;rcases a with a | a;exact .inr (by rwa[Lj]);exact .inl a;rcases a with a | a;exact .inl (.add b a);exact .inr (by have:=Sp.add b a;rwa[<- SX,Qrr x r,SX]at this)
def Tri:List (α×(α->Bool))->Prop
 | []=>True
 | (p,r):: R=>r p=true/\(∀x∈R,x.2 p=false)/\Tri R
def QuV {p L} (h: ∀x∈L,x p=false) {v:α->Bool} (b:Sp L v):v p=false:=by
 induction b with | zero=>rfl | add a _ c=>simp[xv,h _ a,c]
def QbU: ∀{R} {v:α->Bool},Tri R->Sp (R.map (·.2)) v->(∀x∈R,v x.1=false)->v=zv0
 | [],v,_,h,_=>by
  cases h with | zero=>rfl | add g _=>simp at g
 | (p,r):: R,v,⟨c,f,e⟩,h,b=>by
  rw[ZO]at h;rcases h.cons with h | h;exact QbU e h fun x a=>b x (by simp[a]);have:=QuV (by intro x a;obtain⟨y,d,rfl⟩:=YL.1 a;exact f y d) h;simp[xv,c,(b (p,r) (by simp))]at this
def QbT {R} {v w:α->Bool} (c:Tri R) (a:Sp (R.map (·.2)) (xv v w)) (b: ∀x∈R,w x.1=false):w=zv0↔Sp (R.map (·.2)) v:=by
 constructor;intro h;rwa[h,Mb]at a;intro h;have:=h.sum a;rw[Lj]at this;exact QbU c this b
end
end Go.Am
namespace Go.Am
set_option maxRecDepth 20000
def TAt (l:Qj) (t:Tm) (k:Nat):Prop:=k<=l.length/\(∀(i:Nat) (p:Tm),l[i]? =some p->i < k->Qo p t < 0)/\(∀(i:Nat) (p:Tm),l[i]? =some p->k<=i->¬Qo p t < 0)
def Sm (l:Qj) (t:Tm) (k:Nat):Bool:=match l[k]? with
 | some p=>decide (Qo p t=0)
 | none=>false
def Qfg (l:Qj) (t:Tm) (B:Qr) (r:Out):Prop:=∃k,TAt l t k/\r=some (.tup [.int .i64 k,.bool (Sm l t k)],B)
def Mi:=@List.any_eq_false
def Gr {l t k} (r:Asc l) (h:TAt l t k):Sm l t k=Qx l t:=by
 obtain⟨s,f,o⟩:=h;unfold Sm Qx;rcases a:l[k]? with _ | p;symm;rw[Mi];intro x d;obtain⟨i,b⟩:=Ro d;have:i < k:=by rcases ZI i k with h | h;exact h;have u:=(XR.1 b).1;(have:k < l.length:=by omega);rw[Za this]at a;cases a
 have:=f i x b this;simp;omega;simp only;rw[JM,UQ];constructor;intro h;exact⟨p,TD a,h⟩;rintro⟨x,d,n⟩;have e:Qo x t=0:=by simpa using n
 obtain⟨i,b⟩:=Ro d;rcases JG i k with h | h | h;have:=f i x b h;omega;subst h;rw[b]at a;cases a;simpa using e;obtain⟨m,g⟩:=XR.1 b;obtain⟨q,j⟩:=XR.1 a;have c:=NF.1 r k i q m h;rw[g,j,(Wz.1 e)]at c;exact absurd c (o k p a (QY _))
def QmJ {l t B} (Z:l.length < 100000000) (Q: ∀p∈l,p.mass < big) (O:t.mass < big) (S:Asc l):
  ∀d i j o b,j - i<=d->i<=j->j<=l.length->(∀k p,l[k]? =some p->k < i->Qo p t < 0)->(∀k p,l[k]? =some p->j<=k->¬Qo p t < 0)->
  b 0= .sl o 4 (Qa l)->b 4= .bx (Qd t)->b 2= .fn 30 []->b 8= .int .i64 l.length->b 9= .int .i64 i->b 10= .int .i64 j->
  Qfg l t B (R tb (.loop f524l0) b B (Qh 0 (Qs tb f524r0 (QA f524 B)))):=by
 have u: ∀(i j:Nat) (p q:Tm),l[i]? =some p->l[j]? =some q->i<=j->Qo q t < 0->Qo p t < 0:=by intro i j p q e z y h;rcases ZI i j with E | T;obtain⟨W,rfl⟩:=XR.1 e;obtain⟨c,rfl⟩:=XR.1 z;exact XG (NF.1 S i j W c E) h;(have:i=j:=by omega);subst this;rw[e]at z;cases z;exact h
 intro d;induction d with | zero=>intro i j o b X y I n f r w c C A a;(have:i=j:=by omega);subst this;refine⟨i,⟨I,n,f⟩,?_⟩;rw[Qb f524l0.eq_1];by_cases K:i < l.length;have e:=Za K;have x:=Q _ (V3 K);(have v: (i:Int) < (l.length:Int):=by omega);(have L:Sm l t i=decide (Qo l[i] t=0):=by simp[Sm,e]);rw[L];generalize l[i]=p at *;have H:=call_Compare p t B x O;simp[-getElem?_pos,f524r0,r,c,w,C,A,a,v,e,H];(have L:Sm l t i=false:=by simp[Sm,ZP (GY K)]);(have v: ¬(i:Int) < (l.length:Int):=by omega);simp[f524r0,r,c,C,A,a,v,L] | succ d M=>intro i j o b X y I n f r w c C A a;by_cases E:i < j;(have D: (i+j) / 2 < l.length:=by omega);have P:=FF (i:=i) (j:=j) (by omega);have e:=Za D;have x:=Q _ (V3 D);(have s: (i:Int) < (j:Int):=by omega);(have V:i<=(i+j) / 2:=by omega);(have U: (i+j) / 2 < j:=by omega);generalize l[(i+j) / 2]=p at *;generalize Y: (i+j) / 2=m at *;have H:=call_Compare p t B x O;(have G:IntKind.i64.wrap ((m:Int)+1)=((m+1:Nat):Int):=by rw[QC (by omega) (by omega)];omega);rw[Qb f524l0.eq_1];by_cases g:Qo p t < 0;have J:=fun o b=>M (m+1) j o b (by omega) (by omega) I (fun k q z N=>u k m q p z e (by omega) g) f;simp[-getElem?_pos,r,c,w,A,a,s,P,G,e,H,g];refine J o _ ?_ ?_ ?_ ?_ ?_ ?_ <;> simp[r,c,w,C,a];have J:=fun o b=>M i m o b (by omega) (by omega) (by omega) n (fun k q z N h=>g (u m k p q e z N h));simp[-getElem?_pos,r,c,w,A,a,s,P,G,e,H,g];refine J o _ ?_ ?_ ?_ ?_ ?_ ?_ <;> simp[r,c,w,C,A];exact M i j o b (by omega) y I n f r w c C A a
def Qdj {l t B} (o) (d:l.length < 100000000) (c: ∀p∈l,p.mass < big) (g:t.mass < big) (e:Asc l):
  Qfg l t B (call tb 524 [.sl o 4 (Qa l),.agg (Qd t),.fn 30 []] B):=by
 rw[zcc 524 rfl rfl];simp[-getElem?_pos,f524C];refine(fun f=>QmJ (B:=B) d c g e l.length 0 l.length false f (by omega) (by omega) (by omega) (fun k p _ b=>by omega) (fun k p a b=>by rw[ZP b]at a;cases a)) _ ?_ ?_ ?_ ?_ ?_ ?_ <;> simp
def Tq (s t o B) (d:s.length < 100000000) (c: ∀p∈s,p.mass < big) (e:t.mass < big) (a:Asc s):
  call tb 530 [.sl o 4 (Qa s),.agg (Qd t)] B=some (.bool (Qx s t),B):=by
 obtain⟨k,f,b⟩:=Qdj (B:=B) false d c e a;rw[Gr a f]at b;rw[zcc 530 rfl rfl];simp[f530C,b,Qc]
def QnM {l t k} (h:TAt l t k) (c:Sm l t k=false):QT t l=l.take k ++ t:: l.drop k:=by
 obtain⟨f,d,e⟩:=h;induction l generalizing k with | nil=>(have:k=0:=by simpa using f);subst this;rfl | cons x l n=>cases k with | zero=>have j:=e 0 x rfl (QY _);(have g: ¬Qo x t=0:=by simpa[Sm]using c);(have a:Qo t x < 0:=by have:=XU t x;omega);simp[QT,a] | succ k=>have j:=d 0 x rfl (by omega);(have g: ¬Qo t x < 0:=by have:=XU t x;omega);(have a: ¬Qo t x=0:=by have:=XU t x;omega);have:=n (k:=k) (by simpa[Sm]using c) (by simpa using f) (fun i p b m=>d (i+1) p (by simpa using b) (by omega)) (fun i p b m=>e (i+1) p (by simpa using b) (by omega));simp[QT,g,a,this]
def JT:=@List.any_cons
def QkT {l t} (k:Asc l) (h:Qx l t=true):QT t l=l:=by
 induction l with | nil=>simp[Qx]at h | cons x l f=>obtain⟨e,d⟩:=XX.1 k;by_cases c:Qo t x=0;(have: ¬Qo t x < 0:=by omega);simp[QT,c];(have a:Qx l t=true:=by unfold Qx at h ⊢;rw[JT]at h;(have:decide (Qo x t=0)=false:=by have:=XU t x;simp;omega);rwa[this,T3]at h);(have b: ¬Qo t x < 0:=by intro m;unfold Qx at a;obtain⟨y,i,j⟩:=UQ.1 a;have g:=Wz.1 (by simpa using j);subst g;have:=e y i;have:=XU y x;omega);simp[QT,c,b,f d a]
def QwM (l:Qj) (bs:Qr) (r:Out):Prop:=∃o,r=some (.sl o 4 (Qa l),bs)
def I6 (s t o B) (V:s.length < 1000000) (J: ∀p∈s,p.mass < big) (Q:t.mass < big) (u:Asc s):
  QwM (QT t s) B (call tb 523 [.sl o 4 (Qa s),.agg (Qd t)] B):=by
 obtain⟨k,D,q⟩:=Qdj (B:=B) false (by omega) J Q u;rw[zcc 523 rfl rfl];cases x:Sm s t k;rw[x]at q;have h:=QnM D x;have z:=D.1;have g: (QT t s).length=s.length+1:=by rw[h];simp;omega
 have C: (s.take k).length=k:=by rw[Z9];omega
 have a:s=s.take k ++ s.drop k:=(PA _ _).symm;have O:s.length*56<=140737488355328:=by omega
 have n: ∃M j,call tb 525 [.sl false 4 (Qa s)] B=some (j,B ++ M)/\∃d E,call tb 526 [j,.int .i64 k,.sl false 4 [Qd t]] (B ++ M)=some (.gs d 0 4 (s.length+1),B ++ E)/\B.length<=d/\(B ++ E)[d]? =some (Qk (QT t s))/\j.ok=true/\j.strip=j:=by rw[Y9 tb_525];by_cases c:s.length=0;have:s=[]:=Yf c;subst this;(have y:k=0:=by simpa using z);subst y;refine⟨[],.gs 0 0 0 0,by simp[X2,VE,Qa],B.length,[Qd t],?_,QY _,?_,rfl,rfl⟩;rw[Y9 tb_526];simp[Lt,P1,KD];simp[QT,Qk,YZ];refine⟨[Qk s],.gs B.length 0 4 s.length,?_,B.length+1,[[],Qk (QT t s)],?_,by omega,by simp,rfl,rfl⟩;(have L: (Qa s).flatten.map AV.strip=Qk s:=by(have: (Qa s).flatten=Qk s:=by rw[Zr];rfl);rw[this,Z5 Zc]);(have S: (Qa s).length=s.length:=by simp[Zr]);have N: ¬(s=[]):=fun e=>c (by simp[e]);simp[X2,VE,L,S,(ZL s),N,O];rw[Y9 tb_526];have i: (Qk s).length=s.length*4:=ZZ QE s;(have A:Qk s≠[]:=fun e=>by rw[e]at i;simp at i;omega);(have H:P1 k 4 s.length (Qk s) [Qd t]=Qk (QT t s):=by(have K: (Qk s).take (s.length*4)=Qk s:=by rw[<- i,JJ]);have I:=SQ (f:=Qd) (k:=4) QE (l:=s) (pre:=s.take k) (post:=s.drop k) a [];have w:=MK (f:=Qd) (k:=4) QE (l:=s) (pre:=s.take k) (post:=s.drop k) a [];rw[C,Qy]at I w;rw[Qy]at w;unfold P1;rw[K,I,w,h,show Qk (s.take k ++ t:: s.drop k)=Qk (s.take k)++ (Qd t ++ Qk (s.drop k)) by simp[Qk,Ve,SP]];rw[Xp,Xp,Z5 Zc,Z5 Zc];simp[Zc]);simp only[Lt];rw[Qg ⟨trivial,by omega,by simp,(by omega),(by omega),by simpa using(by omega),by simpa using(by omega)⟩,Qe (by omega),Qg ⟨trivial,trivial⟩,Yc];simp only[QN];rw[Qg ⟨A,by omega⟩,LI,H,Sr _ _ (QY _)];simp[KD,(Qbz Ha _)]
 obtain⟨M,j,T,d,E,U,P,R,G,v⟩:=n;have m:ZR (Qk (QT t s)) 0 4 (QT t s).length=Qa (QT t s):=by have:=X3 (f:=Qd) (k:=4) QE Zc (QT t s) [];rw[Qy]at this;rwa[Zr]
 rw[g]at m;have r: (s.length+1)*4<=(Qk (QT t s)).length:=by have: (Qk (QT t s)).length=(QT t s).length*4:=ZZ QE _;rw[this,g];omega
 have b:=ZL (QT t s);refine⟨true,?_⟩;generalize Qk (QT t s)=X at *;generalize Qa (QT t s)=W at *;simp[-getElem?_pos,Ql,Q0,f523C,q,T,U,G,v,Qc,ZY,R,r,m,b,WG P];rw[x]at q;have:=QkT u (by rwa[<- Gr u D]);refine⟨false,?_⟩;rw[this];have b:=ZL s;simp[f523C,q,Qc,b]
end Go.Am
