/-
  En1, En2, En3, En4, En5, En6, En7, En8, En9, En10, En11, En12, En13, En14, En15, En16, En17, En18, En19, En20, En21, En22, En23, En24, En25, En26, En30, En31, En32, En33, En34, En35, En36, En37, En38, En39, En40, En41, En42, En43, En44, En45, En46, En47, En48, Kn1, Kn2.
-/
import Derived.Test.YthlnfdbbneaelaaGreatDoorG15
set_option linter.all false
open Go.Am.F
namespace Go.Am
set_option maxRecDepth 20000
def EqF (f:Nat):Prop:=∀(x y:Tm) (bs:Qp),x.mass < big->y.mass < big->call tb f [.agg (Qd x),.agg (Qd y)] bs=some (.bool (decide (Qm x y=0)),bs)
def LZ (L:Qj) (B:Qp) (id:Nat) (r:Option (AV×Qp)):Prop:=r=some (.sl true 4 (Qa L),B.set id [])
def Qkv (B m n D c) (v:m < B.length) (H:c.length=n*4) (w:D.length<=n) (J:n < 100000000) (I:c.take (D.length*4)=Ql D) (g:D≠[])
  (o) (s:o 0= .gs m 0 4 n) (x:o 5= .int .i64 D.length):
  R tb f497r0 o (B.set m c) (Qi 1 (Qu tb f497r1 (Qu tb (.loop f497l1) (Qi 0 (Qu tb f497r2 (Qz f497 B))))))=
   some (.sl true 4 (Qa D),B.set m []):=by
 have u: (0:Int)<=(D.length:Int):=by omega
 have A: (D.length:Int)<=(n:Int):=by omega
 have j: ¬D.length=0:=fun e=>g (Yu e);have z:=YG D;have i: ∀t,ZW (Ql D ++ t) 0 4 D.length=Qa D:=fun t=>by have:=Wd (f:=Qd) (k:=4) QG Zi D t;rwa[Sn]at this
 have l: (Ql D).length=D.length*4:=Yl QG D;have d:c.take (D.length*4)++ (List.replicate ((n - D.length)*4) AV.undef ++ c.drop (D.length*4+ (n - D.length)*4))=Ql D ++ List.replicate ((n - D.length)*4) .undef:=by rw[I,Pr (by omega)];simp
 have p:D.length*4+ (n - D.length)*4<=n*4:=by omega
 by_cases y:n - D.length=0;have C:D.length=n:=by omega
 have q:c=Ql D:=by grind
 have a:=i [];rw[QH]at a;rw[<- q]at a l;have r:D.length*4<=c.length:=by omega
 generalize Qa D=E at *;simp[f497r0,s,x,u,A,w,y,j,Z8,v,r,a,z,Z7];have b:=i (List.replicate ((n - D.length)*4) .undef);have h:D.length*4<=(Ql D ++ List.replicate ((n - D.length)*4) AV.undef).length:=by grind
 rw[<- d]at b h;generalize Qa D=E at *;generalize G:c.take (D.length*4)++ (List.replicate ((n - D.length)*4) AV.undef ++ c.drop (D.length*4+ (n - D.length)*4))=X at *;simp[f497r0,s,x,u,A,w,y,v,H,p,G,j,Z8,h,b,z,Z7]
def Qkt (f) (hf:EqF f) (B w n m) (Z:w < B.length) (hn:n < 100000000): ∀g D i d j r,D≠[]->D.length+i.length+1+g.length=n->m+j=D.length+i.length+1->0 < j->
   (∀x∈d:: g,x.mass < big)->r 0= .gs w 0 4 n->r 1= .fn f []->r 5= .int .i64 D.length->r 6= .gs w (m*4) 4 (n - m)->r 7= .int .i64 j->
  LZ (D ++ ZY d g) B w (R tb (.loop f497l0) r (B.set w (Ql (D ++ i ++ d:: g)))
   (Qi 2 (Qu tb f497r0 (Qi 1 (Qu tb f497r1 (Qu tb (.loop f497l1) (Qi 0 (Qu tb f497r2 (Qz f497 B))))))))):=by
 intro g;induction g with | nil=>intro D i d j r p P hk U L H u Q v S;(have o: (Ql (D ++ i ++ [d])).length=n*4:=by rw[Yl QG];grind);(have ht: (Ql (D ++ i ++ [d])).take (D.length*4)=Ql D:=by have:=Rv (f:=Qd) (k:=4) QG (l:=D ++ i ++ [d]) (pre:=D) (post:=i ++ [d]) (by simp) [];grind);have hr:=fun r a b=>Qkv B w n D (Ql (D ++ i ++ [d])) Z o (by omega) hn ht p r a b;(have hl':D.length+i.length+1=n:=by omega);(have Y: ¬((j:Int) < ((n - m:Nat):Int)):=by omega);(have hnl2: ¬(j < n - m):=by omega);rw[Qc f497l0.eq_1];simp only[ZY,QH];unfold LZ;simp[u,v,S,Y];simp_all | cons x g IH=>intro D i d j r p P hk U L H u Q v S;(have o: (Ql (D ++ i ++ d:: x:: g)).length=n*4:=by rw[Yl QG];grind);have N: (Ql (D ++ i ++ d:: x:: g)).map AV.strip=Ql (D ++ i ++ d:: x:: g):=Yn Zi _;(have r1: ((Ql (D ++ i ++ d:: x:: g)).drop (m*4+j*4)).take 4=Qd x:=by have:=Vj (f:=Qd) (k:=4) QG (l:=D ++ i ++ d:: x:: g) (pre:=D ++ i ++ [d]) (post:=g) (x:=x) (by simp) [];rw[<- Yk,hk];simpa[TI]using this);(have r2: ((Ql (D ++ i ++ d:: x:: g)).drop (m*4+ (j - 1)*4)).take 4=Qd d:=by have:=Vj (f:=Qd) (k:=4) QG (l:=D ++ i ++ d:: x:: g) (pre:=D ++ i) (post:=x:: g) (x:=d) (by simp) [];rw[<- Yk,show m+ (j - 1)=D.length+i.length by omega];simpa[TI]using this);(have A: (Ql (D ++ i ++ d:: x:: g)).take (D.length*4)++ (Qd x ++ (Ql (D ++ i ++ d:: x:: g)).drop (D.length*4+4))=Ql ((D ++ [x])++ (i ++ [d]).tail ++ x:: g):=by(obtain⟨y,X,t⟩: ∃y X,i ++ [d]=y:: X:=by cases i <;> simp);have:=Ow (f:=Qd) (k:=4) QG (l:=D ++ i ++ d:: x:: g) (pre:=D) (post:=X ++ x:: g) (x:=y) x (by grind) [];rw[t];simpa using this);(have z:IntKind.i64.wrap ((j:Int) - 1)=((j - 1:Nat):Int):=by rw[QC (by omega) (by omega)];omega);(have E:IntKind.i64.wrap ((j:Int)+1)=((j+1:Nat):Int):=by rw[QC (by omega) (by omega)];omega);(have hw3:IntKind.i64.wrap ((D.length:Int)+1)=((D.length+1:Nat):Int):=by rw[QC (by omega) (by omega)];omega);(have O: (j:Int) < ((n - m:Nat):Int):=by simp at P;omega);(have hlt1:j < n - m:=by omega);(have s: ((j - 1:Nat):Int) < ((n - m:Nat):Int):=by omega);(have hlt2':j - 1 < n - m:=by omega);(have M: (D.length:Int) < (n:Int):=by omega);(have V:D.length < n:=by omega);(have K:m*4+j*4+4<=n*4:=by omega);(have G:m*4+ (j - 1)*4+4<=n*4:=by omega);(have W:D.length*4+4<=n*4:=by omega);(have I: (0:Int)<=((j - 1:Nat):Int):=by omega);have hc:=fun bs=>hf x d bs (L x (by simp)) (L d (by simp));(have q: ((j - 1:Nat):Int).toNat=j - 1:=by omega);have J:=IH D (i ++ [d]) x (j+1);have C:=IH (D ++ [x]) (i ++ [d]).tail x (j+1);(have htl: ((i ++ [d]).tail).length=i.length:=by simp);rw[show D ++ (i ++ [d])++ x:: g=D ++ i ++ d:: x:: g by simp]at J;rw[Qc f497l0.eq_1];generalize Ql (D ++ i ++ d:: x:: g)=c at *;generalize hkm:j - 1=km at *;generalize n - m=nk at *;by_cases T:Qm x d=0;(have e:ZY d (x:: g)=ZY x g:=by simp[ZY,T]);rw[e];simp[H,u,Q,v,S,O,s,I,z,E,K,G,Z,o,N,r1,r2,hc,T,q];refine J _ p (by simp at P ⊢;omega) (by simp;omega) (by omega) (fun y t=>L y (by simp at t ⊢;rcases t with h | h <;> simp[h])) ?_ ?_ ?_ ?_ ?_ <;> simp[H,u,Q,v];(have e:D ++ ZY d (x:: g)=D ++ x:: ZY x g:=by simp[ZY,T]);rw[e];simp only[ZX,XQ,Xg]at C;simp[H,u,Q,v,S,O,s,M,I,z,E,hw3,K,G,W,Z,o,N,r1,r2,hc,T,q,A];refine C _ (by simp) (by simp at P ⊢;omega) (by simp;omega) (by omega) (fun y t=>L y (by simp at t ⊢;rcases t with h | h <;> simp[h])) ?_ ?_ ?_ ?_ ?_ <;> simp[H,u,v]
def Qku (f) (N:EqF f) (B u n) (G:u < B.length) (S:n < 100000000): ∀d b a o,b.length+1+d.length=n->
   (∀x∈a:: d,x.mass < big)->o 0= .gs u 0 4 n->o 1= .fn f []->o 5= .int .i64 (b.length+1:Nat)->
  LZ (b ++ a:: ZY a d) B u (R tb (.loop f497l1) o (B.set u (Ql (b ++ a:: d)))
   (Qi 0 (Qu tb f497r2 (Qz f497 B)))):=by
 intro d;induction d with | nil=>intro b a o U D j m z;(have A:b.length+1=n:=by omega);(have V: ¬((b.length:Int)+1 < (n:Int)):=by omega);rw[Qc f497l1.eq_1];(have g: (Ql (b ++ [a])).length=n*4:=by rw[Yl QG];grind);(have J: ¬n=0:=by omega);(have I:ZW (Ql (b ++ [a])) 0 4 n=Qa (b ++ [a]):=by have:=Wd (f:=Qd) (k:=4) QG Zi (b ++ [a]) [];rw[QH,Sn]at this;grind);have Q:=YG (b ++ [a]);simp only[LZ,ZY];generalize Ql (b ++ [a])=c at *;generalize Qa (b ++ [a])=e at *;simp[j,m,z,f497r2,A,Z8,J,G,g,I,Q,Z7] | cons x d P=>intro b a o U D j m z;(have A:b.length+1+ (d.length+1)=n:=by omega);(have g: (Ql (b ++ a:: x:: d)).length=n*4:=by rw[Yl QG];grind);have p: (Ql (b ++ a:: x:: d)).map AV.strip=Ql (b ++ a:: x:: d):=Yn Zi _;(have M: ((Ql (b ++ a:: x:: d)).drop ((b.length+1)*4)).take 4=Qd x:=by have:=Vj (f:=Qd) (k:=4) QG (l:=b ++ a:: x:: d) (pre:=b ++ [a]) (post:=d) (x:=x) (by simp) [];simp_all);(have O: ((Ql (b ++ a:: x:: d)).drop (b.length*4)).take 4=Qd a:=by have:=Vj (f:=Qd) (k:=4) QG (l:=b ++ a:: x:: d) (pre:=b) (post:=x:: d) (x:=a) (by simp) [];grind);have C:IntKind.i64.wrap (b.length:Int)=(b.length:Int):=QC (by omega) (by omega);have K:IntKind.i64.wrap ((b.length:Int)+1+1)=(b.length:Int)+1+1:=QC (by omega) (by omega);(have s: (b.length:Int)+1 < (n:Int):=by omega);(have i: (b.length:Int) < (n:Int):=by omega);(have q: (b.length+1)*4+4<=n*4:=by omega);(have E:b.length*4+4<=n*4:=by omega);(have t: (0:Int)<=(b.length:Int)+1:=by omega);(have r: (b.length:Int)+1<=(n:Int):=by omega);(have h: ((b.length:Int)+1).toNat=b.length+1:=by omega);have L:=fun T=>N x a T (D x (by simp)) (D a (by simp));have w:=P (b ++ [a]) x;have v:=Qkt f N B u n (b.length+1) G S d (b ++ [a]) [] x 1;simp only[ZX,XQ,Xg]at w v;rw[Qc f497l1.eq_1];generalize Ql (b ++ a:: x:: d)=c at *;by_cases H:Qm x a=0;(have e:ZY a (x:: d)=ZY x d:=by simp[ZY,H]);rw[e];simp[j,m,z,s,i,t,r,C,q,E,G,g,p,M,O,L,H,h];refine v _ (by simp) (by grind) (by simp) (by omega) (fun y W=>D y (by grind)) ?_ ?_ ?_ ?_ ?_ <;> simp[j,m,z];(have e:b ++ a:: ZY a (x:: d)=b ++ a:: x:: ZY x d:=by simp[ZY,H]);rw[e];simp[j,m,z,s,i,t,r,C,K,q,E,G,g,p,M,O,L,H,h,f497r1];refine w _ (by grind) (fun y W=>D y (by grind)) ?_ ?_ ?_ <;> simp[j,m]
def QcO (f) (m:EqF f) (L B d) (a:B[d]? =some (Ql L)) (j:L≠[]) (o:L.length < 100000000) (i: ∀x∈L,x.mass < big):
  LZ (WX L) B d (call tb 497 [.gs d 0 4 L.length,.fn f []] B):=by
 match L with | []=>grind | [x]=>(have g:ZW (Ql [x]) 0 4 1=Qa [x]:=by have:=Wd (f:=Qd) (k:=4) QG Zi [x] [];rwa[QH,Sn]at this);have b: (Ql [x]).length=4:=Yl QG [x];have l:=YG [x];rw[zcc 497 rfl rfl];show _=some (_,_);rw[show WX [x]=[x] by simp[WX]];generalize Qa [x]=E at *;generalize Ql [x]=c at *;simp[-getElem?_pos,f497C,Z8,a,b,g,l,Z7] | x:: y:: r=>have h:=Qku f m B d (r.length+2) (QF a) (by omega) (y:: r) [] x;rw[zcc 497 rfl rfl,Pv];simp only[Xg,(Qbn a)]at h;(have e: ¬((r.length:Int)+1+1 < 2):=by omega);simp[f497C,e];refine h _ (by grind) (fun z n=>i z n) ?_ ?_ ?_ <;> simp
def Aa (f B):call tb 497 [.gs 0 0 0 0,.fn f []] B=some (.sl true 4 [],B):=by
 rw[zcc 497 rfl rfl];simp[f497C,Z8]
def Ch (B1 B:Qp):Prop:=B1.length<=B.length/\∀(i:Nat) (x y:Qx),B1[i]? =some x->B[i]? =some y->x=y\/Q3 y=true
def Ch.refl (B):Ch B B:=⟨QX _,fun i x y a c=> .inl (by grind)⟩
def Ch.trans {f d g} (h:Ch f d) (k:Ch d g):Ch f g:=⟨Y8 h.1 k.1,fun i x z m l=>by
 obtain⟨y,j⟩: ∃y,d[i]? =some y:=⟨_,Q0 (Lz (by grind) h.1)⟩;rcases k.2 i y z j l with e | e;subst e;exact h.2 i x y m j;grind⟩
def Ch.set {e B} (h:Ch e B) {c} (j:Q3 c=true) (id):Ch e (B.set id c):=⟨by rw[WJ];exact h.1,fun i x y g d=>by
 rw[Qy]at d;split at d;grind;exact h.2 i x y g d⟩
def Ch.app {b B} (h:Ch b B) (M):Ch b (B ++ M):=⟨by rw[Zl];have:=h.1;omega,fun i x y c a=>by
 rw[Y3 (Lz (by grind) h.1)]at a;exact h.2 i x y c a⟩
def Ch.take {a B} (h:Ch a B):X4 a (B.take a.length)=true:=F8 (by rw[Ye];have:=h.1;omega) fun i x y d c=>by
 rw[VV (by grind)]at c;exact h.2 i x y d c
def Qri {a B v l} (x o) (h:TS a B v l) (s:l.length < 1000000): ∃m d,appM 56 4 v (.sl o 4 [Qd x]) B=some (m,d)/\TS a d m (l ++ [x])/\∀c,Ch c B->Ch c d:=by
 obtain⟨M,j,r,rfl,rfl,p⟩:=h;have i:XR 4 (.sl o 4 [Qd x]) (a ++ M)=some (1,Qd x):=by simp[XR]
 rcases p with⟨rfl,rfl,rfl⟩ | ⟨rfl,q,b,f⟩;refine⟨.gs (a ++ M).length 0 4 1,a ++ (M ++ [Qd x]),?_,⟨M ++ [Qd x],(a ++ M).length,4,rfl,rfl,.inr ⟨rfl,by simp,by simp,?_⟩⟩,fun c g=>by rw[<- ZX];exact g.app _⟩;simp[appM,i];rw[<- ZX,Yv];simp[Ql,Y4];have n: (Ql l).length=l.length*4:=Yl QG l;have k:Ql (l ++ [x])=Ql l ++ Qd x:=by simp[Ql,Vp,Ov]
 refine⟨.gs (a ++ M).length 0 4 (l.length+1),(a ++ M).set j []++ [Ql l ++ Qd x],?_,⟨M.set (j - a.length) []++ [Ql l ++ Qd x],(a ++ M).length,4,?_,by simp,.inr ⟨rfl,by simp,by simp,?_⟩⟩,fun c g=>(g.set rfl _).app _⟩;simp only[appM,i,QO];rw[Qe ⟨by omega,(Wb (by omega))⟩,Qb (by omega),Qb (by omega),Qe ⟨trivial,trivial⟩,f];simp only[QO];rw[Qe ⟨(by intro e;rw[e]at n;simp at n;exact b (Yu (by omega))),by omega⟩,Qb (by omega),Z7 (by omega),(Yn Zi l)];grind;simp_all
abbrev Nm:=List UInt8
def MU (l:List Nm):Qp:=l.map fun s=>[AV.str s]
def Qin (l): (MU l).length=l.length:=by simp[MU]
def Qim {l} {i:Nat} {s:Nm} (h:l[i]? =some s): (MU l)[i]? =some [AV.str s]:=by simp[MU,h]
def ixF (l:List Nm) (x:Nm):Int:=if l.contains x then(l.idxOf x:Int)else -1
def QiX {x post}: ∀{pre:List Nm},x ∉ pre->(pre ++ x:: post).idxOf x=pre.length
 | [],_=>by simp
 | a:: pre,h=>by
  have b: (a == x)=false:=by simpa using fun e=>h (by simp[e])
  rw[XQ,List.idxOf_cons,b,(QiX (x:=x) (post:=post) (pre:=pre) fun e=>h (by simp[e]))];simp
def Qum {l a b x} (h:l=a ++ x:: b) (c:a.contains x=false):ixF l x=a.length:=by
 subst h;have: (a ++ x:: b).contains x=true:=by simp
 rw[ixF,Qe this,QiX (by simpa using c)]
def Quo {l x} (a:l.contains x=false):ixF l x= -1:=by rw[ixF,a];simp
def Qun {l x}:decide (0<=ixF l x)=l.contains x:=by
 unfold ixF;cases h:l.contains x <;> simp
def QuI {b} {x a:Nm} (c:b.contains x=false) (d: ¬x=a): (b ++ [a]).contains x=false:=by
 simp only[List.contains_eq_mem,Oz,Ze,XH]at c ⊢;exact fun h=>h.elim c d
def QfK (l x p) (t:l.length < 1000000):
  ∀d b o e,l=b ++ d->b.contains x=false->e 0= .sl o 1 (MU l)->e 1= .str x->e 7= .int .i64 l.length->e 8= .int .i64 b.length->
  R tb (.loop f162l0) e p (Qi 0 (Qu tb f162r0 (Qz f162 p)))=some (.int .i64 (ixF l x),p):=by
 intro d;induction d with | nil=>intro b o e f c h m g k;simp only[QH]at f;rw[<- f]at k c;rw[Qc f162l0.eq_1,Quo c];simp[h,m,g,k,f162r0] | cons a d s=>intro b o e f c h m g k;have j:=Qim (QB f);have r:=QJ f;have i:=QN f;rw[Qc f162l0.eq_1];by_cases n:x=a;rw[Qum (by rw[f,n]) c];simp[h,m,g,k,i,j,<- n];(have q: (x == a)=false:=by simpa using n);simp[h,m,g,k,i,j,(wr1 b.length (by omega)),q,-List.contains_eq_mem];apply(fun e=>(fun e c=>s (b ++ [a]) o e (by rw[f];simp) c) e (QuI c n)) <;> simp[h,m,g]
def QkW (l) (x:Nm) (o a) (b:l.length < 1000000):call tb 162 [.sl o 1 (MU l),.str x] a=some (.int .i64 (ixF l x),a):=by
 rw[zcc 162 rfl rfl];simp[f162C,-List.contains_eq_mem];apply(fun c=>QfK l x a b l [] false c rfl rfl) <;> simp[Qin]
def QkV (l) (x:Nm) (o a) (b:l.length < 1000000):call tb 161 [.sl o 1 (MU l),.str x] a=some (.bool (l.contains x),a):=by
 rw[zcc 161 rfl rfl];simp[f161C,(QkW l x false a b),Qun,-List.contains_eq_mem]
def Sst (B0:Qp) (acc:Qj) (bs:Qp):Prop:=
 B0.length+1<=bs.length/\bs.take B0.length=B0/\
  ((acc=[]/\bs[B0.length]? =some [.gs 0 0 0 0])\/(acc≠[]/\∃g,B0.length < g/\bs[B0.length]? =some [.gs g 0 4 acc.length]/\bs[g]? =some (Ql acc)))
def QbU (d a b x) (B:Sst d a b) (K:a.length < 100000000):
  ∃k,call tb 512 [.agg (Qd x),.gp d.length 0] b=some (.tup [],k)/\Sst d (a ++ [x]) k:=by
 obtain⟨G,H,i⟩:=B;have z:=Qf x;rcases i with⟨rfl,i⟩ | ⟨o,g,E,i,u⟩;have h: ¬b.length=d.length:=by omega
 refine⟨((b ++ [Qd x]).set d.length [.gs b.length 0 4 1]),?_,?_⟩;rw[zcc 512 rfl rfl];have t: (b ++ [V2])[b.length]? =some V2:=Yv;have p: (b ++ [V2]).set b.length (Qd x)=b ++ [Qd x]:=by rw[Pk];simp
 have q: (b ++ [Qd x])[d.length]? =some [.gs 0 0 0 0]:=by rwa[Y3 (by omega)]
 simp only[V2]at t p;simp[f512,f512C,i,appM,XR,h,q,Xz];refine⟨by simp;omega,?_,.inr ⟨by simp,b.length,by omega,?_,?_⟩⟩;rwa[PR (by omega) (by omega)];rw[Pe (by simp;omega)];simp;rw[Un (by omega),Yv];simp[Y4];have h: ¬b.length=d.length:=by omega
 have C:=QF u;have c: (Ql a).length=a.length*4:=Yl QG a;have m: (Ql a).map AV.strip=Ql a:=Yn Zi a;have s: (Ql a).take (a.length*4)=Ql a:=Z7 (by omega);have v: (a.length+1)*56<=140737488355328:=by omega
 have r: ¬(a.length+1)*4<=a.length*4:=by omega
 have f: (Ql a ++ V2).take (a.length*4)++ (Qd x ++ (Ql a ++ V2).drop (a.length*4+4))=Ql (a ++ [x]):=by rw[<- c,GD,Pr (by simp[V2])];simp[Ql,Vp,Ov]
 have j: (Ql a ++ V2).length=a.length*4+4:=by rw[Zl,c];rfl
 have l:Ql a≠[]:=fun e=>by rw[e]at c;rcases a with _ | ⟨y,I⟩;exact o rfl;simp at c
 have n: (a.length:Int) < (a.length:Int)+1:=by omega
 refine⟨((b.set g []++ [Ql (a ++ [x])]).set d.length [.gs b.length 0 4 (a.length+1)]),?_,?_⟩;rw[zcc 512 rfl rfl];have t: (b.set g []++ [Ql a ++ V2])[b.length]? =some (Ql a ++ V2):=by(have:b.length=(b.set g []).length:=by simp);rw[this];exact Yv
 have p: (b.set g []++ [Ql a ++ V2]).set b.length (Ql (a ++ [x]))=b.set g []++ [Ql (a ++ [x])]:=by rw[Pk];simp
 have q: (b.set g []++ [Ql (a ++ [x])])[d.length]? =some [.gs g 0 4 a.length]:=by rwa[Y3 (by simp;omega),Un (by omega)]
 have w:V2=[.int .i64 0,.str [],.int .i64 0,.sl false 4 []]:=rfl;rw[w]at t p f j;generalize Ql (a ++ [x])=D at *;generalize Ql a=A at *;simp[f512,f512C,i,u,appM,XR,v,l,c,r,s,m,Xz];generalize A ++ [AV.int IntKind.i64 0,AV.str [],AV.int IntKind.i64 0,AV.sl false 4 []]=J at *;simp[n,q,f,j,h,Xz];refine⟨by simp;omega,?_,.inr ⟨by simp,b.length,by omega,?_,?_⟩⟩;rwa[PR (by simp;omega) (by omega),Gq (by omega)];rw[Pe (by simp;omega)];simp;rw[Un (by omega)];have:b.length=(b.set g []).length:=by simp
 rw[this,Yv]
def SOk (B0:Qp) (acc:Qj) (r:Option (AV×Qp)):Prop:=∃bs',r=some (.tup [],bs')/\Sst B0 acc bs'
def Qgy (j) (t:Tm) (B) (y:t.mass < 100000000)
  (q: ∀x∈t.kids,∀b h,Sst j b h->b.length+x.nodes < 100000000->SOk j (b ++ Zu x) (call tb 168 [.agg (Qd x),.fn 512 [.gp j.length 0]] h)):
  ∀a c b h d,t.kids=c ++ a->Sst j b h->b.length+Qs a < 100000000->d 1= .fn 512 [.gp j.length 0]->d 10= .sl false 4 (Qa t.kids)->d 11= .int .i64 t.kids.length->d 12= .int .i64 c.length->
  SOk j (b ++ Zk a) (R tb (.loop f168l0) d h (Qi 0 (Qz f168 B))):=by
 have s:=QI t;intro a;induction a with | nil=>intro c b h d i n o m e f g;simp only[QH]at i;rw[<- i]at g;rw[Qc f168l0.eq_1];refine⟨h,?_,by simpa[Zk]using n⟩;simp[e,f,g] | cons x a r=>intro c b h d i n o m e f g;have w:=QJ i;simp only[Qs]at o;obtain⟨l,u,k⟩:=q x (by rw[i];simp) b h n (by omega);(have v: (Zu x).length<=x.nodes:=by rw[Se];exact QX _);have p:=fun d=>r (c ++ [x]) _ l d (by rw[i];simp) k (by rw[Zl];omega);rw[ZX,show Zu x ++ Zk a=Zk (x:: a) by simp[Zk]]at p;rw[Qc f168l0.eq_1];simp[m,e,f,g,(QB i),(QN i),(wr1 c.length (by omega)),u];refine p _ ?_ ?_ ?_ ?_ <;> simp[m,e,f]
def Qff (e): ∀t a c,t.mass < 100000000->Sst e a c->a.length+t.nodes < 100000000->
  SOk e (a ++ Zu t) (call tb 168 [.agg (Qd t),.fn 512 [.gp e.length 0]] c):=by
 refine YC ?_;intro d n s b o a c q j l;have g:=QI (.mk d n s b);have i:=W2 (.mk d n s b);simp only[ZP,Y5]at g i;obtain⟨f,p,h⟩:=QbU e a c (.mk d n s b) j (by omega);have m:=fun r=>Qgy e (.mk d n s b) c q (fun x k a c j l=>o x k a c (by have:=QY k;simp at this;omega) j l) b [] _ f r rfl h (by rw[Zl];simp;omega);have u:a ++ Zu (.mk d n s b)=(a ++ [.mk d n s b])++ Zk b:=by simp[Zu]
 rw[u,zcc 168 rfl rfl];simp[f168C,p];simp only[ZP,ZX,XQ,Xg]at m;refine m _ ?_ ?_ ?_ ?_ <;> simp[Ya]
def QqX (L) (k B:Qp) (H:L.length < 1000000) (y: ∀x∈L,x.mass < 1000000) (X K c):
  ∀a d b j o e,L=d ++ a->Sst k b j->b.length+Qs a < 100000000->e 3= .gp k.length 0->e 6= .sl o 4 (Qa L)->e 7= .int .i64 L.length->e 8= .int .i64 d.length->
   (∀f g,Sst k (b ++ Zk a) g->f 3= .gp k.length 0->R tb c f g K=X)->
  R tb (.loop f511l0) e j (Qi 0 (Qu tb c K))=X:=by
 intro a;induction a with | nil=>intro d b j o e i q t m n l p h;simp only[QH]at i;rw[<- i]at p;rw[Qc f511l0.eq_1];simp[n,l,p];refine h _ j (by simpa[Zk]using q) ?_;simp[m] | cons x a E=>intro d b j o e i q t m n l p h;have I:=QJ i;simp only[Qs]at t;obtain⟨g,G,s⟩:=Qff k x b j (by have:=y x (by rw[i];simp);omega) q (by omega);have C:=Se x;rw[Qc f511l0.eq_1];simp[m,n,l,p,(QB i),(QN i),(wr1 d.length (by omega)),G];apply(fun e v z w D=>E (d ++ [x]) (b ++ Zu x) g o e (by rw[i];simp) s (by rw[Zl];omega) v z w D fun f r u A=>h f r (by simpa[Zk]using u) A) <;> simp[m,n,l]
def QcP (L o b) (w:L.length < 1000000) (k: ∀x∈L,x.mass < 1000000) (u:Qs L < 100000000):
  call tb 511 [.sl o 4 (Qa L)] b=some (.sl true 4 (Qa (QL (Zk L))),b):=by
 rw[zcc 511 rfl rfl];simp[f511C];refine(fun D=>QqX L b b w k (some (.sl true 4 (Qa (QL (Zk L))),b)) (Qz f511 b) f511r0 L [] [] _ false D rfl (⟨by simp,by simp,.inl ⟨rfl,Yv⟩⟩) (by simpa using u)) _ ?_ ?_ ?_ ?_ ?_;simp;simp;simp;simp;intro s c E m;obtain⟨G,C,j⟩:=E;rw[Xg]at j;have d: ∀x∈Zk L,x.mass < big:=fun x a=>by(have: ∀(l:Qj),(∀y∈l,y.mass < 1000000)->∀x∈Zk l,x.mass < 1000000:=by intro l;induction l with | nil=>intro _ x a;simp[Zk]at a | cons y r h=>intro n x a;simp only[Zk,Ze]at a;rcases a with a | a;have:=V5 y x a;have:=n y (by simp);omega;exact h (fun z t=>n z (by simp[t])) x a);have:=this L k x a;unfold big;omega
 have e: (Zk L).length < 100000000:=by(have: (Zk L).length=Qs L:=by(have: ∀l:Qj,(Zk l).length=Qs l:=by intro l;induction l with | nil=>simp[Zk,Qs] | cons y r h=>simp only[Zk,Qs,Zl,Se,h]);exact this L);omega
 generalize Zk L=A at *;rcases j with⟨f,p⟩ | ⟨f,g,p,B,q⟩;have i:=K0 c;subst f;simp[f511r0,m,p,i,C,QL,Xd,Qa];have i:=JP A c g q f e d;have v: (c.set g []).take b.length=b:=by rwa[Gq (by omega)]
 simp[f511r0,m,B,i,v,(YG _)]
structure Ded where
 r:Int
 n:Int
 a:List Int
 c:List Int
 t:Tm
abbrev Q4:=List Int
def ZB (l:Q4):Qp:=l.map fun i=>[AV.int .i64 i]
@[simp] def Qxe (l): (ZB l).length=l.length:=by simp[ZB]
@[simp] def Qxd (l) (i:Nat): (ZB l)[i]? =(l[i]?).map fun i=>[AV.int .i64 i]:=by simp[ZB]
@[simp] def Qpw: ∀l:Q4,ZL (ZB l)=true
 | []=>rfl
 | i:: l=>by
  have:=Qpw l;simp only[ZB]at this ⊢;simp[ZL,Q3,AV.gpfree,this]
def Qwk:List (Zq×Int):=[([],0),([103,105,118,101,110],0),([112,117,98,108,105,99],0),([112,97,105,114],2),([102,105,114,115,116],1),([115,101,99,111,110,100],1),([101,110,99],2),([100,101,99],2),([97,101,110,99],2),([97,100,101,99],2),([112,107],1),([115,105,103,110],2),([114,101,97,100],1),([104,97,115,104],1),([115,117,109],-1),([112,111,119,101,114],-2),([112,114,111,100,117,99,116],-1)]
def rOk (r:Int):Bool:=decide (1<=r) && decide (r<=16)
def D6 (r:Int):Int:=if rOk r then(Qwk[r.toNat]?.getD ([],0)).2 else 0
def ZS (l:List Qw):Qp:=l.map fun g=>[AV.sl false 5 (Qt g)]
@[simp] def Nw (l): (ZS l).length=l.length:=by simp[ZS]
@[simp] def Qfp (l) (i:Nat): (ZS l)[i]? =(l[i]?).map fun g=>[AV.sl false 5 (Qt g)]:=by simp[ZS]
@[simp] def Qil: ∀l:List Qw,ZL (ZS l)=true
 | []=>rfl
 | p:: l=>by
  have:=Qil l;simp only[ZS]at this ⊢;simp[ZL,Q3,AV.gpfree,this]
def Nv (a b):ZS a ++ ZS b=ZS (a ++ b):=by simp[ZS]
def Nx (g): [[AV.sl false 5 (Qt g)]]=ZS [g]:=rfl
def SmP (g:Qw):Prop:=g.length < 1000000/\∀q∈g,q.1.mass < 1000000
def SmP.big {g} (h:SmP g): ∀q∈g,q.1.mass < big:=fun q a=>by have:=h.2 q a;unfold Go.Am.big;omega
def QmZ {l t B} (hl:l.length < 100000000) (Y: ∀p∈l,p.mass < big) (I:t.mass < big) (U:Asc l) {n} (r:l[n]? =some t):
  ∀d i j o a,j - i<=d->i<=n->n<=j->j<=l.length->
  a 0= .sl o 4 (Qa l)->a 4= .bx (Qd t)->a 2= .fn 30 []->a 8= .int .i64 l.length->a 9= .int .i64 i->a 10= .int .i64 j->
  R tb (.loop f378l0) a B (Qi 0 (Qu tb f378r0 (Qz f378 B)))=some (.tup [.int .i64 n,.bool true],B):=by
 have T:=(Wj.1 r).1;have z: ∀(i j:Nat) (p q:Tm),l[i]? =some p->l[j]? =some q->i < j->Qm p q < 0:=by intro i j p q w Z G;obtain⟨V,rfl⟩:=Wj.1 w;obtain⟨c,rfl⟩:=Wj.1 Z;exact MI.1 U i j V c G
 have u: ∀(o:Bool) (a:Yd),a 0= .sl o 4 (Qa l)->a 4= .bx (Qd t)->a 2= .fn 30 []->a 8= .int .i64 l.length->a 9= .int .i64 n->a 10= .int .i64 n->R tb (.loop f378l0) a B (Qi 0 (Qu tb f378r0 (Qz f378 B)))=some (.tup [.int .i64 n,.bool true],B):=by intro o a g k c x v b;(have S: (n:Int) < (l.length:Int):=by omega);have E:=call_Compare t t B I I;rw[((Vm).2 rfl)]at E;rw[Qc f378l0.eq_1];simp[-getElem?_pos,f378r0,g,c,k,x,v,b,S,r,E]
 intro d;induction d with | zero=>intro i j o a X y D N g k c x v b;(have K:i=n:=by omega);(have J:j=n:=by omega);subst K J;exact u o a g k c x v b | succ d O=>intro i j o a X y D N g k c x v b;by_cases Q:i < j;(have C: (i+j) / 2 < l.length:=by omega);have M:=Fj (i:=i) (j:=j) (by omega);have w:=Q0 C;have L:=Y _ (VH C);(have s: (i:Int) < (j:Int):=by omega);(have hb1:i<=(i+j) / 2:=by omega);(have P: (i+j) / 2 < j:=by omega);generalize l[(i+j) / 2]=p at *;generalize W: (i+j) / 2=m at *;have E:=call_Compare p t B L I;(have A:IntKind.i64.wrap ((m:Int)+1)=((m+1:Nat):Int):=by rw[QC (by omega) (by omega)];omega);rw[Qc f378l0.eq_1];by_cases f:Qm p t < 0;(have e:m+1<=n:=by rcases LA m n with h | h | h;omega;subst h;rw[w]at r;injection r with r;subst r;have:Qm p p=0:=(Vm).2 rfl;omega;exact absurd (XE f (z n m t p r w h)) (by have:Qm p p=0:=(Vm).2 rfl;omega));have H:=fun o a=>O (m+1) j o a (by omega) e D N;simp[-getElem?_pos,g,c,k,v,b,s,M,A,w,E,f];refine H o _ ?_ ?_ ?_ ?_ ?_ ?_ <;> simp[g,c,k,x,b];(have e:n<=m:=by rcases Zt m n with h | h;exact absurd (z m n p t w r h) f;exact h);have H:=fun o a=>O i m o a (by omega) y e (by omega);simp[-getElem?_pos,g,c,k,v,b,s,M,A,w,E,f];refine H o _ ?_ ?_ ?_ ?_ ?_ ?_ <;> simp[g,c,k,x,v];(have K:i=n:=by omega);(have J:j=n:=by omega);subst K J;exact u o a g k c x v b
def QoH {l t B} (o) (d:l.length < 100000000) (b: ∀p∈l,p.mass < big) (c:t.mass < big) (f:Asc l) {n:Nat} (a:l[n]? =some t):
  call tb 378 [.sl o 4 (Qa l),.agg (Qd t),.fn 30 []] B=some (.tup [.int .i64 n,.bool true],B):=by
 have e:=(Wj.1 a).1;rw[zcc 378 rfl rfl];simp[-getElem?_pos,f378C];refine(fun g=>QmZ (B:=B) d b c f a l.length 0 l.length false g (by omega) (by omega) (by omega) (by omega)) _ ?_ ?_ ?_ ?_ ?_ ?_ <;> simp
def Vx (l:List Qw):Qj:=(l.map QW).flatten
def Y9 (l:List Qw):Qj:=QL (Vx l)
def QkL (a g):Vx (a ++ [g])=Vx a ++ QW g:=by simp[Vx]
def JJ (g a):Vx (g:: a)=QW g ++ Vx a:=by simp[Vx]
def Qas {l g q} (a:g∈l) (b:q∈g):q.1∈Vx l:=by
 simp only[Vx,Sa,Yg];exact⟨QW g,⟨g,a,rfl⟩,Yg.2 ⟨q,b,rfl⟩⟩
def BT {l t} (h:t∈Vx l): ∃g∈l,∃q∈g,q.1=t:=by
 simp only[Vx,Sa,Yg]at h;obtain⟨d,⟨g,a,rfl⟩,c⟩:=h;obtain⟨q,b,rfl⟩:=Yg.1 c;exact⟨g,a,q,b,rfl⟩
def QoG (x y a) (b:x.mass < big) (c:y.mass < big):call tb 375 [.agg (Qd x),.agg (Qd y)] a=some (.bool (decide (Qm x y=0)),a):=by
 rw[zcc 375 rfl rfl];simp[f375C,(call_Compare x y a b c)]
def QtO:EqF 375:=fun x y a c b=>QoG x y a c b
def QvE {b B v l} (h:TS b B v l) (p:l.length < 1000000) (o: ∀x∈l,x.mass < 1000000) (n) (m:n 3=v):
  R tb f373r1 n B (Qz f373 b)=some (.sl true 4 (Qa (QL l)),b):=by
 obtain⟨M,j,q,rfl,rfl,a⟩:=h;rcases a with⟨rfl,rfl,rfl⟩ | ⟨rfl,g,i,k⟩;have f:call tb 170 [.gs 0 0 0 0,.fn 30 []] (b ++ M)=some (.tup [],b ++ M):=by rw[Xv tb_170];simp[NG]
 have a:=Aa 375 (b ++ M);have e:QL []=([]:Qj):=rfl;simp[f373r1,m,f,a,Qa,e];have d: ∀x∈l,x.mass < big:=fun x c=>by have:=o x c;unfold big;omega
 have f:=MN l (b ++ M) j k (by omega) d;have a:=QcO 375 QtO (XK l) ((b ++ M).set j (Ql (XK l))) j (by rw[Qy,Qe rfl,Qe (QF k)]) (by intro e;obtain⟨x,c⟩:=Gf l i;have:=(UP (l:=l)).2 c;rw[e]at this;simp at this) (by rw[Va];omega) fun x c=>d x (UP.1 c);rw[OB,Va]at a;unfold LZ at a;rw[TJ]at a;simp only[WA g]at f a;simp[-getElem?_pos,f373r1,m,f,a,(YG (QL l))]
def QvC (g w) (u:SmP g) (c K X):
  ∀a d e B v o f,g=d ++ a->TS w B v e->e.length+a.length < 500000->
   f 3=v->f 14= .sl o 5 (Qt g)->f 15= .int .i64 g.length->f 16= .int .i64 d.length->
   (∀b n p,TS w p n (e ++ QW a)->b 3=n->b 8=f 8->b 9=f 9->b 10=f 10->R tb c b p K=X)->
  R tb (.loop f373l0) f B (Qi 2 (Qi 1 (Qu tb c K)))=X:=by
 intro a;induction a with | nil=>intro d e B v o f l h m t k i j H;simp only[QH]at l;rw[<- l]at j;obtain⟨P,D,rfl⟩:=M8 h;rw[Qc f373l0.eq_1];simp[k,i,j];refine H _ _ _ (by simpa[QW]using h) ?_ ?_ ?_ ?_ <;> simp[t] | cons q a y=>intro d e B v o f l h m t k i j H;have G:=QJ l;have r:IntKind.i64.wrap ((d.length:Int)+1)=(d.length:Int)+1:=QC (by have:=u.1;omega) (by have:=u.1;omega);simp only[ZH]at m;obtain⟨J,O,C,x,Q⟩:=Qri q.1 false h (by omega);have z:=fun f=>y (d ++ [q]) (e ++ [q.1]) O J o f (by rw[l];simp) x (by simp;omega);obtain⟨P,D,rfl⟩:=M8 h;obtain⟨E,A,rfl⟩:=M8 x;rw[Qc f373l0.eq_1];simp[-List.append_assoc,t,k,i,j,(QN l),(QB l),r,C];refine z _ ?_ ?_ ?_ ?_ ?_;simp;simp[k];simp[i];simp;intro b n p N I L M s;refine H b n p (by simpa[QW]using N) I ?_ ?_ ?_;rw[L];simp;rw[M];simp;rw[s];simp
def QvD (l t) (Q:l.length < 1000) (J: ∀g∈l,SmP g/\g.length<=200):
  ∀a f b B v o d,l=f ++ a->TS t B v b->b.length+200*a.length<=200*l.length->(∀x∈b,x.mass < 1000000)->
   d 3=v->d 8= .sl o 1 (ZS l)->d 9= .int .i64 l.length->d 10= .int .i64 f.length->
  R tb (.loop f373l1) d B (Qi 0 (Qu tb f373r1 (Qz f373 t)))=some (.sl true 4 (Qa (QL (b ++ Vx a))),t):=by
 intro a;induction a with | nil=>intro f b B v o d k i m n r w u j;simp only[QH]at k;rw[<- k]at j;have h:=fun d r=>QvE i (by simp at m;omega) n d r;(have e:b ++ Vx []=b:=by simp[Vx]);rw[Qc f373l1.eq_1,e];simp[w,u,j];apply h;simp[r] | cons g a I=>intro f b B v o d k i m n r w u j;have M:=QJ k;obtain⟨p,P⟩:=J g (by rw[k];simp);simp only[ZH]at m;(have z: (QW g).length=g.length:=by simp[QW]);(have e:b ++ Vx (g:: a)=(b ++ QW g)++ Vx a:=by rw[JJ,ZX]);have h:=fun o d c K X=>QvC g t p c K X g [] b B v o d rfl i (by omega);rw[e,Qc f373l1.eq_1];simp[-List.append_assoc,w,u,j,(QN k),(QB k)];refine h false _ _ _ _ ?_ ?_ ?_ ?_ ?_;simp[r];simp;simp;simp;intro G S O A H D E y;obtain⟨L,N,rfl⟩:=M8 A;simp[-List.append_assoc,f373r0,y,j,(wr1 f.length (by omega))];refine(fun B v d i=>I (f ++ [g]) (b ++ QW g) B v o d (by rw[k];simp) i (by rw[Zl,z];omega) (fun x s=>by rcases Ze.1 s with s | s;exact n x s;obtain⟨q,C,rfl⟩:=Yg.1 s;exact p.2 q C)) O _ _ A ?_ ?_ ?_ ?_;simp[H];simp[D,w];simp[E,u];simp
def QoF (l o a) (c:l.length < 1000) (d: ∀g∈l,SmP g/\g.length<=200):
  call tb 373 [.sl o 1 (ZS l)] a=some (.sl true 4 (Qa (Y9 l)),a):=by
 have h:=fun o b=>QvD l a c d l [] [] a (.gs 0 0 0 0) o b rfl (Qbx a) (by simp) (by simp);rw[zcc 373 rfl rfl];simp only[Xg]at h;unfold Y9;generalize Qa (QL (Vx l))=e at *;simp[f373C];refine h false _ ?_ ?_ ?_ ?_ <;> simp
def pwT:Qw->Tm->Int
 | [],_=>0
 | q:: g,t=>if Qm q.1 t=0 then q.2 else pwT g t
def Qjr: ∀{g q t},Qm q.1 t≠0->pwT (g ++ [q]) t=pwT g t
 | [],q,t,h=>by simp[pwT,h]
 | p:: g,q,t,h=>by simp only[XQ,pwT,Qjr h]
def Qjp: ∀{g q},(∀p∈g,Qm p.1 q.1≠0)->pwT (g ++ [q]) q.1=q.2
 | [],q,_=>by simp[pwT,Vm.2 rfl]
 | p:: g,q,h=>by
  simp only[XQ,pwT,Qb (h p (by simp)),(Qjp (g:=g) (q:=q) fun x a=>h x (by simp[a]))]
def Qq (l:Q4):Qx:=l.map fun i=>AV.int .i64 i
@[simp] def YI (l): (Qq l).length=l.length:=by simp[Qq]
@[simp] def Qxl (l) (i:Nat): (Qq l)[i]? =(l[i]?).map fun i=>AV.int .i64 i:=by simp[Qq]
@[simp] def Qwj (l): (Qq l).map AV.strip=Qq l:=by
 simp only[Qq,Mc];exact S6 fun i _=>rfl
def Gc:=@List.set_eq_take_append_cons_drop
def U0 (l) {n} (v) (h:n < l.length): (Qq l).take n ++ AV.int .i64 v:: (Qq l).drop (n+1)=Qq (l.set n v):=by
 rw[Gc,Qe h];simp[Qq]
def Qjy (l):Qq l=Y4 (fun i:Int=>[AV.int .i64 i]) l:=by
 induction l with | nil=>rfl | cons a l b=>rw[So,<- b];rfl
def OM (l):ZW (Qq l) 0 1 l.length=ZB l:=by
 have h:=Wd (f:=fun i:Int=>[AV.int .i64 i]) (k:=1) (fun _=>rfl) (fun _=>rfl) l [];rwa[QH,<- Qjy]at h
def Qml (n) (l:Qj) (h:l.length=n):List.replicate n (AV.int .i64 0)=Qq (l.map (pwT [])):=by
 subst h;simp only[Qq,Mc];induction l with | nil=>rfl | cons a l b=>simp only[ZH,SC,ZI,b];rfl
def QqJ {a b q n} (l:Asc a) (g:a[n]? =some q.1) (m: ∀p∈b,Qm p.1 q.1≠0):
  (a.map (pwT b)).set n q.2=a.map (pwT (b ++ [q])):=by
 apply U4;intro i;rw[Qy,Pi,Pi];by_cases c:n=i;subst c;rw[Qe rfl,Qe (by simpa using((Wj.1 g).1)),g];simp[Qjp m];rw[Qb c];rcases o:a[i]? with _ | t;rfl;have d:Qm q.1 t≠0:=by intro e;have f:=(Vm).1 e;obtain⟨j,rfl⟩:=Wj.1 o;obtain⟨k,r⟩:=Wj.1 g;rw[<- r]at f;rcases Zt n i with h | h;have:=MI.1 l n i k j h;rw[f,Vm.2 rfl]at this;omega;have:=MI.1 l i n j k (by omega);rw[f,Vm.2 rfl]at this;omega
 simp[Qjr d]
def Qto {a b q} (h:Asc (QW (a ++ q:: b))): ∀p∈a,Qm p.1 q.1≠0:=by
 intro p c;simp only[QW,Xt,ZI]at h;have:=(Gn.1 h).2.2 p.1 (Yg.2 ⟨p,c,rfl⟩) q.1 (by simp);omega
def T3:=@List.set_append_right
def QuH (a g i) (K:a.length < 1000000) (z: ∀t∈a,t.mass < 1000000) (G:Asc a) (H:SmP g) (M:Asc (QW g)) (v: ∀q∈g,q.1∈a):
  ∀c b o u d,g=b ++ c->d 0= .sl o 4 (Qa a)->d 5= .gs i.length 0 1 a.length->d 13= .sl u 5 (Qt g)->d 14= .int .i64 g.length->d 15= .int .i64 b.length->
  R tb (.loop f563l0) d (i ++ [Qq (a.map (pwT b))]) (Qi 0 (Qu tb f563r0 (Qz f563 i)))=some (.gs i.length 0 1 a.length,i ++ [Qq (a.map (pwT g))]):=by
 intro c;induction c with | nil=>intro b o u d e D s f h k;simp only[QH]at e;subst e;rw[Qc f563l0.eq_1];simp[s,f,h,k,f563r0] | cons q c I=>intro b o u d e D s f h k;have J:=QJ e;have N:=H.1;(have E:q∈g:=by rw[e];simp);obtain⟨n,y⟩:=SA (v q E);have m:=(Wj.1 y).1;have j:=U0 (a.map (pwT b)) q.2 (n:=n) (by simpa using m);rw[(QqJ G y (Qto (by rwa[<- e])))]at j;(have C: (Qq (a.map (pwT b))).length=a.length:=by simp);(have r: ∀x,(i ++ [Qq (a.map (pwT b))]).set i.length x=i ++ [x]:=fun x=>by rw[T3 _ _ (QX _)];simp);have O:=fun d=>I (b ++ [q]) o u d (by rw[e];simp);generalize Qq (a.map (pwT b))=Q at *;generalize Qq (a.map (pwT (b ++ [q])))=S at *;generalize Qq (a.map (pwT g))=P at *;have w:n+1<=a.length:=m;(have A: (n:Int) < (a.length:Int):=by omega);rw[Qc f563l0.eq_1];simp[-getElem?_pos,Qo,Zd,D,s,f,h,k,(QN e),(QB e),(wr1 b.length (by omega)),(fun o B=>QoH (l:=a) (t:=q.1) (B:=B) o (by omega) (fun p L=>by have:=z p L;unfold big;omega) (H.big q E) G y),w,A,(Yv),C,j,r];apply O <;> simp[D,s,f,h]
def F6 (a g o k b) (d:a.length < 1000000) (f: ∀t∈a,t.mass < 1000000) (m:Asc a) (j:SmP g) (e:Asc (QW g)) (c: ∀q∈g,q.1∈a):
  call tb 563 [.sl o 4 (Qa a),.sl k 5 (Qt g)] b=some (.gs b.length 0 1 a.length,b ++ [Qq (a.map (pwT g))]):=by
 have h:=fun i=>QuH a g b d f m j e c g [] false false i rfl;have l:a.length*8<=140737488355328:=by omega
 have n: (a.length:Int)<=4611686018427387904:=by omega
 rw[zcc 563 rfl rfl];rw[<- (Qml a.length a rfl)]at h;generalize Qq (a.map (pwT g))=p at *;simp[f563C,l,n];apply h <;> simp
def nz (i:Int):Bool:= !decide (i=0)
def okG (g:Qw):Prop:=Q5 g=0/\SmP g
def okG.asc {g} (h:okG g):Asc (QW g):=(TD h.1 h.2.big).1.asc
def okG.bd {g} (h:okG g): ∀q∈g,-1000<=q.2/\q.2<=1000:=fun q b=>by
 have a:=h.1;unfold Q5 at a;split at a;cases a;exact⟨((MH g none a).1 q b).2.2.2.1,((MH g none a).1 q b).2.2.2.2⟩
def okG.len {g} (h:okG g):g.length<=200:=(TD h.1 h.2.big).2.1
def G1 {l} (m:l.length<=1000) (e: ∀g∈l,okG g): (Y9 l).length < 1000000/\(∀t∈Y9 l,t.mass < 1000000)/\Asc (Y9 l)/\∀g∈l,∀q∈g,q.1∈Y9 l:=by
 refine⟨?_,?_,XW _,fun g c q d=>ZO.2 (Qas c d)⟩;have f: ∀(l:List Qw),(∀g∈l,okG g)->(Vx l).length<=200*l.length:=by intro l;induction l with | nil=>intro _;simp[Vx] | cons g l i=>intro h;have a:=(h g (by simp)).len;have b:=i fun x k=>h x (by simp[k]);rw[JJ,Zl,ZH];(have: (QW g).length=g.length:=by simp[QW]);omega
 have o:=f l e;have n:=U1 (Vx l);unfold Y9;omega;intro t j;obtain⟨g,c,q,d,rfl⟩:=BT (ZO.1 j);exact(e g c).2.2 q d
def Qmp (g t l) (n:SmP g) (u:t.mass < 1000000):
  ∀a b o d,g=b ++ a->d 0= .sl o 5 (Qt g)->d 3= .bx (Qd t)->d 5= .int .i64 b.length->
  R tb (.loop f326l0) d l (Qi 0 (Qu tb f326r0 (Qz f326 l)))=some (.int .i64 (pwT a t),l):=by
 intro a;induction a with | nil=>intro b o d e i k f;simp only[QH]at e;rw[<- e]at f;rw[Qc f326l0.eq_1];simp[i,f,pwT,f326r0] | cons q a s=>intro b o d e i k f;have h:=QB e;have p:=QJ e;have r:=n.1;have j:=QN e;have m:=Vs q.1 t l (n.big q (by rw[e];simp)) (by unfold big;omega);rw[Qc f326l0.eq_1];by_cases c:Qm q.1 t=0;simp only[pwT,Qe c];simp[-getElem?_pos,i,k,f,j,h,m,c];simp only[pwT,Qb c];generalize pwT a t=X at *;simp[-getElem?_pos,i,k,f,j,h,m,c,(wr1 b.length (by omega))];apply(fun d=>s (b ++ [q]) o d (by rw[e];simp)) <;> simp[i,k]
def QcN (g t o a) (c:SmP g) (d:t.mass < 1000000):call tb 326 [.sl o 5 (Qt g),.agg (Qd t)] a=some (.int .i64 (pwT g t),a):=by
 have h:=fun b=>Qmp g t a c d g [] false b rfl;rw[zcc 326 rfl rfl];generalize pwT g t=X at *;simp[f326C];apply h <;> simp
def Qv3 (l g) (i:Nat) (v) (w:l[i]? =some g) (y:SmP g) (c K X):
  ∀a e b o k f,g=e ++ a->b.length+a.length < 500000->(∀x∈b,x.mass < 1000000)->
   f 0= .sl o 1 (ZS l)->f 3= .sl k 4 (Qa b)->f 4= .int .i64 i->f 5= .int .i64 e.length->
   (∀d k,d 0=f 0->d 3= .sl k 4 (Qa (Xd b (QW a)))->d 4=f 4->R tb c d v K=X)->
  R tb (.loop f324l0) f v (Qi 2 (Qi 1 (Qu tb c K)))=X:=by
 intro a;induction a with | nil=>intro e b o k f h p j m s r t H;simp only[QH]at h;rw[<- h]at t;rw[Qc f324l0.eq_1];simp[-getElem?_pos,Qo,m,s,r,t,w];refine H _ k ?_ ?_ ?_ <;> simp[m,s,Xd,QW] | cons q a B=>intro e b o k f h p j m s r t H;have I:=QJ h;have G:=y.1;simp only[ZH]at p;have u:=y.2 q (by rw[h];simp);have z:=Mg q.1 b;have C:=fun f=>B (e ++ [q]) (ZA q.1 b) o false f (by rw[h];simp) (by omega) (fun x n=>by rcases Uk.1 n with rfl | n;exact u;exact j x n);rw[Qc f324l0.eq_1];simp[-getElem?_pos,Qo,m,s,r,t,w,(QN h),(QB h),(wr1 e.length (by omega)),(fun o=>Ac b q.1 o v (by omega) (fun x n=>by have:=j x n;unfold big;omega) (by unfold big;omega))];refine C _ ?_ ?_ ?_ ?_ ?_;simp[m];simp;simp[r];simp;intro d J E A D;refine H d J ?_ (by simpa[QW,Xd]using A) ?_;rw[E];simp;rw[D];simp
def QbH (a l): (Xd a l).length<=a.length+l.length:=L7 l a
def Qv4 (l s) (I:l.length < 1000) (B: ∀g∈l,SmP g/\g.length<=200):
  ∀a d b o h f,l=d ++ a->b.length+200*a.length<=200*l.length->(∀x∈b,x.mass < 1000000)->
   f 0= .sl o 1 (ZS l)->f 3= .sl h 4 (Qa b)->f 4= .int .i64 d.length->
  R tb (.loop f324l1) f s (Qi 0 (Qu tb f324r1 (Qz f324 s)))=some (.sl false 4 (Qa (Xd b (Vx a))),s):=by
 intro a;induction a with | nil=>intro d b o h f i r j n t k;simp only[QH]at i;rw[<- i]at k;rw[Qc f324l1.eq_1];simp[n,t,k,f324r1,Vx,Xd] | cons g a w=>intro d b o h f i r j n t k;have G:=QJ i;obtain⟨p,E⟩:=B g (by rw[i];simp);simp only[ZH]at r;(have z: (QW g).length=g.length:=by simp[QW]);have u:=QbH b (QW g);(have e:Xd b (Vx (g:: a))=Xd (Xd b (QW g)) (Vx a):=by rw[JJ,Qe0]);rw[e,Qc f324l1.eq_1];simp[n,k,(QN i)];refine(fun o h f c K X=>Qv3 l g d.length s (QB i) p c K X g [] b o h f rfl (by omega) j) o h _ _ _ _ ?_ ?_ ?_ ?_ ?_;simp[n];simp[t];simp[k];simp;intro H C D y A;simp[f324r0,A,k,(wr1 d.length (by omega))];refine(fun h f=>w (d ++ [g]) (Xd b (QW g)) o h f (by rw[i];simp) (by omega) (fun x m=>by rcases Ku.1 m with m | m;exact j x m;obtain⟨q,v,rfl⟩:=Yg.1 m;exact p.2 q v)) C _ ?_ ?_ ?_;simp[D,n];simp[y];simp
def QoB (l o a) (c:l.length < 1000) (d: ∀g∈l,SmP g/\g.length<=200):
  call tb 324 [.sl o 1 (ZS l)] a=some (.sl false 4 (Qa (Y9 l)),a):=by
 have h:=fun o b=>Qv4 l a c d l [] [] o true b rfl (by simp) (by simp);rw[zcc 324 rfl rfl];have e:Qa (Xd [] (Vx l))=Qa (Y9 l):=rfl;rw[e]at h;generalize Qa (Y9 l)=f at *;simp[f324C];refine h false _ ?_ ?_ ?_ <;> simp[Qa]
def Yt (l:Qw):Qw:=l.map fun q=>(q.1,-q.2)
def Mu (l): (Yt l).length=l.length:=by simp[Yt]
def QlX (m l w t) (S:l.length < 1000000) (I: ∀q∈l,-100000000 < q.2/\q.2 < 100000000) (i:m.length<=w):
  ∀b a M d,l=a ++ b->(m ++ M)[w]? =some (Zb (Yt a ++ b)++ t)->
   d 3= .gs w 0 5 l.length->d 8= .int .i64 l.length->d 9= .int .i64 a.length->
  Bi (Yt l) m (R tb (.loop f363l0) d (m ++ M) (Qi 0 (Qu tb f363r0 (Qz f363 m)))):=by
 intro b;induction b with | nil=>intro a M d g j p r z;simp only[QH]at g j;subst g;by_cases c:l.length=0;have:l=[]:=Yu c;subst this;refine⟨false,?_⟩;rw[Qc f363l0.eq_1];simp at p;simp[p,r,z,f363r0,Z8,Qt,Yt];refine⟨true,?_⟩;(have o:l.length*5<=(Zb (Yt l)++ t).length:=by rw[Zl,Wi,Mu];omega);have u:ZW (Zb (Yt l)++ t) 0 5 (Yt l).length=Qt (Yt l):=Wd (f:=Q9) (k:=5) WY Wt (Yt l) t;rw[Mu]at u;have B:=Mp (Yt l);generalize Zb (Yt l)++ t=P at *;generalize Qt (Yt l)=T at *;rw[Qc f363l0.eq_1];simp[-getElem?_pos,p,r,z,f363r0,Z8,c,j,o,u,B,WA i] | cons q b L=>intro a M d g j p r z;have C:=QN g;(have G:a.length < l.length:=by omega);have N:=I q (by rw[g];simp);have D:IntKind.i64.wrap (-q.2)= -q.2:=QC (by omega) (by omega);have h:=Mu a;(have H: (Yt a ++ q:: b)[a.length]? =some q:=by rw[Yq (by omega),h];simp);have v:=LV H t;(have E: (Zb (Yt a ++ q:: b)++ t).length=l.length*5+t.length:=by rw[Zl,Wi,Zl,h,(QJ g),ZH]);(have n: (Zb (Yt a ++ q:: b)++ t)[a.length*5+4]? =some (.int .i64 q.2):=by(have y: (((Zb (Yt a ++ q:: b)++ t).drop (a.length*5)).take 5)[4]? =some (.int .i64 q.2):=by rw[v];simp);rwa[VV (by omega),Vf]at y);(have o:a.length*5+4+1<=(Zb (Yt a ++ q:: b)++ t).length:=by omega);(have s: (Zb (Yt a ++ q:: b)++ t).take (a.length*5+4)++ (AV.int .i64 (-q.2):: (Zb (Yt a ++ q:: b)++ t).drop (a.length*5+4+1))=Zb (Yt (a ++ [q])++ b)++ t:=by(have e:Yt (a ++ [q])++ b=Yt a ++ (q.1,-q.2):: b:=by simp[Yt]);rw[e];have y:=Ow (f:=Q9) (k:=5) WY (pre:=Yt a) (q.1,-q.2) (rfl:Yt a ++ q:: b=Yt a ++ q:: b) t;rw[h]at y;rw[show Zb (Yt a ++ (q.1,-q.2):: b)++ t=_ from y.symm];(have O: (Zb (Yt a ++ q:: b)++ t).take (a.length*5+4)=(Zb (Yt a ++ q:: b)++ t).take (a.length*5)++ Qd q.1:=by rw[List.take_add];congr 1;(have: ((Zb (Yt a ++ q:: b)++ t).drop (a.length*5)).take 4=(((Zb (Yt a ++ q:: b)++ t).drop (a.length*5)).take 5).take 4:=by rw[LF];rfl);rw[this];rw[v];simp);rw[O];simp[Q9]);(have A: ∀x:Qx,(m ++ M.set (w - m.length) x)[w]? =some x:=fun x=>by rw[<- WA i,Qy,Qe rfl,Qe (QF j)]);have J:=fun M d j=>L (a ++ [q]) M d (by rw[g];simp) j;generalize Zb (Yt (a ++ [q])++ b)++ t=K at *;generalize Zb (Yt a ++ q:: b)++ t=Q at *;rw[Qc f363l0.eq_1];simp[-getElem?_pos,p,r,z,C,j,n,o,D,(wr1 a.length (by omega)),s,WA i];refine J _ _ (A K) ?_ ?_ ?_ <;> simp[p,r]
def QoE (l o a) (i:l.length < 1000000) (d: ∀q∈l,q.1.mass < big) (f: ∀q∈l,-100000000 < q.2/\q.2 < 100000000):Bi (Yt l) a (call tb 363 [.sl o 5 (Qt l)] a):=by
 obtain⟨v,B,c,M,h,p,rfl,rfl,j⟩:=QcE l false a (by omega) d;rw[zcc 363 rfl rfl];rcases j with⟨rfl,rfl,rfl⟩ | ⟨rfl,b,t,m,g⟩;have e:Qt []=[]:=rfl;rw[e]at c;refine⟨true,?_⟩;have n:Yt []=[]:=rfl;simp[f363C,c,e,n];rw[Qc f363l0.eq_1];simp[f363r0,Z8];simp[f363C,c];apply(fun k=>QlX a l h t i f b l [] M k rfl (by simpa[Yt]using m)) <;> simp
def Qjv (l g) (u:l.length < 1000000) (k: ∀q∈l,-100000000 < q.2/\q.2 < 100000000):
  ∀b a o c,l=a ++ b->c 0= .sl o 5 (Qt l)->c 3= .sl true 5 (Qt (Yt a))->c 4= .int .i64 a.length->
  R tb (.loop f319l0) c g (Qi 0 (Qu tb f319r0 (Qz f319 g)))=some (.sl false 5 (Qt (Yt l)),g):=by
 intro b;induction b with | nil=>intro a o c d e h f;simp only[QH]at d;subst d;rw[Qc f319l0.eq_1];simp[e,h,f,f319r0] | cons q b j=>intro a o c d e h f;have t:=QJ d;have p:=k q (by rw[d];simp);have i:IntKind.i64.wrap (-q.2)= -q.2:=QC (by omega) (by omega);have r: (a.length+1)*64<=140737488355328:=Kt (by omega);have s:Qd q.1 ++ [AV.int .i64 (-q.2)]=Q9 (q.1,-q.2):=rfl;(have m: (Qd q.1 ++ [AV.int .i64 0]).drop 5=[]:=by simp[Ya]);(have n:Qt (Yt a)++ [Q9 (q.1,-q.2)]=Qt (Yt (a ++ [q])):=by simp[Qt,Yt]);rw[Qc f319l0.eq_1];simp[-getElem?_pos,e,h,f,(QN d),(QB d),i,(wr1 a.length (by omega)),(Mu a),r,m,s,n];apply(fun c=>j (a ++ [q]) o c (by rw[d];simp)) <;> simp[e]
def Qoy (l o a) (b:l.length < 1000000) (c: ∀q∈l,-100000000 < q.2/\q.2 < 100000000):call tb 319 [.sl o 5 (Qt l)] a=some (.sl false 5 (Qt (Yt l)),a):=by
 rw[zcc 319 rfl rfl];simp[f319C];apply(fun d=>Qjv l a b c l [] false d rfl) <;> simp[Qt,Yt]
def TY {t} (h:t.mass < 1000000):SmP (ofP t):=⟨by have:=Uz t;omega,fun q a=>by have:=Ms t t.mass (QX _) q a;omega⟩
def Qbp {a b} (d:SmP a) (e:SmP b):SmP (X2 a b):=⟨by have:=HJ a b;omega,fun q c=>by
 have:=Ep (a:=a) (b:=b) (M:=999999) (fun q c=>by have:=d.2 q c;omega) (fun q c=>by have:=e.2 q c;omega) q c;omega⟩
def QuC {t} (h:t.mass < 1000000): ∀q∈ofP t,-100000000 < q.2/\q.2 < 100000000:=fun q a=>by
 unfold ofP at a;split at a;have:=(M4 t [] 1 0 (by unfold big;omega) (.inl rfl) Mz).bd q a;have b:=YU t;omega;cases a
def Qbq {a} (b:SmP a):SmP (Yt a):=⟨by rw[Mu];exact b.1,fun q d=>by
 obtain⟨p,c,rfl⟩:=Yg.1 d;exact b.2 p c⟩
def Rf (t:Tm):Bool:=isB t EXP && decide (t.kids.length=2)
def Ws (t:Tm):Tm:=if Rf t then kid t 0 else t
def YO (t:Tm):Qw:=if Rf t then ofP (kid t 1)else []
def ML {t} (h:t.kids.length=2):t.kids=[kid t 0,kid t 1]:=by
 rcases d:t.kids with _ | ⟨a,r⟩;rw[d]at h;simp at h;rcases r with _ | ⟨b,e⟩;rw[d]at h;simp at h;rcases e with _ | ⟨c,f⟩;simp[kid,d];rw[d]at h;simp at h
def Nt (t): (Ws t).mass<=t.mass:=by
 unfold Ws;split;exact VN t 0;exact QX _
def M7 {t} (h:t.mass < 1000000):SmP (YO t)/\∀q∈YO t,-100000000 < q.2/\q.2 < 100000000:=by
 unfold YO;split;have:=VN t 1;exact⟨TY (by omega),QuC (by omega)⟩;exact⟨⟨by simp,fun q h=>by cases h⟩,fun q h=>by cases h⟩
def Qru (t:Tm) (bs:Qp) (r:Out):Prop:=∃o,r=some (.tup [.agg (Qd (Ws t)),.sl o 5 (Qt (YO t))],bs)
def QcK (t b) (i:t.mass < 1000000) (h:isB t EXP=true->t.kids.length=2):Qru t b (call tb 318 [.agg (Qd t)] b):=by
 have a:=Ww t EXP b;have e:=Ya t;rw[zcc 318 rfl rfl];cases c:isB t EXP;have d:Rf t=false:=by simp[Rf,c]
 rw[c]at a;unfold EXP at a;refine⟨false,?_⟩;simp[f318C,a,Ws,YO,d,Qt,Qf];have f:=h c;have d:Rf t=true:=by simp[Rf,c,f]
 rw[c]at a;unfold EXP at a;have j:=VN t 1;refine⟨false,?_⟩;have g:Qa t.kids=[Qd (kid t 0),Qd (kid t 1)]:=by rw[(ML f)];simp[Qa]
 rw[g]at e;simp only[e]at a ⊢;simp[f318C,a,(NK (kid t 1) b (by omega)),Ws,YO,d,Qf]
def Rk (u a:Tm):Bool:=decide (Qm (Ws u) (Ws a)=0) && decide (VP (YO u) (Yt (YO a))=0)
def PJ (u a:Tm):Qw:=X2 (YO u) (Yt (YO a))
def Qf7 {t} (h:Xp t=0):Zn t=true/\t.mass<=13200:=by
 unfold Xp at h;by_cases c:thV t=0;obtain⟨_,_,a,b,_⟩:=LW c;exact⟨a,b⟩;simp[c]at h
def Qp0 {t} (a:Zn t=true) (b:t.kind=3):t.sort=0/\Xb t.name t.kids.length=true:=by
 rw[HA]at a;simp[b]at a;exact a.1
def Tg (n:Zq):Prop:=n=Z3\/n=ENC\/n=Zz\/n=Yc\/n=EXP
def gd2 {t n} (c:Zn t=true) (h:isB t n=true) (b:Tg n):t.kids.length=2/\t.sort=0:=by
 obtain⟨d,rfl⟩:=RN.1 h;obtain⟨e,a⟩:=Qp0 c d;refine⟨?_,e⟩;unfold Xb at a;rw[Qe (by unfold Tg at b;rcases b with h | h | h | h | h <;> simp[h])]at a;simpa using a
structure AOk (d:Ded) (a:List Tm):Prop where
 ok:rOk d.r=true
 n0:0<=d.n
 n1:d.n<=1000000
 len:0<=D6 d.r->(a.length:Int)=D6 d.r
 p15:d.r=15->a≠[]
 al:a.length < 10000
 ml:Qv a < 20000000
 good: ∀x∈a,Xp x=0
 td:Xp d.t=0
 cl:d.c.length < 1000000
def AOk.gd {d a} (h:AOk d a): ∀x∈a,Zn x=true/\x.mass < 1000000:=fun x c=>by
 obtain⟨b,e⟩:=Qf7 (h.good x c);exact⟨b,by omega⟩
def AOk.one {d a} (h:AOk d a) (b:D6 d.r=1): ∃x,a=[x]:=by
 have:=h.len (by omega);rw[b]at this;rcases a with _ | ⟨x,r⟩;simp at this;rcases r with _ | ⟨y,c⟩;exact⟨x,rfl⟩;simp at this;omega
def AOk.two {d a} (h:AOk d a) (c:D6 d.r=2): ∃x y,a=[x,y]:=by
 have:=h.len (by omega);rw[c]at this;rcases a with _ | ⟨x,r⟩;simp at this;rcases r with _ | ⟨y,b⟩;simp at this;rcases b with _ | ⟨z,e⟩;exact⟨x,y,rfl⟩;simp at this;omega
section
variable {α:Type}
def xv (a b:α->Bool):α->Bool:=fun t=>a t ^^ b t
def zv0:α->Bool:=fun _=>false
def N1 (a:α->Bool):xv a zv0=a:=by funext t;simp[xv,zv0]
def Qex (a:α->Bool):xv zv0 a=a:=by funext t;simp[xv,zv0]
def LY (a:α->Bool):xv a a=zv0:=by funext t;simp[xv,zv0]
def Qrs (a b:α->Bool):xv a b=xv b a:=by funext t;simp[xv,Bool.xor_comm]
def Sv (a b c:α->Bool):xv (xv a b) c=xv a (xv b c):=by funext t;simp[xv]
def M9 (a b:α->Bool):xv a (xv a b)=b:=by rw[<- Sv,LY,Qex]
inductive Sp (L:List (α->Bool)): (α->Bool)->Prop
 | zero:Sp L zv0
 | add {v w:α->Bool}:v∈L->Sp L w->Sp L (xv v w)
def Sp.mem {L} {v:α->Bool} (h:v∈L):Sp L v:=by
 have:=Sp.add h Sp.zero;rwa[N1]at this
def Sp.sum {L} {v w:α->Bool} (h:Sp L v) (c:Sp L w):Sp L (xv v w):=by
 induction h with | zero=>rwa[Qex] | add a _ b=>rw[Sv];exact .add a b
def Sp.sub {L M} {v:α->Bool} (h: ∀x∈L,Sp M x) (b:Sp L v):Sp M v:=by
 induction b with | zero=>exact .zero | add a _ c=>exact(h _ a).sum c
def Sp.mono {L M} {v:α->Bool} (h: ∀x∈L,x∈M) (a:Sp L v):Sp M v:=a.sub fun x d=> .mem (h x d)
def Sp.cons {r L} {v:α->Bool} (h:Sp (r:: L) v):Sp L v\/Sp L (xv r v):=by
 induction h with | zero=>exact .inl .zero | @add x w b _ a=>rcases Zf.1 b with rfl | b;rcases a with a | a;exact .inr (by rwa[M9]);exact .inl a;rcases a with a | a;exact .inl (.add b a);exact .inr (by have:=Sp.add b a;rwa[<- Sv,Qrs x r,Sv]at this)
def Tri:List (α×(α->Bool))->Prop
 | []=>True
 | (p,r):: R=>r p=true/\(∀x∈R,x.2 p=false)/\Tri R
def QuZ {p L} (h: ∀x∈L,x p=false) {v:α->Bool} (b:Sp L v):v p=false:=by
 induction b with | zero=>rfl | add a _ c=>simp[xv,h _ a,c]
def Qbw: ∀{R} {v:α->Bool},Tri R->Sp (R.map (·.2)) v->(∀x∈R,v x.1=false)->v=zv0
 | [],v,_,h,_=>by
  cases h with | zero=>rfl | add g _=>simp at g
 | (p,r):: R,v,⟨c,f,e⟩,h,b=>by
  rw[ZI]at h;rcases h.cons with h | h;exact Qbw e h fun x a=>b x (by simp[a]);have:=QuZ (by intro x a;obtain⟨y,d,rfl⟩:=Yg.1 a;exact f y d) h;simp[xv,c,(b (p,r) (by simp))]at this
def Qbv {R} {v w:α->Bool} (c:Tri R) (a:Sp (R.map (·.2)) (xv v w)) (b: ∀x∈R,w x.1=false):w=zv0↔Sp (R.map (·.2)) v:=by
 constructor;intro h;rwa[h,N1]at a;intro h;have:=h.sum a;rw[M9]at this;exact Qbw c this b
end
end Go.Am
namespace Go.Am
set_option maxRecDepth 20000
def TAt (l:Qj) (t:Tm) (k:Nat):Prop:=k<=l.length/\(∀(i:Nat) (p:Tm),l[i]? =some p->i < k->Qm p t < 0)/\(∀(i:Nat) (p:Tm),l[i]? =some p->k<=i->¬Qm p t < 0)
def TZ (l:Qj) (t:Tm) (k:Nat):Bool:=match l[k]? with
 | some p=>decide (Qm p t=0)
 | none=>false
def QeZ (l:Qj) (t:Tm) (B:Qp) (r:Out):Prop:=∃k,TAt l t k/\r=some (.tup [.int .i64 k,.bool (TZ l t k)],B)
def BE:=@List.any_eq_false
def HV {l t k} (r:Asc l) (h:TAt l t k):TZ l t k=QA l t:=by
 obtain⟨s,f,o⟩:=h;unfold TZ QA;rcases a:l[k]? with _ | p;symm;rw[BE];intro x d;obtain⟨i,b⟩:=SA d;have:i < k:=by rcases Zt i k with h | h;exact h;have u:=(Wj.1 b).1;(have:k < l.length:=by omega);rw[Q0 this]at a;cases a
 have:=f i x b this;simp;omega;simp only;rw[Gz,T9];constructor;intro h;exact⟨p,X9 a,h⟩;rintro⟨x,d,n⟩;have e:Qm x t=0:=by simpa using n
 obtain⟨i,b⟩:=SA d;rcases LA i k with h | h | h;have:=f i x b h;omega;subst h;rw[b]at a;cases a;simpa using e;obtain⟨m,g⟩:=Wj.1 b;obtain⟨q,j⟩:=Wj.1 a;have c:=MI.1 r k i q m h;rw[g,j,(Vm.1 e)]at c;exact absurd c (o k p a (QX _))
def QmI {l t B} (Z:l.length < 100000000) (Q: ∀p∈l,p.mass < big) (O:t.mass < big) (S:Asc l):
  ∀d i j o b,j - i<=d->i<=j->j<=l.length->(∀k p,l[k]? =some p->k < i->Qm p t < 0)->(∀k p,l[k]? =some p->j<=k->¬Qm p t < 0)->
  b 0= .sl o 4 (Qa l)->b 4= .bx (Qd t)->b 2= .fn 30 []->b 8= .int .i64 l.length->b 9= .int .i64 i->b 10= .int .i64 j->
  QeZ l t B (R tb (.loop f524l0) b B (Qi 0 (Qu tb f524r0 (Qz f524 B)))):=by
 have u: ∀(i j:Nat) (p q:Tm),l[i]? =some p->l[j]? =some q->i<=j->Qm q t < 0->Qm p t < 0:=by intro i j p q e z y h;rcases Zt i j with E | T;obtain⟨W,rfl⟩:=Wj.1 e;obtain⟨c,rfl⟩:=Wj.1 z;exact XE (MI.1 S i j W c E) h;(have:i=j:=by omega);subst this;rw[e]at z;cases z;exact h
 intro d;induction d with | zero=>intro i j o b X y I n f r w c C A a;(have:i=j:=by omega);subst this;refine⟨i,⟨I,n,f⟩,?_⟩;rw[Qc f524l0.eq_1];by_cases K:i < l.length;have e:=Q0 K;have x:=Q _ (VH K);(have v: (i:Int) < (l.length:Int):=by omega);(have L:TZ l t i=decide (Qm l[i] t=0):=by simp[TZ,e]);rw[L];generalize l[i]=p at *;have H:=call_Compare p t B x O;simp[-getElem?_pos,f524r0,r,c,w,C,A,a,v,e,H];(have L:TZ l t i=false:=by simp[TZ,ZF (Gx K)]);(have v: ¬(i:Int) < (l.length:Int):=by omega);simp[f524r0,r,c,C,A,a,v,L] | succ d M=>intro i j o b X y I n f r w c C A a;by_cases E:i < j;(have D: (i+j) / 2 < l.length:=by omega);have P:=Fj (i:=i) (j:=j) (by omega);have e:=Q0 D;have x:=Q _ (VH D);(have s: (i:Int) < (j:Int):=by omega);(have V:i<=(i+j) / 2:=by omega);(have U: (i+j) / 2 < j:=by omega);generalize l[(i+j) / 2]=p at *;generalize Y: (i+j) / 2=m at *;have H:=call_Compare p t B x O;(have G:IntKind.i64.wrap ((m:Int)+1)=((m+1:Nat):Int):=by rw[QC (by omega) (by omega)];omega);rw[Qc f524l0.eq_1];by_cases g:Qm p t < 0;have J:=fun o b=>M (m+1) j o b (by omega) (by omega) I (fun k q z N=>u k m q p z e (by omega) g) f;simp[-getElem?_pos,r,c,w,A,a,s,P,G,e,H,g];refine J o _ ?_ ?_ ?_ ?_ ?_ ?_ <;> simp[r,c,w,C,a];have J:=fun o b=>M i m o b (by omega) (by omega) (by omega) n (fun k q z N h=>g (u m k p q e z N h));simp[-getElem?_pos,r,c,w,A,a,s,P,G,e,H,g];refine J o _ ?_ ?_ ?_ ?_ ?_ ?_ <;> simp[r,c,w,C,A];exact M i j o b (by omega) y I n f r w c C A a
def QcU {l t B} (o) (d:l.length < 100000000) (c: ∀p∈l,p.mass < big) (g:t.mass < big) (e:Asc l):
  QeZ l t B (call tb 524 [.sl o 4 (Qa l),.agg (Qd t),.fn 30 []] B):=by
 rw[zcc 524 rfl rfl];simp[-getElem?_pos,f524C];refine(fun f=>QmI (B:=B) d c g e l.length 0 l.length false f (by omega) (by omega) (by omega) (fun k p _ b=>by omega) (fun k p a b=>by rw[ZF b]at a;cases a)) _ ?_ ?_ ?_ ?_ ?_ ?_ <;> simp
def PZ (s t o B) (d:s.length < 100000000) (c: ∀p∈s,p.mass < big) (e:t.mass < big) (a:Asc s):
  call tb 530 [.sl o 4 (Qa s),.agg (Qd t)] B=some (.bool (QA s t),B):=by
 obtain⟨k,f,b⟩:=QcU (B:=B) false d c e a;rw[HV a f]at b;rw[zcc 530 rfl rfl];simp[f530C,b,Qf]
def QnT {l t k} (h:TAt l t k) (c:TZ l t k=false):ZA t l=l.take k ++ t:: l.drop k:=by
 obtain⟨f,d,e⟩:=h;induction l generalizing k with | nil=>(have:k=0:=by simpa using f);subst this;rfl | cons x l n=>cases k with | zero=>have j:=e 0 x rfl (QX _);(have g: ¬Qm x t=0:=by simpa[TZ]using c);(have a:Qm t x < 0:=by have:=Xh t x;omega);simp[ZA,a] | succ k=>have j:=d 0 x rfl (by omega);(have g: ¬Qm t x < 0:=by have:=Xh t x;omega);(have a: ¬Qm t x=0:=by have:=Xh t x;omega);have:=n (k:=k) (by simpa[TZ]using c) (by simpa using f) (fun i p b m=>d (i+1) p (by simpa using b) (by omega)) (fun i p b m=>e (i+1) p (by simpa using b) (by omega));simp[ZA,g,a,this]
def GL:=@List.any_cons
def QkJ {l t} (k:Asc l) (h:QA l t=true):ZA t l=l:=by
 induction l with | nil=>simp[QA]at h | cons x l f=>obtain⟨e,d⟩:=YQ.1 k;by_cases c:Qm t x=0;(have: ¬Qm t x < 0:=by omega);simp[ZA,c];(have a:QA l t=true:=by unfold QA at h ⊢;rw[GL]at h;(have:decide (Qm x t=0)=false:=by have:=Xh t x;simp;omega);rwa[this,Pm]at h);(have b: ¬Qm t x < 0:=by intro m;unfold QA at a;obtain⟨y,i,j⟩:=T9.1 a;have g:=Vm.1 (by simpa using j);subst g;have:=e y i;have:=Xh y x;omega);simp[ZA,c,b,f d a]
def QwK (l:Qj) (bs:Qp) (r:Out):Prop:=∃o,r=some (.sl o 4 (Qa l),bs)
def QcT (s t o B) (V:s.length < 1000000) (J: ∀p∈s,p.mass < big) (Q:t.mass < big) (u:Asc s):
  QwK (ZA t s) B (call tb 523 [.sl o 4 (Qa s),.agg (Qd t)] B):=by
 obtain⟨k,D,q⟩:=QcU (B:=B) false (by omega) J Q u;rw[zcc 523 rfl rfl];cases x:TZ s t k;rw[x]at q;have h:=QnT D x;have z:=D.1;have g: (ZA t s).length=s.length+1:=by rw[h];simp;omega
 have C: (s.take k).length=k:=by rw[Ye];omega
 have a:s=s.take k ++ s.drop k:=(N8 _ _).symm;have O:s.length*56<=140737488355328:=by omega
 have n: ∃M j,call tb 525 [.sl false 4 (Qa s)] B=some (j,B ++ M)/\∃d E,call tb 526 [j,.int .i64 k,.sl false 4 [Qd t]] (B ++ M)=some (.gs d 0 4 (s.length+1),B ++ E)/\B.length<=d/\(B ++ E)[d]? =some (Ql (ZA t s))/\j.ok=true/\j.strip=j:=by rw[Xv tb_525];by_cases c:s.length=0;have:s=[]:=Yu c;subst this;(have y:k=0:=by simpa using z);subst y;refine⟨[],.gs 0 0 0 0,by simp[WD,Ui,Qa],B.length,[Qd t],?_,QX _,?_,rfl,rfl⟩;rw[Xv tb_526];simp[Lk,PC,Kr];simp[ZA,Ql,Y4];refine⟨[Ql s],.gs B.length 0 4 s.length,?_,B.length+1,[[],Ql (ZA t s)],?_,by omega,by simp,rfl,rfl⟩;(have L: (Qa s).flatten.map AV.strip=Ql s:=by(have: (Qa s).flatten=Ql s:=by rw[ZM];rfl);rw[this,Yn Zi]);(have S: (Qa s).length=s.length:=by simp[ZM]);have N: ¬(s=[]):=fun e=>c (by simp[e]);simp[WD,Ui,L,S,(YG s),N,O];rw[Xv tb_526];have i: (Ql s).length=s.length*4:=Yl QG s;(have A:Ql s≠[]:=fun e=>by rw[e]at i;simp at i;omega);(have H:PC k 4 s.length (Ql s) [Qd t]=Ql (ZA t s):=by(have K: (Ql s).take (s.length*4)=Ql s:=by rw[<- i,Jz]);have I:=Rv (f:=Qd) (k:=4) QG (l:=s) (pre:=s.take k) (post:=s.drop k) a [];have w:=KP (f:=Qd) (k:=4) QG (l:=s) (pre:=s.take k) (post:=s.drop k) a [];rw[C,QH]at I w;rw[QH]at w;unfold PC;rw[K,I,w,h,show Ql (s.take k ++ t:: s.drop k)=Ql (s.take k)++ (Qd t ++ Ql (s.drop k)) by simp[Ql,Vp,So]];rw[Xt,Xt,Yn Zi,Yn Zi];simp[Zi]);simp only[Lk];rw[Qe ⟨trivial,by omega,by simp,(by omega),(by omega),by simpa using(by omega),by simpa using(by omega)⟩,Qb (by omega),Qe ⟨trivial,trivial⟩,Yv];simp only[QO];rw[Qe ⟨A,by omega⟩,T8,H,T3 _ _ (QX _)];simp[Kr,(Qbb IF _)]
 obtain⟨M,j,T,d,E,U,P,R,G,v⟩:=n;have m:ZW (Ql (ZA t s)) 0 4 (ZA t s).length=Qa (ZA t s):=by have:=Wd (f:=Qd) (k:=4) QG Zi (ZA t s) [];rw[QH]at this;rwa[ZM]
 rw[g]at m;have r: (s.length+1)*4<=(Ql (ZA t s)).length:=by have: (Ql (ZA t s)).length=(ZA t s).length*4:=Yl QG _;rw[this,g];omega
 have b:=YG (ZA t s);refine⟨true,?_⟩;generalize Ql (ZA t s)=X at *;generalize Qa (ZA t s)=W at *;simp[-getElem?_pos,Qo,Zd,f523C,q,T,U,G,v,Qf,Z8,R,r,m,b,WA P];rw[x]at q;have:=QkJ u (by rwa[<- HV u D]);refine⟨false,?_⟩;rw[this];have b:=YG s;simp[f523C,q,Qf,b]
end Go.Am
