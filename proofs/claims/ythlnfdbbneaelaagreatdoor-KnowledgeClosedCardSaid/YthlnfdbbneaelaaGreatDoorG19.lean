/-
  Kn24, Kn8, Kn5, Kn6, Kn7, Kn9, Kn10, Kn11, Kn12.
-/
import Derived.Test.YthlnfdbbneaelaaGreatDoorG18
set_option linter.all false
open Go.Am.F
namespace Go.Am
set_option maxRecDepth 20000
def Xe:=@decide_eq_false
def Qel {B z ip v p} (h:FZ B z ip v p) (j f g a q) (u:a.length=p.length) (hal:a.length < 1000000) (ha: ∀i,(a.getD i 0).natAbs<=1099511627776) (hp: ∀i,(p.getD i 0).natAbs<=1099511627776) (hq:q.natAbs<=1099511627776) (m)
  (Q:Out->Prop) (v30 v31 v32 Bf)
  (hn: ∀G:Yd,G 0= .gp v 0->G 3= .int .i64 q->G 30=v30->G 31=v31->G 32=v32->Q (R tb f566r0 G (bsS B z v j f g (Zc a p q) (m || !okE (Zc a p q))) (Qu tb (.loop f566l1) (Qi 0 (Qz f566 Bf)))))
  (he: ∀A:Q4,A.length=a.length->okE (Zc a p q)=false->Q (some (.tup [],bsS B z v j f g A true))):
  ∀d i E,a.length - i<=d->i<=a.length->E 0= .gp v 0->E 3= .int .i64 q->E 9= .bx [.gs z 0 1 a.length,.gs ip 0 1 a.length]->E 30=v30->E 31=v31->E 32=v32->E 38= .int .i64 a.length->E 39= .int .i64 i->
  Q (R tb (.loop f566l0) E (bsS B z v j f g (stE a p q i) (m || !okK a p q i)) (Qi 2 (Qi 1 (Qu tb f566r0 (Qu tb (.loop f566l1) (Qi 0 (Qz f566 Bf))))))):=by
 intro d;induction d with | zero=>intro i E hd hi K I J x y C c r;(have:i=a.length:=by omega);subst this;rw[Qq6 u,NS u,Qc f566l0.eq_1];simp[J,c,r];apply hn <;> simp[K,I,x,y,C] | succ d IH=>intro i E hd hi K I J x y C c r;by_cases e:i < a.length;(have hI: (i:Int) < (a.length:Int):=by omega);(have hw1:IntKind.i64.wrap ((i:Int)+1)=((i+1:Nat):Int):=by rw[QC (by omega) (by omega)];omega);have g1:=Qh3 h j f g (stE a p q i) (m || !okK a p q i);have g2:=Qtp h j f g (stE a p q i) (m || !okK a p q i);have g3:=GU h j f g (stE a p q i) (m || !okK a p q i);have s1:=Qee (q:=q) u (i:=i) hi;have r1:=XV (l:=p) (k:=i) (by omega);have r2:=XV (l:=stE a p q i) (k:=i) (by omega);rw[QmR u e]at r2;(have N: (Qq p).length=a.length:=by rw[YI];omega);(have t: (Qq (stE a p q i)).length=a.length:=by rw[YI];omega);have hai:=ha i;have hpi:=hp i;have cq:=JI (n:=q) (by omega) (by omega) (bsS B z v j f g (stE a p q i) (m || !okK a p q i));have cp:=JI (n:=p.getD i 0) (by omega) (by omega) (bsS B z v j f g (stE a p q i) (m || !okK a p q i));have s:i+1<=a.length:=e;(have b1:Qn .lss (.int .i64 (i:Int)) (.int .i64 (a.length:Int))=some (.bool true):=by simp[Qn,hI]);(have b2:Qn .add (.int .i64 (i:Int)) (.int .i64 1)=some (.int .i64 ((i+1:Nat):Int)):=by simp[Qn,toI,hw1]);(have T:Qn .neq (.int .i64 (p.getD i 0)) (.int .i64 0)=some (.bool (!decide (p.getD i 0=0))):=by by_cases w:p.getD i 0=0 <;> simp[Qn]);obtain⟨D,hD⟩: ∃D:Nat,D=4611686018427387904 / (p.getD i 0).natAbs:=⟨_,rfl⟩;(have X: ((4611686018427387904:Int).tdiv ((p.getD i 0).natAbs:Int))=(D:Int):=by rw[hD];rfl);(have U:D<=4611686018427387904:=by rw[hD];exact Nat.div_le_self _ _);(have b4:p.getD i 0≠0->Qn .quo (.int .i64 4611686018427387904) (.int .i64 ((p.getD i 0).natAbs:Int))=some (.int .i64 ((4611686018427387904:Int).tdiv ((p.getD i 0).natAbs:Int))):=by intro w;(have hz2: ¬((p.getD i 0).natAbs:Int)=0:=by omega);(have hw:IntKind.i64.wrap ((4611686018427387904:Int).tdiv ((p.getD i 0).natAbs:Int))=(4611686018427387904:Int).tdiv ((p.getD i 0).natAbs:Int):=by rw[X];exact QC (by omega) (by omega));show(if IntKind.i64=IntKind.i64/\((p.getD i 0).natAbs:Int)≠0 then some (toI IntKind.i64 ((4611686018427387904:Int).tdiv ((p.getD i 0).natAbs:Int)))else none)=_;rw[Qe ⟨rfl,hz2⟩,toI,hw]);(have b5:Qn .gtr (.int .i64 (q.natAbs:Int)) (.int .i64 ((4611686018427387904:Int).tdiv ((p.getD i 0).natAbs:Int)))=some (.bool (decide ((4611686018427387904:Int).tdiv ((p.getD i 0).natAbs:Int) < (q.natAbs:Int)))):=by simp only[Qn,QT,gt_iff_lt]);have hgl:=QF g3;rw[Qc f566l0.eq_1];by_cases b:p.getD i 0≠0/\(4611686018427387904:Int).tdiv ((p.getD i 0).natAbs:Int) < (q.natAbs:Int);have hbad:=Qkd b.1 b.2 hai;(have hk1:okK a p q (i+1)=false:=by simp only[okK,hbad,JG,Bool.and_false]);(have hok:okE (Zc a p q)=false:=by rw[<- NS u];exact KB s hk1);have H:=BW (B:=B) (ia:=z) (x0:=v) j f g (stE a p q i) (m || !okK a p q i) true;obtain⟨e1,e2⟩:=b;have S:=b4 e1;have Y:=Xe e1;rw[Y]at T;rw[(decide_eq_true e2)]at b5;generalize (4611686018427387904:Int).tdiv ((p.getD i 0).natAbs:Int)=Dv at *;generalize p.getD i 0=pi at *;generalize (pi.natAbs:Int)=pn at *;generalize (q.natAbs:Int)=qn at *;generalize (m || !okK a p q i)=P at *;generalize bsS B z v j f g (stE a p q i) P=B1 at *;simp[-getElem?_pos,Qo,Zd,-Qn,K,I,J,c,r,b1,T,g1,g2,g3,N,t,r1,r2,e,s,cq,cp,S,b5,H];exact(he (stE a p q i) s1 hok);have hfit:=QmS (by by_cases w:p.getD i 0=0;exact .inl w;exact .inr fun h=>b ⟨w,h⟩);(have b6:Qn .mul (.int .i64 q) (.int .i64 (p.getD i 0))=some (.int .i64 (q*p.getD i 0)):=by have hw:IntKind.i64.wrap (q*p.getD i 0)=q*p.getD i 0:=QC (by omega) (by omega);simp only[Qn,QT,toI,hw]);(have b7:Qn .sub (.int .i64 (a.getD i 0)) (.int .i64 (q*p.getD i 0))=some (.int .i64 (a.getD i 0 - q*p.getD i 0)):=by have hw:IntKind.i64.wrap (a.getD i 0 - q*p.getD i 0)=a.getD i 0 - q*p.getD i 0:=QC (by omega) (by omega);simp only[Qn,QT,toI,hw]);have o:=U0 (stE a p q i) (a.getD i 0 - q*p.getD i 0) (n:=i) (by omega);rw[Qbs u e]at o;have O:=QkU h j f g (stE a p q i) (stE a p q (i+1)) (m || !okK a p q i);have g1':=Qh3 h j f g (stE a p q (i+1)) (m || !okK a p q i);have M:=GU h j f g (stE a p q (i+1)) (m || !okK a p q i);have hgl':=QF M;have s1':=Qee (q:=q) u (i:=i+1) s;have r2':=XV (l:=stE a p q (i+1)) (k:=i) (by omega);(have e3: (stE a p q (i+1)).getD i 0=a.getD i 0 - q*p.getD i 0:=by rw[<- Qbs u e];simp[Zh,s1,e]);rw[e3]at r2';(have L: (Qq (stE a p q (i+1))).length=a.length:=by rw[YI];omega);have cx:=JI (n:=a.getD i 0 - q*p.getD i 0) (by omega) (by omega) (bsS B z v j f g (stE a p q (i+1)) (m || !okK a p q i));(have b8:Qn .gtr (.int .i64 ((a.getD i 0 - q*p.getD i 0).natAbs:Int)) (.int .i64 1099511627776)=some (.bool (!decide ((a.getD i 0 - q*p.getD i 0).natAbs<=1099511627776))):=by generalize (a.getD i 0 - q*p.getD i 0).natAbs=nn;by_cases w:nn<=1099511627776;(have: ¬(1099511627776:Int) < (nn:Int):=by omega);simp[Qn,w,this];(have: (1099511627776:Int) < (nn:Int):=by omega);simp[Qn,w,this]);(have hlg: (m || !okK a p q (i+1))=((m || !okK a p q i) || !decide ((a.getD i 0 - q*p.getD i 0).natAbs<=1099511627776)):=by simp only[okK];cases m <;> cases okK a p q i <;> cases decide ((a.getD i 0 - q*p.getD i 0).natAbs<=1099511627776) <;> rfl);have H:=fun l2=>BW (B:=B) (ia:=z) (x0:=v) j f g (stE a p q (i+1)) (m || !okK a p q i) l2;have ih:=fun E=>IH (i+1) E (by omega) s;rw[hlg]at ih;(have W:p.getD i 0≠0->decide ((4611686018427387904:Int).tdiv ((p.getD i 0).natAbs:Int) < (q.natAbs:Int))=false:=fun w=>by have: ¬(4611686018427387904:Int).tdiv ((p.getD i 0).natAbs:Int) < (q.natAbs:Int):=fun h=>b ⟨w,h⟩;exact Xe this);by_cases w:p.getD i 0=0;have Y:=decide_eq_true w;rw[Y]at T;clear b b4 b5 W X U hD w Y;generalize (stE a p q (i+1))=V at *;generalize (stE a p q i)=Z at *;generalize hxx:a.getD i 0 - q*p.getD i 0=xx at *;generalize hqp:q*p.getD i 0=qp at *;generalize p.getD i 0=pi at *;generalize a.getD i 0=ai at *;generalize decide (xx.natAbs<=1099511627776)=dd at *;generalize (xx.natAbs:Int)=xn at *;generalize (m || !okK a p q i)=P at *;generalize hBB1:bsS B z v j f g Z P=B1 at *;generalize hBB2:bsS B z v j f g V P=B2 at *;cases P;simp[-getElem?_pos,Qo,Zd,-Qn,K,I,J,c,r,b1,b2,T,g1,g2,g3,N,t,r1,r2,e,s,b6,b7,b8,o,O,g1',M,r2',L,cx,H];apply ih <;> simp[K,I,J,x,y,C,c];simp[-getElem?_pos,Qo,Zd,-Qn,K,I,J,c,r,b1,b2,T,g1,g2,g3,N,t,r1,r2,e,s,b6,b7,o,O,M,H];apply ih <;> simp[K,I,J,x,y,C,c];have Y:=Xe w;rw[Y]at T;have S:=b4 w;rw[W w]at b5;clear b b4 W X U hD w Y;generalize (4611686018427387904:Int).tdiv ((p.getD i 0).natAbs:Int)=Dv at *;generalize (stE a p q (i+1))=V at *;generalize (stE a p q i)=Z at *;generalize hxx:a.getD i 0 - q*p.getD i 0=xx at *;generalize hqp:q*p.getD i 0=qp at *;generalize p.getD i 0=pi at *;generalize a.getD i 0=ai at *;generalize decide (xx.natAbs<=1099511627776)=dd at *;generalize (xx.natAbs:Int)=xn at *;generalize (pi.natAbs:Int)=pn at *;generalize (q.natAbs:Int)=qn at *;generalize (m || !okK a p q i)=P at *;generalize hBB1:bsS B z v j f g Z P=B1 at *;generalize hBB2:bsS B z v j f g V P=B2 at *;cases P;simp[-getElem?_pos,Qo,Zd,-Qn,K,I,J,c,r,b1,b2,T,g1,g2,g3,N,t,r1,r2,e,s,b6,b7,b8,o,O,g1',M,r2',L,cx,H,cq,cp,S,b5];apply ih <;> simp[K,I,J,x,y,C,c];simp[-getElem?_pos,Qo,Zd,-Qn,K,I,J,c,r,b1,b2,T,g1,g2,g3,N,t,r1,r2,e,s,b6,b7,o,O,M,H,cq,cp,S,b5];apply ih <;> simp[K,I,J,x,y,C,c];exact IH i E (by omega) hi K I J x y C c r
def Qkr (f) (hf:EqF f) (B z n o) (T:z < B.length) (hn:n < 100000000): ∀g D i d (j:Nat) r,D.length+i.length+1+g.length=n->o+j=D.length+i.length+1->0 < j->
   (∀x∈d:: g,x.mass < big)->r 0= .gs z 0 4 n->r 1= .fn f []->r 5= .int .i64 D.length->r 6= .gs z (o*4) 4 (n - o)->r 7= .int .i64 j->
  Lp (D ++ ZY d g) B z (R tb (.loop f172l0) r (B.set z (Ql (D ++ i ++ d:: g)))
   (Qi 2 (Qu tb f172r0 (Qi 1 (Qu tb f172r1 (Qu tb (.loop f172l1) (Qi 0 (Qu tb f172r2 (Qz f172 B))))))))):=by
 intro g;induction g with | nil=>intro D i d j r m hk Y N u v C w S;(have p: (Ql (D ++ i ++ [d])).length=n*4:=by rw[Yl QG];simp at m ⊢;omega);(have ht: (Ql (D ++ i ++ [d])).take (D.length*4)=Ql D:=by have:=Rv (f:=Qd) (k:=4) QG (l:=D ++ i ++ [d]) (pre:=D) (post:=i ++ [d]) (by simp) [];simpa using this);have hr:=fun r a b=>Qcu B z n D (Ql (D ++ i ++ [d])) T p (by omega) hn ht r a b;(have hl':D.length+i.length+1=n:=by simpa using m);(have X: ¬((j:Int) < ((n - o:Nat):Int)):=by omega);(have hnl2: ¬(j < n - o):=by omega);rw[Qc f172l0.eq_1];simp only[ZY,QH];refine⟨List.replicate ((n - D.length)*4) .undef,?_⟩;simp[v,w,S,X];simp only[ZX]at hr;refine hr _ ?_ ?_ <;> simp[u,C] | cons x g IH=>intro D i d j r m hk Y N u v C w S;(have p: (Ql (D ++ i ++ d:: x:: g)).length=n*4:=by rw[Yl QG];simp at m ⊢;omega);have P: (Ql (D ++ i ++ d:: x:: g)).map AV.strip=Ql (D ++ i ++ d:: x:: g):=Yn Zi _;(have r1: ((Ql (D ++ i ++ d:: x:: g)).drop (o*4+j*4)).take 4=Qd x:=by have:=Vj (f:=Qd) (k:=4) QG (l:=D ++ i ++ d:: x:: g) (pre:=D ++ i ++ [d]) (post:=g) (x:=x) (by simp) [];rw[<- Yk,hk];simpa[TI]using this);(have r2: ((Ql (D ++ i ++ d:: x:: g)).drop (o*4+ (j - 1)*4)).take 4=Qd d:=by have:=Vj (f:=Qd) (k:=4) QG (l:=D ++ i ++ d:: x:: g) (pre:=D ++ i) (post:=x:: g) (x:=d) (by simp) [];rw[<- Yk,show o+ (j - 1)=D.length+i.length by omega];simpa[TI]using this);(have K: (Ql (D ++ i ++ d:: x:: g)).take (D.length*4)++ (Qd x ++ (Ql (D ++ i ++ d:: x:: g)).drop (D.length*4+4))=Ql ((D ++ [x])++ (i ++ [d]).tail ++ x:: g):=by(obtain⟨y,W,t⟩: ∃y W,i ++ [d]=y:: W:=by cases i <;> simp);have:=Ow (f:=Qd) (k:=4) QG (l:=D ++ i ++ d:: x:: g) (pre:=D) (post:=W ++ x:: g) (x:=y) x (by(have:D ++ i ++ d:: x:: g=D ++ (i ++ [d])++ x:: g:=by simp);rw[this,t];simp) [];rw[t];simpa using this);(have O:IntKind.i64.wrap ((j:Int) - 1)=((j - 1:Nat):Int):=by rw[QC (by omega) (by omega)];omega);(have A:IntKind.i64.wrap ((j:Int)+1)=((j+1:Nat):Int):=by rw[QC (by simp at m;omega) (by simp at m;omega)];omega);(have hw3:IntKind.i64.wrap ((D.length:Int)+1)=((D.length+1:Nat):Int):=by rw[QC (by simp at m;omega) (by simp at m;omega)];omega);(have L: (j:Int) < ((n - o:Nat):Int):=by simp at m;omega);(have hlt1:j < n - o:=by simp at m;omega);(have s: ((j - 1:Nat):Int) < ((n - o:Nat):Int):=by simp at m;omega);(have Z:j - 1 < n - o:=by simp at m;omega);(have H: (D.length:Int) < (n:Int):=by simp at m;omega);(have U:D.length < n:=by simp at m;omega);(have M:o*4+j*4+4<=n*4:=by simp at m;omega);(have J:o*4+ (j - 1)*4+4<=n*4:=by simp at m;omega);(have V:D.length*4+4<=n*4:=by simp at m;omega);(have E: (0:Int)<=((j - 1:Nat):Int):=by omega);have hc:=fun bs=>hf x d bs (N x (by simp)) (N d (by simp));(have q: ((j - 1:Nat):Int).toNat=j - 1:=by omega);have I:=IH D (i ++ [d]) x (j+1);have G:=IH (D ++ [x]) (i ++ [d]).tail x (j+1);(have htl: ((i ++ [d]).tail).length=i.length:=by simp);rw[show D ++ (i ++ [d])++ x:: g=D ++ i ++ d:: x:: g by simp]at I;rw[Qc f172l0.eq_1];generalize Ql (D ++ i ++ d:: x:: g)=c at *;generalize hkm:j - 1=km at *;generalize n - o=nk at *;by_cases Q:Qm x d=0;(have e:ZY d (x:: g)=ZY x g:=by simp[ZY,Q]);rw[e];simp[u,v,C,w,S,L,s,E,O,A,M,J,T,p,P,r1,r2,hc,Q,q];refine I _ (by simp at m ⊢;omega) (by simp;omega) (by omega) (fun y t=>N y (by simp at t ⊢;rcases t with h | h <;> simp[h])) ?_ ?_ ?_ ?_ ?_ <;> simp[u,v,C,w];(have e:D ++ ZY d (x:: g)=D ++ x:: ZY x g:=by simp[ZY,Q]);rw[e];simp only[ZX,XQ,Xg]at G;simp[u,v,C,w,S,L,s,H,E,O,A,hw3,M,J,V,T,p,P,r1,r2,hc,Q,q,K];refine G _ (by simp at m ⊢;omega) (by simp;omega) (by omega) (fun y t=>N y (by simp at t ⊢;rcases t with h | h <;> simp[h])) ?_ ?_ ?_ ?_ ?_ <;> simp[u,v,w]
def Qks (f) (N:EqF f) (B u n) (J:u < B.length) (Q:n < 100000000): ∀d b a p,b.length+1+d.length=n->
   (∀x∈a:: d,x.mass < big)->p 0= .gs u 0 4 n->p 1= .fn f []->p 5= .int .i64 (b.length+1:Nat)->
  Lp (b ++ a:: ZY a d) B u (R tb (.loop f172l1) p (B.set u (Ql (b ++ a:: d)))
   (Qi 0 (Qu tb f172r2 (Qz f172 B)))):=by
 intro d;induction d with | nil=>intro b a p L C m o z;(have E:b.length+1=n:=by simpa using L);(have S: ¬((b.length:Int)+1 < (n:Int)):=by omega);rw[Qc f172l1.eq_1];refine⟨[],?_⟩;simp[m,o,z,ZY,f172r2,E] | cons x d T=>intro b a p L C m o z;(have E:b.length+1+ (d.length+1)=n:=by simpa using L);(have j: (Ql (b ++ a:: x:: d)).length=n*4:=by rw[Yl QG];simp;omega);have q: (Ql (b ++ a:: x:: d)).map AV.strip=Ql (b ++ a:: x:: d):=Yn Zi _;(have M: ((Ql (b ++ a:: x:: d)).drop ((b.length+1)*4)).take 4=Qd x:=by have:=Vj (f:=Qd) (k:=4) QG (l:=b ++ a:: x:: d) (pre:=b ++ [a]) (post:=d) (x:=x) (by simp) [];simpa using this);(have P: ((Ql (b ++ a:: x:: d)).drop (b.length*4)).take 4=Qd a:=by have:=Vj (f:=Qd) (k:=4) QG (l:=b ++ a:: x:: d) (pre:=b) (post:=x:: d) (x:=a) (by simp) [];simpa using this);have A:IntKind.i64.wrap (b.length:Int)=(b.length:Int):=QC (by omega) (by omega);have K:IntKind.i64.wrap ((b.length:Int)+1+1)=(b.length:Int)+1+1:=QC (by omega) (by omega);(have s: (b.length:Int)+1 < (n:Int):=by omega);(have i: (b.length:Int) < (n:Int):=by omega);(have r: (b.length+1)*4+4<=n*4:=by omega);(have D:b.length*4+4<=n*4:=by omega);(have t: (0:Int)<=(b.length:Int)+1:=by omega);(have H: (b.length:Int)+1<=(n:Int):=by omega);(have g: ((b.length:Int)+1).toNat=b.length+1:=by omega);have O:=fun U=>N x a U (C x (by simp)) (C a (by simp));have w:=T (b ++ [a]) x;have v:=Qkr f N B u n (b.length+1) J Q d (b ++ [a]) [] x 1;simp only[ZX,XQ,Xg]at w v;rw[Qc f172l1.eq_1];generalize Ql (b ++ a:: x:: d)=c at *;by_cases I:Qm x a=0;(have e:ZY a (x:: d)=ZY x d:=by simp[ZY,I]);rw[e];simp[m,o,z,s,i,t,H,A,r,D,J,j,q,M,P,O,I,g];refine v _ (by simp;omega) (by simp) (by omega) (fun y G=>C y (by simp at G ⊢;rcases G with h | h <;> simp[h])) ?_ ?_ ?_ ?_ ?_ <;> simp[m,o,z];(have e:b ++ a:: ZY a (x:: d)=b ++ a:: x:: ZY x d:=by simp[ZY,I]);rw[e];simp[m,o,z,s,i,t,H,A,K,r,D,J,j,q,M,P,O,I,g,f172r1];refine w _ (by simp;omega) (fun y G=>C y (by simp at G ⊢;rcases G with h | h <;> simp[h])) ?_ ?_ ?_ <;> simp[m,o]
def QkX (f) (k:EqF f) (L B c) (b:B[c]? =some (Ql L)) (e:L.length < 100000000) (g: ∀x∈L,x.mass < big):
  Lp (WX L) B c (call tb 172 [.gs c 0 4 L.length,.fn f []] B):=by
 have j:c < B.length:=by rcases Zt c B.length with h | h;exact h;rw[ZF h]at b;cases b
 have a:B.set c (Ql L)=B:=by apply U4;intro i;rw[Qy];split;rename_i h;subst h;rw[b];rfl
 match L with | []=>refine⟨[],?_⟩;rw[zcc 172 rfl rfl];simp[f172C,WX];simpa using a.symm | [x]=>refine⟨[],?_⟩;rw[zcc 172 rfl rfl];simp[f172C,WX];simpa using a.symm | x:: y:: r=>have h:=Qks f k B c (r.length+2) j (by simpa using e) (y:: r) [] x;rw[zcc 172 rfl rfl,Pv];simp only[Xg,a]at h;(have d: ¬((r.length:Int)+1+1 < 2):=by omega);simp[f172C,d];refine h _ (by simp;omega) (fun z l=>g z l) ?_ ?_ ?_ <;> simp
def QoV (x y a) (b:x.mass < big) (c:y.mass < big):call tb 543 [.agg (Qd x),.agg (Qd y)] a=some (.bool (decide (Qm x y=0)),a):=by
 rw[zcc 543 rfl rfl];simp[f543C,(call_Compare x y a b c)]
def QtQ:EqF 543:=QoV
abbrev W64:=BitVec 64
def U9 (w:W64):AV:= .int .u64 w.toNat
abbrev T2:=List W64
def QS (l:T2):Qx:=l.map U9
def Ur (l:T2):Qp:=l.map fun w=>[U9 w]
def WN (l:T2) (i:Nat):Bool:=(l.getD (i / 64) 0).getLsbD (i % 64)
def XA (l:T2) (i:Nat):T2:=l.set (i / 64) (l.getD (i / 64) 0 ^^^ (1#64 <<< (i % 64)))
def VG (a b:T2):T2:=List.zipWith (· ^^^ ·) a b
def Qh2 {l i} (h:i / 64 < l.length) (j):WN (XA l i) j=(WN l j ^^ decide (j=i)):=by
 unfold WN XA;rw[Zh,Qy];by_cases a:i / 64=j / 64;rw[Qe a,Qe h];simp only[Pj,BitVec.getLsbD_xor,BitVec.getLsbD_shiftLeft,BitVec.getLsbD_one];rw[a];congr 1;have b:j % 64 < 64:=WU _ (by omega);by_cases c:j=i;subst c;simp[b];have:j % 64≠i % 64:=by omega
 simp[c,b];omega;rw[Qb a];have:j≠i:=fun e=>a (by rw[e]);simp[this,Zh]
def BV {a b} (h:a.length=b.length) (j):WN (VG a b) j=(WN a j ^^ WN b j):=by
 unfold WN VG;simp only[Zh,List.getElem?_zipWith];by_cases d:j / 64 < a.length;have c:j / 64 < b.length:=by omega
 simp[Q0 d,Q0 c];rw[ZF (Gx d),ZF (by omega:b.length<=j / 64)];simp
def KX {a b} (h:a.length=b.length): (VG a b).length=a.length:=by simp[VG,h]
def RM (l i): (XA l i).length=l.length:=by simp[XA]
def Ou (l): (QS l).length=l.length:=by simp[QS]
def Qd7 (l):Q3 (QS l)=true:=by
 induction l with | nil=>rfl | cons w l a=>simp only[QS,ZI,Q3]at a ⊢;rw[a];rfl
def HP {l k} (h:k < l.length): (QS l)[k]? =some (U9 (l.getD k 0)):=by
 simp[QS,h,Zh]
def Et (w:W64):BitVec.ofInt 64 (w.toNat:Int)=w:=by
 rw[BitVec.ofInt_natCast];simp
def QnG {n:Nat} (h:n < 18446744073709551616):IntKind.u64.wrap (n:Int)=(n:Int):=by
 unfold IntKind.wrap;simp[IntKind.bits,IntKind.signed];omega
def BQ (a b):Qn .xor (U9 a) (U9 b)=some (U9 (a ^^^ b)):=by
 simp only[Qn,U9,QT,QV,toI];rw[show BitVec.ofInt IntKind.u64.bits (a.toNat:Int)=a from Et a,show BitVec.ofInt IntKind.u64.bits (b.toNat:Int)=b from Et b];have:=(a ^^^ b).isLt;exact TM (AV.int IntKind.u64) (QnG this)
def QkI {i:Nat} (h:i < 64):Qn .shl (.int .u64 1) (.int .i64 i)=some (U9 (1#64 <<< i)):=by
 have b:min i 64=i:=by omega
 have a:2 ^ i < 18446744073709551616:=by have:2 ^ i < 2 ^ 64:=Nat.pow_lt_pow_right (by omega) h;simpa using this
 have e: (1*2 ^ min (i:Int).toNat IntKind.u64.bits:Int)=((2 ^ i:Nat):Int):=by rw[T8,show IntKind.u64.bits=64 from rfl,b];simp
 simp only[Qn,toI];rw[Qe (by omega),e,QnG a];simp only[U9,QV,AV.int.injEq,XI];rw[BitVec.toNat_shiftLeft];have: (1#64).toNat <<< i % 2 ^ 64=2 ^ i:=by rw[show(1#64).toNat=1 from rfl,Nat.shiftLeft_eq,O6,BI (by simpa using a)]
 rw[this]
def QkS (w:W64) {i} (h:i < 64): (BitVec.ofInt IntKind.u64.bits ((w.toNat:Int) / 2 ^ min i IntKind.u64.bits) &&& BitVec.ofInt IntKind.u64.bits 1).toNat=if w.getLsbD i then 1 else 0:=by
 have a:min i 64=i:=by omega
 have e: ((w.toNat:Int) / 2 ^ min i IntKind.u64.bits)=((w >>> i).toNat:Int):=by rw[show IntKind.u64.bits=64 from rfl,a,BitVec.toNat_ushiftRight,Nat.shiftRight_eq_div_pow];simp
 rw[e,show BitVec.ofInt IntKind.u64.bits ((w >>> i).toNat:Int)=w >>> i from Et _];show(w >>> i &&& 1#64).toNat=_;have c: (w >>> i &&& 1#64)=if w.getLsbD i then 1#64 else 0#64:=by apply BitVec.eq_of_getLsbD_eq;intro j d;rw[BitVec.getLsbD_and,BitVec.getLsbD_ushiftRight,BitVec.getLsbD_one];cases j with | zero=>cases b:w.getLsbD i <;> simp | succ j=>cases b:w.getLsbD i <;> simp
 rw[c];split <;> rfl
def Qnr {i n:Nat} (h:i / 64 < n) (a:i < 1000000):IntKind.i64.wrap ((i:Int) / 64)=(i:Int) / 64/\(0:Int)<=(i:Int) / 64/\(i:Int) / 64 < (n:Int)/\((i:Int) / 64).toNat=i / 64/\(0:Int)<=(i:Int).tmod 64/\((i:Int).tmod 64).toNat=i % 64:=
 ⟨QC (by omega) (by omega),by omega,by omega,by omega,Int.natCast_nonneg (i % 64),rfl⟩
def F5 (l i p k) (h:k[p]? =some (QS l)) (m:i / 64 < l.length) (f:i < 1000000):call tb 549 [.gs p 0 1 l.length,.int .i64 i] k=some (.bool (WN l i),k):=by
 obtain⟨o,r,u,t,q,s⟩:=Qnr m f;have j:=HP m;have v:i % 64 < 64:=WU _ (by omega);have b:=QkS (l.getD (i / 64) 0) v;have x:=QF h;have d:=Ou l;have c:i / 64+1<=l.length:=m;have n:WN l i=(l.getD (i / 64) 0).getLsbD (i % 64):=rfl;rw[n];rw[zcc 549 rfl rfl];generalize l.getD (i / 64) 0=w at *;generalize QS l=y at *;unfold U9 at j;have e:IntKind.u64.wrap 1=1:=rfl;have g:IntKind.u64.wrap 0=0:=rfl;cases a:w.getLsbD (i % 64);rw[a]at b;simp at b;simp[-getElem?_pos,g,f549C,o,r,u,t,q,s,h,j,d,b,c];rw[a]at b;simp at b;simp[-getElem?_pos,e,f549C,o,r,u,t,q,s,h,j,d,b,c]
def G0 (B a x) (h:Q3 x=true):X4 B (B.set a x)=true:=by
 induction B generalizing a with | nil=>simp[X4] | cons y B b=>cases a with | zero=>simp only[Lx,X4,h,GM,VS];(have: ∀(B:Qp),X4 B B=true:=by intro B;induction B with | nil=>rfl | cons y B b=>simp only[X4,XU,Md,VS,b]);exact this B | succ a=>simp only[Ly,X4,XU,Md,VS];exact b a
def Qba (l k w): (QS l).set k (U9 w)=QS (l.set k w):=by simp[QS,List.map_set]
def QcY (l i c b) (p:b[c]? =some (QS l)) (f:i / 64 < l.length) (h:i < 1000000):call tb 547 [.gs c 0 1 l.length,.int .i64 i] b=some (.tup [],b.set c (QS (XA l i))):=by
 obtain⟨s,z,A,u,I,K⟩:=Qnr f h;have D:=HP f;have y:i % 64 < 64:=WU _ (by omega);have r:=QF p;have g:=Ou l;have k:i / 64+1<=l.length:=f;have v:=QkI y;have C:=BQ (l.getD (i / 64) 0) (1#64 <<< (i % 64));have a:=Qba l (i / 64) (l.getD (i / 64) 0 ^^^ (1#64 <<< (i % 64)));have n:l.set (i / 64) (l.getD (i / 64) 0 ^^^ (1#64 <<< (i % 64)))=XA l i:=rfl;rw[n]at a;have m:=G0 b c (QS (XA l i)) (Qd7 _);have e: (b.set c (QS (XA l i))).take b.length=b.set c (QS (XA l i)):=Z7 (by simp);have x:Qn .quo (.int .i64 i) (.int .i64 64)=some (.int .i64 ((i:Int) / 64)):=by simp[Qn,toI,s]
 have E:Qn .rem (.int .i64 i) (.int .i64 64)=some (.int .i64 ((i % 64:Nat):Int)):=by simp[Qn];rfl
 rw[zcc 547 rfl rfl];generalize J:QS (XA l i)=H at *;generalize L:l.getD (i / 64) 0=w at *;generalize QS l=j at *;generalize G: (1#64 <<< (i % 64))=q at *;generalize t:w ^^^ q=o at *;have d:Qn .shl (.int .u64 1) (.int .i64 ((i:Int) % 64))=some (U9 q):=v;have B:j.take (i / 64)++ U9 o:: j.drop (i / 64+1)=j.set (i / 64) (U9 o):=by rw[Gc,Qe (by omega)]
 unfold U9 at *;simp[-getElem?_pos,-Qn,f547C,x,E,d,C,z,A,u,p,D,g,k,B,a,m,e]
def Qa9 {l:Qj} {i p} {c:Qx} (h: (c.drop (i*4)).take 4=Qd p): ((c.map AV.strip).drop (i*4)).take 4=Qd p:=by
 rw[<- O5,<- S7,h,Zi]
def Qd6 {l i p} (h:l[i]? =some p) (c): ((Ql l ++ c).drop (i*4)).take 4=Qd p:=by
 obtain⟨b,rfl⟩:=Wj.1 h;have a:l=l.take i ++ l[i]:: l.drop (i+1):=by rw[Bo,N8]
 have:=Vj (f:=Qd) (k:=4) QG a c;rwa[Ye,JD (by omega)]at this
def QmY {l t B T S c} (hl:l.length < 100000000) (W:l≠[]->S=4/\B[T]? =some (Ql l ++ c)) (X: ∀p∈l,p.mass < big) (U:t.mass < big) (ha:Asc l):
  ∀d i j b,j - i<=d->i<=j->j<=l.length->(∀k p,l[k]? =some p->k < i->Qm p t < 0)->(∀k p,l[k]? =some p->j<=k->¬Qm p t < 0)->
  b 0= .gs T 0 S l.length->b 4= .bx (Qd t)->b 2= .fn 30 []->b 8= .int .i64 l.length->b 9= .int .i64 i->b 10= .int .i64 j->
  QeZ l t B (R tb (.loop f546l0) b B (Qi 0 (Qu tb f546r0 (Qz f546 B)))):=by
 have x: ∀(i j:Nat) (p q:Tm),l[i]? =some p->l[j]? =some q->i<=j->Qm q t < 0->Qm p t < 0:=by intro i j p q n z C h;rcases Zt i j with I | hge;obtain⟨h1,rfl⟩:=Wj.1 n;obtain⟨g,rfl⟩:=Wj.1 z;exact XE (MI.1 ha i j h1 g I) h;(have:i=j:=by omega);subst this;rw[n]at z;cases z;exact h
 intro d;induction d with | zero=>intro i j b hd C L s u w G g H A a;(have:i=j:=by omega);subst this;refine⟨i,⟨L,s,u⟩,?_⟩;rw[Qc f546l0.eq_1];by_cases N:i < l.length;have n:=Q0 N;obtain⟨rfl,o⟩:=W (by intro e;subst e;simp at N);have M:=Qa9 (l:=l) (Qd6 n c);have E:=X _ (VH N);(have r:i*4+4<=(Ql l ++ c).length:=by rw[Zl,Yl QG];omega);(have f: (i:Int) < (l.length:Int):=by omega);(have P:TZ l t i=decide (Qm l[i] t=0):=by simp[TZ,n]);rw[P];generalize l[i]=p at *;have K:=call_Compare p t B E U;generalize Ql l ++ c=cc at *;simp[f546r0,w,g,G,H,A,a,f,o,r,M,K];(have P:TZ l t i=false:=by simp[TZ,ZF (Gx N)]);(have f: ¬(i:Int) < (l.length:Int):=by omega);simp[f546r0,w,g,H,A,a,f,P] | succ d O=>intro i j b hd C L s u w G g H A a;by_cases I:i < j;(have D: (i+j) / 2 < l.length:=by omega);have Y:=Fj (i:=i) (j:=j) (by omega);have n:=Q0 D;obtain⟨rfl,o⟩:=W (by intro e;subst e;simp at D);have M:=Qa9 (l:=l) (Qd6 n c);have E:=X _ (VH D);(have r: (i+j) / 2*4+4<=(Ql l ++ c).length:=by rw[Zl,Yl QG];omega);(have y: (i:Int) < (j:Int):=by omega);(have hb1:i<=(i+j) / 2:=by omega);(have Z: (i+j) / 2 < j:=by omega);generalize l[(i+j) / 2]=p at *;generalize hmm: (i+j) / 2=m at *;have K:=call_Compare p t B E U;(have J:IntKind.i64.wrap ((m:Int)+1)=((m+1:Nat):Int):=by rw[QC (by omega) (by omega)];omega);(have f: (m:Int) < (l.length:Int):=by omega);generalize hcc:Ql l ++ c=cc at *;rw[Qc f546l0.eq_1];by_cases v:Qm p t < 0;have Q:=fun b=>O (m+1) j b (by omega) (by omega) L (fun k q z V=>x k m q p z n (by omega) v) u;simp[-getElem?_pos,w,g,G,A,a,y,Y,J,f,o,r,M,K,v];refine Q _ ?_ ?_ ?_ ?_ ?_ ?_ <;> simp[w,g,G,H,a];have Q:=fun b=>O i m b (by omega) (by omega) (by omega) s (fun k q z V h=>v (x m k p q n z V h));simp[-getElem?_pos,w,g,G,A,a,y,Y,J,f,o,r,M,K,v];refine Q _ ?_ ?_ ?_ ?_ ?_ ?_ <;> simp[w,g,G,H,A];exact O i j b (by omega) C L s u w G g H A a
def QoX {l t B id sz c} (e:l.length < 100000000) (g:l≠[]->sz=4/\B[id]? =some (Ql l ++ c)) (d: ∀p∈l,p.mass < big) (i:t.mass < big) (f:Asc l):
  QeZ l t B (call tb 546 [.gs id 0 sz l.length,.agg (Qd t),.fn 30 []] B):=by
 rw[zcc 546 rfl rfl];simp[f546C];refine(fun h=>QmY e g d i f l.length 0 l.length h (by omega) (by omega) (by omega) (fun k p _ b=>by omega) (fun k p a b=>by rw[ZF b]at a;cases a)) _ ?_ ?_ ?_ ?_ ?_ ?_ <;> simp
def TSg (B:Qp) (v:AV) (l:Qj):Prop:=∃id sz,v= .gs id 0 sz l.length/\∃c,l≠[]->sz=4/\B[id]? =some (Ql l ++ c)
def QmX {l t k} (h:TZ l t k=true):l[k]? =some t:=by
 unfold TZ at h;rcases a:l[k]? with _ | p;rw[a]at h;cases h;rw[a]at h;have:p=t:=Vm.1 (by simpa using h);rw[this]
def QoW {C B g i b} (j:B[g]? =some (i:: b)) (o:TSg B i C) (q:C.length < 1000000) (e: ∀x∈C,x.mass < big) (d:Asc C) {y} (f:y∈C):
  ∃k:Nat,C[k]? =some y/\call tb 545 [.gp g 0,.agg (Qd y)] B=some (.int .i64 k,B):=by
 obtain⟨id,sz,rfl,c,m⟩:=o;obtain⟨k,p,a⟩:=QoX (B:=B) (id:=id) (sz:=sz) (c:=c) (l:=C) (t:=y) (by omega) m e (e y f) d;have h:TZ C y k=true:=by rw[HV d p];exact Yj.2 f
 rw[h]at a;have n:=QF j;refine⟨k,QmX h,?_⟩;rw[zcc 545 rfl rfl];simp[-getElem?_pos,Qo,Zd,f545C,j,a,Qf]
def Qit (l): (Ur l).length=l.length:=by simp[Ur]
def Qis {l k} (h:k < l.length): (Ur l)[k]? =some [U9 (l.getD k 0)]:=by
 simp[Ur,h,Zh]
def W6 (a b:T2) (k:Nat):T2:=(VG (a.take k) (b.take k))++ a.drop k
def QgB (a b):W6 a b 0=a:=by simp[W6,VG]
def Qkm {a b} (h:a.length=b.length):W6 a b a.length=VG a b:=by
 have e:b.take a.length=b:=by rw[h,Jz]
 rw[W6,Jz,e,BJ,QH]
def DH {a b} (h:a.length=b.length) (k): (W6 a b k).length=a.length:=by
 simp only[W6,VG,Zl,List.length_zipWith,Ye,U5];omega
def Qgz {a b} (h:a.length=b.length) {k} (d:k < a.length): (W6 a b k).getD k 0=a.getD k 0:=by
 have c: (VG (a.take k) (b.take k)).length=k:=by simp[VG];omega
 simp only[W6,Zh];rw[Yq (by omega),c,U7,Vf,Pn]
def QgA {a b} (h:a.length=b.length) {k} (d:k < a.length): (W6 a b k).set k (a.getD k 0 ^^^ b.getD k 0)=W6 a b (k+1):=by
 have e: (VG (a.take k) (b.take k)).length=k:=by simp[VG];omega
 have c:k < b.length:=by omega
 simp only[W6];rw[T3 _ _ (by omega),e,U7];rw[(Lt d),Lx];have f:VG (a.take (k+1)) (b.take (k+1))=VG (a.take k) (b.take k)++ [a[k] ^^^ b[k]]:=by unfold VG;rw[List.take_succ_eq_append_getElem d,List.take_succ_eq_append_getElem c,List.zipWith_append (by simp;omega)];rfl
 rw[f];simp[Zh,d,c]
def Qnb (a b c B) (s:c < B.length) (d:a.length=b.length) (Y:a.length < 1000000):
  ∀n k o e,a.length - k<=n->k<=a.length->e 0= .gs c 0 1 a.length->e 1= .sl o 1 (Ur b)->e 6= .int .i64 a.length->e 7= .int .i64 k->
  R tb (.loop f550l0) e (B.set c (QS (W6 a b k))) (Qi 0 (Qz f550 B))=some (.tup [],B.set c (QS (VG a b))):=by
 intro n;induction n with | zero=>intro k o e S E m p h q;(have:k=a.length:=by omega);subst this;rw[Qkm d];have v: (B.set c (QS (VG a b))).take B.length=B.set c (QS (VG a b)):=Z7 (by simp);rw[Qc f550l0.eq_1];simp[h,q,(G0 B c (QS (VG a b)) (Qd7 _)),v] | succ n A=>intro k o e S E m p h q;by_cases g:k < a.length;(have G: (k:Int) < (a.length:Int):=by omega);(have x:IntKind.i64.wrap ((k:Int)+1)=((k+1:Nat):Int):=by rw[QC (by omega) (by omega)];omega);have t:=HP (l:=W6 a b k) (k:=k) (by rwa[DH d]);rw[Qgz d g]at t;have j:=Qis (l:=b) (k:=k) (by omega);have C:=BQ (a.getD k 0) (b.getD k 0);have f:=Qba (W6 a b k) k (a.getD k 0 ^^^ b.getD k 0);rw[QgA d g]at f;(have i: (B.set c (QS (W6 a b k)))[c]? =some (QS (W6 a b k)):=by rw[Qy,Qe rfl,Qe s]);(have r: (QS (W6 a b k)).length=a.length:=by rw[Ou,DH d]);(have z: (B.set c (QS (W6 a b k))).set c (QS (W6 a b (k+1)))=B.set c (QS (W6 a b (k+1))):=by rw[TJ]);(have V: (k:Int) < (b.length:Int):=by omega);have P:=Qit b;(have Q:k < b.length:=by omega);have y:k+1<=a.length:=g;have K:=fun o e=>A (k+1) o e (by omega) (by omega);have L:=QF i;generalize T:QS (W6 a b (k+1))=D at *;generalize I:QS (W6 a b k)=u at *;generalize X:B.set c D=Z at *;generalize O:B.set c u=B0 at *;generalize J:a.getD k 0 ^^^ b.getD k 0=U at *;generalize a.getD k 0=w at *;generalize b.getD k 0=w2 at *;(have H:u.take k ++ U9 U:: u.drop (k+1)=D:=by rw[<- f,Gc,Qe (by omega)]);unfold U9 at t j C H;(have W:Qn .add (.int .i64 k) (.int .i64 1)=some (.int .i64 ((k+1:Nat):Int)):=by simp[Qn,x]);(have N:Qn .lss (.int .i64 k) (.int .i64 a.length)=some (.bool true):=by simp[Qn,G]);rw[Qc f550l0.eq_1];simp[-getElem?_pos,Qo,-Qn,m,p,h,q,W,N,G,i,t,j,C,r,y,H,z];refine K o _ ?_ ?_ ?_ ?_ <;> simp[m,p,h];(have M:k=a.length:=by omega);exact A k o e (by omega) E m p h q
def Qc0 (a b o d c) (g:c[d]? =some (QS a)) (f:a.length=b.length) (i:a.length < 1000000):
  call tb 550 [.gs d 0 1 a.length,.sl o 1 (Ur b)] c=some (.tup [],c.set d (QS (VG a b))):=by
 have h:=fun k=>Qnb a b d c (QF g) f i a.length 0 false k (by omega) (by omega);have e:c.set d (QS (W6 a b 0))=c:=by rw[QgB];obtain⟨l,j⟩:=Wj.1 g;rw[<- j,List.set_getElem_self]
 rw[e]at h;rw[zcc 550 rfl rfl];simp[f550C];refine h _ ?_ ?_ ?_ ?_ <;> simp
def QwF (l:T2) (n:Nat):Rc->Prop
 | none=>∀j,j < n->WN l j=false
 | some c=>c < n/\WN l c=true/\∀j,j < c->WN l j=false
def frV:Rc->AV
 | none=> .int .i64 (-1)
 | some c=> .int .i64 (c:Int)
def Qcv (l:T2) (n:Nat) (B:Qp) (r:Option (AV×Qp)):Prop:=∃o,QwF l n o/\r=some (frV o,B)
def Qb1 (l o n B) (u:B[o]? =some (QS l)) (x:n<=64*l.length) (v:n < 1000000):
  ∀d k b,n - k<=d->k<=n->(∀j,j < k->WN l j=false)->b 0= .gs o 0 1 l.length->b 6= .int .i64 n->b 7= .int .i64 k->
  Qcv l n B (R tb (.loop f551l0) b B (Qi 0 (Qu tb f551r0 (Qz f551 B)))):=by
 intro d;induction d with | zero=>intro k b t q i f c e;(have:k=n:=by omega);subst this;refine⟨none,i,?_⟩;rw[Qc f551l0.eq_1];simp[c,e,f551r0,frV] | succ d s=>intro k b t q i f c e;by_cases p:k < n;(have r: (k:Int) < (n:Int):=by omega);(have g:IntKind.i64.wrap ((k:Int)+1)=((k+1:Nat):Int):=by rw[QC (by omega) (by omega)];omega);have m:=F5 l k o B u (by omega) (by omega);cases a:WN l k;rw[a]at m;rw[Qc f551l0.eq_1];simp[f,c,e,r,m,g];refine(fun b=>s (k+1) b (by omega) (by omega) (fun j w=>by rcases Zt j k with h | h;exact i j h;(have:j=k:=by omega);rwa[this])) _ ?_ ?_ ?_ <;> simp[f,c];rw[a]at m;refine⟨some k,⟨p,a,i⟩,?_⟩;rw[Qc f551l0.eq_1];simp[f,c,e,r,m,g,f551r0,frV];exact s k b (by omega) q i f c e
def Qc1 (l a n B) (d:B[a]? =some (QS l)) (e:n<=64*l.length) (b:n < 1000000):Qcv l n B (call tb 551 [.gs a 0 1 l.length,.int .i64 n] B):=by
 rw[zcc 551 rfl rfl];simp[f551C];refine(fun c=>Qb1 l a n B d e b n 0 c (by omega) (by omega) (fun j f=>by omega)) _ ?_ ?_ ?_ <;> simp
def Za {b:Type} {B} {i:Nat} {x} (h:B[i]? =some x) (M:List b): (B ++ M)[i]? =some x:=by
 rwa[Y3 (QF h)]
def Ua {a:Type} (B x) (M:List a): (B ++ x:: M)[B.length]? =some x:=by simp
def Kl {a:Type} (B x y) (M:List a): (B ++ x:: y:: M)[B.length+1]? =some y:=by
 rw[Yq (by omega)];simp
def NW {a:Type} (B x y) (M:List a): (B ++ x:: M).set B.length y=B ++ y:: M:=by
 rw[T3 _ _ (QX _)];simp
def Qbl {a:Type} (B x y z) (M:List a): (B ++ x:: y:: M).set (B.length+1) z=B ++ x:: z:: M:=by
 rw[T3 _ _ (by omega)];simp
def TSg.app {B v l} (h:TSg B v l) (M):TSg (B ++ M) v l:=by
 obtain⟨f,d,e,c,b⟩:=h;exact⟨f,d,e,c,fun a=>⟨(b a).1,Za (b a).2 M⟩⟩
def L4 (C:Qj) (w:T2) (f:Tm->Bool):Prop:=w.length=C.length / 64+1/\∀(k:Nat) (y:Tm),C[k]? =some y->WN w k=f y
def QbK {C} (f:Asc C) {i j:Nat} {y} (g:C[i]? =some y) (k:C[j]? =some y):i=j:=by
 obtain⟨a,c⟩:=Wj.1 g;obtain⟨b,d⟩:=Wj.1 k;have e:=MI.1 f;rcases LA i j with h | h | h;have:=e i j a b h;rw[c,d,Xc]at this;omega;exact h;have:=e j i b a h;rw[c,d,Xc]at this;omega
def D3 (C:Qj) (f:Tm->Bool) (B:Qp) (r:Option (AV×Qp)):Prop:=∃w,L4 C w f/\r=some (.gs B.length 0 1 w.length,B ++ [QS w])
def QiU (l x y):QA (l ++ [x]) y=(QA l y || decide (Qm x y=0)):=by
 simp[QA,BN]
def Qmn {C B g H q} (O:B[g]? =some (H:: q)) (M:TSg B H C) (L:C.length < 1000000) (N: ∀x∈C,x.mass < big) (J:Asc C) (S) (K:Asc S) (A: ∀y∈S,y∈C) (T:S.length < 1000000):
  ∀b a o w c,S=a ++ b->L4 C w (QA a)->c 0= .gp g 0->c 5= .gs B.length 0 1 w.length->c 17= .sl o 4 (Qa S)->c 18= .int .i64 S.length->c 19= .int .i64 a.length->
  D3 C (QA S) B (R tb (.loop f544l0) c (B ++ [QS w]) (Qi 0 (Qu tb f544r0 (Qz f544 B)))):=by
 intro b;induction b with | nil=>intro a o w c f u E s i d l;simp only[QH]at f;subst f;refine⟨w,u,?_⟩;rw[Qc f544l0.eq_1];simp[s,i,d,l,f544r0] | cons y b Q=>intro a o w c f u E s i d l;have V:=QJ f;(have D:y∈S:=by rw[f];simp);obtain⟨k,n,m⟩:=QoW (Za O [QS w]) (M.app [QS w]) L N J (A y D);have P:=QF n;have U:=u.1;have r:=QcY w k B.length (B ++ [QS w]) (Ua B (QS w) []) (by omega) (by omega);rw[NW]at r;(have G:y ∉ a:=by intro h;rw[f]at K;have:=(Gn.1 K).2.2 y h y (by simp);rw[Xc]at this;omega);(have p:L4 C (XA w k) (QA (a ++ [y])):=by refine⟨by rwa[RM],fun j z t=> ?_⟩;rw[Qh2 (by omega),u.2 j z t,QiU];by_cases v:j=k;subst v;rw[n]at t;(have:y=z:=by injection t);subst this;(have:QA a y=false:=by cases h:QA a y;rfl;exact absurd (Yj.1 h) G);simp[this,Xc];(have: ¬Qm y z=0:=by intro e;have e:=Vm.1 e;subst e;exact v (QbK J t n));simp[v,this]);have I:=fun o c=>Q (a ++ [y]) o (XA w k) c (by rw[f];simp) p;rw[RM]at I;(have W:Qd y≠[]:=by intro h;have:=QG y;rw[h]at this;simp at this);rw[Qc f544l0.eq_1];simp[E,s,i,d,l,(QB f),(QN f),(wr1 a.length (by omega)),Qf,m,r];refine I o _ ?_ ?_ ?_ ?_ ?_ <;> simp[E,s,i,d]
def Qd4 (n):QS (List.replicate n 0)=List.replicate n (.int .u64 0):=by
 simp[QS,U9]
def Dd (n) (x:AV): (List.replicate n [x]).flatten=List.replicate n x:=by
 induction n with | zero=>rfl | succ n a=>simp[SC,a]
def QkR (n j):WN (List.replicate n 0) j=false:=by
 unfold WN;rw[Zh,Lu];split <;> simp
def QcX {C B g m a} (i:B[g]? =some (m:: a)) (l:TSg B m C) (u:C.length < 1000000) (r: ∀x∈C,x.mass < big) (z:Asc C) {x} (J:x.mass < 1000000) (e: ∀y∈QD x,y∈C):
  D3 C (QA (QD x)) B (call tb 544 [.gp g 0,.agg (Qd x)] B):=by
 have t:L4 C (List.replicate (C.length / 64+1) 0) (QA []):=⟨by simp,fun k y _=>by rw[QkR];rfl⟩;have h:=fun o A=>Qmn i l u r z (QD x) (WV x) e (by have E:=WC x;have H:=YU x;omega) (QD x) [] o _ A rfl t;rw[Qd4,S5]at h;obtain⟨D,G,rfl,c,I⟩:=l;obtain⟨n,v⟩:=Rg x (B ++ [List.replicate (C.length / 64+1) (.int .u64 0)]) (by omega);have q:=QF i;have d:IntKind.i64.wrap ((C.length:Int) / 64)=(C.length:Int) / 64:=QC (by omega) (by omega);have f:IntKind.i64.wrap ((C.length:Int) / 64+1)=(C.length:Int) / 64+1:=QC (by omega) (by omega);have K: ((C.length:Int) / 64+1).toNat=C.length / 64+1:=by omega
 have w:Qn .quo (.int .i64 C.length) (.int .i64 64)=some (.int .i64 ((C.length:Int) / 64)):=by simp[Qn,toI,d]
 have p:Qn .add (.int .i64 ((C.length:Int) / 64)) (.int .i64 1)=some (.int .i64 ((C.length / 64+1:Nat):Int)):=by simp[Qn,f]
 have j: (C.length / 64+1)*8<=140737488355328:=by omega
 have b: ((C.length / 64+1:Nat):Int)<=4611686018427387904:=by omega
 have s:IntKind.u64.wrap 0=0:=rfl;rw[zcc 544 rfl rfl];generalize C.length / 64+1=W at *;simp[-getElem?_pos,Qo,-Qn,f544C,i,w,p,(by omega),j,b,(by omega),Qf,v];refine h n _ ?_ ?_ ?_ ?_ ?_ <;> simp
abbrev Ld:=Nat×List W64×List W64
def Rp (x:Ld):AV:= .agg [.int .i64 (x.1:Int),.sl false 1 (Ur x.2.1)]
def SX (x:Ld):AV:= .agg [.int .i64 (x.1:Int),.sl false 1 (Ur x.2.2)]
def fR (k:Nat) (RS:List Ld):Option Ld:=RS.find? fun x=>x.1 == k
def QfA (k:Nat): ∀a:List Ld,Wu false (a.map Rp) (.int .i64 (k:Int))=some ((fR k a).map fun x=> .sl false 1 (Ur x.2.1))
 | []=>by simp[Wu,Oi,fR]
 | x:: a=>by
  simp only[ZI,Rp,Wu,Ny,QT];by_cases h:x.1=k;subst h;simp[fR];have b: ((k:Int) == (x.1:Int))=false:=by simp only[Lw,ne_eq];omega
  have c: (x.1 == k)=false:=by simp only[Lw,ne_eq];exact h
  rw[b];simp only[fR,List.find?_cons,c];exact(QfA k a)
def Qfz (k:Nat): ∀a:List Ld,Wu false (a.map SX) (.int .i64 (k:Int))=some ((fR k a).map fun x=> .sl false 1 (Ur x.2.2))
 | []=>by simp[Wu,Oi,fR]
 | x:: a=>by
  simp only[ZI,SX,Wu,Ny,QT];by_cases h:x.1=k;subst h;simp[fR];have b: ((k:Int) == (x.1:Int))=false:=by simp only[Lw,ne_eq];omega
  have c: (x.1 == k)=false:=by simp only[Lw,ne_eq];exact h
  rw[b];simp only[fR,List.find?_cons,c];exact(Qfz k a)
def Qdt {k a x} (h:fR k a=some x):x∈a/\x.1=k:=⟨List.mem_of_find?_eq_some h,by have:=List.find?_some h;simpa using this⟩
def QpY {k a} (h:fR k a=none): ∀x∈a,x.1≠k:=fun x b=>by have:=List.find?_eq_none.1 h x b;simpa using this
def SY (B:Qp) (b0:Nat) (C:Qj) (n:Nat) (RS:List Ld):Prop:=∃(idC szC:Nat) (c:Qx) (vb:AV),
 B[b0+2]? =some [.gs idC 0 szC C.length,.int .i64 (n:Int),.mp b0,.mp (b0+1),vb]/\B[b0]? =some (.undef:: RS.map Rp)/\B[b0+1]? =some (.undef:: RS.map SX)/\
 (C≠[]->szC=4/\b0+2 < idC/\B[idC]? =some (Ql C ++ c))/\
 (vb= .gs 0 0 0 0\/∃(idb:Nat) (ks:Qx),vb= .gs idb 0 1 ks.length/\ks≠[]/\b0+2 < idb/\(C≠[]->idC < idb)/\B[idb]? =some ks/\ks.length<=RS.length)
def SY.app {B j C n i} (h:SY B j C n i) (M):SY (B ++ M) j C n i:=by
 obtain⟨f,d,c,k,w,r,o,a,g⟩:=h;refine⟨f,d,c,k,Za w M,Za r M,Za o M,fun e=>⟨(a e).1,(a e).2.1,Za (a e).2.2 M⟩,?_⟩;rcases g with g | ⟨b,v,p,s,q,l,u,t⟩;exact .inl g;exact .inr ⟨b,v,p,s,q,l,Za u M,t⟩
def vN (N:Nat) (w:T2):Nat->Bool:=fun j=>decide (j < N) && WN w j
def Qu9 (N) {a b} (h:a.length=b.length):vN N (VG a b)=xv (vN N a) (vN N b):=by
 funext j;simp only[vN,xv,BV h];cases decide (j < N) <;> simp
def QkA (N n:Nat) (RS:List Ld):Prop:=∀x∈RS,x.1 < N/\x.2.1.length=N / 64+1/\x.2.2.length=n / 64+1/\WN x.2.1 x.1=true/\∀j,j < x.1->WN x.2.1 j=false
def Qnn (N n:Nat) (RS:List Ld) (B:Qp) (b0:T2) (r:Option (AV×Qp)):Prop:=∃b q,b.length=N / 64+1/\q.length=n / 64+1/\
 Sp (RS.map fun x=>vN N x.2.1) (xv (vN N b0) (vN N b))/\(∀x∈RS,WN b x.1=false)/\r=some (.tup [.gs B.length 0 1 b.length,.gs (B.length+1) 0 1 q.length],B ++ [QS b,QS q])
def Qmk {B b0 C n f} (hS:SY B b0 C n f) (hR:QkA C.length n f) (hC:C.length < 100000) (hn:n < 100000) (w):
  ∀d k b q e,C.length - k<=d->k<=C.length->b.length=C.length / 64+1->q.length=n / 64+1->Sp (f.map fun x=>vN C.length x.2.1) (xv (vN C.length w) (vN C.length b))->(∀x∈f,x.1 < k->WN b x.1=false)->
  e 0= .gp (b0+2) 0->e 1= .gs B.length 0 1 b.length->e 6= .gs (B.length+1) 0 1 q.length->e 21= .int .i64 C.length->e 22= .int .i64 k->
  Qnn C.length n f B w (R tb (.loop f548l0) e (B ++ [QS b,QS q]) (Qi 0 (Qu tb f548r0 (Qz f548 (B ++ [QS w]))))):=by
 intro d;induction d with | zero=>intro k b q e hd hk J A i z m o p a g;(have:k=C.length:=by omega);subst this;refine⟨b,q,J,A,i,fun x D=>z x D (hR x D).1,?_⟩;rw[Qc f548l0.eq_1];simp[m,o,p,a,g,f548r0] | succ d K=>intro k b q e hd hk J A i z m o p a g;by_cases hlt:k < C.length;(have U: (k:Int) < (C.length:Int):=by omega);(have t:IntKind.i64.wrap ((k:Int)+1)=((k+1:Nat):Int):=by rw[QC (by omega) (by omega)];omega);(have W:k / 64 < b.length:=by omega);have L:=F5 b k B.length (B ++ [QS b,QS q]) (Ua B _ _) W (by omega);obtain⟨idC,szC,c,vb,S,T,s3,s4,s5⟩:=hS.app [QS b,QS q];have s:=QfA k f;have I:=Qfz k f;have hw0:IntKind.i64.wrap 0=0:=rfl;rw[Qc f548l0.eq_1];rcases M:fR k f with _ | x;rw[M]at s I;have v:=fun e=>K (k+1) b q e (by omega) (by omega) J A i (fun x D r=>by have:=QpY M x D;exact z x D (by omega));simp only[O1]at s I;generalize f.map Rp=eR at *;generalize f.map SX=X at *;generalize H:B ++ [QS b,QS q]=Y at *;simp[-getElem?_pos,Qo,Zd,m,o,a,g,U,S,T,s,t];refine v _ ?_ ?_ ?_ ?_ ?_ <;> simp[m,o,p,a];rw[M]at s I;simp only[Zy]at s I;obtain⟨E,P⟩:=Qdt M;obtain⟨r1,r2,r3,r4,r5⟩:=hR x E;cases l:WN b k;rw[l]at L;have v:=fun e=>K (k+1) b q e (by omega) (by omega) J A i (fun y Q N=>by rcases Zt y.1 k with h | h;exact z y Q h;(have:y.1=k:=by omega);rwa[this]);generalize f.map Rp=eR at *;generalize f.map SX=X at *;generalize H:B ++ [QS b,QS q]=Y at *;simp[-getElem?_pos,Qo,Zd,m,o,a,g,U,S,T,s,t,L];refine v _ ?_ ?_ ?_ ?_ ?_ <;> simp[m,o,p,a];rw[l]at L;(have j:b.length=x.2.1.length:=by omega);(have u:q.length=x.2.2.length:=by omega);have G:=Qc0 b x.2.1 false B.length (B ++ [QS b,QS q]) (Ua B _ _) j (by omega);rw[NW]at G;have r:=Qc0 q x.2.2 false (B.length+1) (B ++ [QS (VG b x.2.1),QS q]) (Kl B _ _ _) u (by omega);rw[Qbl]at r;obtain⟨idC',Z,c',vb',V,s2',O,s4',s5'⟩:=hS.app [QS (VG b x.2.1),QS q];have v:=fun e=>K (k+1) (VG b x.2.1) (VG q x.2.2) e (by omega) (by omega) (by rwa[KX j]) (by rwa[KX u]) (by rw[Qu9 _ j,<- Sv];exact i.sum (Sp.mem (Yg.2 ⟨x,E,rfl⟩))) (fun y Q N=>by rw[BV j];rcases Zt y.1 k with h | h;rw[z y Q h,r5 y.1 (by omega)];rfl;(have:y.1=k:=by omega);rw[this,l,<- P,r4];rfl);rw[KX j,KX u]at v;generalize f.map Rp=eR at *;generalize f.map SX=X at *;generalize H:B ++ [QS b,QS q]=Y at *;generalize hBB2:B ++ [QS (VG b x.2.1),QS q]=BB2 at *;simp[-getElem?_pos,Qo,Zd,m,o,p,a,g,U,S,T,V,O,s,I,t,L,G,r];refine v _ ?_ ?_ ?_ ?_ ?_ <;> simp[m,o,p,a];exact K k b q e (by omega) hk J A i z m o p a g
def QcZ {B l C n j} (e:SY B l C n j) (r:QkA C.length n j) (J:C.length < 100000) (p:n < 100000) (w) (v:w.length=C.length / 64+1):
  Qnn C.length n j B w (call tb 548 [.gp (l+2) 0,.gs B.length 0 1 w.length] (B ++ [QS w])):=by
 have h:=fun o=>Qmk e r J p w C.length 0 w (List.replicate (n / 64+1) 0) o (by omega) (by omega) v (by simp) (by rw[LY];exact .zero) (fun x _ Q=>by omega);rw[Qd4,S5]at h;obtain⟨u,D,c,T,A,R,P,M,O⟩:=e.app [QS w];obtain⟨m,k,N,y,d,H,K,G,t⟩:=e.app [QS w,List.replicate (n / 64+1) (.int .u64 0)];have i:IntKind.i64.wrap ((n:Int) / 64)=(n:Int) / 64:=QC (by omega) (by omega);have g:IntKind.i64.wrap ((n:Int) / 64+1)=(n:Int) / 64+1:=QC (by omega) (by omega);have I:Qn .quo (.int .i64 n) (.int .i64 64)=some (.int .i64 ((n:Int) / 64)):=by simp[Qn,toI,i]
 have L:Qn .add (.int .i64 ((n:Int) / 64)) (.int .i64 1)=some (.int .i64 ((n / 64+1:Nat):Int)):=by simp[Qn,g]
 have f: (n / 64+1)*8<=140737488355328:=by omega
 have b: ((n / 64+1:Nat):Int)<=4611686018427387904:=by omega
 have E:IntKind.u64.wrap 0=0:=rfl;rw[zcc 548 rfl rfl];generalize n / 64+1=W at *;have q:B ++ [QS w]++ [List.replicate W (AV.int .u64 0)]=B ++ [QS w,List.replicate W (AV.int .u64 0)]:=by simp
 have a: (B ++ [QS w]).length=B.length+1:=by simp
 generalize z:B ++ [QS w]=U at *;generalize s:B ++ [QS w,List.replicate W (AV.int .u64 0)]=S at *;simp[-getElem?_pos,Qo,Zd,-Qn,f548C,A,d,I,L,(by omega),f,b,(by omega),q,a];refine h _ ?_ ?_ ?_ ?_ ?_ <;> simp
def Qrj {a B v l} (S o) (h:TS a B v l) (x:l.length+S.length < 1000000): ∃s r,appM 56 4 v (.sl o 4 (Qa S)) B=some (s,r)/\TS a r s (l ++ S):=by
 obtain⟨M,f,w,rfl,rfl,u⟩:=h;have i: (l.length+S.length)*56<=140737488355328:=Wb (by omega);have p: (Qa S).flatten=Ql S:=by rw[ZM];rfl
 have m: (Qa S).length=S.length:=by simp[ZM]
 have q:XR 4 (.sl o 4 (Qa S)) (a ++ M)=some (S.length,Ql S):=by simp[XR,p,m,(Yn Zi S)]
 by_cases j:S=[];subst j;refine⟨_,a ++ M,?_,M,f,w,rfl,rfl,by simpa using u⟩;simp only[appM,q,QO];rw[Qe ⟨by omega,i⟩,Qe Xy];simp;have d: ¬S.length=0:=fun e=>j (Yu e);rcases u with⟨rfl,rfl,rfl⟩ | ⟨rfl,k,b,n⟩;refine⟨.gs (a ++ M).length 0 4 S.length,a ++ (M ++ [Ql S]),?_,M ++ [Ql S],(a ++ M).length,4,rfl,rfl,.inr ⟨rfl,by simp,by simpa using j,?_⟩⟩;simp only[appM,q,QO];rw[Qe ⟨by omega,i⟩,Qb d,Qe (by simp)];simp;rw[<- ZX,Yv];simp;have t: (Ql l).length=l.length*4:=Yl QG l;have c:Ql (l ++ S)=Ql l ++ Ql S:=by simp[Ql,Vp]
 refine⟨.gs (a ++ M).length 0 4 (l.length+S.length),(a ++ M).set f []++ [Ql l ++ Ql S],?_,M.set (f - a.length) []++ [Ql l ++ Ql S],(a ++ M).length,4,?_,by simp,.inr ⟨rfl,by simp,by simp[b],?_⟩⟩;simp only[appM,q,QO];rw[Qe ⟨by omega,i⟩,Qb d,Qb (by omega),Qe ⟨trivial,trivial⟩,n];simp only[QO];rw[Qe ⟨(by intro e;rw[e]at t;simp at t;exact b (Yu (by omega))),by omega⟩,Qb (by omega),Z7 (by omega),(Yn Zi l)];rw[WA k,ZX];have e: (a ++ M).length=((a ++ M).set f []).length:=by simp
 rw[c,e,Yv]
def Qu8 {b B v l} (h:TS b B v l) {g} (f:g < b.length) (x):TS (b.set g x) (B.set g x) v l:=by
 obtain⟨M,i,c,rfl,rfl,a⟩:=h;refine⟨M,i,c,List.set_append_left _ _ f,rfl,?_⟩;rcases a with a | ⟨e,j,d,k⟩;exact .inl a;refine .inr ⟨e,by simpa using j,d,?_⟩;rwa[Qy,Qb (by omega)]
def MF {a B v l} (h:TS a B v l) {i:Nat} {x} (b:a[i]? =some x):B[i]? =some x:=by
 obtain⟨M,d,c,rfl,rfl,e⟩:=h;exact Za b M
def Qu7 {a B v l} (h:TS a B v l): ∃M,B=a ++ M:=by
 obtain⟨M,b,c,e,_,_⟩:=h;exact⟨M,e⟩
def PP {a:Type} {B:List a} {i x} (h:B[i]? =some x):B.set i x=B:=by
 obtain⟨c,b⟩:=Wj.1 h;rw[<- b,List.set_getElem_self]
def gC (b0 n:Nat) (v:AV):Qx:=[v,.int .i64 (n:Int),.mp b0,.mp (b0+1),.gs 0 0 0 0]
def YR:Qj->Qj
 | []=>[]
 | x:: r=>QD x ++ YR r
def VO {y}: ∀{l},y∈YR l↔∃x∈l,y∈QD x
 | []=>by simp[YR]
 | x:: r=>by simp[YR,VO (l:=r)]
def Ro: ∀l:Qj,(YR l).length<=Qs l
 | []=>by simp[YR]
 | x:: r=>by
  have a:=WC x;have b:=Ro r;simp only[YR,Zl,Qs];omega
def Ss {x y} (h:y∈QD x):y.mass<=x.mass:=V5 x y (Rx x y h)
def Qpt (d n m) (E:Qp) (L) (J:d+2 < E.length) (hgi:m≠d+2) (hL:E[m]? =some (Ql L)) (hLl:L.length < 1000000) (P: ∀x∈L,x.mass < 1000000) (c K) (Q:Out->Prop) (X):
  ∀a b C B v l,L=b ++ a->TS (E.set (d+2) (gC d n v)) B v C->C.length+Qs a < 1000000->(∀x∈C,x.mass < 1000000)->
   l 0=X->l 5= .gp (d+2) 0->l 23= .gs m 0 4 L.length->l 24= .int .i64 L.length->l 25= .int .i64 b.length->
   (∀i D H,TS (E.set (d+2) (gC d n H)) D H (C ++ YR a)->i 0=X->i 5= .gp (d+2) 0->Q (R tb c i D K))->
  Q (R tb (.loop f542l0) l B (Qi 0 (Qu tb c K))):=by
 intro a;induction a with | nil=>intro b C B v l t e z A T G p o q h;simp only[QH]at t;rw[<- t]at q;rw[Qc f542l0.eq_1];simp[p,o,q];refine h _ B v (by simpa[YR]using e) ?_ ?_ <;> simp[T,G] | cons x a Z=>intro b C B v l t e z A T G p o q h;have hll:=QJ t;(have W:b.length < L.length:=by omega);have hxm:=P x (by rw[t];simp);simp only[Qs]at z;have hsl:=WC x;(have U:B[m]? =some (Ql L):=by refine MF e ?_;rwa[Qy,Qb (by omega)]);(have N:B[d+2]? =some (gC d n v):=by refine MF e ?_;rw[Qy,Qe rfl,Qe J]);have M:=Vj (f:=Qd) (k:=4) QG t [];have I: (Ql L).map AV.strip=Ql L:=Yn Zi L;rw[QH]at M;have Y: (Ql L).length=L.length*4:=Yl QG L;(have O:b.length*4+4<=(Ql L).length:=by omega);obtain⟨o1,hs⟩:=Rg x B (by omega);obtain⟨S,V,ha,j⟩:=Qrj (QD x) false e (by omega);(have s:V[d+2]? =some (gC d n v):=by refine MF j ?_;rw[Qy,Qe rfl,Qe J]);have r:=Qu8 j (g:=d+2) (by simpa using J) (gC d n S);rw[TJ]at r;have ih:=fun l=>Z (b ++ [x]) (C ++ QD x) (V.set (d+2) (gC d n S)) S l (by rw[t];simp) r (by simp;omega) (fun y hy=>by rcases Ze.1 hy with h | h;exact A y h;have:=Ss h;omega);obtain⟨id,sz,hv⟩:=M8 e;obtain⟨id2,sz2,w⟩:=M8 j;rw[Zl]at w;have hr: (Y4 Qd L)=Ql L:=rfl;rw[hr]at M;have hl2:=QF s;rw[Qc f542l0.eq_1];generalize Ql L=rL at *;simp only[gC]at *;subst hv;subst w;simp[-getElem?_pos,Qo,G,p,o,q,(QN t),(wr1 b.length (by omega)),U,N,s,M,I,O,Qf,hs,ha];refine ih _ ?_ ?_ ?_ ?_ ?_ ?_;simp[T];simp[G];simp[p];simp[o];simp;intro i D H u;refine h i D H ?_;simpa[YR,ZX]using u
def fC (C:Qj) (f:Tm->Bool):Nat->Bool:=fun j=>match C[j]? with
 | some y=>f y
 | none=>false
def HO {C w f} (h:L4 C w f):vN C.length w=fC C f:=by
 funext j;simp only[vN,fC];rcases Zt j C.length with a | a;rw[Q0 a,h.2 j _ (Q0 a)];simp[a];rw[ZF a];have: ¬j < C.length:=by omega
 simp[this]
def EG {c p v} (d:v p=true): ∀{b:List (c×(c->Bool))},Tri b->(∀x∈b,v x.1=false)->Tri (b ++ [(p,v)])
 | [],_,_=>⟨d,by simp,trivial⟩
 | (q,r):: b,⟨f,e,g⟩,h=>⟨f,fun x a=>by
   rcases Ze.1 a with a | a;exact e x a;simp at a;subst a;exact h (q,r) (by simp),EG d g fun x a=>h x (by simp[a])⟩
def Qtv (f) (a:f.map AV.strip=f):ZW f 0 1 f.length=f.map fun x=>[x]:=by
 unfold ZW;apply U4;intro i;rcases Zt i f.length with h | h;have c:f[i].strip=f[i]:=by have:=TM (fun l=>l[i]?) a;simp only[Pi,Q0 h,Zy]at this;injection this
 have b: (f.drop i).take 1=[f[i]]:=by rw[Lt h];rfl
 simp[h,a,b];simp[h]
def Qf8 (l): (QS l).map AV.strip=QS l:=by simp[QS,U9,AV.strip]
def Hc (l):ZW (QS l) 0 1 l.length=Ur l:=by
 have:=Qtv (QS l) (Qf8 l);rw[Ou]at this;rw[this];simp[QS,Ur]
structure ElI (C l:List Tm) (n:Nat) (RS:List Ld):Prop where
 fit:QkA C.length n RS
 tri:Tri (RS.map fun x=>(x.1,vN C.length x.2.1))
 sp: ∀v,Sp (RS.map fun x=>vN C.length x.2.1) v↔Sp (l.map fun x=>fC C (QA (QD x))) v
def QeB (C l:Qj) (n:Nat) (B0:Qp) (r:Option (AV×Qp)):Prop:=∃RS M,SY (B0 ++ M) B0.length C n RS/\ElI C l n RS/\r=some (.gp (B0.length+2) 0,B0 ++ M)
def Qlu {C l n e x w b} (h:ElI C l n e) (g:L4 C w (QA (QD x))) (c:Sp (e.map fun x=>vN C.length x.2.1) (xv (vN C.length w) (vN C.length b))) (i: ∀j,j < C.length->WN b j=false):ElI C (l ++ [x]) n e:=by
 have k:vN C.length b=zv0:=by funext j;simp only[vN,zv0];by_cases f:j < C.length;rw[i j f];simp;simp[f]
 rw[k,N1,HO g]at c;refine⟨h.fit,h.tri,fun v=>⟨fun d=> ?_,fun d=> ?_⟩⟩;exact((h.sp v).1 d).mono fun y a=>by simp only[Xt];exact U2 _ a
 refine d.sub fun y a=> ?_;rw[Xt]at a;rcases Ze.1 a with a | a;exact(h.sp y).2 (.mem a);simp at a;subst a;exact c
def Qps {C l n e x w b q c} (h:ElI C l n e) (u:L4 C w (QA (QD x))) (i:Sp (e.map fun x=>vN C.length x.2.1) (xv (vN C.length w) (vN C.length b)))
  (d: ∀x∈e,WN b x.1=false) (r:b.length=C.length / 64+1) (p:q.length=n / 64+1) (t:c < C.length) (f:WN b c=true) (o: ∀j,j < c->WN b j=false):ElI C (l ++ [x]) n (e ++ [(c,b,q)]):=by
 have g:=HO u;refine⟨?_,?_,?_⟩;intro y a;rcases Ze.1 a with a | a;exact h.fit y a;simp at a;subst a;exact⟨t,r,p,f,o⟩;rw[Xt];refine EG (by simp[vN,t,f]) h.tri fun y a=> ?_;obtain⟨z,m,rfl⟩:=Yg.1 a;simp[vN,d z m];intro v;rw[Xt,Xt];constructor;refine Sp.sub fun y a=> ?_;rcases Ze.1 a with a | a;exact((h.sp y).1 (.mem a)).mono fun z d=>U2 _ d;simp at a;subst a;have s:=((h.sp _).1 i).mono (M:=(l.map fun x=>fC C (QA (QD x)))++ [x].map fun x=>fC C (QA (QD x))) fun z d=>U2 _ d;have k:Sp ((l.map fun x=>fC C (QA (QD x)))++ [x].map fun x=>fC C (QA (QD x))) (vN C.length w):=by rw[g];exact .mem (by simp)
 have:=k.sum s;rwa[M9]at this;refine Sp.sub fun y a=> ?_;rcases Ze.1 a with a | a;exact((h.sp y).2 (.mem a)).mono fun z d=>U2 _ d;simp at a;subst a;rw[<- g];have s:=i.mono (M:=(e.map fun x=>vN C.length x.2.1)++ [(c,b,q)].map fun x=>vN C.length x.2.1) fun z d=>U2 _ d;have k:Sp ((e.map fun x=>vN C.length x.2.1)++ [(c,b,q)].map fun x=>vN C.length x.2.1) (vN C.length b):= .mem (by simp);have:=s.sum k;rwa[Sv,LY,N1]at this
def ZK (B0 B:Qp):Prop:=∃M,B=B0 ++ M
def ZK.app {a B} (h:ZK a B) (M):ZK a (B ++ M):=by
 obtain⟨b,rfl⟩:=h;exact⟨b ++ M,by simp⟩
def ZK.set {d B} (h:ZK d B) {i} (e:d.length<=i) (x):ZK d (B.set i x):=by
 obtain⟨g,rfl⟩:=h;exact⟨_,WA e x⟩
def Quf {k a b} (c: ∀x∈a,WN b x.1=false) (f:WN b k=true):fR k a=none:=by
 rcases h:fR k a with _ | x;rfl;obtain⟨e,d⟩:=Qdt h;have:=c x e;rw[d,f]at this;cases this
def Qbm {a:Type} (l) (x y:a): (l ++ [x]).set l.length y=l ++ [y]:=by
 rw[T3 _ _ (QX _)];simp
def Qu2 {B8:Qp} {f C} {n:Nat} {h x e szC k j}
  (m:f+2 < B8.length) (t:B8[f]? =some (.undef:: (h.map Rp ++ [Rp x]))) (q:B8[f+1]? =some (.undef:: (h.map SX ++ [SX x])))
  (w:C≠[]->szC=4/\f+2 < e/\B8[e]? =some (Ql C ++ k))
  (p: ∃(d:Nat) (g:Qx),j= .gs d 0 1 g.length/\g≠[]/\f+2 < d/\(C≠[]->e < d)/\B8[d]? =some g/\g.length<=h.length+1):
  SY (B8.set (f+2) [.gs e 0 szC C.length,.int .i64 (n:Int),.mp f,.mp (f+1),j]) f C n (h ++ [x]):=by
 refine⟨e,szC,k,j,?_,?_,?_,?_,?_⟩;rw[Qy,Qe rfl,Qe m];rw[Qy,Qb (by omega),t];simp;rw[Qy,Qb (by omega),q];simp;intro v;obtain⟨a,b,c⟩:=w v;refine⟨a,b,?_⟩;rwa[Qy,Qb (by omega)];obtain⟨d,g,r,u,l,o,y,s⟩:=p;refine .inr ⟨d,g,r,u,l,o,?_,by simpa using s⟩;rwa[Qy,Qb (by omega)]
def Qh1 {B c C idC l cc w q m} (i r:Nat) (o) (I:r < 1000000) (z:B[c]? =some w) (A:B[c+1]? =some q) (v:B[c+2]? =some m) (k:C≠[]->c+2 < idC/\B[idC]? =some (Ql C ++ cc))
  (D:l= .gs 0 0 0 0\/∃(a:Nat) (b:Qx),l= .gs a 0 1 b.length/\b≠[]/\c+2 < a/\(C≠[]->idC < a)/\B[a]? =some b/\b.length<=r):
  ∃p f,appM 8 1 l (.sl o 1 [[.int .i64 (i:Int)]]) B=some (p,f)/\(∀g:Qp,g.length=c->ZK g B->ZK g f)/\f[c]? =some w/\f[c+1]? =some q/\f[c+2]? =some m/\(C≠[]->f[idC]? =some (Ql C ++ cc))/\
   (∃(a:Nat) (b:Qx),p= .gs a 0 1 b.length/\b≠[]/\c+2 < a/\(C≠[]->idC < a)/\f[a]? =some b/\b.length<=r+1):=by
 have s:XR 1 (.sl o 1 [[AV.int .i64 (i:Int)]]) B=some (1,[.int .i64 (i:Int)]):=by simp[XR,AV.strip]
 have j:=QF v;rcases D with rfl | ⟨a,b,rfl,t,H,y,u,x⟩;refine⟨.gs B.length 0 1 1,B ++ [[.int .i64 (i:Int)]],?_,fun g _ h=>h.app _,Za z _,Za A _,Za v _,fun d=>Za (k d).2 _,⟨B.length,[.int .i64 (i:Int)],rfl,by simp,j,fun d=>QF (k d).2,by simp,by simp⟩⟩;simp[appM,s];have G: ¬b.length=0:=fun e=>t (Yu e);have E:=QF u;refine⟨.gs B.length 0 1 (b.length+1),B.set a []++ [b.map AV.strip ++ [.int .i64 (i:Int)]],?_,fun g e h=>(h.set (by omega) _).app _,?_,?_,?_,?_,⟨B.length,b.map AV.strip ++ [.int .i64 (i:Int)],by simp,by simp,j,fun d=>QF (k d).2,?_,by simpa using x⟩⟩;simp only[appM,s,QO];rw[Qe ⟨by omega,by omega⟩,Qb (by omega),Qb (by omega),Qe ⟨trivial,trivial⟩,u];simp only[QO];rw[Qe ⟨t,by omega⟩,Qb (by omega)];simp;refine Za ?_ _;rwa[Qy,Qb (by omega)];refine Za ?_ _;rwa[Qy,Qb (by omega)];refine Za ?_ _;rwa[Qy,Qb (by omega)];intro d;have:=y d;refine Za ?_ _;rw[Qy,Qb (by omega)];exact(k d).2;have e:B.length=(B.set a []).length:=by simp
 rw[e,Yv]
end Go.Am
