/-
  Kn26, Kn27, Kn28, Kn29, Kn44, Kc1, Kc2, Kc3a, Kc3.
-/
import Derived.Test.YthlnfdbbneaelaaGreatDoorG20
import Derived.Test.YthlnfdbbneaelaaGreatDoorG18
set_option linter.all false
open Go.Am.F
namespace Go.Am
set_option maxRecDepth 20000
structure ES (B:List (List AV)) (x0 n:Nat) (cols:AV) (rs:List (List Int)) (us:List Bool) (piv:List Int) (lg:Bool):Prop where
 x:B[x0]? =some [cols,.gs (if rs.length=0 then 0 else x0+4*rs.length) 0 (if rs.length=0 then 0 else 1) rs.length,.gs (if n=0 then 0 else x0+4*rs.length+n) 0 (if n=0 then 0 else 1) n,.bool lg]
 rl:rs.length≠0->B[x0+4*rs.length]? =some ((List.range rs.length).map fun i=> .gp (x0+4*i+3) 0)
 pl:n≠0->B[x0+4*rs.length+n]? =some (Qq piv)
 pn:piv.length=n
 row: ∀i,i < rs.length->B[x0+4*i+3]? =some [.gs (x0+4*i+1) 0 1 n,.gs (x0+4*i+2) 0 1 rs.length,.bool (us.getD i true)]/\B[x0+4*i+1]? =some (Qq ((rwE rs i).take n))/\B[x0+4*i+2]? =some (Qq ((rwE rs i).drop n))
 ul:us.length=rs.length
 wl: ∀i,i < rs.length->(rwE rs i).length=n+rs.length
 bd:lg=false->∀i,i < rs.length->okE (rwE rs i)=true
def Wg {a} (h:okE a=true) (i): (a.getD i 0).natAbs<=1099511627776:=by
 simp only[Zh];rcases Zt i a.length with b | b;rw[Q0 b];have:=X0.1 h a[i] (VH b);simpa using this;rw[ZF b];simp
def DD {a:Q4} {n i} (h:i < n): (a.take n).getD i 0=a.getD i 0:=by
 simp[Zh,h]
def Oa {a n c i} (h:c < n): ((rwE a i).take n).getD c 0=ceE a i c:=DD h
def TV {m x0 i} (h:i < m): ((List.range m).map fun i=>AV.gp (x0+4*i+3) 0)[i]? =some (.gp (x0+4*i+3) 0):=by simp[h]
def OJ (m a): ((List.range m).map fun i=>AV.gp (a+4*i+3) 0).length=m:=by simp
def FP (b a c): ∀i,(scE b a c i).2<=i
 | 0=>by simp[scE]
 | i+1=>by
  have d:=FP b a c i;simp only[scE];split;split <;> simp only <;> omega;omega
def JN:Rc->AV
 | none=> .int .i64 (-1)
 | some j=> .int .i64 (j:Int)
def QtD {B u n cols a g piv} (h:ES B u n cols a g piv false) (hm:a.length < 100000) (hn:n < 100000) (c) (hc:c < n) (K) (Q:Out->Prop)
  (hq: ∀y:Yd,y 0= .gp u 0->y 1= .int .i64 (c:Int)->y 4=JN (scE a g c a.length).1->y 5= .int .i64 ((scE a g c a.length).2:Int)->Q (R tb f564r0 y B K)):
  ∀d i r,a.length - i<=d->i<=a.length->r 0= .gp u 0->r 1= .int .i64 (c:Int)->r 4=JN (scE a g c i).1->r 5= .int .i64 ((scE a g c i).2:Int)->
   r 18= .gs (if a.length=0 then 0 else u+4*a.length) 0 (if a.length=0 then 0 else 1) a.length->r 19= .int .i64 a.length->r 20= .int .i64 i->
  Q (R tb (.loop f564l0) r B (Qi 2 (Qu tb f564r0 K))):=by
 intro d;induction d with | zero=>intro i r hd hi E w p G f j o;(have:i=a.length:=by omega);subst this;rw[Qc f564l0.eq_1];simp[f,j,o];apply hq <;> simp[E,w,p,G] | succ d IH=>intro i r hd hi E w p G f j o;by_cases k:i < a.length;(have t:a.length≠0:=by omega);rw[Qb t,Qb t]at f;have hx:=h.x;rw[Qb t,Qb t]at hx;(have hI: (i:Int) < (a.length:Int):=by omega);(have hw1:IntKind.i64.wrap ((i:Int)+1)=((i+1:Nat):Int):=by rw[QC (by omega) (by omega)];omega);have C:=h.rl t;have z:=TV (x0:=u) k;have D:=OJ a.length u;obtain⟨O,r2,r3⟩:=h.row i k;have hwl:=h.wl i k;(have hlc:c < ((rwE a i).take n).length:=by rw[Ye];omega);have A:=XV hlc;rw[Oa hc]at A;(have I: (Qq ((rwE a i).take n)).length=n:=by rw[YI,Ye];omega);have H:c+1<=n:=hc;(have J: (c:Int) < (n:Int):=by omega);have hl3:=QF O;have hb:=Wg (h.bd rfl i k) c;have X: (ceE a i c).natAbs<=1099511627776:=hb;have s:i+1<=a.length:=k;have hscl:=FP a g c i;(have hw2:IntKind.i64.wrap (((scE a g c i).2:Int)+1)=(((scE a g c i).2+1:Nat):Int):=by rw[QC (by omega) (by omega)];omega);(have b5:Qn .add (.int .i64 ((scE a g c i).2:Int)) (.int .i64 1)=some (.int .i64 (((scE a g c i).2+1:Nat):Int)):=by simp[Qn,toI,hw2]);(have b6:Qn .add (.int .i64 (i:Int)) (.int .i64 1)=some (.int .i64 ((i+1:Nat):Int)):=by simp[Qn,toI,hw1]);(have W:Qn .lss (.int .i64 (i:Int)) (.int .i64 (a.length:Int))=some (.bool true):=by simp[Qn,hI]);(have V:Qn .eql (.int .i64 (ceE a i c)) (.int .i64 0)=some (.bool (decide (ceE a i c=0))):=by by_cases t:ceE a i c=0 <;> simp[Qn,t]);have q:=fun r=>IH (i+1) r (by omega) s;rw[Qb t,Qb t]at q;have ca:=fun B=>JI (n:=ceE a i c) (by omega) (by omega) B;rw[Qc f564l0.eq_1];cases hu:g.getD i true;rw[hu]at O;by_cases S:ceE a i c=0;(have T:acE a g c i=false:=by simp[acE,S]);(have e:scE a g c (i+1)=scE a g c i:=by simp[scE,T]);rw[e]at q;have d1:=decide_eq_true S;rw[d1]at V;generalize ceE a i c=v at *;generalize (List.range a.length).map (fun i=>AV.gp (u+4*i+3) 0)=gl at *;generalize (rwE a i).take n=tk at *;simp[-getElem?_pos,Qo,Zd,-Qn,w,p,G,f,j,o,b5,b6,W,V,C,z,D,k,s,O,r2,I,H,J,A];apply q <;> simp[E,w,p,G,f,j];have d1:=Xe S;(have T:acE a g c i=true:=by simp only[acE,hu,d1];rfl);rw[d1]at V;rcases U: (scE a g c i).1 with _ | b;(have e:scE a g c (i+1)=(some i,(scE a g c i).2+1):=by simp[scE,T,U]);rw[e]at q;rw[U]at p;simp only[JN]at p q;generalize ceE a i c=v at *;generalize (List.range a.length).map (fun i=>AV.gp (u+4*i+3) 0)=gl at *;generalize (rwE a i).take n=tk at *;generalize (scE a g c i).2=cnt at *;simp[-getElem?_pos,Qo,Zd,-Qn,w,p,G,f,j,o,b5,b6,W,V,C,z,D,k,s,O,r2,I,H,J,A,show Qn .lss (.int .i64 (-1)) (.int .i64 0)=some (.bool true)from rfl];apply q <;> simp[E,w,f,j];obtain⟨s1,s2,s3,s4⟩:=(scI a g c i).sm b U;(have m:b < a.length:=by omega);have M:=TV (x0:=u) m;obtain⟨t1,t2,t3⟩:=h.row b m;have hwlb:=h.wl b m;(have Z:c < ((rwE a b).take n).length:=by rw[Ye];omega);have x:=XV Z;rw[Oa hc]at x;(have P: (Qq ((rwE a b).take n)).length=n:=by rw[YI,Ye];omega);have Y: (ceE a b c).natAbs<=1099511627776:=Wg (h.bd rfl b m) c;have cb:=fun B=>JI (n:=ceE a b c) (by omega) (by omega) B;have hl3b:=QF t1;(have hbI: ¬(b:Int) < 0:=by omega);(have N: (b:Int) < (a.length:Int):=by omega);have hb1:b+1<=a.length:=m;(have b9:Qn .lss (.int .i64 (b:Int)) (.int .i64 0)=some (.bool false):=by simp[Qn]);(have L:Qn .lss (.int .i64 ((ceE a i c).natAbs:Int)) (.int .i64 ((ceE a b c).natAbs:Int))=some (.bool (decide ((ceE a i c).natAbs < (ceE a b c).natAbs))):=by by_cases t: (ceE a i c).natAbs < (ceE a b c).natAbs;(have: ((ceE a i c).natAbs:Int) < ((ceE a b c).natAbs:Int):=by omega);simp only[Qn,QT,decide_eq_true t,decide_eq_true this];(have: ¬((ceE a i c).natAbs:Int) < ((ceE a b c).natAbs:Int):=by omega);simp only[Qn,QT,Xe t,Xe this]);rw[U]at p;simp only[JN]at p;by_cases l: (ceE a i c).natAbs < (ceE a b c).natAbs;(have e:scE a g c (i+1)=(some i,(scE a g c i).2+1):=by simp[scE,T,U,l]);rw[e]at q;simp only[JN]at q;rw[decide_eq_true l]at L;clear l s4 hb X Y e;generalize ((ceE a i c).natAbs:Int)=va at *;generalize ((ceE a b c).natAbs:Int)=vba at *;generalize ceE a i c=v at *;generalize ceE a b c=vb at *;generalize (List.range a.length).map (fun i=>AV.gp (u+4*i+3) 0)=gl at *;generalize (rwE a i).take n=tk at *;generalize (rwE a b).take n=tkb at *;generalize (scE a g c i).2=cnt at *;simp[-getElem?_pos,Qo,Zd,-Qn,E,w,p,G,f,j,o,b5,b6,W,V,b9,L,C,z,D,k,s,O,r2,I,H,J,A,hx,M,t1,t2,P,x,ca,cb,N,hb1];apply q <;> simp[E,w,f,j];(have e:scE a g c (i+1)=(some b,(scE a g c i).2+1):=by simp[scE,T,U,l]);rw[e]at q;simp only[JN]at q;rw[Xe l]at L;clear l s4 hb X Y e;generalize ((ceE a i c).natAbs:Int)=va at *;generalize ((ceE a b c).natAbs:Int)=vba at *;generalize ceE a i c=v at *;generalize ceE a b c=vb at *;generalize (List.range a.length).map (fun i=>AV.gp (u+4*i+3) 0)=gl at *;generalize (rwE a i).take n=tk at *;generalize (rwE a b).take n=tkb at *;generalize (scE a g c i).2=cnt at *;simp[-getElem?_pos,Qo,Zd,-Qn,E,w,p,G,f,j,o,b5,b6,W,V,b9,L,C,z,D,k,s,O,r2,I,H,J,A,hx,M,t1,t2,P,x,ca,cb,N,hb1];apply q <;> simp[E,w,p,f,j];rw[hu]at O;(have T:acE a g c i=false:=by simp only[acE,hu];rfl);(have e:scE a g c (i+1)=scE a g c i:=by simp[scE,T]);rw[e]at q;generalize (List.range a.length).map (fun i=>AV.gp (u+4*i+3) 0)=gl at *;simp[-getElem?_pos,Qo,Zd,-Qn,p,G,f,j,o,b5,b6,W,C,z,D,k,s,O];apply q <;> simp[E,w,p,G,f,j];exact IH i r (by omega) hi E w p G f j o
def FR {a p q n}:Zc a p q=Zc (a.take n) (p.take n) q ++ Zc (a.drop n) (p.drop n) q:=by
 unfold Zc;rw[<- List.take_zipWith,<- List.drop_zipWith,N8]
def IL (a b):okE (a ++ b)=(okE a && okE b):=by simp[okE]
def PA {a:Q4} (h: ∀i,(a.getD i 0).natAbs<=1099511627776) (n i): ((a.take n).getD i 0).natAbs<=1099511627776:=by
 by_cases b:i < n;simp_all;grind
def Pz {a:Q4} (h: ∀i,(a.getD i 0).natAbs<=1099511627776) (n i): ((a.drop n).getD i 0).natAbs<=1099511627776:=by
 simp_all
def Qft {v B} {c n} {f} {a} {E} {s} (hP:ZK v B) (O:v.length<=c) (h:ES B c n f a E s false) (hm:a.length < 100000) (hn:n < 100000) {i b} (k:i < a.length) (C:b < a.length) (hib:i≠b) (q) (M:q.natAbs<=1099511627776):
  ∃(A:Q4) (l:Bool) (z:Qp),ES z c n f (a.set i A) E s l/\ZK v z/\(l= !okE (Zc (rwE a i) (rwE a b) q))/\(l=false->A=Zc (rwE a i) (rwE a b) q)/\A.length=n+a.length/\
   call tb 566 [.gp c 0,.gp (c+4*i+3) 0,.gp (c+4*b+3) 0,.int .i64 q] B=some (.tup [],z):=by
 obtain⟨r1,H,G⟩:=h.row i k;obtain⟨t1,t2,Y⟩:=h.row b C;have wi:=h.wl i k;have wb:=h.wl b C;have D:=Wg (h.bd rfl i k);have I:=Wg (h.bd rfl b C);have t: ((rwE a i).take n).length=n:=by grind
 have y: ((rwE a i).drop n).length=a.length:=by grind
 have l3: ((rwE a b).take n).length=n:=by grind
 have l4: ((rwE a b).drop n).length=a.length:=by grind
 have W:=Qc4 B c (c+4*i+3) (c+4*b+3) (c+4*i+1) (c+4*i+2) (c+4*b+1) (c+4*b+2) _ _ _ _ _ ((rwE a i).take n) ((rwE a i).drop n) ((rwE a b).take n) ((rwE a b).drop n) q h.x (by rwa[t,y]) (by rwa[t,y]) H G t2 Y (by omega) (by omega) (by omega) (by omega) (by omega) (by omega) (by omega) (by omega) (by omega) (by omega) (by omega) (by omega) (by omega) (PA D n) (Pz D n) (PA I n) (Pz I n) M;obtain⟨p,o,J,l,P,R,K,e4,T⟩:=W;rw[t]at P;rw[y]at R;have r: (p ++ o).length=n+a.length:=by grind
 have u:Zc (rwE a i) (rwE a b) q=Zc ((rwE a i).take n) ((rwE a b).take n) q ++ Zc ((rwE a i).drop n) ((rwE a b).drop n) q:=FR;rw[<- IL,<- u]at K;have Z:=QF h.x;have X:=QF H;have V:=QF G;refine⟨p ++ o,l,_,?_,?_,K,fun h=>by grind,r,T⟩;have d: ∀j,j≠c+4*i+1->j≠c+4*i+2->j≠c->∀(x:Qx),B[j]? =some x->(bs2 (B ++ [J]) (c+4*i+1) (c+4*i+2) c f (.gs (if a.length=0 then 0 else c+4*a.length) 0 (if a.length=0 then 0 else 1) a.length) (.gs (if n=0 then 0 else c+4*a.length+n) 0 (if n=0 then 0 else 1) n) p o l)[j]? =some x:=by intro j j1 N j3 x m;unfold bs2;rw[Qy,Qb (fun e=>j3 e.symm),Qy,Qb (fun e=>N e.symm),Qy,Qb (fun e=>j1 e.symm)];grind
 refine⟨?_,?_,?_,h.pn,?_,?_,?_,?_⟩;rw[WJ];unfold bs2;rw[Qy,Qe rfl,Qe (by simp;omega)];rw[WJ];intro w;exact d _ (by omega) (by omega) (by omega) _ (h.rl w);rw[WJ];intro w;exact d _ (by omega) (by omega) (by omega) _ (h.pl w);rw[WJ];intro j m;obtain⟨S,U,L⟩:=h.row j m;refine⟨d _ (by omega) (by omega) (by omega) _ S,?_,?_⟩;by_cases g:j=i;subst g;rw[R5 _ _ _ _ k,Qe rfl];have: (p ++ o).take n=p:=by grind
 rw[this];unfold bs2;rw[Qy,Qb (by omega),Qy,Qb (by omega),Qy,Qe rfl,Qe (by simp;omega)];rw[R5 _ _ _ _ k,Qb g];exact d _ (by omega) (by omega) (by omega) _ U;by_cases g:j=i;subst g;rw[R5 _ _ _ _ k,Qe rfl];have: (p ++ o).drop n=o:=by grind
 rw[this];unfold bs2;rw[Qy,Qb (by omega),Qy,Qe rfl,Qe (by simp;omega)];rw[R5 _ _ _ _ k,Qb g];exact d _ (by omega) (by omega) (by omega) _ L;rw[WJ];exact h.ul;rw[WJ];intro j m;rw[R5 _ _ _ _ k];split;omega;exact h.wl j m;rw[WJ];intro Q j m;rw[R5 _ _ _ _ k];split;grind;exact h.bd rfl j m;unfold bs2;exact(((hP.app [J]).set (by omega) _).set (by omega) _).set (by omega) _
def QeX (B:Qp) (x0 n:Nat) (cols:AV) (rs:Zp) (us:Z6) (piv:Q4) (c b k:Nat):Prop:=
 (orE rs us c b k=true/\ES B x0 n cols (rnE rs us c b k) us piv false)\/(orE rs us c b k=false/\∃rs',rs'.length=rs.length/\ES B x0 n cols rs' us piv true)
def Qjd {d a c b k} (h:orE d a c b k=false):orE d a c b (k+1)=false:=by simp[orE,h]
def QtE {B0 j n cols a us piv} (hx0:B0.length<=j) (hm:a.length < 100000) (hn:n < 100000) (H: ∀i,i < a.length->(rwE a i).length=n+a.length) (hbd: ∀i,i < a.length->okE (rwE a i)=true) (c) (hc:c < n) (b) (hb:b < a.length) (hbn:ceE a b c≠0) (K) (Q:Out->Prop)
  (hq: ∀(M:Yd) (W:Qp),M 0= .gp j 0->M 1= .int .i64 (c:Int)->ZK B0 W->QeX W j n cols a us piv c b a.length->Q (R tb (.loop f564l2) M W K)):
  ∀d k B q,a.length - k<=d->k<=a.length->ZK B0 B->QeX B j n cols a us piv c b k->q 0= .gp j 0->q 1= .int .i64 (c:Int)->q 4= .int .i64 (b:Int)->
   q 93= .gs (j+4*a.length) 0 1 a.length->q 94= .int .i64 a.length->q 95= .int .i64 k->
  Q (R tb (.loop f564l1) q B (Qi 4 (Qi 1 (Qu tb (.loop f564l2) K)))):=by
 have hz:a.length≠0:=by omega
 intro d;induction d with | zero=>intro k B q hd hk hP hI y D C f e s;(have:k=a.length:=by omega);subst this;rw[Qc f564l1.eq_1];simp_all | succ d IH=>intro k B q hd hk hP hI y D C f e s;by_cases g:k < a.length;(have hkI: (k:Int) < (a.length:Int):=by omega);have p:k+1<=a.length:=g;(have hw1:IntKind.i64.wrap ((k:Int)+1)=((k+1:Nat):Int):=by rw[QC (by omega) (by omega)];omega);(have b1:Qn .lss (.int .i64 (k:Int)) (.int .i64 (a.length:Int))=some (.bool true):=by simp_all);(have b2:Qn .add (.int .i64 (k:Int)) (.int .i64 1)=some (.int .i64 ((k+1:Nat):Int)):=by simp_all);have r:=TV (x0:=j) g;have hgpb:=TV (x0:=j) hb;have m:=OJ a.length j;have hb1:b+1<=a.length:=hb;(have hbI: (b:Int) < (a.length:Int):=by omega);have O:c+1<=n:=hc;(have T: (c:Int) < (n:Int):=by omega);(obtain⟨o,lg,x,hcl⟩: ∃(o:Zp) (lg:Bool),ES B j n cols o us piv lg/\o.length=a.length:=by rcases hI with⟨_,h⟩ | ⟨_,N,D,h⟩;exact⟨_,_,h,Y7 _ _ _ _ _⟩;grind);have hgp':=r;have hx:=x.x;rw[hcl,Qb hz,Qb hz]at hx;have u:=x.rl (by omega);rw[hcl]at u;obtain⟨L,r2,r3⟩:=x.row k (by omega);have hwk:=x.wl k (by omega);(have hlc:c < ((rwE o k).take n).length:=by rw[Ye];omega);have E:=XV hlc;rw[Oa hc]at E;(have hpl: (Qq ((rwE o k).take n)).length=n:=by rw[YI,Ye];omega);have hl3:=QF L;have hlx:=QF hx;(have V:Qn .neq (.int .i64 (ceE o k c)) (.int .i64 0)=some (.bool (!decide (ceE o k c=0))):=by simp);(have U:Qn .neq (.int .i64 (k:Int)) (.int .i64 (b:Int))=some (.bool (!decide (k=b))):=by by_cases hz:k=b;simp[Qn,hz];(have: ¬(k:Int)=(b:Int):=by omega);simp[Qn,hz,this]);(have z: (lg=true\/k=b\/us.getD k true=true\/ceE o k c=0)->QeX B j n cols a us piv c b (k+1):=by intro hs;rcases hI with⟨ho,Z⟩ | ⟨ho,N,Y,X⟩;(have hlg:lg=false:=by have Y:=Z.x;grind);(have hno: (!decide (k=b) && acE a us c k)=false:=by rcases hs with h | h | h | h;grind;grind;simp only[acE,h];simp;(have e1:ceE o k c=ceE a k c:=by have g1:=(Z.row k (by rw[Y7];omega)).2.1;rw[r2]at g1;injection g1 with g1;have P:=TM (fun l=>l[c]?) g1;rw[E]at P;(have hlc2:c < ((rwE (rnE a us c b k) k).take n).length:=by rw[Qa6 hk,Ye,H k g];omega);rw[XV hlc2,Oa hc]at P;injection P with P;injection P with _ P;rw[P];unfold ceE;rw[Qa6 hk]);rw[e1]at h;simp[acE,h]);refine .inl ⟨?_,?_⟩;simp only[orE,ho,hno];rfl;(have:rnE a us c b (k+1)=rnE a us c b k:=by simp only[rnE,hno];rfl);grind;exact .inr ⟨Qjd ho,N,Y,X⟩);have w:=fun hs q=>IH (k+1) B q (by omega) p hP (z hs);by_cases I:k=b;have G:=w (.inr (.inl I));rw[decide_eq_true I]at U;rw[Qc f564l1.eq_1];generalize (List.range a.length).map (fun i=>AV.gp (j+4*i+3) 0)=gl at *;simp[-getElem?_pos,-Qn,y,C,f,e,s,b1,b2,U,u,r,m,g,p];apply G <;> simp[y,D,C,f,e];rw[Xe I]at U;cases hu:us.getD k true;rw[hu]at L;by_cases t:ceE o k c=0;have G:=w (.inr (.inr (.inr t)));rw[decide_eq_true t]at V;rw[Qc f564l1.eq_1];generalize ceE o k c=v at *;generalize (List.range a.length).map (fun i=>AV.gp (j+4*i+3) 0)=gl at *;generalize (rwE o k).take n=tk at *;simp[-getElem?_pos,Qo,Zd,-Qn,y,D,C,f,e,s,b1,b2,V,U,u,r,m,g,p,L,r2,hpl,O,T,E];apply G <;> simp[y,D,C,f,e];rw[Xe t]at V;cases lg;(have hIf:orE a us c b k=true/\ES B j n cols (rnE a us c b k) us piv false:=by rcases hI with h | ⟨_,N,Y,X⟩;exact h;have Y:=x.x;have X:=X.x;grind);obtain⟨ho,Z⟩:=hIf;have hcl2:=Y7 a us c b k;have e1:rwE (rnE a us c b k) k=rwE a k:=Qa6 hk;have e2:rwE (rnE a us c b k) b=rwE a b:=Qwi hk;obtain⟨v1,v2,v3⟩:=Z.row k (by omega);obtain⟨w1,w2,w3⟩:=Z.row b (by omega);rw[e1]at v2;rw[e2]at w2;(have hkl:c < ((rwE a k).take n).length:=by rw[Ye,H k g];omega);(have hbl:c < ((rwE a b).take n).length:=by rw[Ye,H b hb];omega);have pk:=XV hkl;have pb:=XV hbl;rw[Oa hc]at pk pb;(have plk: (Qq ((rwE a k).take n)).length=n:=by grind);(have plb: (Qq ((rwE a b).take n)).length=n:=by rw[YI,Ye,H b hb];omega);have bk:=Wg (hbd k g) c;(have J:ceE o k c=ceE a k c:=by grind);rw[J]at t V;(have hac:acE a us c k=true:=by simp only[acE,hu,Xe t];rfl);(have hq: ((ceE a k c).tdiv (ceE a b c)).natAbs<=1099511627776:=by rw[Int.natAbs_tdiv];exact Y8 (Nat.div_le_self _ _) bk);(have b10:Qn .quo (.int .i64 (ceE a k c)) (.int .i64 (ceE a b c))=some (.int .i64 ((ceE a k c).tdiv (ceE a b c))):=by show(if IntKind.i64=IntKind.i64/\ceE a b c≠0 then some (toI IntKind.i64 ((ceE a k c).tdiv (ceE a b c)))else none)=_;rw[Qe ⟨rfl,hbn⟩,toI,(QC (by omega) (by omega))]);obtain⟨A,lg2,W,Y,X,q3,q4,q5,q6⟩:=Qft hP hx0 Z (by omega) hn (i:=k) (b:=b) (by omega) (by omega) I _ hq;rw[e1,e2]at q3 q4;(have hnx:QeX W j n cols a us piv c b (k+1):=by(have hcd: (!decide (k=b) && acE a us c k)=true:=by grind);cases lg2;(have S:okE (nwE a c b k)=true:=by(have:okE (Zc (rwE a k) (rwE a b) ((ceE a k c).tdiv (ceE a b c)))=true:=by grind);exact this);refine .inl ⟨?_,?_⟩;simp only[orE,ho,S];simp;(have:rnE a us c b (k+1)=(rnE a us c b k).set k A:=by simp only[rnE,hcd,QT];rw[q4 rfl];rfl);grind;(have S:okE (nwE a c b k)=false:=by(have:okE (Zc (rwE a k) (rwE a b) ((ceE a k c).tdiv (ceE a b c)))=false:=by grind);exact this);refine .inr ⟨?_,_,?_,Y⟩;simp only[orE,hcd,S];simp;rw[WJ,hcl2]);have G:=fun q=>IH (k+1) W q (by omega) p X hnx;have hlw:=QF w1;rw[Qc f564l1.eq_1];clear z w hI t J bk hq q3 q4 q5 hnx;generalize (ceE a k c).tdiv (ceE a b c)=qq at *;generalize ceE a k c=v at *;generalize ceE a b c=vb at *;generalize (List.range a.length).map (fun i=>AV.gp (j+4*i+3) 0)=gl at *;generalize (rwE a k).take n=tk at *;generalize (rwE a b).take n=tkb at *;simp[-getElem?_pos,Qo,Zd,-Qn,y,D,C,f,e,s,b1,b2,V,U,b10,u,r,hgpb,m,g,p,hb1,hbI,L,v2,w1,w2,plk,plb,pk,pb,O,T,hx,q6];apply G <;> simp[y,D,C,f,e];have G:=w (.inl rfl);rw[Qc f564l1.eq_1];generalize ceE o k c=v at *;generalize (List.range a.length).map (fun i=>AV.gp (j+4*i+3) 0)=gl at *;generalize (rwE o k).take n=tk at *;simp[-getElem?_pos,Qo,Zd,-Qn,y,D,C,f,e,s,b1,b2,V,U,u,r,m,g,p,L,r2,hpl,O,T,E,hx];apply G <;> simp[y,D,C,f,e];rw[hu]at L;have G:=w (.inr (.inr (.inl hu)));rw[Qc f564l1.eq_1];generalize (List.range a.length).map (fun i=>AV.gp (j+4*i+3) 0)=gl at *;simp[-getElem?_pos,Qo,Zd,-Qn,y,C,f,e,s,b1,b2,U,u,r,m,g,p,L];apply G <;> simp[y,D,C,f,e];grind
def Og {a:Z6} {b j v} (c:b < a.length): (a.set b v).getD j true=if j=b then v else a.getD j true:=by
 simp only[Zh,Qy];by_cases h:b=j;subst h;simp[c];have: ¬j=b:=fun e=>h e.symm;simp[h,this]
def Qpy {l B a n i g o d} (r:ZK l B) (v:l.length<=a) (h:ES B a n i g o d false) {b c} (q:b < g.length) (D:c < n) (p):
  ES ((B.set (a+4*g.length+n) (Qq (d.set c p))).set (a+4*b+3) [.gs (a+4*b+1) 0 1 n,.gs (a+4*b+2) 0 1 g.length,.bool true]) a n i g (o.set b true) (d.set c p) false/\
  ZK l ((B.set (a+4*g.length+n) (Qq (d.set c p))).set (a+4*b+3) [.gs (a+4*b+1) 0 1 n,.gs (a+4*b+2) 0 1 g.length,.bool true]):=by
 have f: ∀j,j≠a+4*g.length+n->j≠a+4*b+3->∀x:Qx,B[j]? =some x->((B.set (a+4*g.length+n) (Qq (d.set c p))).set (a+4*b+3) [.gs (a+4*b+1) 0 1 n,.gs (a+4*b+2) 0 1 g.length,.bool true])[j]? =some x:=by intro j u z x C;rwa[Qy,Qb (fun e=>z e.symm),Qy,Qb (fun e=>u e.symm)]
 have t:=QF (h.row b q).1;refine⟨⟨f _ (by omega) (by omega) _ h.x,fun m=>f _ (by omega) (by omega) _ (h.rl m),fun m=> ?_,by rw[WJ];exact h.pn,?_,by rw[WJ];exact h.ul,h.wl,h.bd⟩,(r.set (by omega) _).set (by omega) _⟩;rw[Qy,Qb (by omega),Qy,Qe rfl,Qe (QF (h.pl (by omega)))];intro j s;obtain⟨y,w,A⟩:=h.row j s;refine⟨?_,f _ (by omega) (by omega) _ w,f _ (by omega) (by omega) _ A⟩;rw[Og (by rwa[h.ul])];by_cases k:j=b;subst k;rw[Qe rfl,Qy,Qe rfl,Qe (by rwa[WJ])];rw[Qb k];exact f _ (by omega) (by omega) _ y
def QeA (B0:Qp) (x0 n m:Nat) (cols:AV) (piv:Q4) (c:Nat) (o:Option (Zp×Z6×Int)) (r:Out):Prop:=∃B',ZK B0 B'/\r=some (.tup [],B')/\match o with
 | none=>∃rs' us',rs'.length=m/\ES B' x0 n cols rs' us' piv true
 | some (rs',us',p)=>rs'.length=m/\ES B' x0 n cols rs' us' (piv.set c p) false
def QtF {L k n m cols d} (z:L.length<=k) (hm:m < 100000) (hn:n < 100000) (c) (P:c < n) (t:d.getD c (-1)= -1) (hpl:d.length=n) (U):
  ∀f a g B r,a.length=m->msE a g c m < f->ZK L B->ES B k n cols a g d false->r 0= .gp k 0->r 1= .int .i64 (c:Int)->
  QeA L k n m cols d c (coE c f a g) (R tb (.loop f564l2) r B (Qi 0 (Qz f564 U))):=by
 intro f;induction f with | zero=>intro a g B r _ h;omega | succ f IH=>intro a g B r hl V hP h h0 h1;have Z:=scI a g c a.length;have E:=h.x;have hl3:=QF E;(have u:d.set c (-1)=d:=by refine PP ?_;(have:c < d.length:=by omega);rw[Zh,Q0 this]at t;rw[Q0 this];simp only[Pj]at t;rw[t]);have hl0:=fun r=>QtD h (by omega) hn c P (Qi 1 (Qu tb (.loop f564l2) (Qi 0 (Qz f564 U)))) (QeA L k n m cols d c (coE c (f+1) a g)) (by intro ρ' S X N y;rcases x: (scE a g c a.length).1 with _ | b;obtain⟨D,hno⟩:=Z.nn x;(have Q:scE a g c a.length=(none,(scE a g c a.length).2):=by rw[<- x]);(have p:coE c (f+1) a g=some (a,g,-1):=by rw[coE,Q]);rw[p];rw[D]at y;refine⟨B,hP,?_,hl,?_⟩;simp[f564r0,S,y];rwa[u];obtain⟨w,s2,s3,s4⟩:=Z.sm b x;(have hz:a.length≠0:=by omega);(have s:n≠0:=by omega);rw[Qb hz,Qb hz,Qb s,Qb s]at E;have hrl:=h.rl hz;have G:=TV (x0:=k) w;have O:=OJ a.length k;obtain⟨r1,r2,r3⟩:=h.row b w;have H:=h.pl s;have hppl:=QF H;have hb1:b+1<=a.length:=w;(have Y: (b:Int) < (a.length:Int):=by omega);have hc1:c+1<=n:=P;(have hcI: (c:Int) < (n:Int):=by omega);have hbl:=QF r1;rw[x]at N;simp only[JN]at N;(have Q:scE a g c a.length=(some b,(scE a g c a.length).2):=by rw[<- x]);by_cases l: (scE a g c a.length).2=1;(have p:coE c (f+1) a g=some (a,g.set b true,(b:Int)):=by rw[coE,Q,l];simp);rw[p];obtain⟨e1,e2⟩:=Qpy hP z h w P (b:Int);refine⟨_,e2,?_,hl,e1⟩;rw[l]at y;have J:=U0 d (b:Int) (n:=c) (by omega);(have A: (Qq d).length=n:=by rwa[YI]);(have n1: ¬k+4*a.length+n=k:=by omega);(have n2: ¬k+4*a.length+n=k+4*a.length:=by omega);(have n3: ¬k+4*a.length+n=k+4*b+3:=by omega);(have g1: (B.set (k+4*a.length+n) (Qq (d.set c (b:Int))))[k]? =some [cols,.gs (k+4*a.length) 0 1 a.length,.gs (k+4*a.length+n) 0 1 n,.bool false]:=by rwa[Qy,Qb n1]);(have g2: (B.set (k+4*a.length+n) (Qq (d.set c (b:Int))))[k+4*a.length]? =some ((List.range a.length).map fun i=> .gp (k+4*i+3) 0):=by rwa[Qy,Qb n2]);(have g3: (B.set (k+4*a.length+n) (Qq (d.set c (b:Int))))[k+4*b+3]? =some [.gs (k+4*b+1) 0 1 n,.gs (k+4*b+2) 0 1 a.length,.bool (g.getD b true)]:=by rwa[Qy,Qb n3]);have hg1l:=QF g3;generalize hPV:Qq (d.set c (b:Int))=PV at *;generalize hB1:B.set (k+4*a.length+n) PV=B1 at *;generalize (List.range a.length).map (fun i=>AV.gp (k+4*i+3) 0)=gl at *;simp[-getElem?_pos,Qo,Zd,f564r0,S,X,N,y,E,H,A,J,hc1,hcI,hB1,g1,g2,g3,G,O,hb1,Y];(have v: ¬((scE a g c a.length).2:Int)=1:=by omega);(have hcnt0: ¬((scE a g c a.length).2:Int)=0:=by omega);(have q: ¬(scE a g c a.length).2=0:=by omega);(have K:ceE a b c≠0:=by intro e;simp[acE,e]at s2);have hlt:=(Ca h.wl w K (fun j hj hj2=>s4 j hj hj2) a.length (QX _)).2 (Z.tw b x (by omega));(have p:coE c (f+1) a g=if orE a g c b a.length then coE c f (rnE a g c b a.length) g else none:=by rw[coE,Q];simp only[Qb l]);rw[p];have hl1:=fun r=>QtE (piv:=d) (cols:=cols) (us:=g) z (by omega) hn h.wl (h.bd rfl) c P b w K (Qi 0 (Qz f564 U)) (QeA L k n m cols d c (if orE a g c b a.length then coE c f (rnE a g c b a.length) g else none)) (by intro T B2 p0 p1 C hI;rcases hI with⟨W,he2⟩ | ⟨W,o,q1',M⟩;rw[Qe W];exact IH _ g B2 T (by rwa[Y7]) (by rw[<- hl]at V ⊢;omega) C he2 p0 p1;rw[Qb (by rw[W];simp)];refine⟨B2,C,?_,o,g,by omega,M⟩;have I:=M.x;have hl4:=QF I;generalize (if o.length=0 then 0 else k+4*o.length)=i1 at *;generalize (if o.length=0 then 0 else 1)=i2 at *;generalize (if n=0 then 0 else k+4*o.length+n)=i3 at *;generalize (if n=0 then 0 else 1)=i4 at *;rw[Qc f564l2.eq_1];simp[-getElem?_pos,Qo,Zd,p0,I]) a.length 0 B r (by omega) (by omega) hP (.inl ⟨rfl,h⟩);simp[-getElem?_pos,Qo,Zd,f564r0,S,X,N,y,E,v,q];apply hl1 <;> simp[S,X,N]) a.length 0 r (by omega) (by omega);generalize hi1: (if a.length=0 then 0 else k+4*a.length)=i1 at *;generalize hi2: (if a.length=0 then 0 else 1)=i2 at *;generalize (if n=0 then 0 else k+4*a.length+n)=i3 at *;generalize (if n=0 then 0 else 1)=i4 at *;rw[Qc f564l2.eq_1];simp[-getElem?_pos,Qo,Zd,h0,E];apply hl0 <;> simp[h0,h1,JN,scE]
def Qo4 {f e n cols b} (i:f.length<=e) (m:n < 100000) (c) (j:c < n) (g:b.getD c (-1)= -1) (a) (l:a.length < 100000) (d B) (k:ZK f B) (h:ES B e n cols a d b false):
  QeA f e n a.length cols b c (coE c (msE a d c a.length+1) a d) (call tb 564 [.gp e 0,.int .i64 (c:Int)] B):=by
 rw[zcc 564 rfl rfl];simp[f564C];apply(fun o=>QtF (cols:=cols) i l m c j g h.pn B (msE a d c a.length+1) a d B o rfl (by omega) k h) <;> simp
def Qk2 {e n a f} (c:Nat) (b i B) (h:ES B e n a b i f true):call tb 564 [.gp e 0,.int .i64 (c:Int)] B=some (.tup [],B):=by
 have d:=h.x;have g:=QF d;generalize (if b.length=0 then 0 else e+4*b.length)=k at *;generalize (if b.length=0 then 0 else 1)=m at *;generalize (if n=0 then 0 else e+4*b.length+n)=j at *;generalize (if n=0 then 0 else 1)=l at *;rw[zcc 564 rfl rfl];simp[f564C];rw[Qc f564l2.eq_1];simp[-getElem?_pos,Qo,Zd,d]
def F9 (c): ∀f a d g i p,d.length=a.length->coE c f a d=some (g,i,p)->
  g.length=a.length/\i.length=d.length/\(∀j,d.getD j true=true->rwE g j=rwE a j/\i.getD j true=true)/\(p= -1\/∃b:Nat,p=(b:Int)/\b < a.length/\i.getD b true=true/\ceE g b c≠0)
 | 0,_,_,_,_,_,_,h=>by simp[coE]at h
 | f+1,a,d,g,i,p,s,h=>by
  rcases n: (scE a d c a.length).1 with _ | b;have m:scE a d c a.length=(none,(scE a d c a.length).2):=by rw[<- n]
  rw[coE,m]at h;simp only[QV,Zm]at h;obtain⟨rfl,rfl,rfl⟩:=h;exact⟨rfl,rfl,fun j l=>⟨rfl,l⟩,.inl rfl⟩;obtain⟨r,v,z,y⟩:=(scI a d c a.length).sm b n;have m:scE a d c a.length=(some b,(scE a d c a.length).2):=by rw[<- n]
  rw[coE,m]at h;simp only at h;by_cases k: (scE a d c a.length).2=1;rw[Qe k]at h;simp only[QV,Zm]at h;obtain⟨rfl,rfl,rfl⟩:=h;refine⟨rfl,by simp,fun j l=>⟨rfl,?_⟩,.inr ⟨b,rfl,r,?_,(by intro e;simp[acE,e]at v)⟩⟩;rw[Og (by omega)];split;rfl;exact l;rw[Og (by omega),Qe rfl];rw[Qb k]at h;split at h;obtain⟨q,u,t,o⟩:=F9 c f _ d g i p (by rwa[Y7]) h;rw[Y7]at q o;refine⟨q,u,fun j l=> ?_,o⟩;obtain⟨x,w⟩:=t j l;refine⟨?_,w⟩;rw[x];rw[VJ _ _ _ _ _ (QX _)];have:acE a d c j=false:=by simp only[acE,l];rfl
  simp[this];cases h
def PvI (rs:Zp) (us:Z6) (pv:Q4):Prop:=∀c,c < pv.length->pv.getD c (-1)= -1\/∃b:Nat,pv.getD c (-1)=(b:Int)/\b < rs.length/\us.getD b true=true/\ceE rs b c≠0
def LM {rs}: ∀c s,elE rs c=some s->s.1.length=rs.length/\s.2.1.length=rs.length/\s.2.2.length=c/\PvI s.1 s.2.1 s.2.2
 | 0,s,h=>by
  simp only[elE,QV]at h;subst h;exact⟨rfl,by simp,rfl,fun c f=>by simp at f⟩
 | c+1,s,h=>by
  simp only[elE]at h;rcases n:elE rs c with _ | a;rw[n]at h;simp at h;rw[n]at h;simp only[QO]at h;obtain⟨w,A,p,k⟩:=LM c a n;rcases f:coE c (msE a.1 a.2.1 c a.1.length+1) a.1 a.2.1 with _ | x;rw[f]at h;simp at h;rw[f]at h;simp only[Zy,QV]at h;subst h;obtain⟨y,z,q,i⟩:=F9 c _ a.1 a.2.1 x.1 x.2.1 x.2.2 (by omega) f;refine⟨by simp only;omega,by simp only;omega,by simp[p],?_⟩;intro d v;simp only[Zl,Pg]at v;simp only;by_cases g:d=c;subst g;have e: (a.2.2 ++ [x.2.2]).getD d (-1)=x.2.2:=by rw[Zh,Yq (by omega),p];simp
  rw[e];rcases i with i | ⟨b,j,r,l,o⟩;exact .inl i;exact .inr ⟨b,j,by omega,l,o⟩;have e: (a.2.2 ++ [x.2.2]).getD d (-1)=a.2.2.getD d (-1):=by rw[Zh,Zh,Y3 (by omega)]
  rw[e];rcases k d (by omega)with k | ⟨b,j,r,l,o⟩;exact .inl k;obtain⟨u,t⟩:=q b l;refine .inr ⟨b,j,by omega,t,?_⟩;unfold ceE at *;rwa[u]
def YW:List Qw->Int
 | []=>0
 | g:: r=>if Q5 g≠0 then Q5 g else YW r
def VQ (cols:Qj) (m i:Nat) (g:Qw):Q4:=cols.map (pwT g)++ (List.replicate m (0:Int)).set i 1
def Yf (cols:Qj) (l:List Qw):Zp:=(List.range l.length).map fun i=>VQ cols l.length i (l.getD i [])
def WR (cols:Qj) (m:Nat) (g:Qw):Q4:=cols.map (pwT g)++ List.replicate m 0
def meF:Option (Zp×Z6×Q4)->Nat->Q4->Int
 | none,_,_=>3
 | some s,n,t=>rdE s.1 s.2.2 n 0 t
def meE (l:List Qw) (m:Qw):Int:=
 if 12 < l.length then 3 else if YW l≠0 then YW l else if Q5 m≠0 then Q5 m
 else if 12 < (Y9 (l ++ [m])).length then 3
 else meF (elE (Yf (Y9 (l ++ [m])) l) (Y9 (l ++ [m])).length) (Y9 (l ++ [m])).length (WR (Y9 (l ++ [m])) l.length m)
def Hr (c): ∀f a us e d,(∀i,i < a.length->(rwE a i).length=(rwE a 0).length)->coE c f a us=some (e,d,-1)->e=a/\d=us/\(scE a us c a.length).1=none
 | 0,_,_,_,_,_,h=>by simp[coE]at h
 | f+1,a,us,e,d,o,h=>by
  rcases l: (scE a us c a.length).1 with _ | b;have m:scE a us c a.length=(none,(scE a us c a.length).2):=by rw[<- l]
  rw[coE,m]at h;simp only[QV,Zm]at h;exact⟨h.1.symm,h.2.1.symm,rfl⟩;obtain⟨k,s,v,t⟩:=(scI a us c a.length).sm b l;have m:scE a us c a.length=(some b,(scE a us c a.length).2):=by rw[<- l]
  rw[coE,m]at h;simp only at h;by_cases g: (scE a us c a.length).2=1;rw[Qe g]at h;simp only[QV,Zm]at h;omega;rw[Qb g]at h;split at h;have j:=Qa7 (us:=us) (c:=c) o k;obtain⟨_,_,n⟩:=Hr c f _ us e d (by rw[Y7];intro i q;rw[j i q,(j 0 (by omega))]) h;rw[Y7]at n;have p:=EC (us:=us) (c:=c) o k (i:=b) k;rw[Qb (fun h=>h.1 rfl)]at p;obtain⟨r,u⟩:=YB.1 s;have:=((scI (rnE a us c b a.length) us c a.length).nn n).2 b k;rw[(YB.2 ⟨r,by rwa[p]⟩)]at this;cases this;cases h
def nrB (rs:Zp) (us:Z6) (Z:Nat):Prop:=∀i,i < rs.length->unE us i->nrE (rwE rs i)<=Z
def StI (M:Nat) (rs:Zp) (us:Z6):Prop:=
 (M=4/\(∀i,i < 4->unE us i)/\nrB rs us 9)\/((∃i1 i2 i3,∀k,k < M->unE us k->k=i1\/k=i2\/k=i3)/\nrB rs us 72)\/
 ((∃i1 i2,∀k,k < M->unE us k->k=i1\/k=i2)/\nrB rs us 1048576)\/(∃i1,∀k,k < M->unE us k->k=i1)
def Nj {c b k} (d:b < c.length) (h:unE (c.set b true) k):k≠b/\unE c k:=by
 unfold unE at *;rw[Og d]at h;by_cases a:k=b;rw[Qe a]at h;cases h;rw[Qb a]at h;exact⟨a,h⟩
def Qnx {a c i L} (d: (rwE a i).length=L) (b:c < L):nrE (rwE a i)=aE a c i+xE a c i:=by
 rw[Mw (c:=c) (by omega)];rfl
def Qq7 {d o c L M} (hM:d.length=M) (O:o.length=M) (E: ∀i,i < d.length->(rwE d i).length=L) (R:c < L) (h:StI M d o):
  ∃a n p,coE c (msE d o c d.length+1) d o=some (a,n,p)/\a.length=M/\n.length=M/\(∀i,i < a.length->(rwE a i).length=L)/\StI M a n:=by
 have D: ∀(J:Zp->Prop),J d->(∀d b,d.length=M->(∀i,i < d.length->(rwE d i).length=L)->J d->(scE d o c d.length).1=some b->2<=(scE d o c d.length).2->(∀i,i < d.length->unE o i->aE (rnE d o c b d.length) c i+xE (rnE d o c b d.length) c i<=1099511627776)/\J (rnE d o c b d.length))->(∀a b,a.length=M->(∀i,i < a.length->(rwE a i).length=L)->b < M->unE o b->J a->StI M a (o.set b true))->∃a n p,coE c (msE d o c d.length+1) d o=some (a,n,p)/\a.length=M/\n.length=M/\(∀i,i < a.length->(rwE a i).length=L)/\StI M a n:=by intro J z K N;obtain⟨a,n,p,q,v,A,T,S,i6⟩:=Qlg J R K (msE d o c d.length+1) d hM E z (by omega);refine⟨a,n,p,q,A,?_,T,?_⟩;rcases S with⟨_,e⟩ | ⟨b,_,_,_,e⟩ <;> rw[e];exact O;rwa[WJ];rcases S with⟨H,e⟩ | ⟨b,H,b1,W,e⟩;subst H;obtain⟨Y,V,_⟩:=Hr c _ d o a n (fun i m=>by rw[E i m,E 0 (by omega)]) q;rwa[Y,V];rw[e];exact N a b A T b1 W v
 have u: ∀(a:Zp) (i:Nat),(∀i,i < a.length->(rwE a i).length=L)->i < a.length->nrE (rwE a i)=aE a c i+xE a c i:=fun a i hl m=>Qnx (hl i m) R;rcases h with⟨Q,s,G⟩ | ⟨⟨q,v,A,s⟩,G⟩ | ⟨⟨q,v,s⟩,G⟩ | ⟨q,s⟩;refine D (J4 c) (QdI fun i m=> ?_) (fun f b C y w t x=> ?_) (fun f b C y w t x=> ?_);rw[<- u d i E (by omega)];exact G i (by omega) (s i m);have z:=QdJ (by omega) s y w t x;exact⟨fun i m _=>by have:=Fp z i (by omega);omega,z⟩;subst Q;refine .inr (.inl ⟨?_,fun i m l=> ?_⟩);have: ∃q v A,∀k,k < 4->k≠b->k=q\/k=v\/k=A:=by match b,w with | 0,_=>exact⟨1,2,3,fun k r P=>by omega⟩ | 1,_=>exact⟨0,2,3,fun k r P=>by omega⟩ | 2,_=>exact⟨0,1,3,fun k r P=>by omega⟩ | 3,_=>exact⟨0,1,2,fun k r P=>by omega⟩
 obtain⟨q,v,A,X⟩:=this;exact⟨q,v,A,fun k r g=>X k r (Nj (by omega) g).1⟩;rw[u f i y m];have:=Fp x i (by omega);exact this;refine D (J3 o c 72 746496) ⟨fun i m l=> ?_,.inl fun i m l=> ?_⟩ (fun f b C y w t x=> ?_) (fun f b C y w t x=> ?_);have:=G i m l;rw[u d i E m]at this;omega;have:=G i m l;rwa[u d i E m]at this;have z:=Qqb (by decide) (by decide) y ⟨q,v,A,by rwa[C]⟩ w t x;refine⟨fun i m l=> ?_,z⟩;have:=z.1 i (by rwa[Y7]) l;omega;refine .inr (.inr (.inl ⟨?_,fun i m l=> ?_⟩));have hbm:=s b w t;by_cases H:b=q;exact⟨v,A,fun k r g=>by obtain⟨I,B⟩:=Nj (by omega) g;rcases s k r B with h | h | h <;> omega⟩;by_cases U:b=v;exact⟨q,A,fun k r g=>by obtain⟨I,B⟩:=Nj (by omega) g;rcases s k r B with h | h | h <;> omega⟩;exact⟨q,v,fun k r g=>by obtain⟨I,B⟩:=Nj (by omega) g;rcases s k r B with h | h | h <;> omega⟩;rw[u f i y m];have:=x.1 i m (Nj (by omega) l).2;omega;refine D (J2 o c 1048576) (QdF (by decide) fun i m l=> ?_) (fun f b C y w t x=> ?_) (fun f b C y w t x=> ?_);have:=G i m l;rwa[u d i E m]at this;have z:=QdG y ⟨q,v,by rwa[C]⟩ w t;refine⟨fun i m l=> ?_,z⟩;have:=(z.1 i (by rwa[Y7]) l).2;omega;refine .inr (.inr (.inr ?_));by_cases H:b=q;exact⟨v,fun k r g=>by obtain⟨I,B⟩:=Nj (by omega) g;rcases s k r B with h | h <;> omega⟩;exact⟨q,fun k r g=>by obtain⟨I,B⟩:=Nj (by omega) g;have:=s b w t;rcases s k r B with h | h <;> omega⟩;refine D (fun _=>True) trivial (fun f b C y w t x=> ?_) (fun f b C y w t x=> ?_);exfalso;obtain⟨s1,Z,s3,s4⟩:=(scI f o c f.length).sm b t;obtain⟨j,j1,j2,j3⟩:=(scI f o c f.length).tw b t x;have H:=s b (by omega) (YB.1 Z).1;have U:=s j (by omega) (YB.1 j3).1;omega;exact .inr (.inr (.inr ⟨q,fun k r g=>s k r (Nj (by omega) g).2⟩))
def Qkj {m i} (h:i < m):unE (List.replicate m false) i:=by simp[unE,Zh,h]
def Qns {rs L} (t:rs.length<=4) (g: ∀i,i < rs.length->(rwE rs i).length=L) (d: ∀i,i < rs.length->nrE (rwE rs i)<=9):
  ∀c,c<=L->∃s,elE rs c=some s/\s.1.length=rs.length/\s.2.1.length=rs.length/\(∀i,i < s.1.length->(rwE s.1 i).length=L)/\StI rs.length s.1 s.2.1
 | 0,_=>by
  refine⟨_,rfl,rfl,by simp,g,?_⟩;by_cases e:rs.length=4;exact .inl ⟨e,fun i a=>Qkj (by omega),fun i a _=>d i a⟩;exact .inr (.inl ⟨⟨0,1,2,fun k v _=>by omega⟩,fun i a _=>Y8 (d i a) (by decide)⟩)
 | c+1,w=>by
  obtain⟨s,l,u,m,e,h⟩:=Qns t g d c (by omega);obtain⟨f,b,p,r,n,j,q,o⟩:=Qq7 (c:=c) (L:=L) u m e (by omega) h;exact⟨(f,b,s.2.2 ++ [p]),by simp[elE,l,r],n,j,q,o⟩
def YN (f:Nat->Int):Nat->Int
 | 0=>0
 | k+1=>YN f k+f k
def V1 {f g:Nat->Int}: ∀k,(∀i,i < k->f i=g i)->YN f k=YN g k
 | 0,_=>rfl
 | k+1,h=>by rw[YN,YN,V1 k fun i hi=>h i (by omega),h k (by omega)]
def KU (f g:Nat->Int): ∀k,YN (fun i=>f i+g i) k=YN f k+YN g k
 | 0=>rfl
 | k+1=>by rw[YN,YN,YN,KU f g k];omega
def KW (f g:Nat->Int): ∀k,YN (fun i=>f i - g i) k=YN f k - YN g k
 | 0=>rfl
 | k+1=>by rw[YN,YN,YN,KW f g k];omega
def HT (a:Int) (f:Nat->Int): ∀k,YN (fun i=>f i*a) k=YN f k*a
 | 0=>by simp[YN]
 | k+1=>by rw[YN,YN,HT a f k,Int.add_mul]
def Ni {f:Nat->Int}: ∀k,(∀i,i < k->f i=0)->YN f k=0
 | 0,_=>rfl
 | k+1,h=>by rw[YN,Ni k fun i hi=>h i (by omega),h k (by omega)];rfl
def ME {f:Nat->Int} {b:Nat}: ∀k,b < k->(∀i,i < k->i≠b->f i=0)->YN f k=f b
 | 0,h,_=>by omega
 | k+1,hb,h=>by
  rw[YN];by_cases e:b=k
  ·subst e;rw[Ni b fun i hi=>h i (by omega) (by omega)];omega
  ·rw[ME k (by omega) fun i hi hib=>h i (by omega) hib,h k (by omega) (fun x=>e x.symm)];omega
def cmb (x:Nat->Int) (rs:Zp) (j:Nat):Int:=YN (fun i=>x i*ceE rs i j) rs.length
def qE (rs:Zp) (us:Z6) (c b i:Nat):Int:=if i≠b/\acE rs us c i=true then(ceE rs i c).tdiv (ceE rs b c)else 0
def QuL (rs:Zp) (us:Z6) (c b:Nat):qE rs us c b b=0:=by unfold qE;rw[Qb (fun h=>h.1 rfl)]
def Iq {rs:Zp} {us:Z6} {c b L:Nat} (hL: ∀i,i < rs.length->(rwE rs i).length=L) (hb:b < rs.length) {i:Nat} (hi:i < rs.length) (j:Nat):
  ceE (rnE rs us c b rs.length) i j=ceE rs i j - qE rs us c b i*ceE rs b j:=by
 unfold ceE;rw[VJ _ _ _ _ _ (QX _)];unfold qE;by_cases h:i≠b/\acE rs us c i=true
 ·rw[Qe ⟨hi,h⟩,Qe h];unfold nwE;rw[Sq (by rw[hL i hi,hL b hb])]
 ·rw[Qb h,Qb (fun⟨_,h2⟩=>h h2)];omega
def Qie {rs:Zp} {us:Z6} {c b L:Nat} (hL: ∀i,i < rs.length->(rwE rs i).length=L) (hb:b < rs.length) (x:Nat->Int):
  ∃x',∀j,cmb x rs j=cmb x' (rnE rs us c b rs.length) j:=by
 refine⟨fun i=>if i=b then x b+YN (fun i=>x i*qE rs us c b i) rs.length else x i,fun j=> ?_⟩;generalize hS:YN (fun i=>x i*qE rs us c b i) rs.length=S;unfold cmb;rw[Y7];have h1:YN (fun i=>(if i=b then x b+S else x i)*ceE (rnE rs us c b rs.length) i j) rs.length=
   YN (fun i=>(x i*ceE rs i j+ (if i=b then S*ceE rs b j else 0)) - x i*qE rs us c b i*ceE rs b j) rs.length:=by
  refine V1 _ fun i hi=> ?_;rw[Iq hL hb hi j];by_cases e:i=b
  ·subst e;rw[QuL];simp only[QT]
   grind
  ·simp only[Qb e]
   grind
 rw[h1,KW,KU,HT,hS,ME (f:=fun i=>if i=b then S*ceE rs b j else 0) (b:=b) rs.length hb (fun i _ hib=>Qb hib),Qe rfl];omega
def Qld {rs:Zp} {us:Z6} {c b L:Nat} (hL: ∀i,i < rs.length->(rwE rs i).length=L) (hb:b < rs.length) (x:Nat->Int):
  ∃x',∀j,cmb x (rnE rs us c b rs.length) j=cmb x' rs j:=by
 refine⟨fun i=>if i=b then x b - YN (fun i=>x i*qE rs us c b i) rs.length else x i,fun j=> ?_⟩;generalize hS:YN (fun i=>x i*qE rs us c b i) rs.length=S;unfold cmb;rw[Y7];have h1:YN (fun i=>x i*ceE (rnE rs us c b rs.length) i j) rs.length=YN (fun i=>x i*ceE rs i j - x i*qE rs us c b i*ceE rs b j) rs.length:=by
  refine V1 _ fun i hi=> ?_;rw[Iq hL hb hi j]
  grind
 have h2:YN (fun i=>(if i=b then x b - S else x i)*ceE rs i j) rs.length=YN (fun i=>x i*ceE rs i j - (if i=b then S*ceE rs b j else 0)) rs.length:=by
  refine V1 _ fun i hi=> ?_;by_cases e:i=b
  ·subst e;simp only[QT];grind
  ·simp only[Qb e];omega
 rw[h1,h2,KW,KW,HT,hS,ME (f:=fun i=>if i=b then S*ceE rs b j else 0) (b:=b) rs.length hb (fun i _ hib=>Qb hib),Qe rfl]
def dt2 (a b:Nat->Int) (i j:Nat):Int:=a i*b j - a j*b i
def dt3 (a b c:Nat->Int) (i j k:Nat):Int:=a i*dt2 b c j k - a j*dt2 b c i k+a k*dt2 b c i j
def dt4 (a b c d:Nat->Int) (i j k l:Nat):Int:=a i*dt3 b c d j k l - a j*dt3 b c d i k l+a k*dt3 b c d i j l - a l*dt3 b c d i j k
def dt5 (a b c d t:Nat->Int) (i j k l m:Nat):Int:=t i*dt4 a b c d j k l m - t j*dt4 a b c d i k l m+t k*dt4 a b c d i j l m - t l*dt4 a b c d i j k m+t m*dt4 a b c d i j k l
def Qpm (a b c d:Nat->Int) (p q r:Int) (i j k l:Nat):dt4 a (fun x=>b x - p*a x) (fun x=>c x - q*a x) (fun x=>d x - r*a x) i j k l=dt4 a b c d i j k l:=by
 simp only[dt4,dt3,dt2];grind
def Qpn (a b c d:Nat->Int) (p q r:Int) (i j k l:Nat):dt4 (fun x=>a x - p*b x) b (fun x=>c x - q*b x) (fun x=>d x - r*b x) i j k l=dt4 a b c d i j k l:=by
 simp only[dt4,dt3,dt2];grind
def Qpo (a b c d:Nat->Int) (p q r:Int) (i j k l:Nat):dt4 (fun x=>a x - p*c x) (fun x=>b x - q*c x) c (fun x=>d x - r*c x) i j k l=dt4 a b c d i j k l:=by
 simp only[dt4,dt3,dt2];grind
def Qpp (a b c d:Nat->Int) (p q r:Int) (i j k l:Nat):dt4 (fun x=>a x - p*d x) (fun x=>b x - q*d x) (fun x=>c x - r*d x) d i j k l=dt4 a b c d i j k l:=by
 simp only[dt4,dt3,dt2];grind
def Qpq (a b u v:Nat->Int) (i j k l:Nat) (h1:b i=0) (h2:u i=0) (h3:v i=0) (h4:u j=0) (h5:v j=0):dt4 a b u v i j k l=a i*b j* (u k*v l - u l*v k):=by
 simp only[dt4,dt3,dt2,h1,h2,h3,h4,h5];grind
def Qpr (a b c d t:Nat->Int) (T x y z w:Int) (i j k l m:Nat) (h1:b i=0) (h2:c i=0) (h3:d i=0) (h4:c j=0) (h5:d j=0) (h6:d k=0)
  (t1:t i=x*a i) (t2:t j=x*a j+y*b j) (t3:t k=x*a k+y*b k+z*c k) (t4:t l=x*a l+y*b l+z*c l+w*d l) (t5:t m=T+x*a m+y*b m+z*c m+w*d m):
  dt5 a b c d t i j k l m=a i*b j*c k*d l*T:=by
 simp only[dt5,dt4,dt3,dt2,h1,h2,h3,h4,h5,h6,t1,t2,t3,t4,t5];grind
def R9 (a:Nat->Int) (i j k l:Nat):Prop:=(a i).natAbs+ (a j).natAbs+ (a k).natAbs+ (a l).natAbs<=9
def Mf {a X:Int} {A M:Nat} (h1:a.natAbs<=A) (h2:X.natAbs<=M): (a*X).natAbs<=A*M:=by
 rw[UE];exact Ma h1 h2
def TP {X:Int} (a:Int) {M:Nat} (h2:X.natAbs<=M): (a*X).natAbs<=a.natAbs*M:=Mf (QX _) h2
def ab2 (x y:Int): (x - y).natAbs<=x.natAbs+y.natAbs:=by omega
def ab3 (x y z:Int): (x - y+z).natAbs<=x.natAbs+y.natAbs+z.natAbs:=by omega
def ab4 (x y z w:Int): (x - y+z - w).natAbs<=x.natAbs+y.natAbs+z.natAbs+w.natAbs:=by omega
def ab5 (x y z w v:Int): (x - y+z - w+v).natAbs<=x.natAbs+y.natAbs+z.natAbs+w.natAbs+v.natAbs:=by omega
def AG {b c:Nat->Int} {i j:Nat} (hb: (b i).natAbs+ (b j).natAbs<=9) (h1: (c i).natAbs<=9) (h2: (c j).natAbs<=9): (dt2 b c i j).natAbs<=81:=by
 unfold dt2;have e1:=TP (b i) h2;have e2:=TP (b j) h1;refine Y8 (ab2 _ _) ?_;generalize (b i*c j).natAbs=P at *;generalize (b j*c i).natAbs=Q at *;generalize (b i).natAbs=B at *;generalize (b j).natAbs=C at *;omega
def G4 {a b c:Nat->Int} {i j k:Nat} (ha: (a i).natAbs+ (a j).natAbs+ (a k).natAbs<=9) (hb: (b i).natAbs+ (b j).natAbs+ (b k).natAbs<=9) (hc: (c i).natAbs+ (c j).natAbs+ (c k).natAbs<=9): (dt3 a b c i j k).natAbs<=729:=by
 unfold dt3;have d1: (dt2 b c j k).natAbs<=81:=AG (by omega) (by omega) (by omega);have d2: (dt2 b c i k).natAbs<=81:=AG (by omega) (by omega) (by omega);have d3: (dt2 b c i j).natAbs<=81:=AG (by omega) (by omega) (by omega);have e1:=TP (a i) d1;have e2:=TP (a j) d2;have e3:=TP (a k) d3;refine Y8 (ab3 _ _ _) ?_;generalize (a i*dt2 b c j k).natAbs=P0 at *;generalize (a j*dt2 b c i k).natAbs=P1 at *;generalize (a k*dt2 b c i j).natAbs=P2 at *;generalize (a i).natAbs=P3 at *;generalize (a j).natAbs=P4 at *;generalize (a k).natAbs=P5 at *;clear hb hc d1 d2 d3;omega
def Qa2 {a:Nat->Int} {i j k l:Nat} (h:R9 a i j k l): (a j).natAbs+ (a k).natAbs+ (a l).natAbs<=9:=by unfold R9 at h;omega
def Qa1 {a:Nat->Int} {i j k l:Nat} (h:R9 a i j k l): (a i).natAbs+ (a k).natAbs+ (a l).natAbs<=9:=by unfold R9 at h;omega
def Qa0 {a:Nat->Int} {i j k l:Nat} (h:R9 a i j k l): (a i).natAbs+ (a j).natAbs+ (a l).natAbs<=9:=by unfold R9 at h;omega
def QaZ {a:Nat->Int} {i j k l:Nat} (h:R9 a i j k l): (a i).natAbs+ (a j).natAbs+ (a k).natAbs<=9:=by unfold R9 at h;omega
def Qii {a b c d:Nat->Int} {i j k l:Nat} (ha:R9 a i j k l) (hb:R9 b i j k l) (hc:R9 c i j k l) (hd:R9 d i j k l): (dt4 a b c d i j k l).natAbs<=6561:=by
 unfold dt4;have d1: (dt3 b c d j k l).natAbs<=729:=G4 (Qa2 hb) (Qa2 hc) (Qa2 hd);have d2: (dt3 b c d i k l).natAbs<=729:=G4 (Qa1 hb) (Qa1 hc) (Qa1 hd);have d3: (dt3 b c d i j l).natAbs<=729:=G4 (Qa0 hb) (Qa0 hc) (Qa0 hd);have d4: (dt3 b c d i j k).natAbs<=729:=G4 (QaZ hb) (QaZ hc) (QaZ hd);have e1:=TP (a i) d1;have e2:=TP (a j) d2;have e3:=TP (a k) d3;have e4:=TP (a l) d4;unfold R9 at ha;refine Y8 (ab4 _ _ _ _) ?_;generalize (a i*dt3 b c d j k l).natAbs=P0 at *;generalize (a j*dt3 b c d i k l).natAbs=P1 at *;generalize (a k*dt3 b c d i j l).natAbs=P2 at *;generalize (a l*dt3 b c d i j k).natAbs=P3 at *;generalize (a i).natAbs=P4 at *;generalize (a j).natAbs=P5 at *;generalize (a k).natAbs=P6 at *;generalize (a l).natAbs=P7 at *;clear hb hc hd d1 d2 d3 d4;omega
def QtL {a b c d t:Nat->Int} {i j k l m:Nat} (ht: ∀n,(t n).natAbs<=16) (h1: (dt4 a b c d j k l m).natAbs<=6561) (h2: (dt4 a b c d i k l m).natAbs<=6561) (h3: (dt4 a b c d i j l m).natAbs<=6561)
  (h4: (dt4 a b c d i j k m).natAbs<=6561) (h5: (dt4 a b c d i j k l).natAbs<=6561): (dt5 a b c d t i j k l m).natAbs<=524880:=by
 unfold dt5;have e1:=Mf (ht i) h1;have e2:=Mf (ht j) h2;have e3:=Mf (ht k) h3;have e4:=Mf (ht l) h4;have e5:=Mf (ht m) h5;refine Y8 (ab5 _ _ _ _ _) ?_;generalize (t i*dt4 a b c d j k l m).natAbs=P0 at *;generalize (t j*dt4 a b c d i k l m).natAbs=P1 at *;generalize (t k*dt4 a b c d i j l m).natAbs=P2 at *;generalize (t l*dt4 a b c d i j k m).natAbs=P3 at *;generalize (t m*dt4 a b c d i j k l).natAbs=P4 at *;clear ht h1 h2 h3 h4 h5;omega
def QdY {a:Q4} {i j k l:Nat} (hij:i≠j) (hik:i≠k) (hil:i≠l) (hjk:j≠k) (hjl:j≠l) (hkl:k≠l) (h:nrE a<=9):R9 (fun n=>a.getD n 0) i j k l:=by
 have key: ∀(a:Q4) (c:Nat),(a.getD c 0).natAbs+nrE (a.set c 0)<=nrE a:=by
  intro a c;rcases Zt c a.length with h1 | h1
  ·rw[Mw h1];exact QX _
  ·rw[List.set_eq_of_length_le h1,Zh,ZF h1];simp
 have get: ∀(a:Q4) (c d:Nat),c≠d->(a.set c 0).getD d 0=a.getD d 0:=by
  intro a c d h;rw[Zh,Zh,Un h]
 have k1:=key a i;have k2:=key (a.set i 0) j;have k3:=key ((a.set i 0).set j 0) k;have k4:=key (((a.set i 0).set j 0).set k 0) l;rw[get _ _ _ hij]at k2;rw[get _ _ _ hjk,get _ _ _ hik]at k3;rw[get _ _ _ hkl,get _ _ _ hjl,get _ _ _ hil]at k4;unfold R9;generalize (a.getD i 0).natAbs=P0 at *;generalize (a.getD j 0).natAbs=P1 at *;generalize (a.getD k 0).natAbs=P2 at *;generalize (a.getD l 0).natAbs=P3 at *;generalize nrE (a.set i 0)=P4 at *;generalize nrE ((a.set i 0).set j 0)=P5 at *;generalize nrE (((a.set i 0).set j 0).set k 0)=P6 at *;generalize nrE ((((a.set i 0).set j 0).set k 0).set l 0)=P7 at *;omega
def rwF (rs:Zp) (i:Nat):Nat->Int:=fun j=>ceE rs i j
def Qij {rs:Zp} {us:Z6} {c b L:Nat} (h4:rs.length=4) (hL: ∀i,i < rs.length->(rwE rs i).length=L) (hb:b < 4) {b1 b2 b3 b4:Nat} (h1:b1 < 4) (h2:b2 < 4) (h3:b3 < 4) (h5:b4 < 4)
  (d12:b1≠b2) (d13:b1≠b3) (d14:b1≠b4) (d23:b2≠b3) (d24:b2≠b4) (d34:b3≠b4) (i j k l:Nat):
  dt4 (rwF (rnE rs us c b rs.length) b1) (rwF (rnE rs us c b rs.length) b2) (rwF (rnE rs us c b rs.length) b3) (rwF (rnE rs us c b rs.length) b4) i j k l=dt4 (rwF rs b1) (rwF rs b2) (rwF rs b3) (rwF rs b4) i j k l:=by
 have e: ∀n,n < 4->rwF (rnE rs us c b rs.length) n=fun x=>rwF rs n x - qE rs us c b n*rwF rs b x:=fun n hn=>funext fun x=>Iq hL (by omega) (by omega) x;have eb:rwF (rnE rs us c b rs.length) b=rwF rs b:=by
  rw[e b hb];funext x;rw[QuL];omega
 have hc:b=b1\/b=b2\/b=b3\/b=b4:=by omega
 rcases hc with rfl | rfl | rfl | rfl
 ·rw[eb,e b2 h2,e b3 h3,e b4 h5];exact Qpm ..
 ·rw[eb,e b1 h1,e b3 h3,e b4 h5];exact Qpn ..
 ·rw[eb,e b1 h1,e b2 h2,e b4 h5];exact Qpo ..
 ·rw[eb,e b1 h1,e b2 h2,e b3 h3];exact Qpp ..
def S3 (G:Nat):Nat->Nat->Nat->Nat->Nat->Nat->Nat->Bool
 | 0,_,_,_,_,_,_=>false
 | f+1,m,y,a,x,b,z=>
  (Nat.ble x G && (Nat.ble z G && Nat.ble y G)) &&
  (cond (Nat.beq a 0) (cond (Nat.beq b 0) true (S3 G f b z (m % b) (y+m / b*z) 0 x))
   (cond (Nat.beq b 0) (S3 G f a x (m % a) (y+m / a*x) 0 z)
    ((!Nat.ble a b || S3 G f a x (m % a) (y+m / a*x) (b % a) (z+b / a*x)) &&
     (!Nat.ble b a || S3 G f b z (m % b) (y+m / b*z) (a % b) (x+a / b*z)))))
def S3i (G Z c b a:Nat):Bool:=S3 G 9 c (Z - c) (b % c) (Z - b+b / c* (Z - c)) (a % c) (Z - a+a / c* (Z - c))
def Qgw (c n:Nat):Nat:=cond (Nat.beq n 0) 0 (c+n)
def Aq (G Z:Nat):Bool:=Lf (fun c=>Lf (fun na=>Lf (fun nb=>S3i G Z (c+1) (Qgw c nb) (Qgw c na)) (na+1)) (Z - c+1)) Z
def Qrh:Aq 7000 72=true:=by kernel_rfl
def Qu5:Aq 80 9=true:=by kernel_rfl
def Qev {c n:Nat} (h:n=0\/c+1<=n):Qgw c (n - c)=n:=by
 unfold Qgw;rcases h with rfl | h
 ·simp
 ·have:Nat.beq (n - c) 0=false:=by
   cases h2:Nat.beq (n - c) 0
   ·rfl
   ·have:=Nat.eq_of_beq_eq_true h2;omega
  rw[this]
  show c+ (n - c)=n;omega
def Qla {G Z:Nat} (h:Aq G Z=true) {c b a:Nat} (hc:0 < c) (hcZ:c<=Z) (hb:b=0\/(c<=b/\b<=Z)) (ha:a=0\/(c<=a/\a<=Z)) (hba:b<=a):S3i G Z c b a=true:=by
 obtain⟨c,rfl⟩: ∃k,c=k+1:=⟨c - 1,by omega⟩;have h1:=Sd (Sd (Sd h c (by omega)) (a - c) (by omega)) (b - c) (by omega);rwa[Qev (by omega),Qev (by omega)]at h1
def Qtk {G f m y a x b z:Nat} (h:S3 G f m y a x b z=true):y<=G/\x<=G/\z<=G:=by
 cases f with
 | zero=>simp[S3]at h
 | succ f=>
  simp only[S3,Qr,Nat.ble_eq]at h;exact⟨h.1.2.2,h.1.1,h.1.2.1⟩
def Qe4 {n:Nat} (h:n≠0):Nat.beq n 0=false:=by
 cases h2:Nat.beq n 0
 ·rfl
 ·exact absurd (Nat.eq_of_beq_eq_true h2) h
def Qtl {G f m y a x b z:Nat} (h:S3 G f m y a x b z=true) (ha:a≠0) (hb:b=0\/a<=b): ∃f',S3 G f' a x (m % a) (y+m / a*x) (b % a) (z+b / a*x)=true:=by
 cases f with
 | zero=>simp[S3]at h
 | succ f=>
  refine⟨f,?_⟩;simp only[S3,Qr,Qe4 ha,cond_false]at h;by_cases hb0:b=0
  ·subst hb0;have h2:=h.2;have e:Nat.beq 0 0=true:=rfl;simp only[e,cond_true]at h2;simpa using h2
  ·have hle:a<=b:=by rcases hb with hb | hb;exact absurd hb hb0;exact hb
   have h2:=h.2;simp only[Qe4 hb0,cond_false,Qr,WI,Tp]at h2;rcases h2.1 with h3 | h3
   ·have:Nat.ble a b=true:=Nat.ble_eq_true_of_le hle;rw[this]at h3;cases h3
   ·exact h3
def Qtm {G f m y a x b z:Nat} (h:S3 G f m y a x b z=true) (hb:b≠0) (ha:a=0\/b<=a): ∃f',S3 G f' b z (m % b) (y+m / b*z) (a % b) (x+a / b*z)=true:=by
 cases f with
 | zero=>simp[S3]at h
 | succ f=>
  refine⟨f,?_⟩;simp only[S3,Qr,Qe4 hb,cond_false]at h;by_cases ha0:a=0
  ·subst ha0;have h2:=h.2;have e:Nat.beq 0 0=true:=rfl;simp only[e,cond_true]at h2;simpa using h2
  ·have hle:b<=a:=by rcases ha with ha | ha;exact absurd ha ha0;exact ha
   have h2:=h.2;simp only[Qe4 ha0,cond_false,Qr,WI,Tp]at h2;rcases h2.2 with h3 | h3
   ·have:Nat.ble b a=true:=Nat.ble_eq_true_of_le hle;rw[this]at h3;cases h3
   ·exact h3
def Qxq {rs:Zp} {us:Z6} {c b L:Nat} (hL: ∀i,i < rs.length->(rwE rs i).length=L) (hb:b < rs.length) {i:Nat} (hi:i < rs.length) (hu:unE us i) (hib:i≠b):
  aE (rnE rs us c b rs.length) c i=aE rs c i % aE rs c b/\xE (rnE rs us c b rs.length) c i<=xE rs c i+aE rs c i / aE rs c b*xE rs c b:=by
 have h1:=EC (us:=us) (c:=c) hL hb hi;have h2:=Qa8 (us:=us) (c:=c) hL hb hi;by_cases ha:acE rs us c i=true
 ·rw[Qe ⟨hib,ha⟩]at h1 h2;exact⟨h1,h2⟩
 ·have h0:aE rs c i=0:=by
   rcases Jv (aE rs c i)with h | h
   ·exact h
   ·exact absurd (YB.2 ⟨hu,by omega⟩) ha
  rw[Qb (fun h=>ha h.2)]at h1 h2;rw[h0]at h1 ⊢;refine⟨by rw[h1];simp,by simp;omega⟩
def Qxr {rs:Zp} {us:Z6} {c b L:Nat} (hL: ∀i,i < rs.length->(rwE rs i).length=L) (hb:b < rs.length):aE (rnE rs us c b rs.length) c b=aE rs c b/\xE (rnE rs us c b rs.length) c b<=xE rs c b:=by
 have h1:=EC (us:=us) (c:=c) hL hb hb;have h2:=Qa8 (us:=us) (c:=c) hL hb hb;rw[Qb (fun h=>h.1 rfl)]at h1 h2;exact⟨h1,h2⟩
def QwJ (c G:Nat) (rs:Zp) (p i k:Nat):Prop:=∃f y x z,S3 G f (aE rs c p) y (aE rs c i) x (aE rs c k) z=true/\xE rs c p<=y/\xE rs c i<=x/\xE rs c k<=z/\aE rs c i < aE rs c p/\aE rs c k < aE rs c p
def Bh (i1 i2 i3 p i k:Nat):Prop:=p≠i/\p≠k/\i≠k/\(p=i1\/p=i2\/p=i3)/\(i=i1\/i=i2\/i=i3)/\(k=i1\/k=i2\/k=i3)
def J3s (c G Z i1 i2 i3:Nat) (rs:Zp):Prop:=(∀n,n=i1\/n=i2\/n=i3->aE rs c n<=Z)/\
 ((∀n,n=i1\/n=i2\/n=i3->aE rs c n+xE rs c n<=Z)\/∃p i k,Bh i1 i2 i3 p i k/\QwJ c G rs p i k)
def QdH {c G Z i1 i2 i3:Nat} {rs:Zp} (hd:i1≠i2/\i1≠i3/\i2≠i3) (hZ:Z<=G) (h:J3s c G Z i1 i2 i3 rs) {n:Nat} (hn:n=i1\/n=i2\/n=i3):aE rs c n<=Z/\xE rs c n<=G:=by
 refine⟨h.1 n hn,?_⟩;rcases h.2 with h1 | ⟨p,i,k,⟨d1,d2,d3,e1,e2,e3⟩,f,y,x,z,s,q1,q2,q3,_⟩
 ·have:=h1 n hn;omega
 ·obtain⟨b1,b2,b3⟩:=Qtk s;have:n=p\/n=i\/n=k:=by omega
  rcases this with rfl | rfl | rfl <;> omega
def Ql0 {us:Z6} {c G Z L i1 i2 i3:Nat} {rs:Zp} {b:Nat} (hck:Aq G Z=true) (hL: ∀i,i < rs.length->(rwE rs i).length=L) (hd:i1≠i2/\i1≠i3/\i2≠i3) (hi:i1 < rs.length/\i2 < rs.length/\i3 < rs.length)
  (hu: ∀k,k < rs.length->(unE us k↔k=i1\/k=i2\/k=i3)) (hj:J3s c G Z i1 i2 i3 rs) (hs: (scE rs us c rs.length).1=some b) (hn:2<=(scE rs us c rs.length).2):J3s c G Z i1 i2 i3 (rnE rs us c b rs.length):=by
 have sc:=scI rs us c rs.length;obtain⟨s1,s2,s3,s4⟩:=sc.sm b hs;obtain⟨ub,ab⟩:=YB.1 s2;have hm0:0 < aE rs c b:=Ph ab;have hbm:=(hu b s1).1 ub;have hmem: ∀n,n=i1\/n=i2\/n=i3->n < rs.length/\unE us n:=fun n hn=>by
  have hl:n < rs.length:=by rcases hn with rfl | rfl | rfl;exact hi.1;exact hi.2.1;exact hi.2.2
  exact⟨hl,(hu n hl).2 hn⟩
 have hA: ∀n,n=i1\/n=i2\/n=i3->n≠b->_:=fun n hn hnb=>Qxq (c:=c) hL s1 (hmem n hn).1 (hmem n hn).2 hnb;obtain⟨b1,b2⟩:=Qxr (us:=us) (c:=c) hL s1;have hmin: ∀n,n=i1\/n=i2\/n=i3->aE rs c n=0\/aE rs c b<=aE rs c n:=fun n hn=>by
  rcases Jv (aE rs c n)with h | h
  ·exact .inl h
  ·exact .inr (s4 n (hmem n hn).1 (YB.2 ⟨(hmem n hn).2,by omega⟩))
 obtain⟨rs2,hrs2⟩: ∃rs2,rnE rs us c b rs.length=rs2:=⟨_,rfl⟩;rw[hrs2]at hA b1 b2 ⊢;refine⟨fun n hn=> ?_,.inr ?_⟩
 ·have:=hj.1 n hn;by_cases e:n=b
  ·subst e;omega
  ·have h1:=(hA n hn e).1;have h2:=Nat.mod_le (aE rs c n) (aE rs c b);omega
 ·rcases hj.2 with h1 | ⟨p,i,k,⟨d1,d2,d3,e1,e2,e3⟩,f,y,x,z,s,q1,q2,q3,q4,q5⟩
  ·-- the first round
   obtain⟨i,k,hP,hik⟩: ∃i k,Bh i1 i2 i3 b i k/\aE rs c i<=aE rs c k:=by
    obtain⟨i,k,hP⟩: ∃i k,Bh i1 i2 i3 b i k:=by
     unfold Bh;rcases hbm with rfl | rfl | rfl
     ·exact⟨i2,i3,by omega⟩
     ·exact⟨i1,i3,by omega⟩
     ·exact⟨i1,i2,by omega⟩
    rcases Nat.le_total (aE rs c i) (aE rs c k)with h | h
    ·exact⟨i,k,hP,h⟩
    ·refine⟨k,i,?_,h⟩;unfold Bh at *;omega
   obtain⟨d1,d2,d3,e1,e2,e3⟩:=hP;obtain⟨ai,xi⟩:=hA i e2 d1.symm;obtain⟨ak,xk⟩:=hA k e3 d2.symm;have hbZ:=h1 b hbm;have hiZ:=h1 i e2;have hkZ:=h1 k e3;have hc:=Qla hck (c:=aE rs c b) (b:=aE rs c i) (a:=aE rs c k) hm0 (by omega) (by have:=hmin i e2;omega) (by have:=hmin k e3;omega) hik;refine⟨b,i,k,⟨d1,d2,d3,e1,e2,e3⟩,9,Z - aE rs c b,Z - aE rs c i+aE rs c i / aE rs c b* (Z - aE rs c b),Z - aE rs c k+aE rs c k / aE rs c b* (Z - aE rs c b),?_,?_,?_,?_,?_,?_⟩
   ·rw[b1,ai,ak];exact hc
   ·omega
   ·have:=XG (aE rs c i / aE rs c b) (show xE rs c b<=Z - aE rs c b by omega);omega
   ·have:=XG (aE rs c k / aE rs c b) (show xE rs c b<=Z - aE rs c b by omega);omega
   ·rw[ai,b1];exact WU _ hm0
   ·rw[ak,b1];exact WU _ hm0
  ·-- a later round
   have hbp:b≠p:=by
    intro e;subst e;obtain⟨j,j1,j2,j3⟩:=sc.tw b hs hn;obtain⟨uj,aj⟩:=YB.1 j3;have hjm:=(hu j j1).1 uj;have:aE rs c b<=aE rs c j:=s4 j j1 j3;have:j=i\/j=k:=by omega
    rcases this with rfl | rfl <;> omega
   have hbik:b=i\/b=k:=by omega
   rcases hbik with rfl | rfl
   ·obtain⟨ap,xp⟩:=hA p e1 d1;obtain⟨ak,xk⟩:=hA k e3 d3.symm;obtain⟨f',hf⟩:=Qtl s ab (hmin k e3);refine⟨b,p,k,⟨d1.symm,d3,d2,e2,e1,e3⟩,f',x,y+aE rs c p / aE rs c b*x,z+aE rs c k / aE rs c b*x,?_,?_,?_,?_,?_,?_⟩
    ·rw[b1,ap,ak];exact hf
    ·omega
    ·have:=XG (aE rs c p / aE rs c b) q2;omega
    ·have:=XG (aE rs c k / aE rs c b) q2;omega
    ·rw[ap,b1];exact WU _ hm0
    ·rw[ak,b1];exact WU _ hm0
   ·obtain⟨ap,xp⟩:=hA p e1 d2;obtain⟨ai,xi⟩:=hA i e2 d3;obtain⟨f',hf⟩:=Qtm s ab (hmin i e2);refine⟨b,p,i,⟨d2.symm,d3.symm,d1,e3,e1,e2⟩,f',z,y+aE rs c p / aE rs c b*z,x+aE rs c i / aE rs c b*z,?_,?_,?_,?_,?_,?_⟩
    ·rw[b1,ap,ai];exact hf
    ·omega
    ·have:=XG (aE rs c p / aE rs c b) q3;omega
    ·have:=XG (aE rs c i / aE rs c b) q3;omega
    ·rw[ap,b1];exact WU _ hm0
    ·rw[ai,b1];exact WU _ hm0
end Go.Am
