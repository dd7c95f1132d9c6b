/-
  Rc18, Rc19, Rc20, Rc21, Rc22, Rc23, Rc24, Rc25.
-/
import Derived.Test.YthlnfdbbneaelaaGreatDoorG13
set_option linter.all false
open Go.Am.F
namespace Go.Am
set_option maxRecDepth 20000
def Wp (t:Tm):Tm:= .mk 3 INV 0 [t]
def XJ (l:Qw):Qj:=(l.map fun p=>List.replicate p.2.toNat p.1).flatten
def XX (l:Qw):Qj:=(l.map fun p=>List.replicate (-p.2).toNat (Wp p.1)).flatten
def Zo (l:Qw):Qj:=XJ l ++ XX l
def Zv:Qj->Tm
 | []=> .mk 3 ONE 0 []
 | [p]=>p
 | p:: q:: r=> .mk 3 MUL 0 (p:: q:: r)
def Z2 (l:Qw):Tm×Int:=
 if Q5 l≠0 then(QU,Q5 l)else if 8 < (Zo l).length then(QU,3)else if QR (Zv (Zo l))≠0 then(QU,QR (Zv (Zo l)))else(Zv (Zo l),0)
def QaP (a p):XJ (a ++ [p])=XJ a ++ List.replicate p.2.toNat p.1:=by simp[XJ]
def Qav (a p):XX (a ++ [p])=XX a ++ List.replicate (-p.2).toNat (Wp p.1):=by simp[XX]
def QaQ {l} (h: ∀q∈l,q.2<=8): (XJ l).length<=8*l.length:=by
 induction l with | nil=>simp[XJ] | cons p l c=>have a:=c fun q b=>h q (by simp[b]);have d:=h p (by simp);simp only[XJ,ZI,To,Zl,S5,ZH]at a ⊢;omega
def Qaw {l} (h: ∀q∈l,-8<=q.2): (XX l).length<=8*l.length:=by
 induction l with | nil=>simp[XX] | cons p l c=>have a:=c fun q b=>h q (by simp[b]);have d:=h p (by simp);simp only[XX,ZI,To,Zl,S5,ZH]at a ⊢;omega
def QaR {l p} (h:p∈l):p.2.toNat<=(XJ l).length:=by
 induction l with | nil=>simp at h | cons q l a=>simp only[XJ,ZI,To,Zl,S5]at a ⊢;rcases Zf.1 h with rfl | h;omega;have:=a h;omega
def Qax {l p} (h:p∈l): (-p.2).toNat<=(XX l).length:=by
 induction l with | nil=>simp at h | cons q l a=>simp only[XX,ZI,To,Zl,S5]at a ⊢;rcases Zf.1 h with rfl | h;omega;have:=a h;omega
def F2 (n a o b):call tb 198 [.str n,.sl o 4 (Qa a)] b=some (.agg (Qd (.mk 3 n 0 a)),b):=by
 rw[zcc 198 rfl rfl];simp[f198,f198C,Sg]
def IW {k} (a) (x:Tm): (a ++ [x])++ List.replicate k x=a ++ List.replicate (k+1) x:=by simp[SC]
def Qrd {p q} (y:p.1.mass < big) (z: -8<=p.2/\p.2<=8) (c K X): ∀k a (i:Nat) e,i+k=p.2.toNat->a.length+k < 100000000->e 5= .sl true 4 (Qa a)->e 8= .bx (Q9 p)->e 34= .int .i64 p.2->e 35= .int .i64 i->
  (∀b:Yd,b 5= .sl true 4 (Qa (a ++ List.replicate k p.1))->(∀j,j < 34->j≠5->b j=e j)->R tb c b q K=X)->
  R tb (.loop f196l0) e q (Qi 2 (Qu tb c K))=X:=by
 intro k;induction k with | zero=>intro a i e v x m l d f h;(have n: ¬(i:Int) < p.2:=by omega);rw[Qc f196l0.eq_1];simp[m,l,d,f,n];apply h;simp[m];intro j r g;(have:j≠36:=by omega);simp[this] | succ k u=>intro a i e v x m l d f h;(have n: (i:Int) < p.2:=by omega);(have o:IntKind.i64.wrap ((i:Int)+1)=((i+1:Nat):Int):=by rw[QC (by omega) (by omega)];omega);have w: (a.length+1)*56<=140737488355328:=Wb (by omega);rw[Qc f196l0.eq_1];simp[m,l,d,f,n,o,w,(OA p.1 q y),ZN,Q7];refine u (a ++ [p.1]) (i+1) _ (by omega) (by simp;omega) ?_ ?_ ?_ ?_ ?_;simp;simp[l];simp[d];simp;intro b s t;rw[IW]at s;refine h b s fun j r g=> ?_;rw[t j r g];(have B:j≠35:=by omega);(have I:j≠36:=by omega);(have A:j≠37:=by omega);(have D:j≠38:=by omega);(have J:j≠39:=by omega);(have E:j≠40:=by omega);(have H:j≠41:=by omega);(have G:j≠42:=by omega);(have C:j≠43:=by omega);simp[*]
def Qre {p m} (B:p.1.mass < big) (N: -8<=p.2/\p.2<=8) (c K X): ∀k a (i:Nat) e,i+k=(-p.2).toNat->a.length+k < 100000000->e 6= .sl true 4 (Qa a)->e 8= .bx (Q9 p)->e 46= .int .i64 (-p.2)->e 47= .int .i64 i->
  (∀b:Yd,b 6= .sl true 4 (Qa (a ++ List.replicate k (Wp p.1)))->(∀j,j < 34->j≠6->b j=e j)->R tb c b m K=X)->
  R tb (.loop f196l1) e m (Qi 4 (Qi 1 (Qu tb c K)))=X:=by
 intro k;induction k with | zero=>intro a i e v A o n d f h;(have r: ¬(i:Int) < -p.2:=by omega);rw[Qc f196l1.eq_1];simp[o,n,d,f,r];apply h;simp[o];intro j t l;(have:j≠48:=by omega);simp[this] | succ k x=>intro a i e v A o n d f h;(have r: (i:Int) < -p.2:=by omega);(have q:IntKind.i64.wrap ((i:Int)+1)=((i+1:Nat):Int):=by rw[QC (by omega) (by omega)];omega);have w: (a.length+1)*56<=140737488355328:=Wb (by omega);have g:=F2 INV [p.1] false m;simp only[INV]at g;rw[Qc f196l1.eq_1];simp[o,n,d,f,r,q,w,(OA p.1 m B),g,ZN];rw[show Qd (Tm.mk 3 [105,110,118] 0 [p.1])=Qd (Wp p.1)from rfl];simp[Q7];refine x (a ++ [Wp p.1]) (i+1) _ (by omega) (by simp;omega) ?_ ?_ ?_ ?_ ?_;simp[Wp,INV];simp[n];simp[d];simp;intro b s u;rw[IW]at s;refine h b s fun j t l=> ?_;rw[u j t l];(have L:j≠47:=by omega);(have G:j≠48:=by omega);(have J:j≠49:=by omega);(have C:j≠50:=by omega);(have I:j≠51:=by omega);(have D:j≠52:=by omega);(have H:j≠53:=by omega);(have E:j≠54:=by omega);(have M:j≠55:=by omega);(have y:j≠56:=by omega);(have z:j≠57:=by omega);simp[*]
def Qrg (l i) (w:Q5 l=0) (z: (Zo l).length < 100000000) (t:Qv (Zo l) < big - 100) (o) (m:o 2= .bx [.int .i64 0,.str [],.int .i64 0,.sl true 4 []]) (n:o 5= .sl true 4 (Qa (XJ l))) (g:o 6= .sl true 4 (Qa (XX l))):
  R tb f196r2 o i (Qz f196 i)=some (ZD (Z2 l),i):=by
 have c:=S9 [XJ l,XX l] false i (by simp) (by simpa[Zo]using z);have v: [XJ l,XX l].flatten=Zo l:=by simp[Zo]
 rw[v]at c;simp only[SJ,ZI,Vv]at c;have d:=F2 MUL (Zo l) false i;have j:=F2 ONE [] true i;simp only[MUL]at d;simp only[ONE,Qa]at j;by_cases u:8 < (Zo l).length;have k: (8:Int) < ((Zo l).length:Int):=by omega
 have e:Z2 l=(QU,3):=by simp[Z2,w,u]
 rw[e];simp[f196r2,m,n,g,c,k,ZD,Zj];have k: ¬(8:Int) < ((Zo l).length:Int):=by omega
 have a:=Tr (Zv (Zo l)) i (by unfold big at *;match h:Zo l with | []=>simp[Zv,QI,Qv,ONE] | [p]=>rw[h]at t;simp[Zv,Qv]at t ⊢;omega | p:: q:: r=>rw[h]at t u;simp[Zv,QI,Qv,MUL]at t u ⊢;omega);have e:Z2 l=if QR (Zv (Zo l))≠0 then(QU,QR (Zv (Zo l)))else(Zv (Zo l),0):=by simp[Z2,w,u]
 rw[e];generalize s:Zo l=L at *;match L,s with | [],s=>simp only[Zv,ONE]at a;simp only[Qa]at d c;by_cases b:QR (.mk 3 [111,110,101] 0 [])=0;rw[b]at a;simp[f196r2,m,n,g,c,d,j,a,b,ZD,Zv,ONE];simp[f196r2,m,n,g,c,d,j,a,b,ZD,Zj,Zv,ONE] | [p],s=>simp only[Zv]at a;by_cases b:QR p=0;rw[b]at a;simp[f196r2,m,n,g,c,d,a,b,ZD,Zv];simp[f196r2,m,n,g,c,d,a,b,ZD,Zj,Zv] | p:: q:: r,s=>simp only[Zv,MUL]at a;(have f: ¬(8:Int) < (r.length:Int)+1+1:=by simpa using k);(have x: ¬(r.length:Int)+1+1=0:=by omega);(have y: ¬(r.length:Int)+1+1=1:=by omega);by_cases b:QR (.mk 3 [109,117,108] 0 (p:: q:: r))=0;rw[b]at a;simp[f196r2,m,n,g,c,d,a,b,f,x,y,ZD,Zv,MUL];simp[f196r2,m,n,g,c,d,a,b,f,x,y,ZD,Zj,Zv,MUL]
def Qrf (l C) (S:Q5 l=0) (hl:l.length < 5000000) (V: ∀q∈l,q.1.mass < big) (Z: (∀q∈l,-8<=q.2/\q.2<=8)->Qv (Zo l) < big - 100):
  ∀b a i,l=a ++ b->(∀q∈a,-8<=q.2/\q.2<=8)->i 2= .bx [.int .i64 0,.str [],.int .i64 0,.sl true 4 []]->i 5= .sl true 4 (Qa (XJ a))->i 6= .sl true 4 (Qa (XX a))->
   i 18= .sl false 5 (Qt l)->i 19= .int .i64 l.length->i 20= .int .i64 a.length->
  R tb (.loop f196l2) i C (Qi 0 (Qu tb f196r2 (Qz f196 C)))=some (ZD (Z2 l),C):=by
 intro b;induction b with | nil=>intro a i c m k E J f g d;simp only[QH]at c;subst c;rw[Qc f196l2.eq_1];simp[f,g,d];apply(Qrg l C S (by have B:=QaQ (l:=l) fun q h=>(m q h).2;have k:=Qaw (l:=l) fun q h=>(m q h).1;simp only[Zo,Zl];omega) (Z m)) <;> simp[k,E,J] | cons p b W=>intro a i c m k E J f g d;have I:=QB c;(have hll:l.length=a.length+ (b.length+1):=by rw[c];simp);(have r: (a.length:Int) < (l.length:Int):=by omega);(have o:p∈l:=by rw[c];simp);have x:=V p o;(have j: ∀n,n < (Zo l).length->8<=n->Z2 l=(QU,3):=by intro n B k;(have:8 < (Zo l).length:=by omega);simp[Z2,S,this]);rw[Qc f196l2.eq_1];by_cases K:8 < p.2;have B:=QaR o;have e:=j 8 (by simp only[Zo,Zl];omega) (by omega);rw[e];simp[k,f,g,d,I,r,K,ZD,Zj];by_cases Q:p.2 < -8;have B:=Qax o;have e:=j 8 (by simp only[Zo,Zl];omega) (by omega);rw[e];simp[k,f,g,d,I,r,K,Q,ZD,Zj];(have G: -8<=p.2/\p.2<=8:=by omega);have U:IntKind.i64.wrap (-p.2)= -p.2:=QC (by omega) (by omega);(have D: ∀q∈a ++ [p],-8<=q.2/\q.2<=8:=by intro q h;rcases Ze.1 h with h | h;exact m q h;simp at h;subst h;exact G);have B:=QaQ (l:=a) fun q h=>(m q h).2;have h3:=Qaw (l:=a) fun q h=>(m q h).1;simp[k,f,g,d,I,r,K,Q];refine Qrd x G _ _ _ p.2.toNat (XJ a) 0 _ (by omega) (by omega) ?_ ?_ ?_ ?_ ?_;simp[E];simp;simp;simp;intro X Y s;have M:=s 2 (by omega) (by omega);have O:=s 6 (by omega) (by omega);have H:=s 8 (by omega) (by omega);have z:=s 18 (by omega) (by omega);have w:=s 19 (by omega) (by omega);have u:=s 20 (by omega) (by omega);simp[k,J,f,g,d]at M O H z w u;simp[f196r0,H,U];refine Qre x G _ _ _ (-p.2).toNat (XX a) 0 _ (by omega) (by omega) ?_ ?_ ?_ ?_ ?_;simp[O];simp[H];simp;simp;intro N T A;have P:=A 2 (by omega) (by omega);have L:=A 5 (by omega) (by omega);have t:=A 18 (by omega) (by omega);have v:=A 19 (by omega) (by omega);have y:=A 20 (by omega) (by omega);simp[M,Y,z,w,u]at P L t v y;simp[f196r1,y,(wr1 a.length (by omega))];apply(fun i=>W (a ++ [p]) i (by rw[c];simp) D) <;> simp[P,L,T,t,v,QaP,Qav]
def Qn6 (l o a) (g:l.length < 5000000) (c: ∀q∈l,q.1.mass < big) (f: (∀q∈l,-8<=q.2/\q.2<=8)->Qv (Zo l) < big - 100):
  call tb 196 [.sl o 5 (Qt l)] a=some (ZD (Z2 l),a):=by
 have d:=LI l false a (by omega) c;rw[zcc 196 rfl rfl];by_cases b:Q5 l=0;simp[f196C,d,b];apply(fun h=>Qrf l a b g c f l [] h rfl (by simp)) <;> simp[XJ,XX,Qa];have e:Z2 l=(QU,Q5 l):=by simp[Z2,b]
 rw[e];simp[f196C,d,b,ZD,Zj]
def RD (n a o b) (d:a.length < 100000000):call tb 120 [.str n,.sl o 4 (Qa a)] b=some (.agg (Qd (.mk 3 n 0 a)),b):=by
 have c:a.length*56<=140737488355328:=Wb (by omega);rw[zcc 120 rfl rfl];simp[f120C,c,Sg]
def K6 {c:Type} (n) (a b:List c): (a.take n ++ b).take n=(a ++ b).take n:=by
 rw[Gw,Gw,LF,Ye,Nat.min_self];congr 2;omega
def QuD {l p v} (D: -1000<=p.2/\p.2<=1000) (c K X): ∀k a (i n:Nat) o j,l[n]? =some p->i+k=p.2.toNat->a.length<=9->j 0= .sl o 5 (Qt l)->j 3= .sl true 4 (Qa a)->j 4= .int .i64 n->j 5= .int .i64 i->
  (∀b:Yd,b 0= .sl o 5 (Qt l)->b 4= .int .i64 n->b 3= .sl true 4 (Qa ((a ++ List.replicate k p.1).take 9))->R tb c b v K=X)->
  R tb (.loop f260l0) j v (Qi 2 (Qi 1 (Qu tb c K)))=X:=by
 intro k;induction k with | zero=>intro a i n o j q A u g m d s h;(have r: ¬(i:Int) < p.2:=by omega);rw[Qc f260l0.eq_1];simp[g,m,d,s,q,r];apply h <;> simp[g,m,d,Z7 u] | succ k z=>intro a i n o j q A u g m d s h;(have r: (i:Int) < p.2:=by omega);(have t:IntKind.i64.wrap ((i:Int)+1)=((i+1:Nat):Int):=by rw[QC (by omega) (by omega)];omega);rw[Qc f260l0.eq_1];by_cases C:a.length < 9;(have f: (a.length:Int) < 9:=by omega);have B: (a.length+1)*56<=140737488355328:=Wb (by omega);simp[g,m,d,s,q,r,t,B,f,ZN,Q7];refine z (a ++ [p.1]) (i+1) n o _ q (by omega) (by simp;omega) ?_ ?_ ?_ ?_ ?_;simp[g];simp;simp[d];simp;intro b x y w;rw[IW]at w;exact h b x y w;(have f: ¬(a.length:Int) < 9:=by omega);(have e: (a ++ List.replicate (k+1) p.1).take 9=a:=by rw[Pq (by omega),Z7 u]);simp[g,m,d,s,q,r,f];apply h <;> simp[g,m,d,e]
def QuF {l p v} (G: -1000<=p.2/\p.2<=1000) (c K X): ∀k a (i n:Nat) o j,l[n]? =some p->i+k=(-p.2).toNat->a.length<=9->j 0= .sl o 5 (Qt l)->j 3= .sl true 4 (Qa a)->j 6= .int .i64 n->j 7= .int .i64 i->
  (∀b:Yd,b 0= .sl o 5 (Qt l)->b 6= .int .i64 n->b 3= .sl true 4 (Qa ((a ++ List.replicate k (Wp p.1)).take 9))->R tb c b v K=X)->
  R tb (.loop f260l2) j v (Qi 6 (Qi 5 (Qu tb c K)))=X:=by
 have u:IntKind.i64.wrap (-p.2)= -p.2:=QC (by omega) (by omega);intro k;induction k with | zero=>intro a i n o j r A x f m d t h;(have s: ¬(i:Int) < -p.2:=by omega);rw[Qc f260l2.eq_1];simp[f,m,d,t,r,u,s];apply h <;> simp[f,m,d,Z7 x] | succ k C=>intro a i n o j r A x f m d t h;(have s: (i:Int) < -p.2:=by omega);(have w:IntKind.i64.wrap ((i:Int)+1)=((i+1:Nat):Int):=by rw[QC (by omega) (by omega)];omega);rw[Qc f260l2.eq_1];by_cases E:a.length < 9;(have g: (a.length:Int) < 9:=by omega);have B: (a.length+1)*56<=140737488355328:=Wb (by omega);have q:=RD INV [p.1] false v (by simp);simp only[INV]at q;simp[f,m,d,t,r,u,s,w,B,q,g,ZN];rw[show Qd (Tm.mk 3 [105,110,118] 0 [p.1])=Qd (Wp p.1)from rfl];simp[Q7];refine C (a ++ [Wp p.1]) (i+1) n o _ r (by omega) (by simp;omega) ?_ ?_ ?_ ?_ ?_;simp[f];simp[Wp,INV];simp[d];simp;intro b z D y;rw[IW]at y;exact h b z D y;(have g: ¬(a.length:Int) < 9:=by omega);(have e: (a ++ List.replicate (k+1) (Wp p.1)).take 9=a:=by rw[Pq (by omega),Z7 x]);simp[f,m,d,t,r,u,s,g];apply h <;> simp[f,m,d,e]
def QuG (l g) (t:l.length < 5000000) (j: ∀q∈l,-1000<=q.2/\q.2<=1000):
  ∀b a o c,l=a ++ b->c 0= .sl o 5 (Qt l)->c 3= .sl true 4 (Qa ((XJ l ++ XX a).take 9))->c 6= .int .i64 a.length->
  R tb (.loop f260l3) c g (Qi 4 (Qu tb f260r2 (Qz f260 g)))=some (.sl false 4 (Qa ((Zo l).take 9)),g):=by
 intro b;induction b with | nil=>intro a o c d f h e;simp only[QH]at d;subst d;rw[Qc f260l3.eq_1];simp[f,h,e,f260r2,Zo] | cons p b k=>intro a o c d f h e;have m:=QJ d;rw[Qc f260l3.eq_1];simp[f,e,(QN d)];refine QuF (j p (by rw[d];simp)) _ _ _ (-p.2).toNat ((XJ l ++ XX a).take 9) 0 a.length o _ (QB d) (by omega) (by rw[Ye];omega) ?_ ?_ ?_ ?_ ?_;simp[f];simp[h];simp[e];simp;intro s n r i;rw[K6,ZX,<- Qav]at i;simp[f260r1,r,(wr1 a.length (by omega))];apply(fun c=>k (a ++ [p]) o c (by rw[d];simp)) <;> simp[n,i]
def QuE (l g) (n:l.length < 5000000) (i: ∀q∈l,-1000<=q.2/\q.2<=1000):
  ∀b a o c,l=a ++ b->c 0= .sl o 5 (Qt l)->c 3= .sl true 4 (Qa ((XJ a).take 9))->c 4= .int .i64 a.length->
  R tb (.loop f260l1) c g (Qi 0 (Qu tb f260r3 (Qz f260 g)))=some (.sl false 4 (Qa ((Zo l).take 9)),g):=by
 intro b;induction b with | nil=>intro a o c d e h f;simp only[QH]at d;subst d;rw[Qc f260l1.eq_1];simp[e,f,f260r3];apply(fun c=>QuG l g n i l [] o c rfl) <;> simp[e,h,XX] | cons p b k=>intro a o c d e h f;have r:=QJ d;rw[Qc f260l1.eq_1];simp[e,f,(QN d)];refine QuD (i p (by rw[d];simp)) _ _ _ p.2.toNat ((XJ a).take 9) 0 a.length o _ (QB d) (by omega) (by rw[Ye];omega) ?_ ?_ ?_ ?_ ?_;simp[e];simp[h];simp[f];simp;intro t s m j;rw[K6,<- QaP]at j;simp[f260r0,m,(wr1 a.length (by omega))];apply(fun c=>k (a ++ [p]) o c (by rw[d];simp)) <;> simp[s,j]
def Qol (l o a) (d:l.length < 5000000) (b: ∀q∈l,-1000<=q.2/\q.2<=1000):
  call tb 260 [.sl o 5 (Qt l)] a=some (.sl false 4 (Qa ((Zo l).take 9)),a):=by
 rw[zcc 260 rfl rfl];simp[f260C];apply(fun c=>QuE l a d b l [] false c rfl) <;> simp[XJ,Qa]
def Qok (l o n) (z:l.length < 5000000) (w: ∀q∈l,q.1.mass < big) (A: (∀q∈l,-8<=q.2/\q.2<=8)->Qv (Zo l) < big - 100):
  call tb 258 [.sl o 5 (Qt l)] n=some (ZD (Z2 l),n):=by
 have g:=IB l false n (by omega) w;rw[zcc 258 rfl rfl];by_cases b:Q5 l=0;obtain⟨s,_,_⟩:=TD b w;have f:=Qol l false n z fun q u=>(s.bd q u).2;by_cases t:8 < (Zo l).length;have k: (8:Int) < ((min 9 (Zo l).length:Nat):Int):=by omega
 have e:Z2 l=(QU,3):=by simp[Z2,b,t]
 rw[e];simp[f258C,g,b,f,k,ZD,Zj];have d:=A (by intro q u;have C:=QaR u;have B:=Qax u;simp only[Zo,Zl]at t;omega);have a:=WW (Zv (Zo l)) n (by unfold big at *;match h:Zo l with | []=>simp[Zv,QI,Qv,ONE] | [p]=>rw[h]at d;simp[Zv,Qv]at d ⊢;omega | p:: q:: r=>rw[h]at d t;simp[Zv,QI,Qv,MUL]at d t ⊢;omega);have e:Z2 l=if QR (Zv (Zo l))≠0 then(QU,QR (Zv (Zo l)))else(Zv (Zo l),0):=by simp[Z2,b,t]
 rw[e];rw[Z7 (by omega)]at f;have j:=RD MUL (Zo l) false n (by omega);have m:=RD ONE [] true n (by simp);simp only[MUL]at j;simp only[ONE,Qa]at m;have k: ¬(8:Int) < ((Zo l).length:Int):=by omega
 generalize v:Zo l=L at *;match L,v with | [],v=>simp only[Zv,ONE]at a;simp only[Qa]at j f;by_cases c:QR (.mk 3 [111,110,101] 0 [])=0;rw[c]at a;simp[f258C,g,b,f,j,m,a,c,ZD,Zv,ONE];simp[f258C,g,b,f,j,m,a,c,ZD,Zj,Zv,ONE] | [p],v=>simp only[Zv]at a;by_cases c:QR p=0;rw[c]at a;simp[f258C,g,b,f,j,a,c,ZD,Zv];simp[f258C,g,b,f,j,a,c,ZD,Zj,Zv] | p:: q:: r,v=>simp only[Zv,MUL]at a;(have i: ¬(8:Int) < (r.length:Int)+1+1:=by simpa using k);(have y: ¬(r.length:Int)+1+1=0:=by omega);(have x: ¬(r.length:Int)+1+1=1:=by omega);by_cases c:QR (.mk 3 [109,117,108] 0 (p:: q:: r))=0;rw[c]at a;simp[f258C,g,b,f,j,a,c,i,y,x,ZD,Zv,MUL];simp[f258C,g,b,f,j,a,c,i,y,x,ZD,Zj,Zv,MUL]
 have e:Z2 l=(QU,Q5 l):=by simp[Z2,b]
 rw[e];simp[f258C,g,b,ZD,Zj]
def Vz:Qt []=[]:=rfl
def Xo (a:Qw):Qw->Qw
 | []=>a
 | q:: b=>Xo (YX a q.1 q.2) b
def Xw (l:Qw):Int:=if l.any (fun q=>Wq q.2)then 7 else if 200 < l.length then 3 else 0
def VP (a b:Qw):Int:=if Q5 a≠0 then Q5 a else if Q5 b≠0 then Q5 b else Xw (Xo a b)
def X2 (a b:Qw):Qw:=if VP a b=0 then Xo a b else []
def BN:=@List.any_append
def Qf3 (l t) (w:l.length < 100000000):
  ∀b a o g,l=a ++ b->a.any (fun q=>Wq q.2)=false->g 0= .sl o 5 (Qt l)->g 3= .int .i64 a.length->
  R tb (.loop f263l0) g t (Qi 0 (Qu tb f263r0 (Qz f263 t)))=some (.int .i64 (Xw l),t):=by
 intro b;induction b with | nil=>intro a o g j k e i;simp only[QH]at j;rw[<- j]at i k;rw[Qc f263l0.eq_1];by_cases c:200 < l.length;(have r: (200:Int) < (l.length:Int):=by omega);simp[e,i,f263r0,Xw,k,c,r,-List.any_eq_false,-List.any_eq_true];(have r: ¬(200:Int) < (l.length:Int):=by omega);simp[e,i,f263r0,Xw,k,c,r,-List.any_eq_false,-List.any_eq_true] | cons p b v=>intro a o g j k e i;have s:=QB j;have u:=QJ j;have f:=QN j;(have d:Wq p.2=true->Xw l=7:=by intro h;have:l.any (fun q=>Wq q.2)=true:=T9.2 ⟨p,by grind,h⟩;simp only[Xw,this,QT]);rw[Qc f263l0.eq_1];by_cases m:p.2 < -1000;rw[d (by simp[Wq,m])];simp[e,i,s,f,m];by_cases n:1000 < p.2;rw[d (by simp[Wq,n])];simp[e,i,s,f,m,n];simp[e,i,s,f,(wr1 a.length (by omega)),m,n];apply(fun g=>v (a ++ [p]) o g (by grind) (by rw[BN,k];simp[Wq,m,n])) <;> simp[e]
def Qon (l o a) (b:l.length < 100000000):call tb 263 [.sl o 5 (Qt l)] a=some (.int .i64 (Xw l),a):=by
 have h:=fun c=>Qf3 l a b l [] false c rfl rfl;rw[zcc 263 rfl rfl];simp[f263C];simp_all
def QhN (b j) (C:b.length<=200) (s: ∀q∈b,q.1.mass < big/\q.2≠0/\ -1000<=q.2/\q.2<=1000) (X):
  ∀a e d n o t f,b=e ++ a->Uf d n->n+1000*a.length < 40000000->Xo d a=X->f 1= .sl o 5 (Qt b)->f 8= .sl t 5 (Qt d)->f 9= .int .i64 e.length->
  R tb (.loop f262l0) f j (Qi 0 (Qu tb f262r0 (Qz f262 j)))=some (.tup [.sl false 5 (Qt (if Xw X=0 then X else [])),.int .i64 (Xw X)],j):=by
 intro a;induction a with | nil=>intro e d n o t f g k v l h r i;simp only[QH]at g;rw[<- g]at i;simp only[Xo]at l;subst l;have y:=k.len;have u:=Qon d false j (by omega);rw[Qc f262l0.eq_1];by_cases c:Xw d=0;simp[h,r,i,f262r0,u,c];simp[h,r,i,f262r0,u,c,Vz] | cons p a x=>intro e d n o t f g k v l h r i;have A:=QJ g;obtain⟨w,z,D,B⟩:=s p (by grind);simp only[ZH]at v;rw[Qc f262l0.eq_1];simp[h,r,i,(QB g),(QN g),(wr1 e.length (by omega)),(QcG (m:=p.2) false j k (by omega) w (by omega))];apply(fun f=>x (e ++ [p]) (YX d p.1 p.2) (n+1000) o false f (by rw[g];simp) (k.add (c:=1000) w z (by omega) (by omega)) (by omega) (by rw[<- l];rfl)) <;> simp[h]
def QcH (a b o w j) (t:a.length < 100000000) (y:b.length < 100000000) (f: ∀q∈a,q.1.mass < big) (i: ∀q∈b,q.1.mass < big):
  call tb 262 [.sl o 5 (Qt a),.sl w 5 (Qt b)] j=some (.tup [.sl false 5 (Qt (X2 a b)),.int .i64 (VP a b)],j):=by
 have k:=IB a false j t f;have m:=IB b false j y i;rw[zcc 262 rfl rfl];by_cases c:Q5 a=0;by_cases e:Q5 b=0;obtain⟨u,z,_⟩:=TD c f;obtain⟨l,r,_⟩:=TD e i;have A:=fun x=>QhN b j r (fun q n=>by obtain⟨p,v,s⟩:=l.bd q n;exact⟨p,l.nz q n,v,s⟩) _ b [] a 1000 false true x rfl u (by omega) rfl;have d:VP a b=Xw (Xo a b):=by simp[VP,c,e]
 have g:X2 a b=if Xw (Xo a b)=0 then Xo a b else []:=by simp[X2,d]
 have h:a.length*64<=140737488355328:=Kt (by omega);rw[d,g];simp[f262C,k,m,c,e,h];simp_all;have d:VP a b=Q5 b:=by simp[VP,c,e]
 have g:X2 a b=[]:=by simp[X2,d,e]
 rw[d,g];simp[f262C,k,m,c,e,Vz];have d:VP a b=Q5 a:=by simp[VP,c]
 have g:X2 a b=[]:=by simp[X2,d,c]
 rw[d,g];simp[f262C,k,c,Vz]
def QuJ {a B v l} (p o) (h:PS a B v l) (A:l.length < 50000000): ∃k m,appM 64 5 v (.sl o 5 [Q9 p]) B=some (k,m)/\PS a m k (l ++ [p]):=by
 obtain⟨M,d,C,rfl,rfl,s⟩:=h;have q: (l.length+1)*64<=140737488355328:=Kt (by omega);have j:XR 5 (.sl o 5 [Q9 p]) (a ++ M)=some (1,Q9 p):=by simp[XR]
 rcases s with⟨rfl,rfl,rfl⟩ | ⟨rfl,b,t,f,y⟩;refine⟨.gs (a ++ M).length 0 5 1,a ++ (M ++ [Q9 p]),?_,M ++ [Q9 p],(a ++ M).length,5,rfl,rfl,.inr ⟨rfl,by simp,[],?_,?_⟩⟩;simp[appM,j];rw[<- ZX,Yv];simp[Zb,Y4];simp[Zb,Y4,Qdj];have r:=QF f;have z:=Wi l;have u:l.length*5<=(Zb l ++ t).length:=by grind
 have c:Zb (l ++ [p])=Zb l ++ Q9 p:=by simp[Zb,Vp,Ov]
 have w: (Zb l ++ t).take (l.length*5)=Zb l:=by grind
 have g: ∀x:Qx,Zb l ++ (Q9 p ++ x)≠[]:=fun x e=>by have:=TM List.length e;simp at this
 by_cases i: (l.length+1)*5<=(Zb l ++ t).length;refine⟨.gs d 0 5 (l.length+1),(a ++ M).set d (Zb l ++ (Q9 p ++ (Zb l ++ t).drop (l.length*5+5))),?_,_,d,5,WA b _,by simp,.inr ⟨rfl,b,(Zb l ++ t).drop (l.length*5+5),?_,?_⟩⟩;simp only[appM,j,QO];rw[Qe ⟨by omega,q⟩,Qb (by omega),Qb (by omega),Qe ⟨trivial,trivial⟩,f];simp_all;grind;grind;refine⟨.gs (a ++ M).length 0 5 (l.length+1),(a ++ M).set d []++ [Zb l ++ Q9 p],?_,M.set (d - a.length) []++ [Zb l ++ Q9 p],(a ++ M).length,5,?_,by simp,.inr ⟨rfl,by simp,[],?_,?_⟩⟩;have n:=Yn Wt l;simp only[appM,j,QO];grind;grind;simp_all;rw[c,QH];have:=g [];grind
def QbX (l k K) (C:l.length < 40000000) (n: ∀q∈l,q.1.mass < big):
  ∀b a B v d,l=a ++ b->PS k B v a->d 3=v->d 6= .sl false 5 (Qt l)->d 7= .int .i64 l.length->d 8= .int .i64 a.length->
  Qkz k l (R tb (.loop f201l0) d B (Qi 0 (Qu tb f201r0 (Qz f201 K)))):=by
 intro b;induction b with | nil=>intro a B v d f c i h g j;simp only[QH]at f;subst f;obtain⟨o,u,rfl⟩:=TB c;rw[Qc f201l0.eq_1];refine⟨_,B,?_,c⟩;simp[i,h,g,j,f201r0] | cons p b m=>intro a B v d f c i h g j;have A:=QJ f;obtain⟨t,z,s,e⟩:=QuJ p false c (by omega);have r:=fun d=>m (a ++ [p]) z t d (by grind) e;obtain⟨o,u,rfl⟩:=TB c;obtain⟨w,y,rfl⟩:=TB e;have x:Qd p.1 ++ [.int .i64 p.2]=Q9 p:=rfl;rw[Qc f201l0.eq_1];simp[i,h,g,j,(QB f),(QN f),(wr1 a.length (by omega)),(OA p.1 B (n p (by grind))),O0,x,s];apply r <;> simp[h,g]
def QcE (l o a) (d:l.length < 40000000) (b: ∀q∈l,q.1.mass < big):Qkz a l (call tb 201 [.sl o 5 (Qt l)] a):=by
 have h:=fun c=>QbX l a a d b l [] a _ c rfl (Qjl a);rw[zcc 201 rfl rfl];simp[f201C];simp_all
def Qn9 (p B):call tb 203 [.agg (Q9 p)] B=some (.bool (Wq p.2),B):=by
 rw[zcc 203 rfl rfl];by_cases a:p.2 < -1000;simp[f203C,Wq,a];by_cases b:1000 < p.2;simp[f203C,Wq,a,b];simp[f203C,Wq,a,b]
def FY (b:Bool) (B:Qp) (r:Out):Prop:=∃i:Int,r=some (.int .i64 i,B)/\(0<=i↔b=true)
def Qqa {m B v l} (h:PS m B v l) (J:l.length < 100000000):
  ∀b a d,l=a ++ b->a.any (fun q=>Wq q.2)=false->d 0=v->d 1= .fn 203 []->d 7= .int .i64 l.length->d 8= .int .i64 a.length->
  FY (l.any fun q=>Wq q.2) B (R tb (.loop f205l0) d B (Qi 0 (Qu tb f205r0 (Qz f205 B)))):=by
 obtain⟨M,I,K,rfl,rfl,H⟩:=h;have g: (m ++ M).take (m.length+M.length)=m ++ M:=Z7 (by simp);intro b;induction b with | nil=>intro a d f u j r k s;simp only[QH]at f;rw[<- f]at s u;rw[Qc f205l0.eq_1];refine⟨-1,?_,by grind⟩;simp[j,r,k,s,f205r0,g] | cons p b G=>intro a d f u j r k s;have E:=QJ f;have o:=QN f;(have y:a.length < l.length:=by omega);rcases H with⟨rfl,rfl,rfl⟩ | ⟨rfl,C,t,n,D⟩;grind;have z:=ED (l:=l) (LV (QB f) t);(have i:a.length*5+5<=(Zb l ++ t).length:=by rw[Zl,Wi];omega);have e:=Qn9 p (m ++ M);generalize Zb l ++ t=c at *;rw[Qc f205l0.eq_1];cases w:Wq p.2;simp[-getElem?_pos,j,r,k,s,o,(wr1 a.length (by omega)),n,i,z,e,w,-List.any_eq_false,-List.any_eq_true];apply(fun d=>(fun d x=>G (a ++ [p]) d (by rw[f];simp) x) d (by rw[BN,u];grind)) <;> simp[j,r,k];have A:l.any (fun q=>Wq q.2)=true:=T9.2 ⟨p,by grind,w⟩;refine⟨a.length,?_,by grind⟩;simp[-getElem?_pos,j,r,k,s,o,n,i,z,e,w,g]
def Qoa {b B v l} (h:PS b B v l) (f:l.length < 100000000):call tb 204 [v,.fn 203 []] B=some (.bool (l.any fun q=>Wq q.2),B):=by
 have j:=fun a=>Qqa h f l [] a rfl rfl;obtain⟨d,e,rfl⟩:=TB h;have g:FY (l.any fun q=>Wq q.2) B (call tb 205 [.gs d 0 e l.length,.fn 203 []] B):=by rw[zcc 205 rfl rfl];simp[f205C,-List.any_eq_false,-List.any_eq_true];simp_all
 obtain⟨i,c,k⟩:=g;rw[zcc 204 rfl rfl];simp[f204C,c,-List.any_eq_false,-List.any_eq_true];grind
def QqH {b B v l} (h:PS b B v l) (n): ∃o d,(b ++ d).length=B.length/\X4 B (b ++ d)=true/\∀a:Yd,a n=v->Z8 {env:=a,bs:=B} n 5=some (.sl o 5 (Qt l),{env:=upd a n .undef,bs:=b ++ d}):=by
 obtain⟨M,q,r,rfl,rfl,p⟩:=h;rcases p with⟨rfl,rfl,rfl⟩ | ⟨rfl,e,t,s,g⟩;exact⟨true,M,rfl,MO _,fun a c=>by simp[Z8,c,Qt]⟩;by_cases m:l.length=0;have:l=[]:=Yu m;subst this;exact⟨false,M,rfl,MO _,fun a c=>by simp[Z8,c,Qt]⟩;refine⟨true,M.set (q - b.length) [],by simp,by simp,fun a c=> ?_⟩;have i:0+l.length*5<=(Zb l ++ t).length:=by rw[Zl,Wi];omega
 have j:ZW (Zb l ++ t) 0 5 l.length=Qt l:=Wd (f:=Q9) (k:=5) WY Wt l t;simp only[Z8,c];grind
def QvA (B0:Qp) (l:Qw) (r:Out):Prop:=∃M,r=some (.tup [.sl false 5 (Qt (if Xw l=0 then l else [])),.int .i64 (Xw l)],B0 ++ M)
def Qn8 {a B v l} (h:PS a B v l) (s:l.length < 100000000):QvA a l (call tb 202 [v] B):=by
 have d:=Qoa h s;obtain⟨o,i,m,f,t⟩:=QqH h 9;obtain⟨M,n⟩: ∃M,B=a ++ M:=by obtain⟨M,_,_,h,_⟩:=h;grind
 subst n;have j: (a ++ i).take (a.length+M.length)=a ++ i:=Z7 (by grind);have b: (a ++ M).take (a.length+M.length)=a ++ M:=Z7 (by simp);have r:=Mp l;obtain⟨u,w,rfl⟩:=TB h;rw[zcc 202 rfl rfl];cases g:l.any fun q=>Wq q.2;rw[g]at d;by_cases c:200 < l.length;have k: (200:Int) < (l.length:Int):=by omega
 have e:Xw l=3:=by simp only[Xw,g,c,QT];rfl
 refine⟨M,?_⟩;rw[e];simp[f202C,d,k,Vz,b];have k: ¬(200:Int) < (l.length:Int):=by omega
 have e:Xw l=0:=by simp only[Xw,g,c,ZT];rfl
 refine⟨i,?_⟩;rw[e];simp[f202C,d,k,t,j,f];rw[g]at d;have e:Xw l=7:=by simp only[Xw,g,QT]
 refine⟨M,?_⟩;rw[e];simp[f202C,d,Vz,b]
def Ql3 (b s) (U:b.length<=200) (r: ∀q∈b,q.1.mass < big/\q.2≠0/\ -1000<=q.2/\q.2<=1000) (X):
  ∀a e d n B v j,b=e ++ a->PS s B v d->Uf d n->n+1000*a.length < 40000000->Xo d a=X->j 8=v->j 23= .sl false 5 (Qt b)->j 24= .int .i64 b.length->j 25= .int .i64 e.length->
  R tb (.loop f200l0) j B (Qi 0 (Qu tb f200r0 (Qz f200 s)))=some (.tup [.sl false 5 (Qt (if Xw X=0 then X else [])),.int .i64 (Xw X)],s):=by
 intro a;induction a with | nil=>intro e d n B v j l f m w o u h g i;simp only[QH]at l;rw[<- l]at i;simp only[Xo]at o;subst o;have t:=m.len;obtain⟨M,A⟩:=Qn8 f (by omega);obtain⟨G,J,rfl⟩:=TB f;rw[Qc f200l0.eq_1];generalize (if Xw d=0 then d else [])=X at *;simp[u,h,g,i,f200r0,A] | cons p a L=>intro e d n B v j l f m w o u h g i;have C:=QJ l;obtain⟨x,N,P,T⟩:=r p (by rw[l];simp);simp only[ZH]at w;have t:=m.len;obtain⟨D,I,E,k⟩:=QcB (p:=p) f (by omega) (fun q y=>by obtain⟨S,Q,O⟩:=m.bd q y;omega) x (by omega) m.asc;have H:=fun j=>L (e ++ [p]) (YX d p.1 p.2) (n+1000) I D j (by rw[l];simp) k (m.add (c:=1000) x N (by omega) (by omega)) (by omega) (by rw[<- o];rfl);obtain⟨G,J,rfl⟩:=TB f;obtain⟨K,z,rfl⟩:=TB k;rw[Qc f200l0.eq_1];simp[u,h,g,i,(QB l),(QN l),(wr1 e.length (by omega)),E];apply H <;> simp[h,g]
def QcD (a b o x g) (y:a.length < 100000000) (w:b.length < 100000000) (e: ∀q∈a,q.1.mass < big) (h: ∀q∈b,q.1.mass < big):
  call tb 200 [.sl o 5 (Qt a),.sl x 5 (Qt b)] g=some (.tup [.sl false 5 (Qt (X2 a b)),.int .i64 (VP a b)],g):=by
 have k:=LI a false g y e;have m:=LI b false g w h;rw[zcc 200 rfl rfl];by_cases c:Q5 a=0;by_cases f:Q5 b=0;obtain⟨z,C,_⟩:=TD c e;obtain⟨l,u,_⟩:=TD f h;obtain⟨v,B,p,i⟩:=QcE a false g (by omega) e;have E:=fun A=>Ql3 b g u (fun q n=>by obtain⟨r,s,t⟩:=l.bd q n;exact⟨r,l.nz q n,s,t⟩) _ b [] a 1000 B v A rfl i z (by omega) rfl;obtain⟨D,G,rfl⟩:=TB i;have d:VP a b=Xw (Xo a b):=by simp[VP,c,f]
 have j:X2 a b=if Xw (Xo a b)=0 then Xo a b else []:=by simp[X2,d]
 rw[d,j];simp[f200C,k,m,c,f,p];simp_all;have d:VP a b=Q5 b:=by simp[VP,c,f]
 have j:X2 a b=[]:=by simp[X2,d,f]
 rw[d,j];simp[f200C,k,m,c,f,Vz];have d:VP a b=Q5 a:=by simp[VP,c]
 have j:X2 a b=[]:=by simp[X2,d,c]
 rw[d,j];simp[f200C,k,c,Vz]
@[simp] def Qxg (x y a) (h:1 < (Qa (x:: y:: a)).length): (Qa (x:: y:: a))[1]=Qd y:=by simp[Qa]
def Z3:Zq:=[112,97,105,114]
def ENC:Zq:=[101,110,99]
def Zz:Zq:=[97,101,110,99]
def PK:Zq:=[112,107]
def Yc:Zq:=[115,105,103,110]
def EXP:Zq:=[101,120,112]
def FST:Zq:=[102,115,116]
def SND:Zq:=[115,110,100]
def DEC:Zq:=[100,101,99]
def YM:Zq:=[97,100,101,99]
def Xa:Zq:=[111,112,101,110]
def READ:Zq:=[114,101,97,100]
def Xb (n:Zq) (m:Nat):Bool:=
 if n=Z3\/n=ENC\/n=Zz\/n=Yc\/n=EXP\/n=DEC\/n=YM\/n=Xa then decide (m=2)
 else if n=PK\/n=FST\/n=SND\/n=READ then decide (m=1)else true
mutual
def Zn:Tm->Bool
 | .mk k n s ks=>(!(k == 3) || ((s == 0) && Xb n ks.length)) && YD ks
def YD:List Tm->Bool
 | []=>true
 | t:: ts=>Zn t && YD ts
end
def HA (t):Zn t=((!(t.kind == 3) || ((t.sort == 0) && Xb t.name t.kids.length)) && YD t.kids):=by cases t;simp[Zn]
def X7: ∀{l},YD l=true↔∀x∈l,Zn x=true
 | []=>by simp[YD]
 | t:: a=>by simp[YD,X7 (l:=a)]
def VA {t} (h:Zn t=true):YD t.kids=true:=by rw[HA]at h;simp at h;exact h.2
def UN {t} (h:Zn t=true) (a:t.kind=3):t.sort=0/\Xb t.name t.kids.length=true:=by
 rw[HA]at h;simp[a]at h;exact h.1
def WZ {t n} (h:Zn t=true) (b:isB t n=true) (c:Xb n t.kids.length=decide (t.kids.length=2)): ∃x y,t.kids=[x,y]:=by
 obtain⟨d,rfl⟩:=RN.1 b;have:=(UN h d).2;rw[c]at this;simp at this;match a:t.kids with | [x,y]=>exact⟨x,y,rfl⟩ | []=>rw[a]at this;simp at this | [_]=>rw[a]at this;simp at this | _:: _:: _:: _=>rw[a]at this;simp at this
def kid (t:Tm) (i:Nat):Tm:=t.kids.getD i QU
def pkT (t:Tm):Tm:= .mk 3 PK 0 [t]
def Js:=@List.length_eq_one_iff
def Qdx {u} (h:Zn u=true) (a):decide (Qm u (pkT a)=0)=(isB u PK && decide (Qm (kid u 0) a=0)):=by
 cases f:isB u PK;have: ¬Qm u (pkT a)=0:=by intro e;have:=Z4 _ _ e;subst this;simp[isB,pkT]at f
 simp[this];obtain⟨b,c⟩:=RN.1 f;obtain⟨i,d⟩:=UN h b;rw[c]at d;obtain⟨x,j⟩:=Js.1 (by simpa[Xb,PK,Z3,ENC,Zz,Yc,EXP,DEC,YM,Xa]using d);have k:u=pkT x:=by rw[<- Tm.eta u,b,c,i,j];rfl
 subst k;have:kid (pkT x) 0=x:=rfl;rw[this];have g:Qm (pkT x) (pkT a)=0↔Qm x a=0:=by constructor;intro e;have:=Z4 _ _ e;cases this;exact Xc _;intro e;have:=Z4 _ _ e;subst this;exact Xc _
 simp[g]
def Q8 (n:Zq) (us:Qj):Tm:=
 let a:=us.getD 0 QU
 let key:=us.getD 1 QU
 let out:Tm:= .mk 3 n 0 us
 if n=FST then(if isB a Z3 then kid a 0 else out)
 else if n=SND then(if isB a Z3 then kid a 1 else out)
 else if n=DEC then(if isB a ENC && decide (Qm (kid a 1) key=0)then kid a 0 else out)
 else if n=YM then(if isB a Zz && decide (Qm (kid a 1) (pkT key)=0)then kid a 0 else out)
 else if n=Xa then(if isB a Yc && decide (Qm key (pkT (kid a 1))=0)then kid a 0 else out)
 else if n=READ then(if isB a Yc then kid a 0 else out)
 else out
def IA (x y a) (b:x.mass < big) (c:y.mass < big):call tb 177 [.agg (Qd x),.agg (Qd y)] a=some (.bool (decide (Qm x y=0)),a):=by
 rw[zcc 177 rfl rfl];simp[f177C,(call_Compare x y a b c)]
def Uq (n:Zq):Bool:=n == FST || n == SND || n == DEC || n == YM || n == Xa || n == READ
def Qlp (n a g) (i:n=FST\/n=SND\/n=READ) (h:Zn a=true) (j:a.mass < big):
  call tb 176 [.agg (Qd (.mk 3 n 0 [a]))] g=some (.agg (Qd (Q8 n [a])),g):=by
 have f:=fun m=>RG a m g;rw[zcc 176 rfl rfl];rcases i with rfl | rfl | rfl;cases c:isB a Z3;have b:=f Z3;rw[c]at b;simp only[Z3]at b;have e:Q8 FST [a]= .mk 3 FST 0 [a]:=by simp[Q8,c]
 rw[e];simp only[FST];simp[f176C,b];have b:=f Z3;rw[c]at b;simp only[Z3]at b;obtain⟨x,y,d⟩:=WZ h c (by simp[Xb]);have e:Q8 FST [a]=x:=by simp[Q8,c,kid,d]
 rw[e];simp only[FST];simp[f176C,b,d];cases c:isB a Z3;have b:=f Z3;rw[c]at b;simp only[Z3]at b;have e:Q8 SND [a]= .mk 3 SND 0 [a]:=by simp[Q8,c,SND,FST]
 rw[e];simp only[SND];simp[f176C,b];have b:=f Z3;rw[c]at b;simp only[Z3]at b;obtain⟨x,y,d⟩:=WZ h c (by simp[Xb]);have e:Q8 SND [a]=y:=by simp[Q8,c,kid,d,SND,FST]
 rw[e];simp only[SND];simp[f176C,b,d];cases c:isB a Yc;have b:=f Yc;rw[c]at b;simp only[Yc]at b;have e:Q8 READ [a]= .mk 3 READ 0 [a]:=by simp[Q8,c,SND,FST,DEC,YM,Xa,READ]
 rw[e];simp only[READ];simp[f176C,b];have b:=f Yc;rw[c]at b;simp only[Yc]at b;obtain⟨x,y,d⟩:=WZ h c (by simp[Xb]);have e:Q8 READ [a]=x:=by simp[Q8,c,kid,d,SND,FST,DEC,YM,Xa,READ]
 rw[e];simp only[READ];simp[f176C,b,d]
def Qlq (n a b B) (I:n=DEC\/n=YM\/n=Xa) (E:Zn a=true) (C:Zn b=true) (J:a.mass < big - 10) (H:b.mass < big - 10):
  call tb 176 [.agg (Qd (.mk 3 n 0 [a,b]))] B=some (.agg (Qd (Q8 n [a,b])),B):=by
 have q:=fun t m=>RG t m B;rw[zcc 176 rfl rfl];rcases I with rfl | rfl | rfl;cases f:isB a ENC;have c:=q a ENC;rw[f]at c;simp only[ENC]at c;have e:Q8 DEC [a,b]= .mk 3 DEC 0 [a,b]:=by simp[Q8,f,SND,FST,DEC]
 rw[e];simp only[DEC];simp[f176C,c];have c:=q a ENC;rw[f]at c;simp only[ENC]at c;obtain⟨x,y,d⟩:=WZ E f (by simp[Xb]);have g:=QI a;rw[d]at g;simp only[Qv]at g;have r:=IA y b B (by omega) (by omega);by_cases l:Qm y b=0;have e:Q8 DEC [a,b]=x:=by simp[Q8,f,kid,d,l,SND,FST,DEC]
 rw[e];simp only[DEC];simp[f176C,c,r,l,d];have e:Q8 DEC [a,b]= .mk 3 DEC 0 [a,b]:=by simp[Q8,f,kid,d,l,SND,FST,DEC]
 rw[e];simp only[DEC];simp[f176C,c,r,l,d];cases f:isB a Zz;have c:=q a Zz;rw[f]at c;simp only[Zz]at c;have e:Q8 YM [a,b]= .mk 3 YM 0 [a,b]:=by simp[Q8,f,SND,FST,DEC,YM]
 rw[e];simp only[YM];simp[f176C,c];have c:=q a Zz;rw[f]at c;simp only[Zz]at c;obtain⟨x,y,d⟩:=WZ E f (by simp[Xb]);have g:=QI a;have D:Zn y=true:=by have:=VA E;rw[d]at this;simp[YD]at this;exact this.2
 rw[d]at g;simp only[Qv]at g;have u:=Qdx D b;have h:=q y PK;have G:Q8 YM [a,b]=if isB y PK && decide (Qm (kid y 0) b=0)then x else .mk 3 YM 0 [a,b]:=by rw[<- u];simp[Q8,f,kid,d,SND,FST,DEC,YM]
 rw[G];cases i:isB y PK;rw[i]at h;simp only[PK]at h;simp only[YM];simp[f176C,c,h,d];rw[i]at h;simp only[PK]at h;obtain⟨v,w⟩:=RN.1 i;have j:=(UN D v).2;rw[w]at j;have s:y.kids.length=1:=by simpa[Xb,PK,Z3,ENC,Zz,Yc,EXP,DEC,YM,Xa]using j
 obtain⟨z,o⟩:=Js.1 s;have k:=QI y;rw[o]at k;simp only[Qv]at k;have r:=IA z b B (by omega) (by omega);have A:kid y 0=z:=by simp[kid,o]
 rw[A];by_cases l:Qm z b=0;simp only[YM];simp[f176C,c,r,h,l,d,o];simp only[YM];simp[f176C,c,r,h,l,d,o];cases f:isB a Yc;have c:=q a Yc;rw[f]at c;simp only[Yc]at c;have e:Q8 Xa [a,b]= .mk 3 Xa 0 [a,b]:=by simp[Q8,f,SND,FST,DEC,YM,Xa]
 rw[e];simp only[Xa];simp[f176C,c];have c:=q a Yc;rw[f]at c;simp only[Yc]at c;obtain⟨x,y,d⟩:=WZ E f (by simp[Xb]);have g:=QI a;rw[d]at g;simp only[Qv]at g;have u:=Qdx C y;have h:=q b PK;have G:Q8 Xa [a,b]=if isB b PK && decide (Qm (kid b 0) y=0)then x else .mk 3 Xa 0 [a,b]:=by rw[<- u];simp[Q8,f,kid,d,SND,FST,DEC,YM,Xa]
 rw[G];cases i:isB b PK;rw[i]at h;simp only[PK]at h;simp only[Xa];simp[f176C,c,h,d];rw[i]at h;simp only[PK]at h;obtain⟨v,w⟩:=RN.1 i;have j:=(UN C v).2;rw[w]at j;have s:b.kids.length=1:=by simpa[Xb,PK,Z3,ENC,Zz,Yc,EXP,DEC,YM,Xa]using j
 obtain⟨z,o⟩:=Js.1 s;have k:=QI b;rw[o]at k;simp only[Qv]at k;have r:=IA y z B (by omega) (by omega);have A:kid b 0=z:=by simp[kid,o]
 have p: (Qm z y=0)=(Qm y z=0):=by have:=Xh y z;rw[TL];omega
 rw[A];by_cases l:Qm y z=0;simp only[Xa];simp[f176C,c,r,h,l,d,o,p];simp only[Xa];simp[f176C,c,r,h,l,d,o,p]
def QaN (t): (pkT t).mass=t.mass+4:=by simp only[pkT,Tm.mass,Qv,PK,ZH,Xy];omega
def Qkw (t:Tm) (bs:Qp) (r:Out):Prop:=∃b,r=some (.tup [.agg (Qd t),.bool b],bs)
def QhL (n a g) (i:n=FST\/n=SND\/n=READ) (h:Zn a=true) (j:a.mass < big):
  Qkw (Q8 n [a]) g (call tb 243 [.agg (Qd (.mk 3 n 0 [a]))] g):=by
 have f:=fun m=>Ww a m g;rw[zcc 243 rfl rfl];rcases i with rfl | rfl | rfl;cases c:isB a Z3;have b:=f Z3;rw[c]at b;simp only[Z3]at b;have e:Q8 FST [a]= .mk 3 FST 0 [a]:=by simp[Q8,c]
 rw[e];refine⟨false,?_⟩;simp only[FST];simp[f243C,b];have b:=f Z3;rw[c]at b;simp only[Z3]at b;obtain⟨x,y,d⟩:=WZ h c (by simp[Xb]);have e:Q8 FST [a]=x:=by simp[Q8,c,kid,d]
 rw[e];refine⟨true,?_⟩;simp only[FST];simp[f243C,b,d];cases c:isB a Z3;have b:=f Z3;rw[c]at b;simp only[Z3]at b;have e:Q8 SND [a]= .mk 3 SND 0 [a]:=by simp[Q8,c,SND,FST]
 rw[e];refine⟨false,?_⟩;simp only[SND];simp[f243C,b];have b:=f Z3;rw[c]at b;simp only[Z3]at b;obtain⟨x,y,d⟩:=WZ h c (by simp[Xb]);have e:Q8 SND [a]=y:=by simp[Q8,c,kid,d,SND,FST]
 rw[e];refine⟨true,?_⟩;simp only[SND];simp[f243C,b,d];cases c:isB a Yc;have b:=f Yc;rw[c]at b;simp only[Yc]at b;have e:Q8 READ [a]= .mk 3 READ 0 [a]:=by simp[Q8,c,SND,FST,DEC,YM,Xa,READ]
 rw[e];refine⟨false,?_⟩;simp only[READ];simp[f243C,b];have b:=f Yc;rw[c]at b;simp only[Yc]at b;obtain⟨x,y,d⟩:=WZ h c (by simp[Xb]);have e:Q8 READ [a]=x:=by simp[Q8,c,kid,d,SND,FST,DEC,YM,Xa,READ]
 rw[e];refine⟨true,?_⟩;simp only[READ];simp[f243C,b,d]
def QhM (n a b j) (q:n=DEC\/n=YM\/n=Xa) (p:Zn a=true) (s:a.mass < big - 10) (r:b.mass < big - 10):
  Qkw (Q8 n [a,b]) j (call tb 243 [.agg (Qd (.mk 3 n 0 [a,b]))] j):=by
 have o:=fun t m=>Ww t m j;rw[zcc 243 rfl rfl];rcases q with rfl | rfl | rfl;cases d:isB a ENC;have c:=o a ENC;rw[d]at c;simp only[ENC]at c;have e:Q8 DEC [a,b]= .mk 3 DEC 0 [a,b]:=by simp[Q8,d,SND,FST,DEC]
 rw[e];refine⟨false,?_⟩;simp only[DEC];simp[f243C,c];have c:=o a ENC;rw[d]at c;simp only[ENC]at c;obtain⟨x,y,h⟩:=WZ p d (by simp[Xb]);have g:=QI a;rw[h]at g;simp only[Qv]at g;have i:=Vs y b j (by omega) (by omega);by_cases f:Qm y b=0;have e:Q8 DEC [a,b]=x:=by simp[Q8,d,kid,h,f,SND,FST,DEC]
 rw[e];refine⟨true,?_⟩;simp only[DEC];simp[f243C,c,i,f,h];have e:Q8 DEC [a,b]= .mk 3 DEC 0 [a,b]:=by simp[Q8,d,kid,h,f,SND,FST,DEC]
 rw[e];refine⟨false,?_⟩;simp only[DEC];simp[f243C,c,i,f,h];cases d:isB a Zz;have c:=o a Zz;rw[d]at c;simp only[Zz]at c;have e:Q8 YM [a,b]= .mk 3 YM 0 [a,b]:=by simp[Q8,d,SND,FST,DEC,YM]
 rw[e];refine⟨false,?_⟩;simp only[YM];simp[f243C,c];have c:=o a Zz;rw[d]at c;simp only[Zz]at c;obtain⟨x,y,h⟩:=WZ p d (by simp[Xb]);have g:=QI a;rw[h]at g;simp only[Qv]at g;have l: (pkT b).mass < big:=by rw[QaN];unfold big at *;omega
 have i:=Vs y (pkT b) j (by omega) l;have k:=RD PK [b] false j (by simp);simp only[pkT,PK]at i k;by_cases f:Qm y (pkT b)=0;have e:Q8 YM [a,b]=x:=by simp[Q8,d,kid,h,f,SND,FST,DEC,YM]
 rw[e];refine⟨true,?_⟩;simp only[pkT,PK]at f;simp only[YM];simp[f243C,c,i,k,f,h,ZN];have e:Q8 YM [a,b]= .mk 3 YM 0 [a,b]:=by simp[Q8,d,kid,h,f,SND,FST,DEC,YM]
 rw[e];refine⟨false,?_⟩;simp only[pkT,PK]at f;simp only[YM];simp[f243C,c,i,k,f,h,ZN];cases d:isB a Yc;have c:=o a Yc;rw[d]at c;simp only[Yc]at c;have e:Q8 Xa [a,b]= .mk 3 Xa 0 [a,b]:=by simp[Q8,d,SND,FST,DEC,YM,Xa]
 rw[e];refine⟨false,?_⟩;simp only[Xa];simp[f243C,c];have c:=o a Yc;rw[d]at c;simp only[Yc]at c;obtain⟨x,y,h⟩:=WZ p d (by simp[Xb]);have g:=QI a;rw[h]at g;simp only[Qv]at g;have l: (pkT y).mass < big:=by rw[QaN];unfold big at *;omega
 have i:=Vs b (pkT y) j (by omega) l;have k:=RD PK [y] false j (by simp);simp only[pkT,PK]at i k;by_cases f:Qm b (pkT y)=0;have e:Q8 Xa [a,b]=x:=by simp[Q8,d,kid,h,f,SND,FST,DEC,YM,Xa]
 rw[e];refine⟨true,?_⟩;simp only[pkT,PK]at f;simp only[Xa];simp[f243C,c,i,k,f,h,ZN];have e:Q8 Xa [a,b]= .mk 3 Xa 0 [a,b]:=by simp[Q8,d,kid,h,f,SND,FST,DEC,YM,Xa]
 rw[e];refine⟨false,?_⟩;simp only[pkT,PK]at f;simp only[Xa];simp[f243C,c,i,k,f,h,ZN]
def KM (l:Qw) (M:Nat):Prop:=∀q∈l,q.1.mass<=M
def QdN {l t m M} (h:KM l M) (b:t.mass<=M):KM (YX l t m) M:=by
 intro q a;rcases VL a with a | rfl | ⟨_,_,rfl,_⟩;exact h q a;exact b;exact b
def Qqf: ∀t l m M,KM l M->t.mass<=M->KM (X6 l t m) M:=by
 refine YC ?_;intro k n s c g l m M h e;have d:=QI (.mk k n s c);simp only[ZP,Y5]at d;have j: ∀(b:Qj) (l:Qw) (m:Int),(∀x∈b,x∈c)->KM l M->KM (ZZ l b m) M:=by intro b;induction b with | nil=>intro l m _ h;simpa[ZZ]using h | cons x b i=>intro l m a h;simp only[ZZ];exact i _ m (fun y f=>a y (by simp[f])) (g x (a x (by simp)) l m M h (by have:=QY (a x (by simp));omega))
 rw[XT];split;exact j c l _ (fun x a=>a) h;exact QdN h e
def Ft: ∀b a M,KM a M->KM b M->KM (Xo a b) M
 | [],a,M,h,_=>h
 | q:: b,a,M,h,c=>Ft b _ M (QdN h (c q (by simp))) fun x d=>c x (by simp[d])
def Ms (t M) (h:t.mass<=M):KM (ofP t) M:=by
 unfold ofP;split;exact Qqf t [] 1 M (fun q a=>by simp at a) h;intro q a;simp at a
def Uz (t): (ofP t).length<=200:=by
 unfold ofP;split;rename_i h;unfold ofE at h;split at h;rename_i a;exact absurd h a;split at h;split at h;cases h;omega;cases h;simp
def Qf2 {l} (h:Xw l=0):l.length<=200:=by
 unfold Xw at h;split at h;cases h;split at h;cases h;omega
def HJ (a b): (X2 a b).length<=200:=by
 unfold X2;split;rename_i h;unfold VP at h;split at h;rename_i c;exact absurd h c;split at h;rename_i c;exact absurd h c;exact Qf2 h;simp
def Ep {a b M} (c:KM a M) (e:KM b M):KM (X2 a b) M:=by
 unfold X2;split;exact Ft b a M c e;intro q d;simp at d
def Dl (n t):Qv (List.replicate n t)=n*t.mass:=by
 induction n with | zero=>simp[Qv] | succ n a=>rw[SC,Qv,a,U6];omega
def QiZ (t): (Wp t).mass=t.mass+5:=by simp only[Wp,Tm.mass,Qv,INV,ZH,Xy];omega
def Ma:=@Nat.mul_le_mul
def FA: ∀{l M},KM l M->(∀q∈l,q.2<=8)->Qv (XJ l)<=l.length* (8*M)
 | [],M,_,_=>by simp[XJ,Qv]
 | p:: l,M,h,b=>by
  have f:=FA (l:=l) (M:=M) (fun q a=>h q (by simp[a])) fun q a=>b q (by simp[a]);have c:=b p (by simp);have d:p.2.toNat* p.1.mass<=8*M:=Ma (by omega) (h p (by simp));have e:XJ (p:: l)=List.replicate p.2.toNat p.1 ++ XJ l:=by simp[XJ]
  rw[e,VC,Dl,ZH,U6];omega
def Fy: ∀{l M},KM l M->(∀q∈l,-8<=q.2)->Qv (XX l)<=l.length* (8* (M+5))
 | [],M,_,_=>by simp[XX,Qv]
 | p:: l,M,h,b=>by
  have d:=Fy (l:=l) (M:=M) (fun q a=>h q (by simp[a])) fun q a=>b q (by simp[a]);have g:=h p (by simp);have f:=b p (by simp);have c: (-p.2).toNat* (Wp p.1).mass<=8* (M+5):=Ma (by omega) (by rw[QiZ];omega);have e:XX (p:: l)=List.replicate (-p.2).toNat (Wp p.1)++ XX l:=by simp[XX]
  rw[e,VC,Dl,ZH,U6];omega
def Fz {l} (h:KM l 25000000) (b:l.length<=200) (c: ∀q∈l,-8<=q.2/\q.2<=8):Qv (Zo l) < big - 100:=by
 have f:=FA h fun q a=>(c q a).2;have e:=Fy h fun q a=>(c q a).1;have d:l.length* (8*25000000)<=200* (8*25000000):=Yy _ b;have g:l.length* (8* (25000000+5))<=200* (8* (25000000+5)):=Yy _ b;unfold Zo;rw[VC];unfold big;omega
def Hm {l} (o a) (h:KM l 25000000) (b:l.length<=200):call tb 196 [.sl o 5 (Qt l)] a=some (ZD (Z2 l),a):=
 Qn6 l o a (by omega) (fun q c=>by have:=h q c;unfold big;omega) (Fz h b)
def Hn {l} (o a) (h:KM l 25000000) (b:l.length<=200):call tb 258 [.sl o 5 (Qt l)] a=some (ZD (Z2 l),a):=
 Qok l o a (by omega) (fun q c=>by have:=h q c;unfold big;omega) (Fz h b)
def Vb (b:Tm) (p:Qw):Tm×Int:=if p=[]then(b,0)else if(Z2 p).2≠0 then(QU,(Z2 p).2)else(.mk 3 EXP 0 [b,(Z2 p).1],0)
def XY (b e:Tm):Tm×Int:=
 if ofE e≠0 then(QU,ofE e)
 else if isB b EXP then
  if ofE (kid b 1)≠0 then(QU,ofE (kid b 1))else if VP (ofP (kid b 1)) (ofP e)≠0 then(QU,VP (ofP (kid b 1)) (ofP e))else Vb (kid b 0) (X2 (ofP (kid b 1)) (ofP e))
 else Vb b (ofP e)
def YV (t:Tm):Tm×Int:=if ofE t≠0 then(QU,ofE t)else Z2 (ofP t)
def ZG (t e):ZD (t,e)= .tup [.agg (Qd t),.int .i64 e]:=rfl
def Qoi (t a) (f:t.mass < 20000000):call tb 252 [.agg (Qd t)] a=some (ZD (YV t),a):=by
 have b:=NK t a (by omega);have d:=Hn false a (Ms t 25000000 (by omega)) (Uz t);rw[zcc 252 rfl rfl];by_cases c:ofE t=0;have e:YV t=Z2 (ofP t):=by simp[YV,c]
 rw[e];simp only[ZD]at d ⊢;simp[f252C,b,d,c];have e:YV t=(QU,ofE t):=by simp[YV,c]
 rw[e];simp[f252C,b,c,ZG,Zj]
def Qn7 (b e g) (D:Zn b=true) (E:b.mass < 20000000) (H:e.mass < 20000000):call tb 199 [.agg (Qd b),.agg (Qd e)] g=some (ZD (XY b e),g):=by
 have h:=RE e g (by omega);have c:=RG b EXP g;have w:=Ms e 25000000 (by omega);have C:=Uz e;rw[zcc 199 rfl rfl];by_cases a:ofE e=0;cases k:isB b EXP;rw[k]at c;simp only[EXP]at c;have f:=Hm false g w C;have i:XY b e=Vb b (ofP e):=by simp[XY,a,k]
 rw[i];generalize ofP e=p at *;match p with | []=>simp only[Vz]at h;simp[f199C,h,c,a,Vb,ZG] | q:: r=>(have s: ¬(r.length:Int)+1=0:=by omega);by_cases d: (Z2 (q:: r)).2=0;have l:=Ak EXP [b,(Z2 (q:: r)).1] false g;simp only[ZD,Qa]at f l;simp only[EXP]at l;simp[f199C,h,c,f,l,a,d,s,Vb,ZG,EXP];simp only[ZD]at f;simp[f199C,h,c,f,a,d,s,Vb,ZG,Zj]
 obtain⟨x,y,j⟩:=WZ D k (by simp[Xb]);rw[k]at c;simp only[EXP]at c;have o:=QI b;rw[j]at o;simp only[Qv]at o;have B:kid b 0=x:=by simp[kid,j]
 have v:kid b 1=y:=by simp[kid,j]
 have n:=RE y g (by omega);have A:=Ms y 25000000 (by omega);have G:=Uz y;by_cases d:ofE y=0;have f:=QcD (ofP y) (ofP e) false false g (by omega) (by omega) (fun q u=>by have:=A q u;unfold big;omega) (fun q u=>by have:=w q u;unfold big;omega);by_cases m:VP (ofP y) (ofP e)=0;have t:=Hm false g (Ep A w) (HJ (ofP y) (ofP e));have i:XY b e=Vb x (X2 (ofP y) (ofP e)):=by simp[XY,a,k,B,v,d,m]
 rw[i];generalize X2 (ofP y) (ofP e)=p at *;match p with | []=>simp only[Vz]at f;simp[f199C,h,c,n,f,j,a,d,m,Vb,ZG] | q:: r=>(have s: ¬(r.length:Int)+1=0:=by omega);by_cases z: (Z2 (q:: r)).2=0;have l:=Ak EXP [x,(Z2 (q:: r)).1] false g;simp only[ZD,Qa]at t l;simp only[EXP]at l;simp[f199C,h,c,n,f,l,t,j,a,d,m,z,s,Vb,ZG,EXP];simp only[ZD]at t;simp[f199C,h,c,n,f,t,j,a,d,m,z,s,Vb,ZG,Zj]
 have i:XY b e=(QU,VP (ofP y) (ofP e)):=by simp[XY,a,k,v,d,m]
 rw[i];simp[f199C,h,c,n,f,j,a,d,m,ZG,Zj];have i:XY b e=(QU,ofE y):=by simp[XY,a,k,v,d]
 rw[i];simp[f199C,h,c,n,j,a,d,ZG,Zj];have i:XY b e=(QU,ofE e):=by simp[XY,a]
 rw[i];simp[f199C,h,a,ZG,Zj]
def Qom (b e g) (D:Zn b=true) (E:b.mass < 20000000) (H:e.mass < 20000000):call tb 261 [.agg (Qd b),.agg (Qd e)] g=some (ZD (XY b e),g):=by
 have h:=NK e g (by omega);have c:=Ww b EXP g;have w:=Ms e 25000000 (by omega);have C:=Uz e;rw[zcc 261 rfl rfl];by_cases a:ofE e=0;cases k:isB b EXP;rw[k]at c;simp only[EXP]at c;have f:=Hn false g w C;have i:XY b e=Vb b (ofP e):=by simp[XY,a,k]
 rw[i];generalize ofP e=p at *;match p with | []=>simp only[Vz]at h;simp[f261C,h,c,a,Vb,ZG] | q:: r=>(have s: ¬(r.length:Int)+1=0:=by omega);by_cases d: (Z2 (q:: r)).2=0;have l:=RD EXP [b,(Z2 (q:: r)).1] false g (by simp);simp only[ZD,Qa]at f l;simp only[EXP]at l;simp[f261C,h,c,f,l,a,d,s,Vb,ZG,EXP];simp only[ZD]at f;simp[f261C,h,c,f,a,d,s,Vb,ZG,Zj]
 obtain⟨x,y,j⟩:=WZ D k (by simp[Xb]);rw[k]at c;simp only[EXP]at c;have o:=QI b;rw[j]at o;simp only[Qv]at o;have B:kid b 0=x:=by simp[kid,j]
 have v:kid b 1=y:=by simp[kid,j]
 have n:=NK y g (by omega);have A:=Ms y 25000000 (by omega);have G:=Uz y;by_cases d:ofE y=0;have f:=QcH (ofP y) (ofP e) false false g (by omega) (by omega) (fun q u=>by have:=A q u;unfold big;omega) (fun q u=>by have:=w q u;unfold big;omega);by_cases m:VP (ofP y) (ofP e)=0;have t:=Hn false g (Ep A w) (HJ (ofP y) (ofP e));have i:XY b e=Vb x (X2 (ofP y) (ofP e)):=by simp[XY,a,k,B,v,d,m]
 rw[i];generalize X2 (ofP y) (ofP e)=p at *;match p with | []=>simp only[Vz]at f;simp[f261C,h,c,n,f,j,a,d,m,Vb,ZG] | q:: r=>(have s: ¬(r.length:Int)+1=0:=by omega);by_cases z: (Z2 (q:: r)).2=0;have l:=RD EXP [x,(Z2 (q:: r)).1] false g (by simp);simp only[ZD,Qa]at t l;simp only[EXP]at l;simp[f261C,h,c,n,f,l,t,j,a,d,m,z,s,Vb,ZG,EXP];simp only[ZD]at t;simp[f261C,h,c,n,f,t,j,a,d,m,z,s,Vb,ZG,Zj]
 have i:XY b e=(QU,VP (ofP y) (ofP e)):=by simp[XY,a,k,v,d,m]
 rw[i];simp[f261C,h,c,n,f,j,a,d,m,ZG,Zj];have i:XY b e=(QU,ofE y):=by simp[XY,a,k,v,d]
 rw[i];simp[f261C,h,c,n,j,a,d,ZG,Zj];have i:XY b e=(QU,ofE e):=by simp[XY,a]
 rw[i];simp[f261C,h,a,ZG,Zj]
def I7 {n} (h:Tb n=true):n.length<=24:=by
 rcases n with _ | ⟨c,r⟩;simp;simp only[Tb,Qr,QM]at h;simp only[ZH];omega
def Om {t} (h:OK t=0):t.name.length<=24/\t.kids.length<=8/\(t.kind=3->t.sort=0)/\(t.kind≠3->t.kids=[]):=by
 unfold OK at h;split at h;rename_i b;split at h;cases h;rename_i c;split at h;cases h;rename_i a;exact⟨I7 (by simpa using a),by omega,fun e=>by omega,fun _=>Yu (by omega)⟩;split at h;rename_i b;split at h;cases h;rename_i c;split at h;cases h;rename_i a;split at h;cases h;exact⟨I7 (by simpa using a),by omega,fun _=>by simpa using c,fun e=>absurd b e⟩;cases h
mutual
theorem Db: ∀t:Tm,XO t=0->t.mass<=33*t.nodes
 | .mk k n s ks,h=>by
  simp only[XO]at h;split at h
  ·rename_i h1;exact absurd h h1
  ·rename_i h1;obtain⟨a,b,_⟩:=Om (t:= .mk k n s ks) (by simpa using h1);have:=Da ks h;simp only[Y5,ZP]at a b;simp only[Tm.mass,Tm.nodes];omega
theorem Da: ∀ts:List Tm,Vo ts=0->Qv ts<=33*Qs ts
 | [],_=>by simp[Qv,Qs]
 | t:: ts,h=>by
  simp only[Vo]at h;split at h
  ·rename_i h1;exact absurd h h1
  ·rename_i h1;have a:=Db t (by simpa using h1);have b:=Da ts h;simp only[Qv,Qs];omega
end
def Xm {t} (h:QR t=0):XO t=0/\t.nodes<=400/\t.mass<=13200:=by
 unfold QR at h;split at h;rename_i a;exact absurd h a;rename_i a;split at h;cases h;have:=Db t (by simpa using a);exact⟨by simpa using a,by omega,by omega⟩
def QiI {n y} (h:YZ n WP=some y) (m:Nat) (b: ¬((m:Int) < y.l\/y.m < m)):Xb n m=true:=by
 unfold Xb;split;rename_i a;have:y.l=2/\y.m=2:=by rcases a with rfl | rfl | rfl | rfl | rfl | rfl | rfl | rfl <;> simp[Z3,ENC,Zz,Yc,EXP,DEC,YM,Xa,YZ,WP]at h <;> subst h <;> simp
 simp;omega;split;rename_i a;have:y.l=1/\y.m=1:=by rcases a with rfl | rfl | rfl | rfl <;> simp[PK,FST,SND,READ,YZ,WP]at h <;> subst h <;> simp
 simp;omega;rfl
mutual
theorem Fb: ∀t:Tm,XO t=0->X5 t=0->Zn t=true
 | .mk k n s ks,h,hc=>by
  simp only[XO]at h;split at h
  ·rename_i h1;exact absurd h h1
  ·rename_i h1;obtain⟨_,_,a,b⟩:=Om (t:= .mk k n s ks) (by simpa using h1);simp only[Ux,Ol,ZP]at a b;simp only[X5]at hc;by_cases hk:k=3
   ·subst hk;rw[Qb (by simp)]at hc;cases hy:YZ n WP with
    | none=>rw[hy]at hc;simp at hc
    | some y=>
     rw[hy]at hc;simp only at hc;split at hc
     ·cases hc
     ·rename_i h2;have har:=QiI hy ks.length h2;split at hc
      ·cases hc
      ·split at hc
       ·cases hc
       ·have:=I5 ks h hc;simp[Zn,a rfl,har,this]
   ·have:=b hk;subst this;simp[Zn,hk,YD]
theorem I5: ∀ts:List Tm,Vo ts=0->SU ts=0->YD ts=true
 | [],_,_=>rfl
 | t:: ts,h,hc=>by
  simp only[Vo]at h;simp only[SU]at hc;split at h
  ·rename_i h1;exact absurd h h1
  ·rename_i h1;split at hc
   ·rename_i h2;exact absurd hc h2
   ·rename_i h2;simp[YD,Fb t (by simpa using h1) (by simpa using h2),I5 ts h hc]
end
mutual
theorem J9: ∀(t y:Tm),Zn t=true->y∈Zu t->Zn y=true
 | .mk k n s ks,y,h,hy=>by
  simp only[Zu,Zf]at hy;rcases hy with rfl | hy
  ·exact h
  ·exact J8 ks y (VA h) hy
theorem J8: ∀(ts:List Tm) (y:Tm),YD ts=true->y∈Zk ts->Zn y=true
 | [],y,_,hy=>by simp[Zk]at hy
 | t:: ts,y,h,hy=>by
  simp only[YD,Qr]at h;simp only[Zk,Ze]at hy;rcases hy with hy | hy
  ·exact J9 t y h.1 hy
  ·exact J8 ts y h.2 hy
end
def VB:Zn QU=true:=by simp[QU,Zn,YD]
def Rq {n a} (b:Xb n a.length=true) (h:YD a=true):Zn (.mk 3 n 0 a)=true:=by simp[Zn,b,h]
def HB {t} (h:Zn t=true) (i):Zn (kid t i)=true:=by
 unfold kid;rw[Zh];rcases a:t.kids[i]? with _ | x;simpa using VB;exact X7.1 (VA h) x (X9 a)
def VN (t i): (kid t i).mass<=t.mass:=by
 unfold kid;rw[Zh];have:=QI t;rcases a:t.kids[i]? with _ | x;simp[QU,Tm.mass,Qv];omega;have:=QY (X9 a);simp;omega
def QiO {a} (h:YD a=true):Zn (W5 a).1=true:=by
 unfold W5;split;exact VB;split;exact VB;have c: ∀y∈Z0 [] a,Zn y=true:=fun y e=>by rcases Ox a [] y e with b | b;simp at b;exact J8 a y h b
 show Zn (tmX (Z0 [] a))=true;match d:Z0 [] a with | []=>simp[tmX,Zn,YD,Xb,Ys,Z3,ENC,Zz,Yc,EXP,DEC,YM,Xa,PK,FST,SND,READ] | [p]=>simp only[tmX];exact c p (by rw[d];simp) | p:: q:: r=>simp only[tmX];refine Rq (by simp[Xb,XOR,Z3,ENC,Zz,Yc,EXP,DEC,YM,Xa,PK,FST,SND,READ]) (X7.2 fun x f=>c x (by rwa[d]))
def Qi0 (a): (W5 a).1.mass<=13200:=by
 unfold W5;split;simp[QU,Tm.mass,Qv];split;simp[QU,Tm.mass,Qv];rename_i h;exact(Xm (by simpa using h)).2.2
def R7:QU.mass=1:=by simp[QU,Tm.mass,Qv]
def KG (l:Qw):Prop:=∀q∈l,Zn q.1=true
def QdK {l t m} (h:KG l) (b:Zn t=true):KG (YX l t m):=by
 intro q a;rcases VL a with a | rfl | ⟨_,_,rfl,_⟩;exact h q a;exact b;exact b
def Qqc: ∀t l m,KG l->Zn t=true->KG (X6 l t m):=by
 refine YC ?_;intro k n s d e l m h c;have i: ∀(b:Qj) (l:Qw) (m:Int),(∀x∈b,x∈d)->KG l->KG (ZZ l b m):=by intro b;induction b with | nil=>intro l m _ h;simpa[ZZ]using h | cons x b g=>intro l m a h;simp only[ZZ];exact g _ m (fun y f=>a y (by simp[f])) (e x (a x (by simp)) l m h ((X7.1 (VA c)) x (a x (by simp))))
 rw[XT];split;exact i d l _ (fun x a=>a) h;exact QdK h c
def Fq: ∀b a,KG a->KG b->KG (Xo a b)
 | [],a,h,_=>h
 | q:: b,a,h,c=>Fq b _ (QdK h (c q (by simp))) fun x d=>c x (by simp[d])
def Fr {t} (h:Zn t=true):KG (ofP t):=by
 unfold ofP;split;exact Qqc t [] 1 (fun q a=>by simp at a) h;intro q a;simp at a
def Qqd {a b} (c:KG a) (e:KG b):KG (X2 a b):=by
 unfold X2;split;exact Fq b a c e;intro q d;simp at d
def Sa:=@List.mem_flatten
def Re:=@List.eq_of_mem_replicate
def QiN {l} (h:KG l):YD (Zo l)=true:=by
 refine X7.2 fun x a=> ?_;simp only[Zo,XJ,XX,Ze,Sa,Yg]at a;rcases a with⟨_,⟨q,b,rfl⟩,a⟩ | ⟨_,⟨q,b,rfl⟩,a⟩;rw[Re a];exact h q b;rw[Re a];exact Rq (by simp[Xb,INV,Z3,ENC,Zz,Yc,EXP,DEC,YM,Xa,PK,FST,SND,READ]) (by simp[YD,h q b])
def Fa {l} (h:KG l):Zn (Z2 l).1=true:=by
 unfold Z2;split;exact VB;split;exact VB;split;exact VB;have a:=QiN h;show Zn (Zv (Zo l))=true;match b:Zo l with | []=>simp[Zv,Zn,YD,Xb,ONE,Z3,ENC,Zz,Yc,EXP,DEC,YM,Xa,PK,FST,SND,READ] | [p]=>simp only[Zv];rw[b]at a;simpa[YD]using a | p:: q:: r=>simp only[Zv];rw[b]at a;exact Rq (by simp[Xb,MUL,Z3,ENC,Zz,Yc,EXP,DEC,YM,Xa,PK,FST,SND,READ]) a
def FB (l): (Z2 l).1.mass<=13200:=by
 unfold Z2;split;simp[QU,Tm.mass,Qv];split;simp[QU,Tm.mass,Qv];split;simp[QU,Tm.mass,Qv];rename_i h;exact(Xm (by simpa using h)).2.2
def DQ {t} (h:Zn t=true):Zn (YV t).1=true:=by
 unfold YV;split;exact VB;exact Fa (Fr h)
def DW (t): (YV t).1.mass<=13200:=by
 unfold YV;split;simp[QU,Tm.mass,Qv];exact FB _
def Qdu {b p} (a:Zn b=true) (c:KG p):Zn (Vb b p).1=true/\(Vb b p).1.mass<=6+b.mass+13200:=by
 have d:=FB p;unfold Vb;split;exact⟨a,by simp;omega⟩;split;exact⟨VB,by show QU.mass<=_;rw[R7];omega⟩;exact⟨Rq (by simp[Xb]) (by simp[YD,a,Fa c]),by simp only[Tm.mass,Qv,EXP,ZH,Xy];omega⟩
def QqG {b e} (c:Zn b=true) (d:Zn e=true):Zn (XY b e).1=true/\(XY b e).1.mass<=6+b.mass+13200:=by
 have a:Zn QU=true/\QU.mass<=6+b.mass+13200:=⟨VB,by show QU.mass<=_;rw[R7];omega⟩;have h:=VN b 0;unfold XY;split;exact a;split;split;exact a;split;exact a;obtain⟨f,g⟩:=Qdu (HB c 0) (Qqd (Fr (HB c 1)) (Fr d));exact⟨f,by omega⟩;exact Qdu c (Fr d)
def Qlo {n a} (d:Xb n a.length=true) (h:YD a=true):Zn (Q8 n a)=true/\(Q8 n a).mass<=1+n.length+a.length+Qv a:=by
 have c:Zn (a.getD 0 QU)=true/\(a.getD 0 QU).mass<=1+Qv a:=by rcases a with _ | ⟨x,r⟩;exact⟨VB,by simp[QU,Tm.mass,Qv]⟩;simp only[YD,Qr]at h;exact⟨h.1,by simp[Qv];omega⟩
 have b: ∀i,Zn (kid (a.getD 0 QU) i)=true/\(kid (a.getD 0 QU) i).mass<=1+n.length+a.length+Qv a:=fun i=>⟨HB c.1 i,by have:=VN (a.getD 0 QU) i;omega⟩;simp only[Q8];repeat' split
 all_goals first | exact(⟨Rq d h,by simp[Tm.mass]⟩) | exact b _
def Yo (n:Zq) (us:Qj):Tm×Int:=
 if Uq n then(Q8 n us,0)else if n=XOR then W5 us else if n=MUL\/n=INV\/n=ONE then YV (.mk 3 n 0 us)
 else if n=EXP then XY (us.getD 0 QU) (us.getD 1 QU)else(.mk 3 n 0 us,0)
mutual
def ZJ:Tm->Tm×Int
 | .mk k n s ks=>if k=3 then(if(YE ks).2=0 then Yo n (YE ks).1 else(QU,(YE ks).2))else(.mk k n s ks,0)
def YE:List Tm->List Tm×Int
 | []=>([],0)
 | t:: ts=>if(ZJ t).2=0 then(if(YE ts).2=0 then((ZJ t).1:: (YE ts).1,0)else([],(YE ts).2))else([],(ZJ t).2)
end
def QlS {n a} (b:Xb n a.length=true) (h:YD a=true):Zn (Yo n a).1=true/\(Yo n a).1.mass<=1+n.length+a.length+Qv a+13200:=by
 unfold Yo;split;obtain⟨g,c⟩:=Qlo b h;exact⟨g,by simp;omega⟩;split;exact⟨QiO h,by have:=Qi0 a;omega⟩;split;exact⟨DQ (Rq b h),by have:=DW (.mk 3 n 0 a);omega⟩;split;rename_i d;subst d;have c:a.length=2:=by simpa[Xb]using b
 match a,c,h with | [x,y],_,h=>simp only[YD,Qr]at h;obtain⟨e,f⟩:=QqG h.1 h.2.1;exact⟨e,by simp only[Qv,EXP,ZH,Xy]at *;simp at f ⊢;omega⟩
 exact⟨Rq b h,by simp[Tm.mass]⟩
mutual
theorem Mv: ∀t:Tm,Zn t=true->Zn (ZJ t).1=true/\(ZJ t).1.mass<=t.mass+13200*t.nodes
 | .mk k n s ks,h=>by
  have hk:=QaE ks (VA h);simp only[ZJ];split
  ·rename_i hk3;subst hk3;split
   ·rename_i h2;obtain⟨h3,h4,h5⟩:=hk;have h5:=h5 h2;have har:=(UN h rfl).2;simp only[Y5,ZP]at har;obtain⟨h6,h7⟩:=QlS (by rw[h5];exact har) h3;exact⟨h6,by simp only[Tm.mass,Tm.nodes];rw[h5]at h7;omega⟩
   ·exact⟨VB,by show QU.mass<=_;rw[R7];simp only[Tm.mass];omega⟩
  ·exact⟨h,Nat.le_add_right _ _⟩
theorem QaE: ∀ts:List Tm,YD ts=true->YD (YE ts).1=true/\Qv (YE ts).1<=Qv ts+13200*Qs ts/\((YE ts).2=0->(YE ts).1.length=ts.length)
 | [],_=>by simp[YE,YD,Qv]
 | t:: ts,h=>by
  simp only[YD,Qr]at h;obtain⟨a1,a2⟩:=Mv t h.1;obtain⟨b1,b2,b3⟩:=QaE ts h.2;simp only[YE];split
  ·split
   ·rename_i h2;refine⟨by simp[YD,a1,b1],by simp only[Qv,Qs];omega,fun _=>by simp[b3 h2]⟩
   ·rename_i h2;exact⟨rfl,by simp[Qv],fun e=>absurd e h2⟩
  ·rename_i h2;exact⟨rfl,by simp[Qv],fun e=>absurd e h2⟩
end
end Go.Am
