/-
  Rc9, Rc10, Rc11, Rc12, Rc13, Rc14, Rc15.
-/
import Derived.Test.YtgjaamacjmjjcaaGreatDoorG12
set_option linter.all false
open Go.Am.F
namespace Go.Am
set_option maxRecDepth 20000
@[simp] def Qxe (x a) (h:0 < (Qa (x:: a)).length): (Qa (x:: a))[0]=Qd x:=by simp[Qa]
def T1 (l:Qj) (bs:Qr) (r:Option (AV×Qr)):Prop:=∃o,r=some (.sl o 4 (Qa l),bs)
def JJ:=@List.take_length
def Qjy (r): ∀n a b c m l d,a.length+b.length<=n->c.length+a.length+b.length < 100000000->(∀x∈a,x.mass < big)->(∀x∈b,x.mass < big)->
   d 0= .sl m 4 (Qa a)->d 1= .sl l 4 (Qa b)->d 5= .sl true 4 (Qa c)->
  T1 (c ++ V9 a b) r (R tb (.loop f183l0) d r (Qh 0 (Qs tb f183r0 (QA f183 r)))):=by
 have k: ∀(a b c:Qj) (m l:Bool) (d:Ye),(a=[]\/b=[])->c.length+a.length+b.length < 100000000->d 0= .sl m 4 (Qa a)->d 1= .sl l 4 (Qa b)->d 5= .sl true 4 (Qa c)->T1 (c ++ V9 a b) r (R tb f183r0 d r (QA f183 r)):=by intro a b c m l d D t g h o;(have e:V9 a b=a ++ b:=by rcases D with rfl | rfl;rw[IP];simp;rw[KW];simp);have v: (c.length+a.length)*56<=140737488355328:=X7 (by omega);have C: (c.length+ (a.length+b.length))*56<=140737488355328:=X7 (by clear v;omega);rw[e];refine⟨true,?_⟩;simp[g,h,o,v,C,f183r0,QQ,T5]
 intro n;induction n with | zero=>intro a b c m l d G t j i g h o;have L:a=[]:=Yf (by omega);subst L;have w:=fun d=>k [] b c m l d (.inl rfl) t;rw[Qb f183l0.eq_1];simp[g,Qa];refine w _ ?_ ?_ ?_ <;> simp[g,h,o] | succ n H=>intro a b c m l d G t j i g h o;match a,b with | [],b=>have w:=fun d=>k [] b c m l d (.inl rfl) t;rw[Qb f183l0.eq_1];simp[g,Qa];refine w _ ?_ ?_ ?_ <;> simp[g,h,o] | x:: a,[]=>have w:=fun d=>k (x:: a) [] c m l d (.inr rfl) t;(have u: (0:Int) < (a.length:Int)+1:=by omega);rw[Qb f183l0.eq_1];simp[g,h,u];refine w _ ?_ ?_ ?_ <;> simp[g,h,o] | x:: a,y:: b=>simp only[Zu]at G t;(have u: (0:Int) < (a.length:Int)+1:=by omega);(have q: (0:Int) < (b.length:Int)+1:=by omega);(have B: (1:Int)<=(a.length:Int)+1:=by omega);(have A: (1:Int)<=(b.length:Int)+1:=by omega);have E:=call_Compare x y r (j x (by simp)) (i y (by simp));have K: (c.length+1)*56<=140737488355328:=X7 (by omega);have N: (Qa (x:: a)).take ((Qa (x:: a)).length)=Qa (x:: a):=JJ;have J:=fun d=>H a (y:: b) (c ++ [x]) false l d (by simp;omega) (by simp;omega) (fun z s=>j z (by simp[s])) i;have I:=fun d=>H (x:: a) b (c ++ [y]) m false d (by simp;omega) (by simp;omega) j (fun z s=>i z (by simp[s]));have M:=fun d=>H a b c false false d (by omega) (by omega) (fun z s=>j z (by simp[s])) (fun z s=>i z (by simp[s]));rw[Qb f183l0.eq_1,KV];clear G;by_cases f:Qo x y < 0;simp only[f,QU];simp only[ZU,Xb,Y4]at J;simp[g,h,o,u,q,B,E,f,K,ZH,QQ,NL,NM];refine J _ ?_ ?_ ?_ <;> simp[h];by_cases p:0 < Qo x y;simp only[f,p,QU,ZM];simp only[ZU,Xb,Y4]at I;simp[g,h,o,u,q,A,E,f,p,K,ZH,QQ,NL,NM];refine I _ ?_ ?_ ?_ <;> simp[g];simp only[f,p,ZM];simp[g,h,o,u,q,B,A,E,f,p,NL,NM];refine M _ ?_ ?_ ?_ <;> simp[o]
def Dt (a b g f e) (j:a.length+b.length < 100000000) (c: ∀x∈a,x.mass < big) (d: ∀x∈b,x.mass < big):
  T1 (V9 a b) e (call tb 183 [.sl g 4 (Qa a),.sl f 4 (Qa b)] e):=by
 have h:=fun i=>Qjy e _ a b [] false false i (QY _) (by simp;omega) c d;simp only[Y4]at h;rw[zcc 183 rfl rfl];simp[f183C];refine h _ ?_ ?_ ?_ <;> simp[Qa]
def QmV (t:Tm) (i) (J:t.mass < 30000000) (E: ∀x∈t.kids,∀i,T1 (QI x) i (call tb 182 [.agg (Qd x)] i)):
  ∀b c a o f,t.kids=c ++ b->a.length+Qp b < 30000000->Asc a->(∀x∈a,x.mass < big)->f 3= .sl o 4 (Qa a)->f 31= .sl false 4 (Qa t.kids)->f 32= .int .i64 t.kids.length->f 33= .int .i64 c.length->
  R tb (.loop f182l0) f i (Qh 1 (Qs tb f182r0 (Qh 0 (Qs tb f182r1 (QA f182 i)))))=some (.sl false 4 (Qa (Ym a b)),i):=by
 have C:=QL t;intro b;induction b with | nil=>intro c a o f j v l k u d e g;simp only[Qy]at j;rw[<- j]at g;rw[Qb f182l0.eq_1];simp[u,d,e,g,f182r0,Ym] | cons x b H=>intro c a o f j v l k u d e g;have G:=QD j;(have p:x∈t.kids:=by rw[j];simp);have z:=QR p;have A:=Yu x;have w:=WH x;simp only[Qp]at v;obtain⟨I,q⟩:=E x p i;(have m: ∀y∈QI x,y.mass < big:=fun y r=>by have:=VD x y (RV x y r);unfold big;omega);obtain⟨B,n⟩:=Dt a (QI x) false false i (by omega) k m;rw[Qbj l (Vr x)]at n;have D:=U5 (QI x) a;(have s: ∀y∈Yr a (QI x),y.mass < big:=fun y r=>by rcases VI (Vr x) r with h | h;exact k y h;exact m y h);rw[Qb f182l0.eq_1];simp[u,d,e,g,(Qv j),(QF j),(wr1 c.length (by omega)),Qc,q,n,Ym];refine(fun f=>H (c ++ [x]) (Yr a (QI x)) B f (by rw[j];simp) (by omega) (R2 _ _ l) s) _ ?_ ?_ ?_ ?_ <;> simp[d,e]
def Ry: ∀t d,t.mass < 30000000->T1 (QI t) d (call tb 182 [.agg (Qd t)] d):=by
 refine Yp ?_;intro k n s a q d o;have h:=QL (.mk k n s a);have m:=YN a;simp only[ZJ,Yy]at h;have l:=fun r=>QmV (.mk k n s a) d o (fun x c d=>q x c d (by have:=QR c;simp at this;omega)) a [] [] true r rfl (by simp;omega) Asc.nil (by simp);simp only[ZJ]at l;rw[zcc 182 rfl rfl];by_cases b:k=3;by_cases f:n=Yl;rcases a with _ | ⟨x,p⟩;refine⟨true,?_⟩;simp[f182C,Qd,Qa,QI,b,f,Yl];refine⟨true,?_⟩;simp only[Yl]at f;have: ¬((p.length:Int)+1=0):=by omega
 simp[f182C,Qd,QI,b,f,Yl,XOR,this,Qa,f182r1];by_cases c:n=XOR;refine⟨false,?_⟩;have e:QI (.mk k n s a)=Ym [] a:=by simp[QI,b,c,Yl,XOR]
 rw[e];simp only[XOR]at c;simp[f182C,Qd,b,c];refine l _ ?_ ?_ ?_ ?_ <;> simp[Qa];refine⟨true,?_⟩;have e:QI (.mk k n s a)=[.mk k n s a]:=by simp[QI,b,c,f]
 rw[e];have j: (n == [122,101,114,111])=false:=by simpa[Yl]using f
 have i: (n == [120,111,114])=false:=by simpa[XOR]using c
 simp[f182C,Qd,b,j,i,Qa,f182r1];refine⟨true,?_⟩;have e:QI (.mk k n s a)=[.mk k n s a]:=by simp[QI,b]
 rw[e];simp[f182C,Qd,b,Qa,f182r1]
def K5 (t u o a) (c:t.mass < big) (d:u.mass < big):call tb 185 [.agg (Qd t),.sl o 1 [],.agg (Qd u)] a=some (.tup [.agg (Qd u),.int .i64 0],a):=by
 rw[zcc 185 rfl rfl];have b: ∀x y:QB,(a ++ [x]).set a.length y=a ++ [y]:=fun x y=>by rw[PE];simp
 simp[f185C,(fun a=>NH t a c),Qc,b,put];rw[Qb f185l0.eq_1];simp[f185r0,(fun a=>NH u a d),Qc,b,put]
def S3 (ls:List Qj):Qr:=ls.map fun l=>[AV.sl false 4 (Qa l)]
def DD {c b a x} (h:c=b ++ x:: a): (S3 c)[b.length]? =some [AV.sl false 4 (Qa x)]:=by subst h;simp[S3]
def DE (a): (S3 a).length=a.length:=by simp[S3]
def Qii (n:Nat) (a) (b:n < 100000000):call tb 181 [.gs 0 0 0 0,.int .i64 n] a=some (.sl true 4 [],a):=by
 rw[Y9 tb_181];simp only[Hc];rw[Qg];refine⟨by omega,?_,by omega⟩;simp;exact X7 (by omega)
def QgW (i k) (r:i.length < 1000) (q:i.flatten.length < 100000000):
  ∀b a h,i=a ++ b->h 6= .sl true 4 (Qa a.flatten)->h 25= .sl false 1 (S3 i)->h 26= .int .i64 i.length->h 27= .int .i64 a.length->
  R tb (.loop f180l1) h k (Qh 2 (Qs tb f180r0 (QA f180 k)))=some (.sl false 4 (Qa i.flatten),k):=by
 intro b;induction b with | nil=>intro a h g j c f d;simp only[Qy]at g;rw[<- g]at d j;rw[Qb f180l1.eq_1];simp[j,c,f,d,f180r0] | cons x b o=>intro a h g j c f d;have p:=QD g;(have m:i.flatten.length=a.flatten.length+ (x.length+b.flatten.length):=by rw[g];simp);have n: (a.flatten.length+x.length)*56<=140737488355328:=X7 (by omega);have l:=o (a ++ [x]);(have e: (a ++ [x]).flatten=a.flatten ++ x:=by simp);rw[e]at l;generalize a.flatten=s at *;rw[Qb f180l1.eq_1];simp[j,c,f,d,(DD g),(QF g),(wr1 a.length (by omega)),n,QQ];rw[l] <;> simp[c,f,g]
def QgV (c i) (r:c.length < 1000) (o:c.flatten.length < 100000000):
  ∀b a d,c=a ++ b->d 0= .sl false 1 (S3 c)->d 3= .int .i64 a.flatten.length->d 9= .sl false 1 (S3 c)->d 10= .int .i64 c.length->d 11= .int .i64 a.length->
  R tb (.loop f180l0) d i (Qh 0 (Qs tb f180r1 (QA f180 i)))=some (.sl false 4 (Qa c.flatten),i):=by
 intro b;induction b with | nil=>intro a d h m j k g f;simp only[Qy]at h;rw[<- h]at f j;have u:=Qii c.flatten.length i o;have q:=fun d=>QgW c i r o c [] d rfl;generalize c.flatten=y at *;rw[Qb f180l0.eq_1];simp[m,j,k,g,f,f180r1,u];refine q _ ?_ ?_ ?_ ?_ <;> simp[Qa,DE] | cons x b v=>intro a d h m j k g f;have t:=QD h;(have s:c.flatten.length=a.flatten.length+ (x.length+b.flatten.length):=by rw[h];simp);have n:IntKind.i64.wrap ((a.flatten.length:Int)+ (x.length:Int))=(a.flatten.length:Int)+ (x.length:Int):=QC (by omega) (by omega);(have l: ¬((a.flatten.length:Int)+ (x.length:Int) < 0):=by omega);have p:=v (a ++ [x]);(have e: ((a ++ [x]).flatten.length:Int)=(a.flatten.length:Int)+ (x.length:Int):=by simp);rw[e]at p;generalize (a.flatten.length:Int)=w at *;rw[Qb f180l0.eq_1];simp[j,k,g,f,(DD h),(QF h),(wr1 a.length (by omega)),n,l];rw[p] <;> simp[m,k,g,h]
def Rq (a o b) (c:a.length < 1000) (d:a.flatten.length < 100000000):
  call tb 180 [.sl o 1 (S3 a)] b=some (.sl false 4 (Qa a.flatten),b):=by
 rw[zcc 180 rfl rfl];simp[f180C];refine(fun e=>QgV a b c d a [] e rfl) _ ?_ ?_ ?_ ?_ ?_ <;> simp[DE]
def Ww:Qj->Int
 | []=>0
 | t:: ts=>if QZ t≠0 then QZ t else Ww ts
def F8 (l j) (r:l.length < 100000000) (o: ∀x∈l,x.mass < big): ∀a b g,l=b ++ a->g 14= .sl false 4 (Qa l)->g 15= .int .i64 l.length->g 16= .int .i64 b.length->
  R tb (.loop f179l0) g j (Qh 0 (Qs tb f179r0 (QA f179 j)))=some (.int .i64 (Ww a),j):=by
 intro a;induction a with | nil=>intro b g f d e c;simp only[Qy]at f;rw[<- f]at c;rw[Qb f179l0.eq_1];simp[d,e,c,f179r0,Ww] | cons x a p=>intro b g f d e c;have n:=Qv f;have q:=QD f;have h:=wr1 b.length (by omega);have i:=QF f;have k:=TJ x j (o x (by rw[f];simp));rw[Qb f179l0.eq_1];by_cases m:QZ x=0;simp[d,e,c,n,i,h,Qc,k,m,Ww];rw[p (b ++ [x])] <;> simp[d,e,f];simp[d,e,c,n,i,h,Qc,k,m,Ww]
def U6 (l:Qj):Int:=if 200 < l.length then 3 else Ww l
def GV:=@List.flatten_nil
def Qfw (l o h b) (c:l.length < 100000000) (f: ∀x∈l,x.mass < big):call tb 179 [.sl o 4 (Qa l),.sl h 4 []] b=some (.int .i64 (U6 l),b):=by
 have e:=Rq [l,[]] false b (by simp) (by simpa using c);simp only[S3,ZO,Vn,Su,GV,Qy,Qa]at e;rw[zcc 179 rfl rfl];by_cases d:200 < l.length;have a: (200:Int) < (l.length:Int):=by omega
 simp[f179C,a,d,U6];have a: ¬(200:Int) < (l.length:Int):=by omega
 simp[f179C,a,d,U6,e];refine(fun g=>F8 l b c f l [] g rfl) _ ?_ ?_ ?_ <;> simp
def Qeh {c:QB} {n p a x v} (k:c.length=n*4) (g:p=a.length) (h:p < n) (j: (c.map AV.strip).take (p*4)=Qk a) (l:v.strip= .sl false 4 (Qa x.kids)):
  ((c.take (p*4)++ (Qd x ++ c.drop (p*4+4))).set (p*4+3) v).length=n*4/\
  ((((c.take (p*4)++ (Qd x ++ c.drop (p*4+4))).set (p*4+3) v).map AV.strip).take ((p+1)*4))=Qk (a ++ [x]):=by
 have f: (c.take (p*4)).length=p*4:=by rw[Z9];omega
 have b:=QE x;refine⟨by simp[f,b,k];omega,?_⟩;have e: (c.take (p*4)++ (Qd x ++ c.drop (p*4+4))).set (p*4+3) v=c.take (p*4)++ ([.int .i64 x.kind,.str x.name,.int .i64 x.sort,v]++ c.drop (p*4+4)):=by rw[PE,Qe (by omega),f,show p*4+3 - p*4=3 by omega,ZN];simp
 rw[e,Xp,Xp,SC,j];have i: [AV.int .i64 x.kind,.str x.name,.int .i64 x.sort,v].map AV.strip=Qd x:=by rw[ZN];simp[l]
 have d: (Qk a).length=p*4:=by rw[ZZ QE,g]
 rw[i,<- ZU,PM (by simp[d,b];omega),Z2 (by simp[d,b];omega)];simp[Qk,Ve,OH]
def LQ:=@List.take_take
def Qba {c:QB} {n p a x} (k:c.length=n*4) (e:p=a.length) (h:p < n) (j: (c.map AV.strip).take ((p+1)*4)=Qk (a ++ [x])) (i:x.kids=[]):
  (c.take (p*4+3)++ ([AV.sl false 4 []]++ c.drop (p*4+3+1))).length=n*4/\
  ((c.take (p*4+3)++ ([AV.sl false 4 []]++ c.drop (p*4+3+1))).map AV.strip).take ((p+1)*4)=Qk (a ++ [x]):=by
 have g: (c.take (p*4+3)).length=p*4+3:=by rw[Z9];omega
 refine⟨by simp[g,k];omega,?_⟩;have d:Qk (a ++ [x])=Qk a ++ [.int .i64 x.kind,.str x.name,.int .i64 x.sort]++ [.sl false 4 []]:=by simp[Qk,Ve,OH,ZN,i,Qa]
 have b: (Qk a).length=p*4:=by rw[ZZ QE,e]
 have f: (c.take (p*4+3)).map AV.strip=Qk a ++ [.int .i64 x.kind,.str x.name,.int .i64 x.sort]:=by(have l: ((c.map AV.strip).take ((p+1)*4)).take (p*4+3)=(c.map AV.strip).take (p*4+3):=by rw[LQ];congr 1;omega);rw[SC,<- l,j,d,PM (by simp[b]),Z2 (by simp[b])]
 rw[Xp,Xp,f,<- ZU,PM (by simp[b];omega),Z2 (by simp[b];omega),d];simp
def Qmf (l B) (hl:l.length < 100000000) (J:l≠[]) (W: ∀x∈l,x.mass < big) (Z: ∀x∈l,∀I,T1 x.kids I (call tb 184 [.sl false 4 (Qa x.kids)] I)):
  ∀d a c n,l=a ++ d->c.length=l.length*4->(c.map AV.strip).take (a.length*4)=Qk a->n 3= .gs B.length 0 4 l.length->n 9= .sl false 4 (Qa l)->n 10= .int .i64 l.length->n 11= .int .i64 a.length->
  T1 l B (R tb (.loop f184l0) n (B ++ [c]) (Qh 0 (Qs tb f184r0 (QA f184 B)))):=by
 have M: ∀x y:QB,(B ++ [x]).set B.length y=B ++ [y]:=fun x y=>by rw[PE];simp
 have eg: ∀x:QB,(B ++ [x])[B.length]? =some x:=fun x=>Yc;intro d;induction d with | nil=>intro a c n p L H u w g i;simp only[Qy]at p;rw[<- p]at i H;have Y: ¬l.length=0:=fun e=>J (Yf e);(have K:ZR c 0 4 l.length=Qa l:=by(have e1:c.map AV.strip=Qk l:=by rw[<- H,Z2 (by simp[L])]);(have e2:ZR c 0 4 l.length=ZR (c.map AV.strip) 0 4 l.length:=by unfold ZR;apply Rp;intro k _;rw[<- PG,<- SC,Mm];apply Rp;intro v _;exact(OZ v).symm);rw[e2,e1];have:=X3 (f:=Qd) (k:=4) QE Zc l [];rwa[TW,Qy]at this);have P:=ZL l;(have r:l.length*4<=c.length:=by omega);refine⟨true,?_⟩;rw[Qb f184l0.eq_1];simp[u,w,g,i,f184r0,ZY,Y,r,M,K] | cons x d Q=>intro a c n p L H u w g i;have P:=Qv p;have hll:=QD p;have A:=wr1 a.length (by omega);have G:=QF p;(have b:a.length < l.length:=by omega);have T:=W x (by rw[p];simp);have C:=fun I=>K5 x x true I T T;obtain⟨o,q⟩:=Z x (by rw[p];simp) (B ++ [c.take (a.length*4)++ (Qd x ++ c.drop (a.length*4+4))]);(have r:a.length*4+4<=c.length:=by omega);obtain⟨N,S⟩:=Qeh (v:= .sl o 4 (Qa x.kids)) L rfl b H rfl;(have s:a.length*4+3 < (c.take (a.length*4)++ (Qd x ++ c.drop (a.length*4+4))).length:=by simp;omega);generalize E:c.take (a.length*4)++ (Qd x ++ c.drop (a.length*4+4))=O at *;(have z: ∀h:a.length < (Qa l).length,(Qa l)[a.length]=Qd x:=fun h=>by have:=Za h;rw[Xf,P]at this;injection this with this;exact this.symm);rw[Qb f184l0.eq_1];by_cases m:x.kids=[];obtain⟨U,V⟩:=Qba N rfl b S m;(have j:a.length*4+3+1<=(O.set (a.length*4+3) (.sl o 4 (Qa x.kids))).length:=by rw[N];omega);have D:=fun n=>Q (a ++ [x]) _ n (by rw[p];simp) U (by simpa using V);rw[m]at q j D;(have t:a.length*4+3+1<=O.length:=by simpa using j);simp only[Qa,Xb,Y4]at q j D;simp[u,w,g,i,z,G,b,A,Qc,C,M,r,E,q,s,m,Qa,t];refine D _ ?_ ?_ ?_ ?_ <;> simp[u,w,g];(have X: ¬(x.kids.length:Int)=0:=by intro e;exact m (Yf (by omega)));have D:=fun n=>Q (a ++ [x]) _ n (by rw[p];simp) N (by simpa using S);simp[u,w,g,i,z,G,b,A,Qc,C,M,r,E,q,s,m];refine D _ ?_ ?_ ?_ ?_ <;> simp[u,w,g]
def Qjo (l o a) (k:l.length < 100000000) (h: ∀x∈l,x.mass < big) (f: ∀x∈l,∀a,T1 x.kids a (call tb 184 [.sl false 4 (Qa x.kids)] a)):
  T1 l a (call tb 184 [.sl o 4 (Qa l)] a):=by
 have j:l.length*56<=140737488355328:=X7 (by omega);have e: (l.length:Int)<=4611686018427387904:=by omega
 rw[zcc 184 rfl rfl];by_cases b:l=[];subst b;refine⟨false,?_⟩;simp[f184C,Qa];rw[Qb f184l0.eq_1];simp[f184r0,ZY];have d: (List.replicate l.length [AV.int .i64 0,.str [],.int .i64 0,.sl true 4 []]).flatten.length=l.length*4:=by simp
 have i:=(fun c g m=>Qmf l a k b h f l [] c m rfl g (by simp[YZ])) _ d;simp[f184C,j,e];refine i _ ?_ ?_ ?_ ?_ <;> simp
def Qa9: ∀(t:Tm) a,t.mass < 100000000->T1 t.kids a (call tb 184 [.sl false 4 (Qa t.kids)] a):=by
 refine Yp ?_;intro k n s d e a f;have c:=QL (.mk k n s d);simp only[ZJ,Yy]at c ⊢;exact Qjo d false a (by omega) (fun x b=>by have:=QR b;unfold big;omega) fun x b a=>e x b a (by have:=QR b;omega)
def Qli (l o a) (d:l.length < 100000000) (c: ∀x∈l,x.mass < 100000000):T1 l a (call tb 184 [.sl o 4 (Qa l)] a):=
 Qjo l o a d (fun x b=>by have:=c x b;unfold big;omega) fun x b a=>Qa9 x a (c x b)
def Q7:Tm:= .mk 0 [] 0 []
def Zi:Qd Q7=[.int .i64 0,.str [],.int .i64 0,.sl false 4 []]:=by simp[Q7,Qd,Qa]
def tmX:Qj->Tm
 | []=> .mk 3 Yl 0 []
 | [p]=>p
 | p:: q:: r=> .mk 3 XOR 0 (p:: q:: r)
def Uv (l:Qj):Tm×Int:=if U6 l≠0 then(Q7,U6 l)else if QZ (tmX (Ym [] l))≠0 then(Q7,3)else(tmX (Ym [] l),0)
def ZB (r:Tm×Int):AV:= .tup [.agg (Qd r.1),.int .i64 r.2]
def FU (t): ∀l:Qj,Qw (QT t l)<=Qw l+t.mass
 | []=>by simp[QT,Qw]
 | x:: a=>by
  have:=FU t a;simp only[QT];split;simp only[Qw];omega;split;omega;simp only[Qw];omega
def Qf8 (l t):Qw (WY l t)<=Qw l+t.mass:=by
 unfold WY;split;have: ∀(l:Qj) (p:Tm->Bool),Qw (l.filter p)<=Qw l:=by intro l p;induction l with | nil=>simp | cons x b a=>rw[GW];split <;> simp only[Qw] <;> omega
 grind;exact FU t l
def Hw: ∀b a,Qw (Yr a b)<=Qw a+Qw b
 | [],a=>by simp[Yr,Qw]
 | x:: b,a=>by
  have c:=Hw b (WY a x);have d:=Qf8 a x;simp only[Yr,UX,Qw]at *;omega
mutual
theorem Qf7: ∀t:Tm,Qw (QI t)<=t.mass
 | .mk k n s ks=>by
  simp only[QI];split
  ·simp[Qw]
  ·split
   ·have:=NN ks [];simp only[Qw,Tm.mass]at *;omega
   ·simp[Qw]
theorem NN: ∀(ts acc:List Tm),Qw (Ym acc ts)<=Qw acc+Qw ts
 | [],acc=>by simp[Ym,Qw]
 | t:: ts,acc=>by
  have h1:=NN ts (Yr acc (QI t));have h2:=Hw (QI t) acc;have h3:=Qf7 t;simp only[Ym,Qw]at *;omega
end
def QbS (l): (tmX l).mass<=10+l.length+Qw l:=by
 unfold tmX;split;simp[Tm.mass,Qw,Yl];simp[Qw];simp[Tm.mass,Qw,XOR]
def QkO (l i) (L:Qw l < 20000000) (M:l.length < 20000000) (k:Kn)
  (w: ∀(o:Bool) (c:Ye),c 2= .bx [.int .i64 0,.str [],.int .i64 0,.sl true 4 []]->c 5= .sl o 4 (Qa (Ym [] l))->R tb f178r0 c i (QA f178 i)=some (ZB (Uv l),i)):
  ∀b d a o c,l=d ++ b->Ym a b=Ym [] l->a.length+Qp b < 25000000->Asc a->(∀x∈a,x.mass < big)->c 2= .bx [.int .i64 0,.str [],.int .i64 0,.sl true 4 []]->c 5= .sl o 4 (Qa a)->c 15= .sl false 4 (Qa l)->c 16= .int .i64 l.length->c 17= .int .i64 d.length->
  R tb (.loop f178l0) c i (Qh 0 (Qs tb f178r0 (QA f178 i)))=some (ZB (Uv l),i):=by
 intro b;induction b with | nil=>intro d a o c m q B j p z t e g f;simp only[Qy]at m;rw[<- m]at f;simp only[Ym]at q;subst q;rw[Qb f178l0.eq_1];simp[e,g,f];refine w o _ ?_ ?_ <;> simp[z,t] | cons x b C=>intro d a o c m q B j p z t e g f;have H:=QD m;(have u:x∈l:=by grind);have E:=QR u;have I:=Yu x;have G:=WH x;simp only[Qp]at B;obtain⟨K,s⟩:=Ry x i (by omega);(have r: ∀y∈QI x,y.mass < big:=fun y A=>by have:=VD x y (RV x y A);unfold big;omega);obtain⟨J,n⟩:=Dt a (QI x) false false i (by omega) p r;rw[Qbj j (Vr x)]at n;have D:=U5 (QI x) a;(have v: ∀y∈Yr a (QI x),y.mass < big:=fun y A=>by rcases VI (Vr x) A with h | h;grind;grind);rw[Qb f178l0.eq_1];simp[t,e,g,f,(Qv m),(QF m),(wr1 d.length (by omega)),Qc,s,n];refine(fun c=>C (d ++ [x]) (Yr a (QI x)) J c (by grind) q (by omega) (R2 _ _ j) v) _ ?_ ?_ ?_ ?_ ?_ <;> simp[z,e,g]
def Qlh (l o b) (w:Qw l < 20000000) (v:l.length < 20000000):call tb 178 [.sl o 4 (Qa l)] b=some (ZB (Uv l),b):=by
 have s:=Qfw l false true b (by omega) (fun x j=>by have:=QR j;unfold big;omega);have E:=YN l;have m:U6 l=0->∀(o:Bool) (f:Ye),f 2= .bx [.int .i64 0,.str [],.int .i64 0,.sl true 4 []]->f 5= .sl o 4 (Qa (Ym [] l))->R tb f178r0 f b (QA f178 b)=some (ZB (Uv l),b):=by intro i o f g e;have A:=K1 l [];have y:=NN l [];have D:=QbS (Ym [] l);simp only[Qw,Xc,ZV]at A y;obtain⟨C,c⟩:=Qli (Ym [] l) false b (by omega) (fun x j=>by have:=QR j;omega);have a:=TJ (tmX (Ym [] l)) b (by unfold big;omega);(have u:Uv l=if QZ (tmX (Ym [] l))≠0 then(Q7,3)else(tmX (Ym [] l),0):=by simp[Uv,i]);rw[u];generalize Ym [] l=z at *;match z with | []=>(have d:Qd (tmX [])=[.int .i64 3,.str Yl,.int .i64 0,.sl false 4 []]:=by simp[tmX,Qd,Qa]);rw[d]at a;simp only[Yl]at a d;simp only[Qa]at c e;by_cases h:QZ (tmX [])=0;simp[f178r0,e,c,g,a,h,ZB,d];simp[f178r0,e,c,g,a,h,ZB,Zi] | [p]=>simp only[tmX]at a ⊢;by_cases h:QZ p=0;simp[f178r0,e,c,g,a,h,ZB,Qc];simp[f178r0,e,c,g,a,h,ZB,Zi,Qc] | p:: q:: r=>(have d:Qd (tmX (p:: q:: r))=[.int .i64 3,.str XOR,.int .i64 0,.sl false 4 (Qa (p:: q:: r))]:=by simp[tmX,Qd]);rw[d]at a;simp only[XOR]at a d;(have n: ¬((r.length:Int)+1+1=0):=by omega);(have t: ¬((r.length:Int)+1+1=1):=by omega);by_cases h:QZ (tmX (p:: q:: r))=0;simp[f178r0,e,c,g,a,h,n,t,ZB,d];simp[f178r0,e,c,g,a,h,n,t,ZB,Zi]
 rw[zcc 178 rfl rfl];by_cases k:U6 l=0;have h:=fun f=>QkO l b w v (QA f178 b) (m k) l [] [] true f rfl rfl (by grind) Asc.nil (by simp);simp[f178C,s,k];refine h _ ?_ ?_ ?_ ?_ ?_ <;> simp[Qa];have B: (U6 l != 0)=true:=by grind
 simp[f178C,s,k,B,Uv,ZB,Zi]
def Qft (a):call tb 245 [] a=some (.agg (Qd (.mk 3 Yl 0 [])),a):=by
 have h:=R6 Yl [] true a (by simp);simp only[Yl,Qa]at h;rw[zcc 245 rfl rfl];simp[f245,f245C,h,Yl,Qc]
def Qca (l o a) (e:l.length < 100000000):call tb 251 [.sl o 4 (Qa l)] a=some (.agg (Qd (tmX l)),a):=by
 have h:=R6 Yl [] true a (by simp);simp only[Yl,Qa]at h;rw[zcc 251 rfl rfl];match l with | []=>simp[f251C,h,Yl,Qc,tmX] | [p]=>simp[f251C,Qc,tmX] | p:: q:: r=>(have c: ¬((r.length:Int)+1+1=0):=by omega);(have b: ¬((r.length:Int)+1+1=1):=by omega);have d: (r.length+1+1)*56<=140737488355328:=X7 (by grind);simp[f251C,c,b,d,tmX,Qd,XOR]
def Jq (l t i) (s:l.length < 100000000) (r: ∀x∈l,x.mass < big) (p:t.mass < big): ∀a b c,l=b ++ a->c 0= .sl false 4 (Qa l)->c 3= .bx (Qd t)->c 5= .int .i64 b.length->
  R tb (.loop f246l0) c i (Qh 0 (Qs tb f246r0 (QA f246 i)))=some (.int .i64 (if Ww a≠0 then Ww a else QZ t),i):=by
 intro a;induction a with | nil=>intro b c d g m e;simp only[Qy]at d;rw[<- d]at e;have j:=W3 t i p;rw[Qb f246l0.eq_1];simp[g,m,e,f246r0,Ww,Qc,j] | cons x a o=>intro b c d g m e;have n:=Qv d;have q:=QD d;have f:=wr1 b.length (by omega);have h:=QF d;have j:=W3 x i (r x (by grind));rw[Qb f246l0.eq_1];by_cases k:QZ x=0;simp only[Ww,k,ne_eq,PC,ZM];simp[g,e,n,h,f,Qc,j,k];have:=fun c=>o (b ++ [x]) c (by grind);simp only[ne_eq]at this;rw[this] <;> simp[g,m];simp[g,e,n,h,f,Qc,j,k,Ww]
def QgU:QZ (.mk 3 Yl 0 [])=0:=by decide
def AY (l o b) (g:l.length < 100000000) (d: ∀x∈l,x.mass < big):call tb 246 [.sl o 4 (Qa l),.agg (Qd (.mk 3 Yl 0 []))] b=some (.int .i64 (U6 l),b):=by
 have h:=fun f=>Jq l (.mk 3 Yl 0 []) b g d (by simp[Tm.mass,Qw,Yl,big]) l [] f rfl;rw[QgU]at h;have e: (if Ww l≠0 then Ww l else 0)=Ww l:=by omega
 rw[e]at h;rw[zcc 246 rfl rfl];by_cases c:200 < l.length;have a: (200:Int) < (l.length:Int):=by omega
 simp[f246C,a,c,U6];have a: ¬(200:Int) < (l.length:Int):=by omega
 simp[f246C,a,c,U6];simp_all
def Qfc (l e) (H:Qw l < 20000000) (G:l.length < 20000000)
  (r: ∀(o:Bool) (d:Ye),d 2= .bx [.int .i64 0,.str [],.int .i64 0,.sl true 4 []]->d 5= .sl o 4 (Qa (Ym [] l))->R tb f244r0 d e (QA f244 e)=some (ZB (Uv l),e)):
  ∀b c a o d,l=c ++ b->Ym a b=Ym [] l->a.length+Qp b < 25000000->(∀x∈a,x.mass < big)->d 0= .sl false 4 (Qa l)->d 2= .bx [.int .i64 0,.str [],.int .i64 0,.sl true 4 []]->d 5= .sl o 4 (Qa a)->d 6= .int .i64 c.length->
  R tb (.loop f244l0) d e (Qh 0 (Qs tb f244r0 (QA f244 e)))=some (ZB (Uv l),e):=by
 intro b;induction b with | nil=>intro c a o d f j v g i s m k;simp only[Qy]at f;rw[<- f]at k;simp only[Ym]at j;subst j;rw[Qb f244l0.eq_1];simp[i,m,k];refine r o _ ?_ ?_ <;> simp[s,m] | cons x b w=>intro c a o d f j v g i s m k;have B:=QD f;(have u:x∈l:=by grind);have z:=QR u;have A:=Yu x;have C:=WH x;simp only[Qp]at v;obtain⟨E,q⟩:=On x e (by omega);(have p: ∀y∈QI x,y.mass < big:=fun y n=>by have:=VD x y (RV x y n);unfold big;omega);have D:=U5 (QI x) a;(have t: ∀y∈Yr a (QI x),y.mass < big:=fun y n=>by rcases VI (Vr x) n with h | h;grind;grind);rw[Qb f244l0.eq_1];simp[i,m,k,(Qv f),(QF f),(wr1 c.length (by omega)),Qc,q,(Kl a (QI x) false false e (by omega) (by omega) g p)];refine(fun d=>w (c ++ [x]) (Yr a (QI x)) false d (by grind) j (by omega) t) _ ?_ ?_ ?_ ?_ <;> simp[i,s]
def Qfp (l o a) (t:Qw l < 20000000) (r:l.length < 20000000):call tb 244 [.sl o 4 (Qa l)] a=some (ZB (Uv l),a):=by
 have k:=AY l false a (by omega) (fun x p=>by have:=QR p;unfold big;omega);have j:=Qft a;have y:=YN l;have d:U6 l=0->∀(o:Bool) (b:Ye),b 2= .bx [.int .i64 0,.str [],.int .i64 0,.sl true 4 []]->b 5= .sl o 4 (Qa (Ym [] l))->R tb f244r0 b a (QA f244 a)=some (ZB (Uv l),a):=by intro c o b m i;have q:=K1 l [];have s:=NN l [];have w:=QbS (Ym [] l);simp only[Qw,Xc,ZV]at q s;have g:=Qca (Ym [] l) false a (by omega);have f:=W3 (tmX (Ym [] l)) a (by unfold big;omega);(have v:Uv l=if QZ (tmX (Ym [] l))≠0 then(Q7,3)else(tmX (Ym [] l),0):=by simp[Uv,c]);rw[v];generalize tmX (Ym [] l)=u at *;generalize Ym [] l=z at *;by_cases h:QZ u=0;simp[f244r0,i,g,m,f,h,ZB,Qc];simp[f244r0,i,g,m,f,h,ZB,Zi,Qc]
 rw[zcc 244 rfl rfl];by_cases e:U6 l=0;have h:=fun b=>Qfc l a t r (d e) l [] [] true b rfl rfl (by grind) (by simp);simp[f244C,j,k,e];refine h _ ?_ ?_ ?_ ?_ <;> simp[Qa];have n: (U6 l != 0)=true:=by grind
 simp[f244C,j,k,e,n,Uv,ZB,Zi]
def QcO (t) (G:t.mass < big) (q:t.kids≠[]) (A: ∀x∈t.kids,∀w,call tb 192 [.agg (Qd x)] w=some (.agg (Qd x),w)) (B):
  ∀b a l,t.kids=a ++ b->l 1= .bx [.int .i64 t.kind,.str t.name,.int .i64 t.sort,.gs B.length 0 4 t.kids.length]->l 2= .bx [.int .i64 0,.str [],.int .i64 0,.sl true 4 []]->
   l 10= .gs B.length 0 4 t.kids.length->l 11= .int .i64 t.kids.length->l 12= .int .i64 a.length->
  R tb (.loop f192l0) l (B ++ [Qk t.kids]) (Qh 0 (Qs tb f192r0 (QA f192 B)))=some (.agg (Qd t),B):=by
 have D:=QL t;unfold big at G;have u: ∀x y:QB,(B ++ [x]).set B.length y=B ++ [y]:=fun x y=>by rw[PE];simp
 have I: ∀x:QB,(B ++ [x])[B.length]? =some x:=fun x=>Yc;have j: (Qk t.kids).length=t.kids.length*4:=ZZ QE _;have o: (Qk t.kids).map AV.strip=Qk t.kids:=Z5 Zc _;intro b;induction b with | nil=>intro a l d n r i g h;simp only[Qy]at d;rw[<- d]at h;(have p:ZR (Qk t.kids) 0 4 t.kids.length=Qa t.kids:=by have:=X3 (f:=Qd) (k:=4) QE Zc t.kids [];rwa[TW,Qy]at this);have E: ¬t.kids.length=0:=fun e=>q (Yf e);rw[Qb f192l0.eq_1];simp[n,r,i,g,h,f192r0,E,j,p,u,SG,Tm.eta] | cons x b C=>intro a l d n r i g h;have H:=QD d;(have v:a.length < t.kids.length:=by omega);(have z: ((Qk t.kids).drop (a.length*4)).take 4=Qd x:=by have:=Vo (f:=Qd) (k:=4) QE d [];simpa using this);(have m: (Qk t.kids).take (a.length*4)++ (Qd x ++ (Qk t.kids).drop (a.length*4+4))=Qk t.kids:=by have:=OI (f:=Qd) (k:=4) QE x d [];rw[<- d]at this;simpa using this);(have s:a.length*4+4<=t.kids.length*4:=by omega);rw[Qb f192l0.eq_1];generalize Qk t.kids=c at *;simp[n,i,g,h,(wr1 a.length (by omega)),(QF d),u,j,s,o,z,(A x (by rw[d];simp)),m];refine(C (a ++ [x])) _ (by rw[d];simp) ?_ ?_ ?_ ?_ ?_ <;> simp[n,r,i,g]
def OM: ∀t b,t.mass < big->call tb 192 [.agg (Qd t)] b=some (.agg (Qd t),b):=by
 refine Yp ?_;intro k n s a l b g;have d:=QL (.mk k n s a);simp only[ZJ,Yy]at d;have m:a.length*56<=140737488355328:=by unfold big at g;omega
 rw[zcc 192 rfl rfl];have c:call tb 193 [.sl false 4 (Qa a)] b=if a.length=0 then some (.gs 0 0 0 0,b)else some (.gs b.length 0 4 a.length,b ++ [Qk a]):=by rw[Y9 tb_193];simp only[X2,QU,VE,QX,m,ZL,Fs,(Z5 Zc _)]
 by_cases f:a=[];subst f;simp[f192C,ZN,Qa]at c ⊢;simp[c];rw[Qb f192l0.eq_1];simp[f192r0];rw[Qe (fun e=>f (Yf e))]at c;have i:=fun j=>QcO (.mk k n s a) g f (fun x h b=>l x h b (by have:=QR (show x∈a from h);omega)) b a [] j rfl;simp only[UI,Yy,S8,ZJ]at i;simp[f192C];simp[ZN,c];have e:AV.agg [.int .i64 k,.str n,.int .i64 s,.sl false 4 (Qa a)]= .agg (Qd (.mk k n s a)):=by rw[ZN];rfl
 rw[e];refine i _ ?_ ?_ ?_ ?_ ?_ <;> simp
abbrev Pw:=Tm×Int
def Zb (p:Pw):QB:=Qd p.1 ++ [.int .i64 p.2]
abbrev Q9:=List Pw
def Qz (l:Q9):Qr:=l.map Zb
abbrev Ze (l:List Pw):List AV:=YZ Zb l
def QdL (p):Zb p=[.int .i64 p.1.kind,.str p.1.name,.int .i64 p.1.sort,.sl false 4 (Qa p.1.kids),.int .i64 p.2]:=by simp[Zb,ZN]
@[simp] def W7 (p): (Zb p).length=5:=by simp[Zb]
@[simp] def Wv (p): (Zb p).map AV.strip=Zb p:=by simp[Zb]
@[simp] def QvU (p): (Zb p).take 4=Qd p.1:=by simp[Zb]
@[simp] def QvV (p): (Zb p).take 5=Zb p:=Z2 (by simp)
@[simp] def QxA (p): (Zb p)[4]? =some (.int .i64 p.2):=by simp[Zb]
@[simp] def Qxq (p) (h:4 < (Zb p).length): (Zb p)[4]= .int .i64 p.2:=by simp[Zb]
def Nf:=@List.drop_append
@[simp] def QvT (p): (Zb p).drop 5=[]:=by simp[Zb,Nf]
@[simp] def Qpx (p):Q5 (Zb p)=true:=by simp[Zb,Ls]
@[simp] def QwD (l): (Qz l).length=l.length:=by simp[Qz]
@[simp] def QwC (l) (i:Nat): (Qz l)[i]? =(l[i]?).map Zb:=by simp[Qz]
def R9 (a b):Qz a ++ Qz b=Qz (a ++ b):=by simp[Qz]
def Pa (p): [Zb p]=Qz [p]:=rfl
@[simp] def Mw: ∀l:Q9,ZD (Qz l)=true
 | []=>rfl
 | p:: l=>by
  have:=Mw l;simp only[Qz]at this ⊢;simp[ZD,this]
def Wn (l): (Ze l).length=l.length*5:=ZZ W7 l
def QcX (p t B) (a:p.1.mass < big) (b:t.mass < big):call tb 190 [.agg (Zb p),.agg (Qd t)] B=some (.int .i64 (Qo p.1 t),B):=by
 rw[zcc 190 rfl rfl];simp[f190,f190C,(call_Compare p.1 t B a b)]
def QV (l:Q9):Qj:=l.map (·.1)
def PAt (l:Q9) (t:Tm) (k:Nat):Prop:=k<=l.length/\(∀(i:Nat) (p:Pw),l[i]? =some p->i < k->Qo p.1 t < 0)/\(∀(i:Nat) (p:Pw),l[i]? =some p->k<=i->¬Qo p.1 t < 0)
def hit (l:Q9) (t:Tm) (k:Nat):Bool:=match l[k]? with
 | some p=>decide (Qo p.1 t=0)
 | none=>false
def Qtf (l:Q9) (t:Tm) (B:Qr) (r:Out):Prop:=∃k,PAt l t k/\r=some (.tup [.int .i64 k,.bool (hit l t k)],B)
def Df {l:Q9} {i p} {c:QB} (h: (c.drop (i*5)).take 5=Zb p): ((c.map AV.strip).drop (i*5)).take 5=Zb p:=by
 rw[<- PG,<- SC,h,Wv]
def XR:=@List.getElem?_eq_some_iff
def L7 {l i p} (h:l[i]? =some p) (c): ((Ze l ++ c).drop (i*5)).take 5=Zb p:=by
 obtain⟨b,rfl⟩:=XR.1 h;have a:l=l.take i ++ l[i]:: l.drop (i+1):=by rw[Jz,PA]
 have:=Vo (f:=Zb) (k:=5) W7 a c;rwa[Z9,JO (by omega)]at this
def FF {i j:Nat} (h:i+j < 9223372036854775808):IntKind.i64.wrap (IntKind.u64.wrap (IntKind.i64.wrap ((i:Int)+ (j:Int))) / 2 ^ min 1 IntKind.u64.bits)=(((i+j) / 2:Nat):Int):=by
 rw[QC (n:=(i:Int)+j) (by omega) (by omega)];have a:IntKind.u64.wrap ((i:Int)+j)=(i:Int)+j:=by simp[IntKind.wrap,IntKind.bits,IntKind.signed];omega
 have b: (2:Int) ^ min 1 IntKind.u64.bits=2:=by decide
 rw[a,b,QC (by omega) (by omega)];omega
def NF:=@List.pairwise_iff_getElem
def GY:=@Nat.le_of_not_lt
def Qmg {l t B T S c} (hl:l.length < 100000000) (W:l≠[]->S=5/\B[T]? =some (Ze l ++ c)) (X: ∀p∈l,p.1.mass < big) (U:t.mass < big) (ha:Asc (QV l)):
  ∀d i j b,j - i<=d->i<=j->j<=l.length->(∀k p,l[k]? =some p->k < i->Qo p.1 t < 0)->(∀k p,l[k]? =some p->j<=k->¬Qo p.1 t < 0)->
  b 0= .gs T 0 S l.length->b 4= .bx (Qd t)->b 2= .fn 190 []->b 8= .int .i64 l.length->b 9= .int .i64 i->b 10= .int .i64 j->
  Qtf l t B (R tb (.loop f191l0) b B (Qh 0 (Qs tb f191r0 (QA f191 B)))):=by
 have x: ∀(i j:Nat) (p q:Pw),l[i]? =some p->l[j]? =some q->i<=j->Qo q.1 t < 0->Qo p.1 t < 0:=by intro i j p q n z C h;rcases ZI i j with I | hge;obtain⟨h1,rfl⟩:=XR.1 n;obtain⟨g,rfl⟩:=XR.1 z;have:=NF.1 ha i j (by simpa[QV]using h1) (by simpa[QV]using g) I;simp only[QV,List.getElem_map]at this;exact XG this h;(have:i=j:=by omega);subst this;rw[n]at z;cases z;exact h
 intro d;induction d with | zero=>intro i j b hd C L s u w G g H A a;(have:i=j:=by omega);subst this;refine⟨i,⟨L,s,u⟩,?_⟩;rw[Qb f191l0.eq_1];by_cases N:i < l.length;have n:=Za N;obtain⟨rfl,o⟩:=W (by intro e;subst e;simp at N);have M:=Df (l:=l) (L7 n c);have E:=X _ (V3 N);(have r:i*5+5<=(Ze l ++ c).length:=by rw[Q6,Wn];omega);(have f: (i:Int) < (l.length:Int):=by omega);(have P:hit l t i=decide (Qo l[i].1 t=0):=by simp[hit,n]);rw[P];generalize l[i]=p at *;have K:=QcX p t B E U;generalize Ze l ++ c=cc at *;simp[f191r0,w,g,G,H,A,a,f,o,r,M,K];(have P:hit l t i=false:=by simp[hit,ZP (GY N)]);(have f: ¬(i:Int) < (l.length:Int):=by omega);simp[f191r0,w,g,H,A,a,f,P] | succ d O=>intro i j b hd C L s u w G g H A a;by_cases I:i < j;(have D: (i+j) / 2 < l.length:=by omega);have Y:=FF (i:=i) (j:=j) (by omega);have n:=Za D;obtain⟨rfl,o⟩:=W (by intro e;subst e;simp at D);have M:=Df (l:=l) (L7 n c);have E:=X _ (V3 D);(have r: (i+j) / 2*5+5<=(Ze l ++ c).length:=by rw[Q6,Wn];omega);(have y: (i:Int) < (j:Int):=by omega);(have hb1:i<=(i+j) / 2:=by omega);(have Z: (i+j) / 2 < j:=by omega);generalize l[(i+j) / 2]=p at *;generalize hmm: (i+j) / 2=m at *;have K:=QcX p t B E U;(have J:IntKind.i64.wrap ((m:Int)+1)=((m+1:Nat):Int):=by rw[QC (by omega) (by omega)];omega);(have f: (m:Int) < (l.length:Int):=by omega);generalize hcc:Ze l ++ c=cc at *;rw[Qb f191l0.eq_1];by_cases v:Qo p.1 t < 0;have Q:=fun b=>O (m+1) j b (by omega) (by omega) L (fun k q z V=>x k m q p z n (by omega) v) u;simp[-getElem?_pos,w,g,G,A,a,y,Y,J,f,o,r,M,K,v];refine Q _ ?_ ?_ ?_ ?_ ?_ ?_ <;> simp[w,g,G,H,a];have Q:=fun b=>O i m b (by omega) (by omega) (by omega) s (fun k q z V h=>v (x m k p q n z V h));simp[-getElem?_pos,w,g,G,A,a,y,Y,J,f,o,r,M,K,v];refine Q _ ?_ ?_ ?_ ?_ ?_ ?_ <;> simp[w,g,G,H,A];exact O i j b (by omega) C L s u w G g H A a
def QnY {l t B b a c} (m:l.length < 100000000) (i:l≠[]->a=5/\B[b]? =some (Ze l ++ c)) (f: ∀p∈l,p.1.mass < big) (g:t.mass < big) (h:Asc (QV l)):
  Qtf l t B (call tb 191 [.gs b 0 a l.length,.agg (Qd t),.fn 190 []] B):=by
 rw[zcc 191 rfl rfl];simp[f191C];refine(fun j=>Qmg m i f g h l.length 0 l.length j (by omega) (by omega) (by omega) (fun k p _ d=>by omega) (fun k p e d=>by rw[ZP d]at e;cases e)) _ ?_ ?_ ?_ ?_ ?_ ?_ <;> simp
@[simp] def QfJ (t): (Qd t).drop 5=[]:=by simp
def Qru (l:Q9) (id:Nat) (B:Qr) (r:Out):Prop:=∃t,t≠[]/\r=some (.gs id 0 5 l.length,B.set id (Ze l ++ t))
def QnZ {b a p q n B t} (hn:n=b.length+1+a.length) (hl:n < 100000000) (J:B[q]? =some (Ze (b ++ p:: a)++ t)):
  Qru (b ++ a) q B (call tb 195 [.gs q 0 5 n,.int .i64 b.length,.int .i64 ((b.length:Int)+1)] B):=by
 have X:=QJ J;have T: (0:Int)<=(b.length:Int):=by omega
 have e2: (b.length:Int)<=(b.length:Int)+1:=by omega
 have P: (b.length:Int)+1<=(n:Int):=by omega
 have R: (0:Int)<=(b.length:Int)+1:=by omega
 have S: ¬(b.length:Int)=(b.length:Int)+1:=by omega
 have V: (b.length:Int)<=(n:Int):=by omega
 have U: ((b.length:Int)+1).toNat=b.length+1:=by omega
 have e8:n - (b.length+1)=a.length:=by omega
 have e9: (b.length+a.length)=n - 1:=by omega
 have e10:n - (n - 1)=1:=by omega
 have e11: ((n - 1:Nat):Int)<=(n:Int):=by omega
 have hl0:=Wn b;have o:=Wn a;have hst:=Z5 Wv a;have Y: (Ze (b ++ p:: a)++ t).length=n*5+t.length:=by rw[Q6,Wn];grind
 have i:=SQ (f:=Zb) (k:=5) W7 (l:=b ++ p:: a) (pre:=b) (post:=p:: a) rfl t;have y:=MK (f:=Zb) (k:=5) W7 (l:=b ++ p:: a) (pre:=b ++ [p]) (post:=a) (by simp) t;rw[Q6,Rn]at y;have u:Ze (b ++ p:: a)++ t≠[]:=by grind
 have Q:n*64<=140737488355328:=by omega
 have v:b.length*64<=140737488355328:=by omega
 have A: (b.length+a.length)*64<=140737488355328:=by omega
 have g: (n:Int)<=((Ze (b ++ p:: a)++ t).length:Int) / 5:=by omega
 have I:b.length<=n:=by omega
 rw[zcc 195 rfl rfl];generalize hcc:Ze (b ++ p:: a)++ t=c at *;by_cases O:a=[];subst O;have L:n - (b.length+1)=0:=by omega
 have e9':b.length=n - 1:=by omega
 have E:n - b.length=1:=by omega
 have h:b.length*5+5<=c.length:=by omega
 refine⟨List.replicate 5 .undef ++ c.drop (b.length*5+5),by simp,?_⟩;simp[-getElem?_pos,f195C,T,P,R,S,V,U,L,E,I,J,v,g,h,u,i,appM,Xt];have hz: ¬a.length=0:=fun e=>O (Yf e);have h: (b.length+1)*5+a.length*5<=c.length:=by omega
 have m: (b.length+a.length)*5<=c.length:=by omega
 have r:b.length*5<=c.length:=by omega
 have H: ((c.map AV.strip).drop ((b.length+1)*5)).take (a.length*5)=Ze a:=by rw[<- PG,y,<- o,Xp];grind
 have D: (b.length:Int)+ (a.length:Int)<=(n:Int):=by omega
 have K: (0:Int)<=(b.length:Int)+ (a.length:Int):=by omega
 have C:n - (b.length+a.length)=1:=by omega
 have M: ((b.length:Int)+ (a.length:Int)).toNat=b.length+a.length:=by omega
 have e18:b.length+a.length<=n:=by omega
 have N: ∀x:QB,(B.set q x)[q]? =some x:=fun x=>by grind
 obtain⟨d,j⟩: ∃d,YZ Zb b ++ (Ze a ++ c.drop (b.length*5+a.length*5))=d:=⟨_,rfl⟩;have W:d=Ze (b ++ a)++ c.drop ((b.length+a.length)*5):=by rw[<- j,show Ze (b ++ a)=Ze b ++ Ze a from Ve _ _ _,Yg];simp
 have Z: (Ze (b ++ a)).length=(b.length+a.length)*5:=by rw[Wn];simp
 have z:d.length=c.length:=by grind
 have w:d.take ((b.length+a.length)*5)=Ze (b ++ a):=by grind
 have s: (b.length+a.length)*5+5<=d.length:=by omega
 rw[<- z]at g;refine⟨List.replicate 5 .undef ++ d.drop ((b.length+a.length)*5+5),by simp,?_⟩;rw[z]at g;have G: (n:Int)<=(d.length:Int) / 5:=by omega
 simp[-getElem?_pos,f195C,T,P,R,S,V,U,e8,D,K,C,M,O,J,A,G,h,m,r,s,u,i,w,H,o,N,j,appM,Xt]
def XE:Q9->Tm->Int->Q9
 | [],t,n=>[(t,n)]
 | p:: r,t,n=>if Qo p.1 t < 0 then p:: XE r t n else if Qo p.1 t=0 then(if p.2+n=0 then r else(p.1,p.2+n):: r)else(t,n):: p:: r
def AA: ∀b a t n,(∀p∈b,Qo p.1 t < 0)->XE (b ++ a) t n=b ++ XE a t n
 | [],_,_,_,_=>rfl
 | p:: b,a,t,n,h=>by
  simp only[Xb,XE];rw[Qg (h p (by simp)),AA b a t n fun q c=>h q (by grind)]
def PS (B0 B:Qr) (v:AV) (l:Q9):Prop:=∃(M:Qr) (id sz:Nat),B=B0 ++ M/\v= .gs id 0 sz l.length/\
 ((sz=0/\id=0/\l=[])\/(sz=5/\B0.length<=id/\∃t,B[id]? =some (Ze l ++ t)/\Ze l ++ t≠[]))
def QkJ (B0:Qr) (l:Q9) (r:Out):Prop:=∃v B,r=some (v,B)/\PS B0 B v l
def Qjz (a):PS a a (.gs 0 0 0 0) []:=⟨[],0,0,by simp,rfl,.inl ⟨rfl,rfl,rfl⟩⟩
def WG {a M:Qr} {b} (h:a.length<=b) (x): (a ++ M).set b x=a ++ M.set (b - a.length) x:=by grind
def Q0:=@List.getElem?_cons_succ
def GX:=@List.take_append
def QcW {b B v l p} (h:PS b B v l) (hl:l.length < 50000000) (hm: ∀q∈l,q.1.mass < big/\ -100000000 < q.2/\q.2 < 100000000) (hp:p.1.mass < big) (hpn: -100000000 < p.2/\p.2 < 100000000) (ha:Asc (QV l)):
  QkJ b (XE l p.1 p.2) (call tb 189 [v,.agg (Zb p)] B):=by
 obtain⟨M,g,sz,rfl,rfl,o⟩:=h;have hb: ∃c,l≠[]->sz=5/\(b ++ M)[g]? =some (Ze l ++ c):=by
  rcases o with⟨_,_,rfl⟩ | ⟨u,_,t,L,_⟩
  ·exact⟨[],fun h=>absurd rfl h⟩
  ·exact⟨t,fun _=>⟨u,L⟩⟩
 obtain⟨c,hb⟩:=hb;obtain⟨k,⟨hk1,hk2,hk3⟩,Y⟩:=QnY (t:=p.1) (by omega) hb (fun q j=>(hm q j).1) hp ha;have a:l=l.take k ++ l.drop k:=(PA _ _).symm;have A: (l.take k).length=k:=by rw[Z9];omega
 have K:XE l p.1 p.2=l.take k ++ XE (l.drop k) p.1 p.2:=by
  conv=>lhs;rw[a]
  exact AA _ _ _ _ (by
  intro q j;obtain⟨i,hi,rfl⟩:=List.getElem_of_mem j;rw[A]at hi;exact hk2 i _ (by rw[List.getElem_take];exact Za (by omega)) hi)
 rw[zcc 189 rfl rfl];by_cases O:hit l p.1 k=true
 ·rw[O]at Y;obtain⟨q,j,hq0⟩: ∃q,l[k]? =some q/\Qo q.1 p.1=0:=by
   unfold hit at O;split at O
   ·rename_i q j;exact⟨q,j,by simpa using O⟩
   ·cases O
  have E:k < l.length:=by
   rcases ZI k l.length with h | h
   ·exact h
   ·rw[ZP h]at j;cases j
  have Q:l≠[]:=by intro e;subst e;simp at E
  have hqe:=YP _ _ hq0;have Z:l.drop k=q:: l.drop (k+1):=by
   rw[LG E];rw[Za E]at j;injection j with j;rw[j]
  have hlq:l=l.take k ++ q:: l.drop (k+1):=by rw[<- Z];exact a
  have m:XE (l.drop k) p.1 p.2=if q.2+p.2=0 then l.drop (k+1)else(q.1,q.2+p.2):: l.drop (k+1):=by
   rw[Z];simp[XE,hq0]
  rw[K,m];rcases o with⟨_,_,rfl⟩ | ⟨rfl,z,t,y,R⟩
  ·exact absurd rfl Q
  have hlt:=QJ y;have hqm:=(hm q (TD j)).2;have hw:IntKind.i64.wrap (q.2+p.2)=q.2+p.2:=QC (by omega) (by omega);have T:=L7 j t;have hlen: (Ze l ++ t).length=l.length*5+t.length:=by rw[Q6,Wn]
  have D: (Ze l ++ t)[k*5+4]? =some (.int .i64 q.2):=by
   have u: (((Ze l ++ t).drop (k*5)).take 5)[4]? =some (.int .i64 q.2):=by rw[T];simp
   rw[V1 (by omega),Vk]at u;exact u
  have H:k*5+4+1<=(Ze l ++ t).length:=by omega
  have C: (Ze l ++ t).take (k*5+4)++ (AV.int .i64 (q.2+p.2):: (Ze l ++ t).drop (k*5+4+1))=Ze (l.take k ++ (q.1,q.2+p.2):: l.drop (k+1))++ t:=by
   have u:=OI (f:=Zb) (k:=5) W7 (q.1,q.2+p.2) hlq t;rw[A]at u;rw[show Ze (l.take k ++ (q.1,q.2+p.2):: l.drop (k+1))++ t=_ from u.symm];have L: (Ze l ++ t).take (k*5+4)=(Ze l ++ t).take (k*5)++ Qd q.1:=by
    rw[List.take_add];congr 1;have: ((Ze l ++ t).drop (k*5)).take 4=(((Ze l ++ t).drop (k*5)).take 5).take 4:=by rw[LQ];rfl
    rw[this];rw[T];simp
   rw[L];simp[Zb]
  have J: (k:Int) < (l.length:Int):=by omega
  have G: ∀x:QB,((b ++ M).set g x)[g]? =some x:=fun x=>by
   have:g < (b ++ M).length:=hlt;rw[QG,Qg rfl,Qg this]
  have d: (Ze (l.take k ++ (q.1,q.2+p.2):: l.drop (k+1))++ t)[k*5+4]? =some (.int .i64 (q.2+p.2)):=by
   have h0: (l.take k ++ (q.1,q.2+p.2):: l.drop (k+1))[k]? =some (q.1,q.2+p.2):=by
    rw[Yv (by omega),A,To];rfl
   have u: (((Ze (l.take k ++ (q.1,q.2+p.2):: l.drop (k+1))++ t).drop (k*5)).take 5)[4]? =some (.int .i64 (q.2+p.2)):=by rw[L7 h0 t];simp
   rw[V1 (by omega),Vk]at u;exact u
  have U: (l.take k ++ (q.1,q.2+p.2):: l.drop (k+1)).length=l.length:=by simp;omega
  have s:k*5+4+1<=(Ze (l.take k ++ (q.1,q.2+p.2):: l.drop (k+1))++ t).length:=by rw[Q6,Wn,U];omega
  have S:IntKind.i64.wrap ((k:Int)+1)=(k:Int)+1:=QC (by omega) (by omega);have I:=fun(x:Pw) (B:Qr) (hB:B[g]? =some (Ze (l.take k ++ x:: l.drop (k+1))++ t))=>QnZ (n:=l.length) (by simp;omega) (by omega) hB;rw[A]at I;generalize N:Ze (l.take k ++ (q.1,q.2+p.2):: l.drop (k+1))++ t=c1 at *;generalize hc0:Ze l ++ t=c0 at *;by_cases V:q.2+p.2=0
  ·obtain⟨t3,ht3,X⟩:=I (q.1,q.2+p.2) ((b ++ M).set g c1) (by rw[N];exact G c1);rw[Qg V];rw[T6]at X;refine⟨.gs g 0 5 (l.take k ++ l.drop (k+1)).length,(b ++ M).set g (Ze (l.take k ++ l.drop (k+1))++ t3),?_,M.set (g - b.length) (Ze (l.take k ++ l.drop (k+1))++ t3),g,5,WG z _,rfl,.inr ⟨rfl,z,t3,G _,by simp[ht3]⟩⟩;have hwz:IntKind.i64.wrap (q.2+p.2)=0:=by rw[hw,V]
   rw[V]at C d;simp[-getElem?_pos,Ql,Q0,f189C,Y,J,y,D,H,hwz,S,C,G,d,s,X]
  ·rw[Qe V];refine⟨.gs g 0 5 l.length,(b ++ M).set g c1,?_,M.set (g - b.length) c1,g,5,WG z _,by rw[U],.inr ⟨rfl,z,t,by rw[N];exact G _,by rw[N];intro e;rw[e]at s;simp at s⟩⟩;simp[-getElem?_pos,Ql,Q0,f189C,Y,J,y,D,H,hw,S,C,G,d,s,V]
 ·have hh':hit l p.1 k=false:=by simpa using O
  have m:XE (l.drop k) p.1 p.2=p:: l.drop k:=by
   cases hd:l.drop k with
   | nil=>rfl
   | cons q r=>
    have j:l[k]? =some q:=by rw[<- List.head?_drop,hd];rfl
    have u:=hk3 k q j (QY _);have L: ¬Qo q.1 p.1=0:=by simpa[hit,j]using hh'
    simp[XE,u,L]
  rw[K,m];have P: ∃t2 W w,call tb 194 [.gs g 0 sz l.length,.int .i64 k,.sl false 5 [Zb p]] (b ++ M)=some (.gs w 0 5 (l.length+1),b ++ W)/\b.length<=w/\(b ++ W)[w]? =some (Ze (l.take k ++ p:: l.drop k)++ t2):=by
   rw[Y9 tb_194];rcases o with⟨rfl,rfl,rfl⟩ | ⟨rfl,z,t,y,R⟩
   ·have hk0:k=0:=by simpa using hk1
    subst hk0;refine⟨[],M ++ [Zb p],(b ++ M).length,?_,by simp,?_⟩
    ·simp[Lt,P1,KD]
    ·rw[<- ZU,Yc];simp[Ze,YZ]
   ·have hlt:=QJ y;have hr0:=Wn l;have H:l.length*5<=(Ze l ++ t).length:=by rw[Q6,hr0];omega
    have hcs:P1 k 5 l.length (Ze l ++ t) [Zb p]=Ze (l.take k ++ p:: l.drop k):=by
     have u: (Ze l ++ t).take (l.length*5)=Ze l:=by rw[<- hr0,JS]
     have L:=SQ (f:=Zb) (k:=5) W7 (l:=l) (pre:=l.take k) (post:=l.drop k) a [];have h3:=MK (f:=Zb) (k:=5) W7 (l:=l) (pre:=l.take k) (post:=l.drop k) a [];rw[A,Qy]at L h3;rw[Qy]at h3;unfold P1;rw[u,L,h3,show Ze (l.take k ++ p:: l.drop k)=Ze (l.take k)++ (Zb p ++ Ze (l.drop k)) by simp[Ze,Ve,SP]];rw[Xp,Xp,Z5 Wv,Z5 Wv];simp
    refine⟨[],M.set (g - b.length) []++ [Ze (l.take k ++ p:: l.drop k)],(b ++ M).length,?_,by simp,?_⟩
    ·simp only[Lt];rw[Qg ⟨trivial,by omega,by simp,(by omega),(by omega),by simpa using(by omega),by simpa using(by omega)⟩,Qe (by omega),Qg ⟨trivial,trivial⟩,y];simp only[QN];rw[Qg ⟨R,H⟩,LI,hcs,WG z];simp[KD,(Qbz Qpx _)]
    ·rw[<- ZU,Qy];have: (b ++ M).length=(b ++ M.set (g - b.length) []).length:=by simp
     rw[this,Yc]
  obtain⟨t2,W,w,hc2,h2a,h2b⟩:=P;refine⟨.gs w 0 5 (l.length+1),b ++ W,?_,W,w,5,rfl,?_,.inr ⟨rfl,h2a,t2,h2b,?_⟩⟩
  ·rw[hh']at Y;have hfold:=(QdL p).symm;have hf:Qd p.1 ++ [.int .i64 p.2]=Zb p:=rfl;simp[f189C,Y,(OM p.1 (b ++ M) hp),GX,Nf,hf,QfJ,hc2]
  ·congr 1;simp;omega
  ·intro e;have:=UV List.length e;rw[Q6,Wn]at this;simp at this
def MUL:Yi:=[109,117,108]
def INV:Yi:=[105,110,118]
def ONE:Yi:=[111,110,101]
def Xm (t:Tm):Bool:=decide (t.kind=3) && (t.name == MUL || t.name == INV || t.name == ONE)
def Gq {t} (h:Xm t=true):t.kind=3/\(t.name=MUL\/t.name=INV\/t.name=ONE):=by
 simp only[Xm,Qu,Wo,QM,Tp]at h;grind
def Ia (t d):call tb 188 [.agg (Qd t)] d=some (.bool (Xm t),d):=by
 rw[zcc 188 rfl rfl];by_cases b:t.kind=3;cases a:t.name == MUL;cases c:t.name == INV;cases e:t.name == ONE <;> simp only[MUL,INV,ONE]at a c e <;> simp[f188C,Xm,b,a,c,e,MUL,INV,ONE];simp only[MUL,INV]at a c;simp[f188C,Xm,b,a,c,MUL,INV,ONE];simp only[MUL]at a;simp[f188C,Xm,b,a,MUL,INV,ONE];simp[f188C,Xm,b]
def Ms (t d):call tb 255 [.agg (Qd t)] d=some (.bool (Xm t),d):=by
 rw[zcc 255 rfl rfl];by_cases b:t.kind=3;cases a:t.name == MUL;cases c:t.name == INV;cases e:t.name == ONE <;> simp only[MUL,INV,ONE]at a c e <;> simp[f255C,Xm,b,a,c,e,MUL,INV,ONE];simp only[MUL,INV]at a c;simp[f255C,Xm,b,a,c,MUL,INV,ONE];simp only[MUL]at a;simp[f255C,Xm,b,a,MUL,INV,ONE];simp[f255C,Xm,b]
def Vt (t:Tm):Bool:= !((t.name == MUL && decide (t.kids.length < 2)) || (t.name == INV && !decide (t.kids.length=1)) || (t.name == ONE && !decide (t.kids.length=0)))
mutual
def arB:Tm->Bool
 | .mk k n s ks=> !Xm (.mk k n s ks) || (Vt (.mk k n s ks) && arL ks)
def arL:List Tm->Bool
 | []=>true
 | t:: ts=>arB t && arL ts
end
def AD (t):arB t=(!Xm t || (Vt t && arL t.kids)):=by cases t;simp[arB]
mutual
def Vh:List Pw->Tm->Int->List Pw
 | l,.mk k n s ks,m=>if Xm (.mk k n s ks)then Wk l ks (if n == INV then -m else m)else XE l (.mk k n s ks) m
def Wk:List Pw->List Tm->Int->List Pw
 | l,[],_=>l
 | l,t:: ts,m=>Wk (Vh l t m) ts m
end
def Ug (l t m):Vh l t m=if Xm t then Wk l t.kids (if t.name == INV then -m else m)else XE l t m:=by cases t;simp[Vh]
def Qfk (t d) (n:t.mass < big) (o: ∀x∈t.kids,∀d,call tb 254 [.agg (Qd x)] d=some (.bool (arB x),d)):
  ∀a b c,t.kids=b ++ a->c 1= .bx (Qd t)->c 3= .int .i64 t.kids.length->c 4= .int .i64 b.length->
  R tb (.loop f254l0) c d (Qh 0 (Qs tb f254r0 (QA f254 d)))=some (.bool (arL a),d):=by
 have p:=QL t;unfold big at n;intro a;induction a with | nil=>intro b c e h f g;simp only[Qy]at e;rw[<- e]at g;rw[Qb f254l0.eq_1];simp[h,f,g,f254r0,arL] | cons x a q=>intro b c e h f g;have k:=Qv e;have r:=QD e;have i:=wr1 b.length (by omega);have j:=QF e;have l:=o x (by grind) d;rw[Qb f254l0.eq_1];cases m:arB x;simp[h,f,g,k,i,j,l,m,arL];simp[h,f,g,k,i,j,l,m,arL];refine(fun c=>q (b ++ [x]) c (by grind)) _ ?_ ?_ ?_ <;> simp[h,f]
def Qfu: ∀t h,t.mass < big->call tb 254 [.agg (Qd t)] h=some (.bool (arB t),h):=by
 refine Yp ?_;intro k n s b q h p;have i:=fun m=>Qfk (.mk k n s b) h p (fun x j h=>q x j h (by have:=QR j;have:=QL (.mk k n s b);omega)) b [] m rfl;have a:=Ms (.mk k n s b) h;rw[zcc 254 rfl rfl,AD];cases f:Xm (.mk k n s b);simp[f254C,a,f];have o: ((Qd (.mk k n s b)).map AV.strip)=Qd (.mk k n s b):=Zc _;obtain⟨rfl,l⟩:=Gq f;simp only[Yy]at l;simp only[ZJ]at i;rcases l with rfl | rfl | rfl;by_cases d:b.length < 2;have g: (b.length:Int) < 2:=by omega
 have c:Vt (.mk 3 MUL s b)=false:=by simp[Vt,d]
 simp only[c];simp[MUL]at a f c;simp[f254C,a,f,MUL,g];have g: ¬(b.length:Int) < 2:=by omega
 have c:Vt (.mk 3 MUL s b)=true:=by simp[Vt,d];simp[MUL,INV,ONE]
 simp only[c];simp[MUL]at a f c i;simp[f254C,a,f,MUL,g];simp_all;by_cases d:b.length=1;have g: (b.length:Int)=1:=by omega
 have c:Vt (.mk 3 INV s b)=true:=by simp[Vt,d];simp[MUL,INV,ONE]
 simp only[c];simp[INV]at a f c i;simp[f254C,a,f,INV,g];simp_all;have g: ¬(b.length:Int)=1:=by omega
 have c:Vt (.mk 3 INV s b)=false:=by simp[Vt,d]
 simp only[c];simp[INV]at a f c;simp[f254C,a,f,INV,g];by_cases d:b=[];subst d;have c:Vt (.mk 3 ONE s [])=true:=by simp[Vt];simp[MUL,INV,ONE]
 simp only[c];simp[ONE]at a f c i;simp[f254C,a,f,ONE];simp_all;have r: ¬b.length=0:=fun e=>d (Yf e);have g: ¬(b.length:Int)=0:=by omega
 have c:Vt (.mk 3 ONE s b)=false:=by simp[Vt,d]
 simp only[c];simp[ONE]at a f c;simp[f254C,a,f,ONE,d]
def KF {n} (h:n < 100000000):n*64<=140737488355328:=by omega
def HB (l t m g) (C:l.length < 100000000) (B: ∀q∈l,q.1.mass < big) (A:t.mass < big):
  ∀a c b o d,l=c ++ a->b.length+a.length < 100000000->(∀q∈a,q.2≠0/\Qo t q.1≠0)->d 0= .sl o 5 (Qz l)->d 2= .int .i64 m->d 4= .bx (Qd t)->d 7= .sl true 5 (Qz b)->d 8= .bool true->d 9= .int .i64 c.length->
  R tb (.loop f257l0) d g (Qh 0 (Qs tb f257r0 (QA f257 g)))=some (.sl false 5 (Qz (b ++ a)),g):=by
 intro a;induction a with | nil=>intro c b o d e w n i j f r h k;simp only[Qy]at e;rw[<- e]at k;rw[Qb f257l0.eq_1];simp[i,j,f,r,h,k,f257r0] | cons q a v=>intro c b o d e w n i j f r h k;have y:=QD e;obtain⟨s,p⟩:=n q (by simp);have z: (b.length+1)*64<=140737488355328:=KF (by grind);have u:=fun d=>v (c ++ [q]) (b ++ [q]) o d (by grind) (by grind) (fun x D=>n x (by grind));simp only[ZU,Xb,Y4]at u;rw[Qb f257l0.eq_1];simp[i,j,f,r,h,k,(Qv e),(QF e),(wr1 c.length (by omega)),(UH t q.1 g A (B q (by grind))),s,p,z,Pa,R9];refine u _ ?_ ?_ ?_ ?_ ?_ ?_ <;> simp[i,j,f,h]
def NZ (l:Q9):Prop:=∀q∈l,q.2≠0
def JC:=@List.pairwise_append
def QkU (l t m y) (hl:l.length < 50000000) (K: ∀q∈l,q.1.mass < big/\ -100000000 < q.2/\q.2 < 100000000) (hmm: -100000000 < m/\m < 100000000) (L:t.mass < big) (X:Asc (QV l)) (V:NZ l):
  ∀a c b o d,l=c ++ a->b.length+a.length < 50000000->d 0= .sl o 5 (Qz l)->d 2= .int .i64 m->d 4= .bx (Qd t)->d 7= .sl true 5 (Qz b)->d 8= .bool false->d 9= .int .i64 c.length->
  R tb (.loop f257l0) d y (Qh 0 (Qs tb f257r0 (QA f257 y)))=some (.sl false 5 (Qz (b ++ XE a t m)),y):=by
 intro a;induction a with | nil=>intro c b o d f j i e h u z w;simp only[Qy]at f;rw[<- f]at w;have s: (b.length+1)*64<=140737488355328:=KF (by omega);have S:Qd t ++ [.int .i64 m]=Zb (t,m):=rfl;rw[Qb f257l0.eq_1];simp[i,e,h,u,z,w,f257r0,XE,s,Nf,S,Pa,R9] | cons q a IH=>intro c b o d f j i e h u z w;have M:=Qv f;have hll:=QD f;have n:=wr1 c.length (by omega);have k:=QF f;(have G:q∈l:=by grind);have T:=K q G;have H:=V q G;have J:=UH t q.1 y L T.1;have s: (b.length+1)*64<=140737488355328:=KF (by omega);have p: (b.length+1+1)*64<=140737488355328:=KF (by omega);(have Q: ∀x∈a,Qo q.1 x.1 < 0:=by intro x v;have W:=X;rw[f,QV,Xp,ZO]at W;have e:=(JC.1 W).2.1;exact(Uy.1 e).1 x.1 (List.mem_map_of_mem v));have E: ∀x∈a,x.2≠0:=fun x v=>V x (by grind);have S:Qd t ++ [.int .i64 m]=Zb (t,m):=rfl;have P:=XU t q.1;rw[Qb f257l0.eq_1];by_cases U:Qo q.1 t < 0;(have D: ¬Qo t q.1 < 0:=by omega);(have A: ¬Qo t q.1=0:=by omega);have g:=fun d=>IH (c ++ [q]) (b ++ [q]) o d (by rw[f];simp) (by clear s p;simp at j ⊢;omega);simp only[ZU,Xb,Y4]at g;simp only[XE,U,QU];simp[i,e,h,u,z,w,M,k,n,J,H,D,A,s,Pa,R9];refine g _ ?_ ?_ ?_ ?_ ?_ ?_ <;> simp[i,e,h,z];by_cases I:Qo q.1 t=0;(have D: ¬Qo t q.1 < 0:=by omega);(have A:Qo t q.1=0:=by omega);have Z:=YP _ _ I;have O:IntKind.i64.wrap (q.2+m)=q.2+m:=QC (by omega) (by omega);have r: ∀x∈a,x.2≠0/\Qo t x.1≠0:=fun x v=>⟨E x v,by grind⟩;(have Y: (Zb q).take 4 ++ [.int .i64 (q.2+m)]=Zb (q.1,q.2+m):=by simp[Zb]);by_cases N:q.2+m=0;have g:=fun d=>HB l t m y (by omega) (fun q B=>(K q B).1) L a (c ++ [q]) b o d (by rw[f];simp) (by omega) r;simp only[XE,I,N,QU];(have C: (Zb q).take 4 ++ [.int .i64 0]=Zb (q.1,0):=by grind);simp[i,e,h,u,z,w,M,k,n,J,A,N,Pa,R9];refine g _ ?_ ?_ ?_ ?_ ?_ ?_ <;> simp[i,e,h,u];have g:=fun d=>HB l t m y (by omega) (fun q B=>(K q B).1) L a (c ++ [q]) (b ++ [(q.1,q.2+m)]) o d (by rw[f];simp) (by clear s p;simp at j ⊢;omega) r;simp only[ZU,Xb,Y4]at g;simp only[XE,I,N,QU,ZM];have C:Qd q.1 ++ [.int .i64 (q.2+m)]=Zb (q.1,q.2+m):=rfl;simp[i,e,h,u,z,w,M,k,n,O,J,A,N,s,C,Pa,R9];refine g _ ?_ ?_ ?_ ?_ ?_ ?_ <;> simp[i,e,h];(have D:Qo t q.1 < 0:=by omega);(have A: ¬Qo t q.1=0:=by omega);have r: ∀x∈a,x.2≠0/\Qo t x.1≠0:=fun x v=>⟨E x v,by have:=XG D (Q x v);omega⟩;have g:=fun d=>HB l t m y (by omega) (fun q B=>(K q B).1) L a (c ++ [q]) (b ++ [(t,m),q]) o d (by rw[f];simp) (by clear s p;simp at j ⊢;omega) r;simp only[ZU,Xb,Y4]at g;simp only[XE,U,I,ZM];simp[i,e,h,u,z,w,M,k,n,J,H,D,A,s,p,GX,Nf,S,Pa,R9];refine g _ ?_ ?_ ?_ ?_ ?_ ?_ <;> simp[i,e,h]
end Go.Am
