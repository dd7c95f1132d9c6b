/-
  Rc11, Rc12, Rc13, Rc14, Rc15, Rc16, Rc17.
-/
import Derived.Test.YthlnfdbbneaelaaGreatDoorG12
set_option linter.all false
open Go.Am.F
namespace Go.Am
set_option maxRecDepth 20000
def Qd1 {c:Qx} {n p a x v} (k:c.length=n*4) (g:p=a.length) (h:p < n) (j: (c.map AV.strip).take (p*4)=Ql a) (l:v.strip= .sl false 4 (Qa x.kids)):
  ((c.take (p*4)++ (Qd x ++ c.drop (p*4+4))).set (p*4+3) v).length=n*4/\
  ((((c.take (p*4)++ (Qd x ++ c.drop (p*4+4))).set (p*4+3) v).map AV.strip).take ((p+1)*4))=Ql (a ++ [x]):=by
 have f: (c.take (p*4)).length=p*4:=by rw[Ye];omega
 have b:=QG x;refine⟨by simp[f,b,k];omega,?_⟩;have e: (c.take (p*4)++ (Qd x ++ c.drop (p*4+4))).set (p*4+3) v=c.take (p*4)++ ([.int .i64 x.kind,.str x.name,.int .i64 x.sort,v]++ c.drop (p*4+4)):=by rw[Pk,Qb (by omega),f,show p*4+3 - p*4=3 by omega,Ya];simp
 rw[e,Xt,Xt,S7,j];have i: [AV.int .i64 x.kind,.str x.name,.int .i64 x.sort,v].map AV.strip=Qd x:=by rw[Ya];simp[l]
 have d: (Ql a).length=p*4:=by rw[Yl QG,g]
 rw[i,<- ZX,Pq (by simp[d,b];omega),Z7 (by simp[d,b];omega)];simp[Ql,Vp,Ov]
def LF:=@List.take_take
def QaJ {c:Qx} {n p a x} (k:c.length=n*4) (e:p=a.length) (h:p < n) (j: (c.map AV.strip).take ((p+1)*4)=Ql (a ++ [x])) (i:x.kids=[]):
  (c.take (p*4+3)++ ([AV.sl false 4 []]++ c.drop (p*4+3+1))).length=n*4/\
  ((c.take (p*4+3)++ ([AV.sl false 4 []]++ c.drop (p*4+3+1))).map AV.strip).take ((p+1)*4)=Ql (a ++ [x]):=by
 have g: (c.take (p*4+3)).length=p*4+3:=by rw[Ye];omega
 refine⟨by simp[g,k];omega,?_⟩;have d:Ql (a ++ [x])=Ql a ++ [.int .i64 x.kind,.str x.name,.int .i64 x.sort]++ [.sl false 4 []]:=by simp[Ql,Vp,Ov,Ya,i,Qa]
 have b: (Ql a).length=p*4:=by rw[Yl QG,e]
 have f: (c.take (p*4+3)).map AV.strip=Ql a ++ [.int .i64 x.kind,.str x.name,.int .i64 x.sort]:=by(have l: ((c.map AV.strip).take ((p+1)*4)).take (p*4+3)=(c.map AV.strip).take (p*4+3):=by rw[LF];congr 1;omega);rw[S7,<- l,j,d,Pq (by simp[b]),Z7 (by simp[b])]
 rw[Xt,Xt,f,<- ZX,Pq (by simp[b];omega),Z7 (by simp[b];omega),d];simp
def Qme (l B) (hl:l.length < 100000000) (J:l≠[]) (W: ∀x∈l,x.mass < big) (Z: ∀x∈l,∀I,TH x.kids I (call tb 184 [.sl false 4 (Qa x.kids)] I)):
  ∀d a c n,l=a ++ d->c.length=l.length*4->(c.map AV.strip).take (a.length*4)=Ql a->n 3= .gs B.length 0 4 l.length->n 9= .sl false 4 (Qa l)->n 10= .int .i64 l.length->n 11= .int .i64 a.length->
  TH l B (R tb (.loop f184l0) n (B ++ [c]) (Qi 0 (Qu tb f184r0 (Qz f184 B)))):=by
 have M: ∀x y:Qx,(B ++ [x]).set B.length y=B ++ [y]:=fun x y=>by rw[Pk];simp
 have eg: ∀x:Qx,(B ++ [x])[B.length]? =some x:=fun x=>Yv;intro d;induction d with | nil=>intro a c n p L H u w g i;simp only[QH]at p;rw[<- p]at i H;have Y: ¬l.length=0:=fun e=>J (Yu e);(have K:ZW c 0 4 l.length=Qa l:=by(have e1:c.map AV.strip=Ql l:=by rw[<- H,Z7 (by simp[L])]);(have e2:ZW c 0 4 l.length=ZW (c.map AV.strip) 0 4 l.length:=by unfold ZW;apply S6;intro k _;rw[<- O5,<- S7,Mc];apply S6;intro v _;exact(OP v).symm);rw[e2,e1];have:=Wd (f:=Qd) (k:=4) QG Zi l [];rwa[Sn,QH]at this);have P:=YG l;(have r:l.length*4<=c.length:=by omega);refine⟨true,?_⟩;rw[Qc f184l0.eq_1];simp[u,w,g,i,f184r0,Z8,Y,r,M,K] | cons x d Q=>intro a c n p L H u w g i;have P:=QB p;have hll:=QJ p;have A:=wr1 a.length (by omega);have G:=QN p;(have b:a.length < l.length:=by omega);have T:=W x (by rw[p];simp);have C:=fun I=>KZ x x true I T T;obtain⟨o,q⟩:=Z x (by rw[p];simp) (B ++ [c.take (a.length*4)++ (Qd x ++ c.drop (a.length*4+4))]);(have r:a.length*4+4<=c.length:=by omega);obtain⟨N,S⟩:=Qd1 (v:= .sl o 4 (Qa x.kids)) L rfl b H rfl;(have s:a.length*4+3 < (c.take (a.length*4)++ (Qd x ++ c.drop (a.length*4+4))).length:=by simp;omega);generalize E:c.take (a.length*4)++ (Qd x ++ c.drop (a.length*4+4))=O at *;(have z: ∀h:a.length < (Qa l).length,(Qa l)[a.length]=Qd x:=fun h=>by have:=Q0 h;rw[Sh,P]at this;injection this with this;exact this.symm);rw[Qc f184l0.eq_1];by_cases m:x.kids=[];obtain⟨U,V⟩:=QaJ N rfl b S m;(have j:a.length*4+3+1<=(O.set (a.length*4+3) (.sl o 4 (Qa x.kids))).length:=by rw[N];omega);have D:=fun n=>Q (a ++ [x]) _ n (by rw[p];simp) U (by simpa using V);rw[m]at q j D;(have t:a.length*4+3+1<=O.length:=by simpa using j);simp only[Qa,XQ,Xg]at q j D;simp[u,w,g,i,z,G,b,A,Qf,C,M,r,E,q,s,m,Qa,t];refine D _ ?_ ?_ ?_ ?_ <;> simp[u,w,g];(have X: ¬(x.kids.length:Int)=0:=by intro e;exact m (Yu (by omega)));have D:=fun n=>Q (a ++ [x]) _ n (by rw[p];simp) N (by simpa using S);simp[u,w,g,i,z,G,b,A,Qf,C,M,r,E,q,s,m];refine D _ ?_ ?_ ?_ ?_ <;> simp[u,w,g]
def Qjg (l o a) (k:l.length < 100000000) (h: ∀x∈l,x.mass < big) (f: ∀x∈l,∀a,TH x.kids a (call tb 184 [.sl false 4 (Qa x.kids)] a)):
  TH l a (call tb 184 [.sl o 4 (Qa l)] a):=by
 have j:l.length*56<=140737488355328:=Wb (by omega);have e: (l.length:Int)<=4611686018427387904:=by omega
 rw[zcc 184 rfl rfl];by_cases b:l=[];subst b;refine⟨false,?_⟩;simp[f184C,Qa];rw[Qc f184l0.eq_1];simp[f184r0,Z8];have d: (List.replicate l.length [AV.int .i64 0,.str [],.int .i64 0,.sl true 4 []]).flatten.length=l.length*4:=by simp
 have i:=(fun c g m=>Qme l a k b h f l [] c m rfl g (by simp[Y4])) _ d;simp[f184C,j,e];refine i _ ?_ ?_ ?_ ?_ <;> simp
def QaI: ∀(t:Tm) a,t.mass < 100000000->TH t.kids a (call tb 184 [.sl false 4 (Qa t.kids)] a):=by
 refine YC ?_;intro k n s d e a f;have c:=QI (.mk k n s d);simp only[ZP,Y5]at c ⊢;exact Qjg d false a (by omega) (fun x b=>by have:=QY b;unfold big;omega) fun x b a=>e x b a (by have:=QY b;omega)
def Qk7 (l o a) (d:l.length < 100000000) (c: ∀x∈l,x.mass < 100000000):TH l a (call tb 184 [.sl o 4 (Qa l)] a):=
 Qjg l o a d (fun x b=>by have:=c x b;unfold big;omega) fun x b a=>QaI x a (c x b)
def QU:Tm:= .mk 0 [] 0 []
def Zj:Qd QU=[.int .i64 0,.str [],.int .i64 0,.sl false 4 []]:=by simp[QU,Qd,Qa]
def tmX:Qj->Tm
 | []=> .mk 3 Ys 0 []
 | [p]=>p
 | p:: q:: r=> .mk 3 XOR 0 (p:: q:: r)
def W5 (l:Qj):Tm×Int:=if VU l≠0 then(QU,VU l)else if QR (tmX (Z0 [] l))≠0 then(QU,3)else(tmX (Z0 [] l),0)
def ZD (r:Tm×Int):AV:= .tup [.agg (Qd r.1),.int .i64 r.2]
def Fx (t): ∀l:Qj,Qv (ZA t l)<=Qv l+t.mass
 | []=>by simp[ZA,Qv]
 | x:: a=>by
  have:=Fx t a;simp only[ZA];split;simp only[Qv];omega;split;omega;simp only[Qv];omega
def QfR (l t):Qv (WS l t)<=Qv l+t.mass:=by
 unfold WS;split;have: ∀(l:Qj) (p:Tm->Bool),Qv (l.filter p)<=Qv l:=by intro l p;induction l with | nil=>simp | cons x b a=>rw[Jy];split <;> simp only[Qv] <;> omega
 grind;exact Fx t l
def I9: ∀b a,Qv (Yz a b)<=Qv a+Qv b
 | [],a=>by simp[Yz,Qv]
 | x:: b,a=>by
  have c:=I9 b (WS a x);have d:=QfR a x;simp only[Yz,O3,Qv]at *;omega
mutual
theorem QfQ: ∀t:Tm,Qv (QD t)<=t.mass
 | .mk k n s ks=>by
  simp only[QD];split
  ·simp[Qv]
  ·split
   ·have:=Nz ks [];simp only[Qv,Tm.mass]at *;omega
   ·simp[Qv]
theorem Nz: ∀(ts acc:List Tm),Qv (Z0 acc ts)<=Qv acc+Qv ts
 | [],acc=>by simp[Z0,Qv]
 | t:: ts,acc=>by
  have h1:=Nz ts (Yz acc (QD t));have h2:=I9 (QD t) acc;have h3:=QfQ t;simp only[Z0,Qv]at *;omega
end
def Qbu (l): (tmX l).mass<=10+l.length+Qv l:=by
 unfold tmX;split;simp[Tm.mass,Qv,Ys];simp[Qv];simp[Tm.mass,Qv,XOR]
def QkE (l i) (L:Qv l < 20000000) (M:l.length < 20000000) (k:Kn)
  (w: ∀(o:Bool) (c:Yd),c 2= .bx [.int .i64 0,.str [],.int .i64 0,.sl true 4 []]->c 5= .sl o 4 (Qa (Z0 [] l))->R tb f178r0 c i (Qz f178 i)=some (ZD (W5 l),i)):
  ∀b d a o c,l=d ++ b->Z0 a b=Z0 [] l->a.length+Qs b < 25000000->Asc a->(∀x∈a,x.mass < big)->c 2= .bx [.int .i64 0,.str [],.int .i64 0,.sl true 4 []]->c 5= .sl o 4 (Qa a)->c 15= .sl false 4 (Qa l)->c 16= .int .i64 l.length->c 17= .int .i64 d.length->
  R tb (.loop f178l0) c i (Qi 0 (Qu tb f178r0 (Qz f178 i)))=some (ZD (W5 l),i):=by
 intro b;induction b with | nil=>intro d a o c m q B j p z t e g f;simp only[QH]at m;rw[<- m]at f;simp only[Z0]at q;subst q;rw[Qc f178l0.eq_1];simp[e,g,f];refine w o _ ?_ ?_ <;> simp[z,t] | cons x b C=>intro d a o c m q B j p z t e g f;have H:=QJ m;(have u:x∈l:=by grind);have E:=QY u;have I:=YU x;have G:=WC x;simp only[Qs]at B;obtain⟨K,s⟩:=Rg x i (by omega);(have r: ∀y∈QD x,y.mass < big:=fun y A=>by have:=V5 x y (Rx x y A);unfold big;omega);obtain⟨J,n⟩:=EU a (QD x) false false i (by omega) p r;rw[QaO j (WV x)]at n;have D:=UR (QD x) a;(have v: ∀y∈Yz a (QD x),y.mass < big:=fun y A=>by rcases W0 (WV x) A with h | h;grind;grind);rw[Qc f178l0.eq_1];simp[t,e,g,f,(QB m),(QN m),(wr1 d.length (by omega)),Qf,s,n];refine(fun c=>C (d ++ [x]) (Yz a (QD x)) J c (by grind) q (by omega) (RC _ _ j) v) _ ?_ ?_ ?_ ?_ ?_ <;> simp[z,e,g]
def Qk6 (l o b) (w:Qv l < 20000000) (v:l.length < 20000000):call tb 178 [.sl o 4 (Qa l)] b=some (ZD (W5 l),b):=by
 have s:=Qfd l false true b (by omega) (fun x j=>by have:=QY j;unfold big;omega);have E:=Y6 l;have m:VU l=0->∀(o:Bool) (f:Yd),f 2= .bx [.int .i64 0,.str [],.int .i64 0,.sl true 4 []]->f 5= .sl o 4 (Qa (Z0 [] l))->R tb f178r0 f b (Qz f178 b)=some (ZD (W5 l),b):=by intro i o f g e;have A:=KT l [];have y:=Nz l [];have D:=Qbu (Z0 [] l);simp only[Qv,Xy,Z1]at A y;obtain⟨C,c⟩:=Qk7 (Z0 [] l) false b (by omega) (fun x j=>by have:=QY j;omega);have a:=Tr (tmX (Z0 [] l)) b (by unfold big;omega);(have u:W5 l=if QR (tmX (Z0 [] l))≠0 then(QU,3)else(tmX (Z0 [] l),0):=by simp[W5,i]);rw[u];generalize Z0 [] l=z at *;match z with | []=>(have d:Qd (tmX [])=[.int .i64 3,.str Ys,.int .i64 0,.sl false 4 []]:=by simp[tmX,Qd,Qa]);rw[d]at a;simp only[Ys]at a d;simp only[Qa]at c e;by_cases h:QR (tmX [])=0;simp[f178r0,e,c,g,a,h,ZD,d];simp[f178r0,e,c,g,a,h,ZD,Zj] | [p]=>simp only[tmX]at a ⊢;by_cases h:QR p=0;simp[f178r0,e,c,g,a,h,ZD,Qf];simp[f178r0,e,c,g,a,h,ZD,Zj,Qf] | p:: q:: r=>(have d:Qd (tmX (p:: q:: r))=[.int .i64 3,.str XOR,.int .i64 0,.sl false 4 (Qa (p:: q:: r))]:=by simp[tmX,Qd]);rw[d]at a;simp only[XOR]at a d;(have n: ¬((r.length:Int)+1+1=0):=by omega);(have t: ¬((r.length:Int)+1+1=1):=by omega);by_cases h:QR (tmX (p:: q:: r))=0;simp[f178r0,e,c,g,a,h,n,t,ZD,d];simp[f178r0,e,c,g,a,h,n,t,ZD,Zj]
 rw[zcc 178 rfl rfl];by_cases k:VU l=0;have h:=fun f=>QkE l b w v (Qz f178 b) (m k) l [] [] true f rfl rfl (by grind) Asc.nil (by simp);simp[f178C,s,k];refine h _ ?_ ?_ ?_ ?_ ?_ <;> simp[Qa];have B: (VU l != 0)=true:=by grind
 simp[f178C,s,k,B,W5,ZD,Zj]
def Qfa (a):call tb 245 [] a=some (.agg (Qd (.mk 3 Ys 0 [])),a):=by
 have h:=RF Ys [] true a (by simp);simp only[Ys,Qa]at h;rw[zcc 245 rfl rfl];simp[f245,f245C,h,Ys,Qf]
def QbO (l o a) (e:l.length < 100000000):call tb 251 [.sl o 4 (Qa l)] a=some (.agg (Qd (tmX l)),a):=by
 have h:=RF Ys [] true a (by simp);simp only[Ys,Qa]at h;rw[zcc 251 rfl rfl];match l with | []=>simp[f251C,h,Ys,Qf,tmX] | [p]=>simp[f251C,Qf,tmX] | p:: q:: r=>(have c: ¬((r.length:Int)+1+1=0):=by omega);(have b: ¬((r.length:Int)+1+1=1):=by omega);have d: (r.length+1+1)*56<=140737488355328:=Wb (by grind);simp[f251C,c,b,d,tmX,Qd,XOR]
def Jl (l t i) (s:l.length < 100000000) (r: ∀x∈l,x.mass < big) (p:t.mass < big): ∀a b c,l=b ++ a->c 0= .sl false 4 (Qa l)->c 3= .bx (Qd t)->c 5= .int .i64 b.length->
  R tb (.loop f246l0) c i (Qi 0 (Qu tb f246r0 (Qz f246 i)))=some (.int .i64 (if Wa a≠0 then Wa a else QR t),i):=by
 intro a;induction a with | nil=>intro b c d g m e;simp only[QH]at d;rw[<- d]at e;have j:=WW t i p;rw[Qc f246l0.eq_1];simp[g,m,e,f246r0,Wa,Qf,j] | cons x a o=>intro b c d g m e;have n:=QB d;have q:=QJ d;have f:=wr1 b.length (by omega);have h:=QN d;have j:=WW x i (r x (by grind));rw[Qc f246l0.eq_1];by_cases k:QR x=0;simp only[Wa,k,ne_eq,N9,ZT];simp[g,e,n,h,f,Qf,j,k];have:=fun c=>o (b ++ [x]) c (by grind);simp only[ne_eq]at this;rw[this] <;> simp[g,m];simp[g,e,n,h,f,Qf,j,k,Wa]
def QgD:QR (.mk 3 Ys 0 [])=0:=by decide
def Ah (l o b) (g:l.length < 100000000) (d: ∀x∈l,x.mass < big):call tb 246 [.sl o 4 (Qa l),.agg (Qd (.mk 3 Ys 0 []))] b=some (.int .i64 (VU l),b):=by
 have h:=fun f=>Jl l (.mk 3 Ys 0 []) b g d (by simp[Tm.mass,Qv,Ys,big]) l [] f rfl;rw[QgD]at h;have e: (if Wa l≠0 then Wa l else 0)=Wa l:=by omega
 rw[e]at h;rw[zcc 246 rfl rfl];by_cases c:200 < l.length;have a: (200:Int) < (l.length:Int):=by omega
 simp[f246C,a,c,VU];have a: ¬(200:Int) < (l.length:Int):=by omega
 simp[f246C,a,c,VU];simp_all
def QeW (l e) (H:Qv l < 20000000) (G:l.length < 20000000)
  (r: ∀(o:Bool) (d:Yd),d 2= .bx [.int .i64 0,.str [],.int .i64 0,.sl true 4 []]->d 5= .sl o 4 (Qa (Z0 [] l))->R tb f244r0 d e (Qz f244 e)=some (ZD (W5 l),e)):
  ∀b c a o d,l=c ++ b->Z0 a b=Z0 [] l->a.length+Qs b < 25000000->(∀x∈a,x.mass < big)->d 0= .sl false 4 (Qa l)->d 2= .bx [.int .i64 0,.str [],.int .i64 0,.sl true 4 []]->d 5= .sl o 4 (Qa a)->d 6= .int .i64 c.length->
  R tb (.loop f244l0) d e (Qi 0 (Qu tb f244r0 (Qz f244 e)))=some (ZD (W5 l),e):=by
 intro b;induction b with | nil=>intro c a o d f j v g i s m k;simp only[QH]at f;rw[<- f]at k;simp only[Z0]at j;subst j;rw[Qc f244l0.eq_1];simp[i,m,k];refine r o _ ?_ ?_ <;> simp[s,m] | cons x b w=>intro c a o d f j v g i s m k;have B:=QJ f;(have u:x∈l:=by grind);have z:=QY u;have A:=YU x;have C:=WC x;simp only[Qs]at v;obtain⟨E,q⟩:=P9 x e (by omega);(have p: ∀y∈QD x,y.mass < big:=fun y n=>by have:=V5 x y (Rx x y n);unfold big;omega);have D:=UR (QD x) a;(have t: ∀y∈Yz a (QD x),y.mass < big:=fun y n=>by rcases W0 (WV x) n with h | h;grind;grind);rw[Qc f244l0.eq_1];simp[i,m,k,(QB f),(QN f),(wr1 c.length (by omega)),Qf,q,(L8 a (QD x) false false e (by omega) (by omega) g p)];refine(fun d=>w (c ++ [x]) (Yz a (QD x)) false d (by grind) j (by omega) t) _ ?_ ?_ ?_ ?_ <;> simp[i,s]
def Qe8 (l o a) (t:Qv l < 20000000) (r:l.length < 20000000):call tb 244 [.sl o 4 (Qa l)] a=some (ZD (W5 l),a):=by
 have k:=Ah l false a (by omega) (fun x p=>by have:=QY p;unfold big;omega);have j:=Qfa a;have y:=Y6 l;have d:VU l=0->∀(o:Bool) (b:Yd),b 2= .bx [.int .i64 0,.str [],.int .i64 0,.sl true 4 []]->b 5= .sl o 4 (Qa (Z0 [] l))->R tb f244r0 b a (Qz f244 a)=some (ZD (W5 l),a):=by intro c o b m i;have q:=KT l [];have s:=Nz l [];have w:=Qbu (Z0 [] l);simp only[Qv,Xy,Z1]at q s;have g:=QbO (Z0 [] l) false a (by omega);have f:=WW (tmX (Z0 [] l)) a (by unfold big;omega);(have v:W5 l=if QR (tmX (Z0 [] l))≠0 then(QU,3)else(tmX (Z0 [] l),0):=by simp[W5,c]);rw[v];generalize tmX (Z0 [] l)=u at *;generalize Z0 [] l=z at *;by_cases h:QR u=0;simp[f244r0,i,g,m,f,h,ZD,Qf];simp[f244r0,i,g,m,f,h,ZD,Zj,Qf]
 rw[zcc 244 rfl rfl];by_cases e:VU l=0;have h:=fun b=>QeW l a t r (d e) l [] [] true b rfl rfl (by grind) (by simp);simp[f244C,j,k,e];refine h _ ?_ ?_ ?_ ?_ <;> simp[Qa];have n: (VU l != 0)=true:=by grind
 simp[f244C,j,k,e,n,W5,ZD,Zj]
def Qct (t) (G:t.mass < big) (q:t.kids≠[]) (A: ∀x∈t.kids,∀w,call tb 192 [.agg (Qd x)] w=some (.agg (Qd x),w)) (B):
  ∀b a l,t.kids=a ++ b->l 1= .bx [.int .i64 t.kind,.str t.name,.int .i64 t.sort,.gs B.length 0 4 t.kids.length]->l 2= .bx [.int .i64 0,.str [],.int .i64 0,.sl true 4 []]->
   l 10= .gs B.length 0 4 t.kids.length->l 11= .int .i64 t.kids.length->l 12= .int .i64 a.length->
  R tb (.loop f192l0) l (B ++ [Ql t.kids]) (Qi 0 (Qu tb f192r0 (Qz f192 B)))=some (.agg (Qd t),B):=by
 have D:=QI t;unfold big at G;have u: ∀x y:Qx,(B ++ [x]).set B.length y=B ++ [y]:=fun x y=>by rw[Pk];simp
 have I: ∀x:Qx,(B ++ [x])[B.length]? =some x:=fun x=>Yv;have j: (Ql t.kids).length=t.kids.length*4:=Yl QG _;have o: (Ql t.kids).map AV.strip=Ql t.kids:=Yn Zi _;intro b;induction b with | nil=>intro a l d n r i g h;simp only[QH]at d;rw[<- d]at h;(have p:ZW (Ql t.kids) 0 4 t.kids.length=Qa t.kids:=by have:=Wd (f:=Qd) (k:=4) QG Zi t.kids [];rwa[Sn,QH]at this);have E: ¬t.kids.length=0:=fun e=>q (Yu e);rw[Qc f192l0.eq_1];simp[n,r,i,g,h,f192r0,E,j,p,u,Sg,Tm.eta] | cons x b C=>intro a l d n r i g h;have H:=QJ d;(have v:a.length < t.kids.length:=by omega);(have z: ((Ql t.kids).drop (a.length*4)).take 4=Qd x:=by have:=Vj (f:=Qd) (k:=4) QG d [];simpa using this);(have m: (Ql t.kids).take (a.length*4)++ (Qd x ++ (Ql t.kids).drop (a.length*4+4))=Ql t.kids:=by have:=Ow (f:=Qd) (k:=4) QG x d [];rw[<- d]at this;simpa using this);(have s:a.length*4+4<=t.kids.length*4:=by omega);rw[Qc f192l0.eq_1];generalize Ql t.kids=c at *;simp[n,i,g,h,(wr1 a.length (by omega)),(QN d),u,j,s,o,z,(A x (by rw[d];simp)),m];refine(C (a ++ [x])) _ (by rw[d];simp) ?_ ?_ ?_ ?_ ?_ <;> simp[n,r,i,g]
def OA: ∀t b,t.mass < big->call tb 192 [.agg (Qd t)] b=some (.agg (Qd t),b):=by
 refine YC ?_;intro k n s a l b g;have d:=QI (.mk k n s a);simp only[ZP,Y5]at d;have m:a.length*56<=140737488355328:=by unfold big at g;omega
 rw[zcc 192 rfl rfl];have c:call tb 193 [.sl false 4 (Qa a)] b=if a.length=0 then some (.gs 0 0 0 0,b)else some (.gs b.length 0 4 a.length,b ++ [Ql a]):=by rw[Xv tb_193];simp only[WD,QT,Ui,Wn,m,YG,G7,(Yn Zi _)]
 by_cases f:a=[];subst f;simp[f192C,Ya,Qa]at c ⊢;simp[c];rw[Qc f192l0.eq_1];simp[f192r0];rw[Qb (fun e=>f (Yu e))]at c;have i:=fun j=>Qct (.mk k n s a) g f (fun x h b=>l x h b (by have:=QY (show x∈a from h);omega)) b a [] j rfl;simp only[Ux,Y5,Ol,ZP]at i;simp[f192C];simp[Ya,c];have e:AV.agg [.int .i64 k,.str n,.int .i64 s,.sl false 4 (Qa a)]= .agg (Qd (.mk k n s a)):=by rw[Ya];rfl
 rw[e];refine i _ ?_ ?_ ?_ ?_ ?_ <;> simp
abbrev Pw:=Tm×Int
def Q9 (p:Pw):Qx:=Qd p.1 ++ [.int .i64 p.2]
abbrev Qw:=List Pw
def Qt (l:Qw):Qp:=l.map Q9
abbrev Zb (l:List Pw):List AV:=Y4 Q9 l
def Qdj (p):Q9 p=[.int .i64 p.1.kind,.str p.1.name,.int .i64 p.1.sort,.sl false 4 (Qa p.1.kids),.int .i64 p.2]:=by simp[Q9,Ya]
@[simp] def WY (p): (Q9 p).length=5:=by simp[Q9]
@[simp] def Wt (p): (Q9 p).map AV.strip=Q9 p:=by simp[Q9]
@[simp] def QvX (p): (Q9 p).take 4=Qd p.1:=by simp[Q9]
@[simp] def QvY (p): (Q9 p).take 5=Q9 p:=Z7 (by simp)
@[simp] def QxE (p): (Q9 p)[4]? =some (.int .i64 p.2):=by simp[Q9]
@[simp] def Qxu (p) (h:4 < (Q9 p).length): (Q9 p)[4]= .int .i64 p.2:=by simp[Q9]
def O0:=@List.drop_append
@[simp] def QvW (p): (Q9 p).drop 5=[]:=by simp[Q9,O0]
@[simp] def Qpx (p):Q3 (Q9 p)=true:=by simp[Q9,Lj]
@[simp] def QwB (l): (Qt l).length=l.length:=by simp[Qt]
@[simp] def QwA (l) (i:Nat): (Qt l)[i]? =(l[i]?).map Q9:=by simp[Qt]
def RJ (a b):Qt a ++ Qt b=Qt (a ++ b):=by simp[Qt]
def RK (p): [Q9 p]=Qt [p]:=rfl
@[simp] def Mp: ∀l:Qw,ZL (Qt l)=true
 | []=>rfl
 | p:: l=>by
  have:=Mp l;simp only[Qt]at this ⊢;simp[ZL,this]
def Wi (l): (Zb l).length=l.length*5:=Yl WY l
def QcC (p t B) (a:p.1.mass < big) (b:t.mass < big):call tb 190 [.agg (Q9 p),.agg (Qd t)] B=some (.int .i64 (Qm p.1 t),B):=by
 rw[zcc 190 rfl rfl];simp[f190,f190C,(call_Compare p.1 t B a b)]
def QW (l:Qw):Qj:=l.map (·.1)
def PAt (l:Qw) (t:Tm) (k:Nat):Prop:=k<=l.length/\(∀(i:Nat) (p:Pw),l[i]? =some p->i < k->Qm p.1 t < 0)/\(∀(i:Nat) (p:Pw),l[i]? =some p->k<=i->¬Qm p.1 t < 0)
def hit (l:Qw) (t:Tm) (k:Nat):Bool:=match l[k]? with
 | some p=>decide (Qm p.1 t=0)
 | none=>false
def Qtf (l:Qw) (t:Tm) (B:Qp) (r:Out):Prop:=∃k,PAt l t k/\r=some (.tup [.int .i64 k,.bool (hit l t k)],B)
def ED {l:Qw} {i p} {c:Qx} (h: (c.drop (i*5)).take 5=Q9 p): ((c.map AV.strip).drop (i*5)).take 5=Q9 p:=by
 rw[<- O5,<- S7,h,Wt]
def Wj:=@List.getElem?_eq_some_iff
def LV {l i p} (h:l[i]? =some p) (c): ((Zb l ++ c).drop (i*5)).take 5=Q9 p:=by
 obtain⟨b,rfl⟩:=Wj.1 h;have a:l=l.take i ++ l[i]:: l.drop (i+1):=by rw[Bo,N8]
 have:=Vj (f:=Q9) (k:=5) WY a c;rwa[Ye,JD (by omega)]at this
def Fj {i j:Nat} (h:i+j < 9223372036854775808):IntKind.i64.wrap (IntKind.u64.wrap (IntKind.i64.wrap ((i:Int)+ (j:Int))) / 2 ^ min 1 IntKind.u64.bits)=(((i+j) / 2:Nat):Int):=by
 rw[QC (n:=(i:Int)+j) (by omega) (by omega)];have a:IntKind.u64.wrap ((i:Int)+j)=(i:Int)+j:=by simp[IntKind.wrap,IntKind.bits,IntKind.signed];omega
 have b: (2:Int) ^ min 1 IntKind.u64.bits=2:=by decide
 rw[a,b,QC (by omega) (by omega)];omega
def MI:=@List.pairwise_iff_getElem
def Gx:=@Nat.le_of_not_lt
def Qmg {l t B T S c} (hl:l.length < 100000000) (W:l≠[]->S=5/\B[T]? =some (Zb l ++ c)) (X: ∀p∈l,p.1.mass < big) (U:t.mass < big) (ha:Asc (QW l)):
  ∀d i j b,j - i<=d->i<=j->j<=l.length->(∀k p,l[k]? =some p->k < i->Qm p.1 t < 0)->(∀k p,l[k]? =some p->j<=k->¬Qm p.1 t < 0)->
  b 0= .gs T 0 S l.length->b 4= .bx (Qd t)->b 2= .fn 190 []->b 8= .int .i64 l.length->b 9= .int .i64 i->b 10= .int .i64 j->
  Qtf l t B (R tb (.loop f191l0) b B (Qi 0 (Qu tb f191r0 (Qz f191 B)))):=by
 have x: ∀(i j:Nat) (p q:Pw),l[i]? =some p->l[j]? =some q->i<=j->Qm q.1 t < 0->Qm p.1 t < 0:=by intro i j p q n z C h;rcases Zt i j with I | hge;obtain⟨h1,rfl⟩:=Wj.1 n;obtain⟨g,rfl⟩:=Wj.1 z;have:=MI.1 ha i j (by simpa[QW]using h1) (by simpa[QW]using g) I;simp only[QW,List.getElem_map]at this;exact XE this h;(have:i=j:=by omega);subst this;rw[n]at z;cases z;exact h
 intro d;induction d with | zero=>intro i j b hd C L s u w G g H A a;(have:i=j:=by omega);subst this;refine⟨i,⟨L,s,u⟩,?_⟩;rw[Qc f191l0.eq_1];by_cases N:i < l.length;have n:=Q0 N;obtain⟨rfl,o⟩:=W (by intro e;subst e;simp at N);have M:=ED (l:=l) (LV n c);have E:=X _ (VH N);(have r:i*5+5<=(Zb l ++ c).length:=by rw[Zl,Wi];omega);(have f: (i:Int) < (l.length:Int):=by omega);(have P:hit l t i=decide (Qm l[i].1 t=0):=by simp[hit,n]);rw[P];generalize l[i]=p at *;have K:=QcC p t B E U;generalize Zb l ++ c=cc at *;simp[f191r0,w,g,G,H,A,a,f,o,r,M,K];(have P:hit l t i=false:=by simp[hit,ZF (Gx N)]);(have f: ¬(i:Int) < (l.length:Int):=by omega);simp[f191r0,w,g,H,A,a,f,P] | succ d O=>intro i j b hd C L s u w G g H A a;by_cases I:i < j;(have D: (i+j) / 2 < l.length:=by omega);have Y:=Fj (i:=i) (j:=j) (by omega);have n:=Q0 D;obtain⟨rfl,o⟩:=W (by intro e;subst e;simp at D);have M:=ED (l:=l) (LV n c);have E:=X _ (VH D);(have r: (i+j) / 2*5+5<=(Zb l ++ c).length:=by rw[Zl,Wi];omega);(have y: (i:Int) < (j:Int):=by omega);(have hb1:i<=(i+j) / 2:=by omega);(have Z: (i+j) / 2 < j:=by omega);generalize l[(i+j) / 2]=p at *;generalize hmm: (i+j) / 2=m at *;have K:=QcC p t B E U;(have J:IntKind.i64.wrap ((m:Int)+1)=((m+1:Nat):Int):=by rw[QC (by omega) (by omega)];omega);(have f: (m:Int) < (l.length:Int):=by omega);generalize hcc:Zb l ++ c=cc at *;rw[Qc f191l0.eq_1];by_cases v:Qm p.1 t < 0;have Q:=fun b=>O (m+1) j b (by omega) (by omega) L (fun k q z V=>x k m q p z n (by omega) v) u;simp[-getElem?_pos,w,g,G,A,a,y,Y,J,f,o,r,M,K,v];refine Q _ ?_ ?_ ?_ ?_ ?_ ?_ <;> simp[w,g,G,H,a];have Q:=fun b=>O i m b (by omega) (by omega) (by omega) s (fun k q z V h=>v (x m k p q n z V h));simp[-getElem?_pos,w,g,G,A,a,y,Y,J,f,o,r,M,K,v];refine Q _ ?_ ?_ ?_ ?_ ?_ ?_ <;> simp[w,g,G,H,A];exact O i j b (by omega) C L s u w G g H A a
def Qn4 {l t B b a c} (m:l.length < 100000000) (i:l≠[]->a=5/\B[b]? =some (Zb l ++ c)) (f: ∀p∈l,p.1.mass < big) (g:t.mass < big) (h:Asc (QW l)):
  Qtf l t B (call tb 191 [.gs b 0 a l.length,.agg (Qd t),.fn 190 []] B):=by
 rw[zcc 191 rfl rfl];simp[f191C];refine(fun j=>Qmg m i f g h l.length 0 l.length j (by omega) (by omega) (by omega) (fun k p _ d=>by omega) (fun k p e d=>by rw[ZF d]at e;cases e)) _ ?_ ?_ ?_ ?_ ?_ ?_ <;> simp
@[simp] def Qfq (t): (Qd t).drop 5=[]:=by simp
def Qrv (l:Qw) (id:Nat) (B:Qp) (r:Out):Prop:=∃t,t≠[]/\r=some (.gs id 0 5 l.length,B.set id (Zb l ++ t))
def Qn5 {b a p q n B t} (hn:n=b.length+1+a.length) (hl:n < 100000000) (J:B[q]? =some (Zb (b ++ p:: a)++ t)):
  Qrv (b ++ a) q B (call tb 195 [.gs q 0 5 n,.int .i64 b.length,.int .i64 ((b.length:Int)+1)] B):=by
 have X:=QF J;have T: (0:Int)<=(b.length:Int):=by omega
 have e2: (b.length:Int)<=(b.length:Int)+1:=by omega
 have P: (b.length:Int)+1<=(n:Int):=by omega
 have R: (0:Int)<=(b.length:Int)+1:=by omega
 have S: ¬(b.length:Int)=(b.length:Int)+1:=by omega
 have V: (b.length:Int)<=(n:Int):=by omega
 have U: ((b.length:Int)+1).toNat=b.length+1:=by omega
 have e8:n - (b.length+1)=a.length:=by omega
 have e9: (b.length+a.length)=n - 1:=by omega
 have e10:n - (n - 1)=1:=by omega
 have e11: ((n - 1:Nat):Int)<=(n:Int):=by omega
 have hl0:=Wi b;have o:=Wi a;have hst:=Yn Wt a;have Y: (Zb (b ++ p:: a)++ t).length=n*5+t.length:=by rw[Zl,Wi];grind
 have i:=Rv (f:=Q9) (k:=5) WY (l:=b ++ p:: a) (pre:=b) (post:=p:: a) rfl t;have y:=KP (f:=Q9) (k:=5) WY (l:=b ++ p:: a) (pre:=b ++ [p]) (post:=a) (by simp) t;rw[Zl,Pg]at y;have u:Zb (b ++ p:: a)++ t≠[]:=by grind
 have Q:n*64<=140737488355328:=by omega
 have v:b.length*64<=140737488355328:=by omega
 have A: (b.length+a.length)*64<=140737488355328:=by omega
 have g: (n:Int)<=((Zb (b ++ p:: a)++ t).length:Int) / 5:=by omega
 have I:b.length<=n:=by omega
 rw[zcc 195 rfl rfl];generalize hcc:Zb (b ++ p:: a)++ t=c at *;by_cases O:a=[];subst O;have L:n - (b.length+1)=0:=by omega
 have e9':b.length=n - 1:=by omega
 have E:n - b.length=1:=by omega
 have h:b.length*5+5<=c.length:=by omega
 refine⟨List.replicate 5 .undef ++ c.drop (b.length*5+5),by simp,?_⟩;simp[-getElem?_pos,f195C,T,P,R,S,V,U,L,E,I,J,v,g,h,u,i,appM,XR];have hz: ¬a.length=0:=fun e=>O (Yu e);have h: (b.length+1)*5+a.length*5<=c.length:=by omega
 have m: (b.length+a.length)*5<=c.length:=by omega
 have r:b.length*5<=c.length:=by omega
 have H: ((c.map AV.strip).drop ((b.length+1)*5)).take (a.length*5)=Zb a:=by rw[<- O5,y,<- o,Xt];grind
 have D: (b.length:Int)+ (a.length:Int)<=(n:Int):=by omega
 have K: (0:Int)<=(b.length:Int)+ (a.length:Int):=by omega
 have C:n - (b.length+a.length)=1:=by omega
 have M: ((b.length:Int)+ (a.length:Int)).toNat=b.length+a.length:=by omega
 have e18:b.length+a.length<=n:=by omega
 have N: ∀x:Qx,(B.set q x)[q]? =some x:=fun x=>by grind
 obtain⟨d,j⟩: ∃d,Y4 Q9 b ++ (Zb a ++ c.drop (b.length*5+a.length*5))=d:=⟨_,rfl⟩;have W:d=Zb (b ++ a)++ c.drop ((b.length+a.length)*5):=by rw[<- j,show Zb (b ++ a)=Zb b ++ Zb a from Vp _ _ _,Yk];simp
 have Z: (Zb (b ++ a)).length=(b.length+a.length)*5:=by rw[Wi];simp
 have z:d.length=c.length:=by grind
 have w:d.take ((b.length+a.length)*5)=Zb (b ++ a):=by grind
 have s: (b.length+a.length)*5+5<=d.length:=by omega
 rw[<- z]at g;refine⟨List.replicate 5 .undef ++ d.drop ((b.length+a.length)*5+5),by simp,?_⟩;rw[z]at g;have G: (n:Int)<=(d.length:Int) / 5:=by omega
 simp[-getElem?_pos,f195C,T,P,R,S,V,U,e8,D,K,C,M,O,J,A,G,h,m,r,s,u,i,w,H,o,N,j,appM,XR]
def YX:Qw->Tm->Int->Qw
 | [],t,n=>[(t,n)]
 | p:: r,t,n=>if Qm p.1 t < 0 then p:: YX r t n else if Qm p.1 t=0 then(if p.2+n=0 then r else(p.1,p.2+n):: r)else(t,n):: p:: r
def BS: ∀b a t n,(∀p∈b,Qm p.1 t < 0)->YX (b ++ a) t n=b ++ YX a t n
 | [],_,_,_,_=>rfl
 | p:: b,a,t,n,h=>by
  simp only[XQ,YX];rw[Qe (h p (by simp)),BS b a t n fun q c=>h q (by grind)]
def PS (B0 B:Qp) (v:AV) (l:Qw):Prop:=∃(M:Qp) (id sz:Nat),B=B0 ++ M/\v= .gs id 0 sz l.length/\
 ((sz=0/\id=0/\l=[])\/(sz=5/\B0.length<=id/\∃t,B[id]? =some (Zb l ++ t)/\Zb l ++ t≠[]))
def Qkz (B0:Qp) (l:Qw) (r:Out):Prop:=∃v B,r=some (v,B)/\PS B0 B v l
def Qjl (a):PS a a (.gs 0 0 0 0) []:=⟨[],0,0,by simp,rfl,.inl ⟨rfl,rfl,rfl⟩⟩
def WA {a M:Qp} {b} (h:a.length<=b) (x): (a ++ M).set b x=a ++ M.set (b - a.length) x:=by grind
def Zd:=@List.getElem?_cons_succ
def Gw:=@List.take_append
def QcB {b B v l p} (h:PS b B v l) (hl:l.length < 50000000) (hm: ∀q∈l,q.1.mass < big/\ -100000000 < q.2/\q.2 < 100000000) (hp:p.1.mass < big) (hpn: -100000000 < p.2/\p.2 < 100000000) (ha:Asc (QW l)):
  Qkz b (YX l p.1 p.2) (call tb 189 [v,.agg (Q9 p)] B):=by
 obtain⟨M,g,sz,rfl,rfl,o⟩:=h;have hb: ∃c,l≠[]->sz=5/\(b ++ M)[g]? =some (Zb l ++ c):=by
  rcases o with⟨_,_,rfl⟩ | ⟨u,_,t,L,_⟩
  ·exact⟨[],fun h=>absurd rfl h⟩
  ·exact⟨t,fun _=>⟨u,L⟩⟩
 obtain⟨c,hb⟩:=hb;obtain⟨k,⟨hk1,hk2,hk3⟩,Y⟩:=Qn4 (t:=p.1) (by omega) hb (fun q j=>(hm q j).1) hp ha;have a:l=l.take k ++ l.drop k:=(N8 _ _).symm;have A: (l.take k).length=k:=by rw[Ye];omega
 have K:YX l p.1 p.2=l.take k ++ YX (l.drop k) p.1 p.2:=by
  conv=>lhs;rw[a]
  exact BS _ _ _ _ (by
  intro q j;obtain⟨i,hi,rfl⟩:=List.getElem_of_mem j;rw[A]at hi;exact hk2 i _ (by rw[List.getElem_take];exact Q0 (by omega)) hi)
 rw[zcc 189 rfl rfl];by_cases O:hit l p.1 k=true
 ·rw[O]at Y;obtain⟨q,j,hq0⟩: ∃q,l[k]? =some q/\Qm q.1 p.1=0:=by
   unfold hit at O;split at O
   ·rename_i q j;exact⟨q,j,by simpa using O⟩
   ·cases O
  have E:k < l.length:=by
   rcases Zt k l.length with h | h
   ·exact h
   ·rw[ZF h]at j;cases j
  have Q:l≠[]:=by intro e;subst e;simp at E
  have hqe:=Z4 _ _ hq0;have Z:l.drop k=q:: l.drop (k+1):=by
   rw[Lt E];rw[Q0 E]at j;injection j with j;rw[j]
  have hlq:l=l.take k ++ q:: l.drop (k+1):=by rw[<- Z];exact a
  have m:YX (l.drop k) p.1 p.2=if q.2+p.2=0 then l.drop (k+1)else(q.1,q.2+p.2):: l.drop (k+1):=by
   rw[Z];simp[YX,hq0]
  rw[K,m];rcases o with⟨_,_,rfl⟩ | ⟨rfl,z,t,y,R⟩
  ·exact absurd rfl Q
  have hlt:=QF y;have hqm:=(hm q (X9 j)).2;have hw:IntKind.i64.wrap (q.2+p.2)=q.2+p.2:=QC (by omega) (by omega);have T:=LV j t;have hlen: (Zb l ++ t).length=l.length*5+t.length:=by rw[Zl,Wi]
  have D: (Zb l ++ t)[k*5+4]? =some (.int .i64 q.2):=by
   have u: (((Zb l ++ t).drop (k*5)).take 5)[4]? =some (.int .i64 q.2):=by rw[T];simp
   rw[VV (by omega),Vf]at u;exact u
  have H:k*5+4+1<=(Zb l ++ t).length:=by omega
  have C: (Zb l ++ t).take (k*5+4)++ (AV.int .i64 (q.2+p.2):: (Zb l ++ t).drop (k*5+4+1))=Zb (l.take k ++ (q.1,q.2+p.2):: l.drop (k+1))++ t:=by
   have u:=Ow (f:=Q9) (k:=5) WY (q.1,q.2+p.2) hlq t;rw[A]at u;rw[show Zb (l.take k ++ (q.1,q.2+p.2):: l.drop (k+1))++ t=_ from u.symm];have L: (Zb l ++ t).take (k*5+4)=(Zb l ++ t).take (k*5)++ Qd q.1:=by
    rw[List.take_add];congr 1;have: ((Zb l ++ t).drop (k*5)).take 4=(((Zb l ++ t).drop (k*5)).take 5).take 4:=by rw[LF];rfl
    rw[this];rw[T];simp
   rw[L];simp[Q9]
  have J: (k:Int) < (l.length:Int):=by omega
  have G: ∀x:Qx,((b ++ M).set g x)[g]? =some x:=fun x=>by
   have:g < (b ++ M).length:=hlt;rw[Qy,Qe rfl,Qe this]
  have d: (Zb (l.take k ++ (q.1,q.2+p.2):: l.drop (k+1))++ t)[k*5+4]? =some (.int .i64 (q.2+p.2)):=by
   have h0: (l.take k ++ (q.1,q.2+p.2):: l.drop (k+1))[k]? =some (q.1,q.2+p.2):=by
    rw[Yq (by omega),A,U7];rfl
   have u: (((Zb (l.take k ++ (q.1,q.2+p.2):: l.drop (k+1))++ t).drop (k*5)).take 5)[4]? =some (.int .i64 (q.2+p.2)):=by rw[LV h0 t];simp
   rw[VV (by omega),Vf]at u;exact u
  have U: (l.take k ++ (q.1,q.2+p.2):: l.drop (k+1)).length=l.length:=by simp;omega
  have s:k*5+4+1<=(Zb (l.take k ++ (q.1,q.2+p.2):: l.drop (k+1))++ t).length:=by rw[Zl,Wi,U];omega
  have S:IntKind.i64.wrap ((k:Int)+1)=(k:Int)+1:=QC (by omega) (by omega);have I:=fun(x:Pw) (B:Qp) (hB:B[g]? =some (Zb (l.take k ++ x:: l.drop (k+1))++ t))=>Qn5 (n:=l.length) (by simp;omega) (by omega) hB;rw[A]at I;generalize N:Zb (l.take k ++ (q.1,q.2+p.2):: l.drop (k+1))++ t=c1 at *;generalize hc0:Zb l ++ t=c0 at *;by_cases V:q.2+p.2=0
  ·obtain⟨t3,ht3,X⟩:=I (q.1,q.2+p.2) ((b ++ M).set g c1) (by rw[N];exact G c1);rw[Qe V];rw[TJ]at X;refine⟨.gs g 0 5 (l.take k ++ l.drop (k+1)).length,(b ++ M).set g (Zb (l.take k ++ l.drop (k+1))++ t3),?_,M.set (g - b.length) (Zb (l.take k ++ l.drop (k+1))++ t3),g,5,WA z _,rfl,.inr ⟨rfl,z,t3,G _,by simp[ht3]⟩⟩;have hwz:IntKind.i64.wrap (q.2+p.2)=0:=by rw[hw,V]
   rw[V]at C d;simp[-getElem?_pos,Qo,Zd,f189C,Y,J,y,D,H,hwz,S,C,G,d,s,X]
  ·rw[Qb V];refine⟨.gs g 0 5 l.length,(b ++ M).set g c1,?_,M.set (g - b.length) c1,g,5,WA z _,by rw[U],.inr ⟨rfl,z,t,by rw[N];exact G _,by rw[N];intro e;rw[e]at s;simp at s⟩⟩;simp[-getElem?_pos,Qo,Zd,f189C,Y,J,y,D,H,hw,S,C,G,d,s,V]
 ·have hh':hit l p.1 k=false:=by simpa using O
  have m:YX (l.drop k) p.1 p.2=p:: l.drop k:=by
   cases hd:l.drop k with
   | nil=>rfl
   | cons q r=>
    have j:l[k]? =some q:=by rw[<- List.head?_drop,hd];rfl
    have u:=hk3 k q j (QX _);have L: ¬Qm q.1 p.1=0:=by simpa[hit,j]using hh'
    simp[YX,u,L]
  rw[K,m];have P: ∃t2 W w,call tb 194 [.gs g 0 sz l.length,.int .i64 k,.sl false 5 [Q9 p]] (b ++ M)=some (.gs w 0 5 (l.length+1),b ++ W)/\b.length<=w/\(b ++ W)[w]? =some (Zb (l.take k ++ p:: l.drop k)++ t2):=by
   rw[Xv tb_194];rcases o with⟨rfl,rfl,rfl⟩ | ⟨rfl,z,t,y,R⟩
   ·have hk0:k=0:=by simpa using hk1
    subst hk0;refine⟨[],M ++ [Q9 p],(b ++ M).length,?_,by simp,?_⟩
    ·simp[Lk,PC,Kr]
    ·rw[<- ZX,Yv];simp[Zb,Y4]
   ·have hlt:=QF y;have hr0:=Wi l;have H:l.length*5<=(Zb l ++ t).length:=by rw[Zl,hr0];omega
    have hcs:PC k 5 l.length (Zb l ++ t) [Q9 p]=Zb (l.take k ++ p:: l.drop k):=by
     have u: (Zb l ++ t).take (l.length*5)=Zb l:=by rw[<- hr0,GD]
     have L:=Rv (f:=Q9) (k:=5) WY (l:=l) (pre:=l.take k) (post:=l.drop k) a [];have h3:=KP (f:=Q9) (k:=5) WY (l:=l) (pre:=l.take k) (post:=l.drop k) a [];rw[A,QH]at L h3;rw[QH]at h3;unfold PC;rw[u,L,h3,show Zb (l.take k ++ p:: l.drop k)=Zb (l.take k)++ (Q9 p ++ Zb (l.drop k)) by simp[Zb,Vp,So]];rw[Xt,Xt,Yn Wt,Yn Wt];simp
    refine⟨[],M.set (g - b.length) []++ [Zb (l.take k ++ p:: l.drop k)],(b ++ M).length,?_,by simp,?_⟩
    ·simp only[Lk];rw[Qe ⟨trivial,by omega,by simp,(by omega),(by omega),by simpa using(by omega),by simpa using(by omega)⟩,Qb (by omega),Qe ⟨trivial,trivial⟩,y];simp only[QO];rw[Qe ⟨R,H⟩,T8,hcs,WA z];simp[Kr,(Qbb Qpx _)]
    ·rw[<- ZX,QH];have: (b ++ M).length=(b ++ M.set (g - b.length) []).length:=by simp
     rw[this,Yv]
  obtain⟨t2,W,w,hc2,h2a,h2b⟩:=P;refine⟨.gs w 0 5 (l.length+1),b ++ W,?_,W,w,5,rfl,?_,.inr ⟨rfl,h2a,t2,h2b,?_⟩⟩
  ·rw[hh']at Y;have hfold:=(Qdj p).symm;have hf:Qd p.1 ++ [.int .i64 p.2]=Q9 p:=rfl;simp[f189C,Y,(OA p.1 (b ++ M) hp),Gw,O0,hf,Qfq,hc2]
  ·congr 1;simp;omega
  ·intro e;have:=TM List.length e;rw[Zl,Wi]at this;simp at this
def MUL:Zq:=[109,117,108]
def INV:Zq:=[105,110,118]
def ONE:Zq:=[111,110,101]
def Yx (t:Tm):Bool:=decide (t.kind=3) && (t.name == MUL || t.name == INV || t.name == ONE)
def HU {t} (h:Yx t=true):t.kind=3/\(t.name=MUL\/t.name=INV\/t.name=ONE):=by
 simp only[Yx,Qr,WI,QM,UG]at h;grind
def JS (t d):call tb 188 [.agg (Qd t)] d=some (.bool (Yx t),d):=by
 rw[zcc 188 rfl rfl];by_cases b:t.kind=3;cases a:t.name == MUL;cases c:t.name == INV;cases e:t.name == ONE <;> simp only[MUL,INV,ONE]at a c e <;> simp[f188C,Yx,b,a,c,e,MUL,INV,ONE];simp only[MUL,INV]at a c;simp[f188C,Yx,b,a,c,MUL,INV,ONE];simp only[MUL]at a;simp[f188C,Yx,b,a,MUL,INV,ONE];simp[f188C,Yx,b]
def Ml (t d):call tb 255 [.agg (Qd t)] d=some (.bool (Yx t),d):=by
 rw[zcc 255 rfl rfl];by_cases b:t.kind=3;cases a:t.name == MUL;cases c:t.name == INV;cases e:t.name == ONE <;> simp only[MUL,INV,ONE]at a c e <;> simp[f255C,Yx,b,a,c,e,MUL,INV,ONE];simp only[MUL,INV]at a c;simp[f255C,Yx,b,a,c,MUL,INV,ONE];simp only[MUL]at a;simp[f255C,Yx,b,a,MUL,INV,ONE];simp[f255C,Yx,b]
def Wx (t:Tm):Bool:= !((t.name == MUL && decide (t.kids.length < 2)) || (t.name == INV && !decide (t.kids.length=1)) || (t.name == ONE && !decide (t.kids.length=0)))
mutual
def arB:Tm->Bool
 | .mk k n s ks=> !Yx (.mk k n s ks) || (Wx (.mk k n s ks) && arL ks)
def arL:List Tm->Bool
 | []=>true
 | t:: ts=>arB t && arL ts
end
def O8 (t):arB t=(!Yx t || (Wx t && arL t.kids)):=by cases t;simp[arB]
mutual
def X6:List Pw->Tm->Int->List Pw
 | l,.mk k n s ks,m=>if Yx (.mk k n s ks)then ZZ l ks (if n == INV then -m else m)else YX l (.mk k n s ks) m
def ZZ:List Pw->List Tm->Int->List Pw
 | l,[],_=>l
 | l,t:: ts,m=>ZZ (X6 l t m) ts m
end
def XT (l t m):X6 l t m=if Yx t then ZZ l t.kids (if t.name == INV then -m else m)else YX l t m:=by cases t;simp[X6]
def Qe2 (t d) (n:t.mass < big) (o: ∀x∈t.kids,∀d,call tb 254 [.agg (Qd x)] d=some (.bool (arB x),d)):
  ∀a b c,t.kids=b ++ a->c 1= .bx (Qd t)->c 3= .int .i64 t.kids.length->c 4= .int .i64 b.length->
  R tb (.loop f254l0) c d (Qi 0 (Qu tb f254r0 (Qz f254 d)))=some (.bool (arL a),d):=by
 have p:=QI t;unfold big at n;intro a;induction a with | nil=>intro b c e h f g;simp only[QH]at e;rw[<- e]at g;rw[Qc f254l0.eq_1];simp[h,f,g,f254r0,arL] | cons x a q=>intro b c e h f g;have k:=QB e;have r:=QJ e;have i:=wr1 b.length (by omega);have j:=QN e;have l:=o x (by grind) d;rw[Qc f254l0.eq_1];cases m:arB x;simp[h,f,g,k,i,j,l,m,arL];simp[h,f,g,k,i,j,l,m,arL];refine(fun c=>q (b ++ [x]) c (by grind)) _ ?_ ?_ ?_ <;> simp[h,f]
def Qfb: ∀t h,t.mass < big->call tb 254 [.agg (Qd t)] h=some (.bool (arB t),h):=by
 refine YC ?_;intro k n s b q h p;have i:=fun m=>Qe2 (.mk k n s b) h p (fun x j h=>q x j h (by have:=QY j;have:=QI (.mk k n s b);omega)) b [] m rfl;have a:=Ml (.mk k n s b) h;rw[zcc 254 rfl rfl,O8];cases f:Yx (.mk k n s b);simp[f254C,a,f];have o: ((Qd (.mk k n s b)).map AV.strip)=Qd (.mk k n s b):=Zi _;obtain⟨rfl,l⟩:=HU f;simp only[Y5]at l;simp only[ZP]at i;rcases l with rfl | rfl | rfl;by_cases d:b.length < 2;have g: (b.length:Int) < 2:=by omega
 have c:Wx (.mk 3 MUL s b)=false:=by simp[Wx,d]
 simp only[c];simp[MUL]at a f c;simp[f254C,a,f,MUL,g];have g: ¬(b.length:Int) < 2:=by omega
 have c:Wx (.mk 3 MUL s b)=true:=by simp[Wx,d];simp[MUL,INV,ONE]
 simp only[c];simp[MUL]at a f c i;simp[f254C,a,f,MUL,g];simp_all;by_cases d:b.length=1;have g: (b.length:Int)=1:=by omega
 have c:Wx (.mk 3 INV s b)=true:=by simp[Wx,d];simp[MUL,INV,ONE]
 simp only[c];simp[INV]at a f c i;simp[f254C,a,f,INV,g];simp_all;have g: ¬(b.length:Int)=1:=by omega
 have c:Wx (.mk 3 INV s b)=false:=by simp[Wx,d]
 simp only[c];simp[INV]at a f c;simp[f254C,a,f,INV,g];by_cases d:b=[];subst d;have c:Wx (.mk 3 ONE s [])=true:=by simp[Wx];simp[MUL,INV,ONE]
 simp only[c];simp[ONE]at a f c i;simp[f254C,a,f,ONE];simp_all;have r: ¬b.length=0:=fun e=>d (Yu e);have g: ¬(b.length:Int)=0:=by omega
 have c:Wx (.mk 3 ONE s b)=false:=by simp[Wx,d]
 simp only[c];simp[ONE]at a f c;simp[f254C,a,f,ONE,d]
def Kt {n} (h:n < 100000000):n*64<=140737488355328:=by omega
def Hf (l t m g) (C:l.length < 100000000) (B: ∀q∈l,q.1.mass < big) (A:t.mass < big):
  ∀a c b o d,l=c ++ a->b.length+a.length < 100000000->(∀q∈a,q.2≠0/\Qm t q.1≠0)->d 0= .sl o 5 (Qt l)->d 2= .int .i64 m->d 4= .bx (Qd t)->d 7= .sl true 5 (Qt b)->d 8= .bool true->d 9= .int .i64 c.length->
  R tb (.loop f257l0) d g (Qi 0 (Qu tb f257r0 (Qz f257 g)))=some (.sl false 5 (Qt (b ++ a)),g):=by
 intro a;induction a with | nil=>intro c b o d e w n i j f r h k;simp only[QH]at e;rw[<- e]at k;rw[Qc f257l0.eq_1];simp[i,j,f,r,h,k,f257r0] | cons q a v=>intro c b o d e w n i j f r h k;have y:=QJ e;obtain⟨s,p⟩:=n q (by simp);have z: (b.length+1)*64<=140737488355328:=Kt (by grind);have u:=fun d=>v (c ++ [q]) (b ++ [q]) o d (by grind) (by grind) (fun x D=>n x (by grind));simp only[ZX,XQ,Xg]at u;rw[Qc f257l0.eq_1];simp[i,j,f,r,h,k,(QB e),(QN e),(wr1 c.length (by omega)),(Uw t q.1 g A (B q (by grind))),s,p,z,RK,RJ];refine u _ ?_ ?_ ?_ ?_ ?_ ?_ <;> simp[i,j,f,h]
def NZ (l:Qw):Prop:=∀q∈l,q.2≠0
def Gn:=@List.pairwise_append
def QkK (l t m y) (hl:l.length < 50000000) (K: ∀q∈l,q.1.mass < big/\ -100000000 < q.2/\q.2 < 100000000) (hmm: -100000000 < m/\m < 100000000) (L:t.mass < big) (X:Asc (QW l)) (V:NZ l):
  ∀a c b o d,l=c ++ a->b.length+a.length < 50000000->d 0= .sl o 5 (Qt l)->d 2= .int .i64 m->d 4= .bx (Qd t)->d 7= .sl true 5 (Qt b)->d 8= .bool false->d 9= .int .i64 c.length->
  R tb (.loop f257l0) d y (Qi 0 (Qu tb f257r0 (Qz f257 y)))=some (.sl false 5 (Qt (b ++ YX a t m)),y):=by
 intro a;induction a with | nil=>intro c b o d f j i e h u z w;simp only[QH]at f;rw[<- f]at w;have s: (b.length+1)*64<=140737488355328:=Kt (by omega);have S:Qd t ++ [.int .i64 m]=Q9 (t,m):=rfl;rw[Qc f257l0.eq_1];simp[i,e,h,u,z,w,f257r0,YX,s,O0,S,RK,RJ] | cons q a IH=>intro c b o d f j i e h u z w;have M:=QB f;have hll:=QJ f;have n:=wr1 c.length (by omega);have k:=QN f;(have G:q∈l:=by grind);have T:=K q G;have H:=V q G;have J:=Uw t q.1 y L T.1;have s: (b.length+1)*64<=140737488355328:=Kt (by omega);have p: (b.length+1+1)*64<=140737488355328:=Kt (by omega);(have Q: ∀x∈a,Qm q.1 x.1 < 0:=by intro x v;have W:=X;rw[f,QW,Xt,ZI]at W;have e:=(Gn.1 W).2.1;exact(Uo.1 e).1 x.1 (List.mem_map_of_mem v));have E: ∀x∈a,x.2≠0:=fun x v=>V x (by grind);have S:Qd t ++ [.int .i64 m]=Q9 (t,m):=rfl;have P:=Xh t q.1;rw[Qc f257l0.eq_1];by_cases U:Qm q.1 t < 0;(have D: ¬Qm t q.1 < 0:=by omega);(have A: ¬Qm t q.1=0:=by omega);have g:=fun d=>IH (c ++ [q]) (b ++ [q]) o d (by rw[f];simp) (by clear s p;simp at j ⊢;omega);simp only[ZX,XQ,Xg]at g;simp only[YX,U,QT];simp[i,e,h,u,z,w,M,k,n,J,H,D,A,s,RK,RJ];refine g _ ?_ ?_ ?_ ?_ ?_ ?_ <;> simp[i,e,h,z];by_cases I:Qm q.1 t=0;(have D: ¬Qm t q.1 < 0:=by omega);(have A:Qm t q.1=0:=by omega);have Z:=Z4 _ _ I;have O:IntKind.i64.wrap (q.2+m)=q.2+m:=QC (by omega) (by omega);have r: ∀x∈a,x.2≠0/\Qm t x.1≠0:=fun x v=>⟨E x v,by grind⟩;(have Y: (Q9 q).take 4 ++ [.int .i64 (q.2+m)]=Q9 (q.1,q.2+m):=by simp[Q9]);by_cases N:q.2+m=0;have g:=fun d=>Hf l t m y (by omega) (fun q B=>(K q B).1) L a (c ++ [q]) b o d (by rw[f];simp) (by omega) r;simp only[YX,I,N,QT];(have C: (Q9 q).take 4 ++ [.int .i64 0]=Q9 (q.1,0):=by grind);simp[i,e,h,u,z,w,M,k,n,J,A,N,RK,RJ];refine g _ ?_ ?_ ?_ ?_ ?_ ?_ <;> simp[i,e,h,u];have g:=fun d=>Hf l t m y (by omega) (fun q B=>(K q B).1) L a (c ++ [q]) (b ++ [(q.1,q.2+m)]) o d (by rw[f];simp) (by clear s p;simp at j ⊢;omega) r;simp only[ZX,XQ,Xg]at g;simp only[YX,I,N,QT,ZT];have C:Qd q.1 ++ [.int .i64 (q.2+m)]=Q9 (q.1,q.2+m):=rfl;simp[i,e,h,u,z,w,M,k,n,O,J,A,N,s,C,RK,RJ];refine g _ ?_ ?_ ?_ ?_ ?_ ?_ <;> simp[i,e,h];(have D:Qm t q.1 < 0:=by omega);(have A: ¬Qm t q.1=0:=by omega);have r: ∀x∈a,x.2≠0/\Qm t x.1≠0:=fun x v=>⟨E x v,by have:=XE D (Q x v);omega⟩;have g:=fun d=>Hf l t m y (by omega) (fun q B=>(K q B).1) L a (c ++ [q]) (b ++ [(t,m),q]) o d (by rw[f];simp) (by clear s p;simp at j ⊢;omega) r;simp only[ZX,XQ,Xg]at g;simp only[YX,U,I,ZT];simp[i,e,h,u,z,w,M,k,n,J,H,D,A,s,p,Gw,O0,S,RK,RJ];refine g _ ?_ ?_ ?_ ?_ ?_ ?_ <;> simp[i,e,h]
def BR: ∀l t n,(YX l t n).length<=l.length+1
 | [],_,_=>by simp[YX]
 | p:: l,t,n=>by
  have:=BR l t n;simp only[YX];grind
def VL: ∀{l t n q},q∈YX l t n->q∈l\/q=(t,n)\/∃m,(t,m)∈l/\q=(t,m+n)/\m+n≠0
 | [],t,n,q,h=>by simp[YX]at h;grind
 | p:: l,t,n,q,h=>by
  simp only[YX]at h;split at h;rcases Zf.1 h with h | h;grind;rcases VL h with h | h | ⟨m,b,d⟩;grind;grind;grind;split at h;rename_i a;have c:=Z4 _ _ a;grind;grind
def Hh: ∀{l t n},Asc (QW l)->Asc (QW (YX l t n))
 | [],t,n,_=>by simp[YX,QW,Asc]
 | p:: l,t,n,h=>by
  have b:=h;simp only[QW,ZI]at b;obtain⟨f,e⟩:=YQ.1 b;simp only[YX];split;rename_i c;simp only[QW,ZI];refine YQ.2 ⟨fun y a=> ?_,Hh e⟩;obtain⟨q,d,rfl⟩:=Yg.1 a;rcases VL d with d | rfl | ⟨m,i,rfl,_⟩;grind;exact c;exact c;split;split;exact e;simp only[QW,ZI];omega;rename_i j k;simp only[QW,ZI];have g:Qm t p.1 < 0:=by have:=Xh t p.1;omega
  refine YQ.2 ⟨fun y a=> ?_,b⟩;rcases Zf.1 a with rfl | a;omega;exact XE g (f y a)
structure Uf (l:List Pw) (b:Nat):Prop where
 asc:Asc (QW l)
 nz:NZ l
 len:l.length<=b
 bd: ∀q∈l,q.1.mass < big/\ -(b:Int)<=q.2/\q.2<=b
def Mz:Uf [] 0:=⟨Asc.nil,fun q h=>by grind,by simp,fun q h=>by grind⟩
def Uf.mono {l b c} (h:Uf l b) (a:b<=c):Uf l c:=⟨h.asc,h.nz,Y8 h.len a,fun q d=>by obtain⟨e,g,f⟩:=h.bd q d;omega⟩
def Uf.add {l} {b c:Nat} {t n} (h:Uf l b) (u:t.mass < big) (x:n≠0) (w: -(c:Int)<=n) (v:n<=c):Uf (YX l t n) (b+c):=by
 refine⟨Hh h.asc,?_,?_,?_⟩;intro q d;rcases VL d with d | rfl | ⟨m,f,rfl,g⟩;exact h.nz q d;omega;omega;have:=BR l t n;have:=h.len;omega;intro q d;rcases VL d with d | rfl | ⟨m,f,rfl,g⟩;obtain⟨s,r,o⟩:=h.bd q d;omega;grind;obtain⟨s,r,o⟩:=h.bd _ f;grind
def uno (m:Int):Prop:=m=1\/m= -1
def uno.neg {m} (h:uno m):uno (-m):=by rcases h with rfl | rfl <;> simp[uno]
def uno.ite {m} (h:uno m) (c:Bool):uno (if c then -m else m):=by cases c <;> simp[h,h.neg]
def M4: ∀t l m b,t.mass < big->uno m->Uf l b->Uf (X6 l t m) (b+t.nodes):=by
 refine YC ?_;intro k n s e p l m b q a h;have g:=W2 (.mk k n s e);have i:=QI (.mk k n s e);simp only[ZP,Y5]at g i;have r: ∀(d:Qj) (l:Qw) (m:Int) (b:Nat),(∀x∈d,x∈e)->uno m->Uf l b->Uf (ZZ l d m) (b+Qs d):=by intro d;induction d with | nil=>intro l m b _ _ h;simpa[ZZ,Qs]using h | cons x d j=>intro l m b f a h;have o:=p x (f x (by simp)) l m b (by have:=QY (f x (by simp));omega) a h;have u:=j _ m _ (fun y v=>f y (by grind)) a o;simp only[ZZ,Qs];grind
 rw[XT];split;have:=r e l _ b (fun x f=>f) (a.ite ((Tm.mk k n s e).name == INV)) h;exact this.mono (by omega);have:Uf (YX l (.mk k n s e) m) (b+1):=h.add (c:=1) q (by rcases a with rfl | rfl <;> simp) (by rcases a with rfl | rfl <;> simp) (by rcases a with rfl | rfl <;> simp);exact this.mono (by omega)
def QcG {l t m b} (o a) (h:Uf l b) (k:b < 40000000) (g:t.mass < big) (d: -100000000 < m/\m < 100000000):
  call tb 257 [.sl o 5 (Qt l),.agg (Qd t),.int .i64 m] a=some (.sl false 5 (Qt (YX l t m)),a):=by
 have i:=h.len;have c:=fun e=>QkK l t m a (by omega) (fun q f=>by obtain⟨j,n,p⟩:=h.bd q f;omega) d g h.asc h.nz l [] [] false e rfl (by grind);rw[zcc 257 rfl rfl];simp only[Xg]at c;simp[f257C];refine c _ ?_ ?_ ?_ ?_ ?_ ?_ <;> simp[Qt]
def Bi (l:Qw) (bs:Qp) (r:Out):Prop:=∃o,r=some (.sl o 5 (Qt l),bs)
def QhK (t g) (q:t.mass < big) (m) (w:uno m) (A: ∀x∈t.kids,∀l b o,Uf l b->b+x.nodes < 40000000->Bi (X6 l x m) g (call tb 256 [.sl o 5 (Qt l),.agg (Qd x),.int .i64 m] g)):
  ∀a c l b o d,t.kids=c ++ a->Uf l b->b+Qs a < 40000000->d 0= .sl o 5 (Qt l)->d 2= .int .i64 m->d 4= .bx (Qd t)->d 7= .int .i64 c.length->
  Bi (ZZ l a m) g (R tb (.loop f256l0) d g (Qi 0 (Qu tb f256r0 (Qz f256 g)))):=by
 have v:=QI t;have y:=q;unfold big at q;intro a;induction a with | nil=>intro c l b o d e j p k n h i;simp only[QH]at e;rw[<- e]at i;rw[Qc f256l0.eq_1];refine⟨false,?_⟩;simp[k,h,i,f256r0,ZZ] | cons x a z=>intro c l b o d e j p k n h i;have u:=QJ e;(have f:x∈t.kids:=by grind);simp only[Qs]at p;obtain⟨r,s⟩:=A x f l b false j (by omega);rw[Qc f256l0.eq_1];simp[k,n,h,i,(QB e),(QN e),(wr1 c.length (by omega)),s,Qf,ZZ];refine(fun d=>z (c ++ [x]) (X6 l x m) (b+x.nodes) r d (by grind) (M4 x l m b (by have:=QY f;omega) w j) (by omega)) _ ?_ ?_ ?_ ?_ <;> simp[n,h]
def Qoj: ∀t e m l b o,t.mass < big->uno m->Uf l b->b+t.nodes < 40000000->Bi (X6 l t m) e (call tb 256 [.sl o 5 (Qt l),.agg (Qd t),.int .i64 m] e):=by
 refine YC ?_;intro k n s c z e m l b o q a g r;have j:=QI (.mk k n s c);have i:=W2 (.mk k n s c);simp only[ZP,Y5]at i j;have d:=Ml (.mk k n s c) e;rw[zcc 256 rfl rfl,XT];cases p:Yx (.mk k n s c);refine⟨false,?_⟩;simp[f256C,d,p,(QcG (t:= .mk k n s c) (m:=m) false e g (by omega) q (by rcases a with rfl | rfl <;> simp))];have v:=fun m a w=>QhK (.mk k n s c) e q m a (fun x u l b o g r=>z x u e m l b o (by have:=QY u;simp at this;omega) a g r) c [] l b false w rfl g (by omega);cases f:n == INV;have h:=v m a;simp only[INV]at f;simp[f256C,d,p,f,INV];refine h _ ?_ ?_ ?_ ?_ <;> simp;have h:=v (-m) a.neg;have y:IntKind.i64.wrap (-m)= -m:=by rcases a with rfl | rfl <;> rfl
 simp only[INV]at f;simp[f256C,d,p,f,y,INV];refine h _ ?_ ?_ ?_ ?_ <;> simp
def Qez (B0:Qp) (l:Qw) (ok:Bool) (r:Out):Prop:=∃v B,r=some (.tup [v,.bool ok],B)/\PS B0 B v (if ok then l else [])
def TB {c B v l} (h:PS c B v l): ∃a b,v= .gs a 0 b l.length:=by
 obtain⟨M,a,b,_,rfl,_⟩:=h;simp
def IR {a B v l} (h:PS a B v l):PS a B (.gs 0 0 0 0) []:=by
 obtain⟨M,c,b,rfl,_,_⟩:=h;exact⟨M,0,0,rfl,rfl,.inl ⟨rfl,rfl,rfl⟩⟩
def Qli (t:Tm) (r) (A:t.mass < big) (m) (M:uno m) (E: ∀x∈t.kids,∀B v l b,PS r B v l->Uf l b->b+x.nodes < 40000000->Qez r (X6 l x m) (arB x) (call tb 187 [v,.agg (Qd x),.int .i64 m] B)) (K):
  ∀a d l b B v i,t.kids=d ++ a->PS r B v l->Uf l b->b+Qs a < 40000000->i 0=v->i 2= .int .i64 m->i 52= .sl false 4 (Qa t.kids)->i 53= .int .i64 t.kids.length->i 54= .int .i64 d.length->
  Qez r (ZZ l a m) (arL a) (R tb (.loop f187l0) i B (Qi 1 (Qu tb f187r0 (Qz f187 K)))):=by
 have G:=QI t;have D:=A;unfold big at A;intro a;induction a with | nil=>intro d l b B v i k h u w q s e f g;simp only[QH]at k;rw[<- k]at g;obtain⟨H,I,rfl⟩:=TB h;rw[Qc f187l0.eq_1];refine⟨_,B,?_,by simpa[ZZ,arL]using h⟩;simp[q,e,f,g,f187r0,arL] | cons x a C=>intro d l b B v i k h u w q s e f g;have y:=QB k;have O:=QJ k;have p:=QN k;(have o:x∈t.kids:=by grind);simp only[Qs]at w;obtain⟨Q,z,j,c⟩:=E x o B v l b h u (by omega);obtain⟨H,I,rfl⟩:=TB h;obtain⟨J,L,rfl⟩:=TB c;rw[Qc f187l0.eq_1];cases n:arB x;rw[n]at j c;refine⟨.gs 0 0 0 0,z,?_,by simpa[arL,n]using IR c⟩;simp only[Xn,ZT]at j;simp[q,s,e,f,g,y,p,j,Qf,arL,n];rw[n]at j c;simp only[QT]at j c;(have N:ZZ l (x:: a) m=ZZ (X6 l x m) a m:=by simp[ZZ]);(have P:arL (x:: a)=arL a:=by simp[arL,n]);rw[N,P];simp[q,s,e,f,g,y,p,(wr1 d.length (by omega)),j,Qf];refine(fun i=>C (d ++ [x]) (X6 l x m) (b+x.nodes) z _ i (by grind) c (M4 x l m b (by have:=QY o;omega) M u) (by omega)) _ ?_ ?_ ?_ ?_ ?_ <;> simp[s,e,f]
def Qn3: ∀t u B v l m b,t.mass < big->uno m->PS u B v l->Uf l b->b+t.nodes < 40000000->Qez u (X6 l t m) (arB t) (call tb 187 [v,.agg (Qd t),.int .i64 m] B):=by
 refine YC ?_;intro k n s c J u B v l m b G o g r E;have z:=QI (.mk k n s c);have y:=W2 (.mk k n s c);simp only[ZP,Y5]at y z;have a:=JS (.mk k n s c) B;obtain⟨V,P,rfl⟩:=TB g;rw[zcc 187 rfl rfl,XT,O8];cases h:Yx (.mk k n s c);obtain⟨R,O,f,j⟩:=QcB (p:=(.mk k n s c,m)) g (by have:=r.len;omega) (fun q N=>by obtain⟨U,S,Q⟩:=r.bd q N;omega) G (by rcases o with rfl | rfl <;> simp) r.asc;obtain⟨M,I,rfl⟩:=TB j;have L:Qd (.mk k n s c)++ [.int .i64 m]=Q9 (.mk k n s c,m):=rfl;refine⟨_,O,?_,by simpa using j⟩;simp[f187C,a,h,O0,L,f];have w:=fun m o H=>Qli (.mk k n s c) u G m o (fun x C B v l b g r E=>J x C u B v l m b (by have:=QY C;simp at this;omega) o g r E) B c [] l b B _ H rfl g r (by omega);obtain⟨rfl,D⟩:=HU h;simp only[Y5]at D;simp only[ZP]at w;simp only[GK,Pm,QT];rcases D with rfl | rfl | rfl;have A:=w m o;by_cases d:c.length < 2;have i: (c.length:Int) < 2:=by omega
 have f:Wx (.mk 3 MUL s c)=false:=by simp[Wx,d]
 refine⟨.gs 0 0 0 0,B,?_,by simpa[f]using IR g⟩;simp only[f];simp[MUL]at a h f;simp[f187C,a,h,MUL,i];have i: ¬(c.length:Int) < 2:=by omega
 have f:Wx (.mk 3 MUL s c)=true:=by simp[Wx,d];simp[MUL,INV,ONE]
 have e: ((Tm.mk 3 MUL s c).name == INV)=false:=by simp[MUL,INV]
 rw[e];simp only[f,VS,ZP,Xn,ZT];simp[MUL]at a h;simp[f187C,a,h,MUL,i];simp_all;have A:=w (-m) o.neg;have K:IntKind.i64.wrap (-m)= -m:=by rcases o with rfl | rfl <;> rfl
 by_cases d:c.length=1;have i: (c.length:Int)=1:=by omega
 have f:Wx (.mk 3 INV s c)=true:=by simp[Wx,d];simp[MUL,INV,ONE]
 have e: ((Tm.mk 3 INV s c).name == INV)=true:=by simp
 rw[e];simp only[f,VS,ZP,QT];simp[INV]at a h;simp[f187C,a,h,INV,i,K];refine A _ ?_ ?_ ?_ ?_ ?_ <;> simp[d];have i: ¬(c.length:Int)=1:=by omega
 have f:Wx (.mk 3 INV s c)=false:=by simp[Wx,d]
 refine⟨.gs 0 0 0 0,B,?_,by simpa[f]using IR g⟩;simp only[f];simp[INV]at a h f;simp[f187C,a,h,INV,i];have A:=w m o;by_cases d:c=[];subst d;have f:Wx (.mk 3 ONE s [])=true:=by simp[Wx];simp[MUL,INV,ONE]
 have e: ((Tm.mk 3 ONE s []).name == INV)=false:=by simp[ONE,INV]
 rw[e];simp only[f,VS,ZP,Xn,ZT];simp[ONE]at a h;simp[f187C,a,h,ONE];simp_all;have T: ¬c.length=0:=fun e=>d (Yu e);have i: ¬(c.length:Int)=0:=by omega
 have f:Wx (.mk 3 ONE s c)=false:=by simp[Wx,d]
 refine⟨.gs 0 0 0 0,B,?_,by simpa[f]using IR g⟩;simp only[f];simp[ONE]at a h f;simp[f187C,a,h,ONE,d]
def ofE (t:Tm):Int:=if QR t≠0 then QR t else if arB t then(if 200 < (X6 [] t 1).length then 3 else 0)else 6
def ofP (t:Tm):Qw:=if ofE t=0 then X6 [] t 1 else []
def NK (t c) (l:t.mass < 30000000):call tb 253 [.agg (Qd t)] c=some (.tup [.sl false 5 (Qt (ofP t)),.int .i64 (ofE t)],c):=by
 have b:t.mass < big:=by unfold big;omega
 have k:=YU t;have f:=WW t c b;have h:=Qfb t c b;obtain⟨o,j⟩:=Qoj t c 1 [] 0 true b (.inl rfl) Mz (by omega);have d:call tb 256 [.sl true 5 [],.agg (Qd t),.int .i64 1] c=some (.sl o 5 (Qt (X6 [] t 1)),c):=j;rw[zcc 253 rfl rfl];by_cases e:QR t=0;cases g:arB t;simp[f253C,f,h,e,g,ofE,ofP,Qt];by_cases i:200 < (X6 [] t 1).length;have a: (200:Int) < ((X6 [] t 1).length:Int):=by omega
 simp[f253C,f,h,d,e,g,ofE,ofP,i,a];simp[Qt];have a: ¬(200:Int) < ((X6 [] t 1).length:Int):=by omega
 simp[f253C,f,h,d,e,g,ofE,ofP,i,a];simp[f253C,f,e,ofE,ofP,Qt]
def QuK {c B v l} (h:PS c B v l) (n): ∃o e,∀a:Yd,a n=v->Z8 {env:=a,bs:=B} n 5=some (.sl o 5 (Qt l),{env:=upd a n .undef,bs:=c ++ e}):=by
 obtain⟨M,q,r,rfl,rfl,p⟩:=h;rcases p with⟨rfl,rfl,rfl⟩ | ⟨rfl,i,t,s,g⟩;exact⟨true,M,fun a b=>by simp[Z8,b,Qt]⟩;by_cases m:l.length=0;have:l=[]:=Yu m;subst this;exact⟨false,M,fun a b=>by simp[Z8,b,Qt]⟩;refine⟨true,M.set (q - c.length) [],fun a b=> ?_⟩;have d:0+l.length*5<=(Zb l ++ t).length:=by rw[Zl,Wi];omega
 have j:ZW (Zb l ++ t) 0 5 l.length=Qt l:=Wd (f:=Q9) (k:=5) WY Wt l t;simp only[Z8,b];grind
def RE (t d) (p:t.mass < 30000000):call tb 186 [.agg (Qd t)] d=some (.tup [.sl false 5 (Qt (ofP t)),.int .i64 (ofE t)],d):=by
 have e:t.mass < big:=by unfold big;omega
 have m:=YU t;have g:=Tr t d e;obtain⟨v,B,c,a⟩:=Qn3 t d d (.gs 0 0 0 0) [] 1 0 e (.inl rfl) (Qjl d) Mz (by omega);obtain⟨q,s,rfl⟩:=TB a;obtain⟨M,k⟩: ∃M,B=d ++ M:=by obtain⟨M,_,_,h,_⟩:=a;grind
 have l:=Mp (X6 [] t 1);rw[zcc 186 rfl rfl];by_cases i:QR t=0;cases f:arB t;rw[f]at c a;simp only[Xn,ZT]at c;simp[f186C,g,i,c,f,ofE,ofP,Qt,k];rw[f]at c a;simp only[QT]at c a;by_cases j:200 < (X6 [] t 1).length;have b: (200:Int) < ((X6 [] t 1).length:Int):=by omega
 simp[f186C,g,i,c,f,ofE,ofP,j,b,k];simp[Qt];have b: ¬(200:Int) < ((X6 [] t 1).length:Int):=by omega
 obtain⟨o,r,n⟩:=QuK a 24;simp[f186C,g,i,c,f,ofE,ofP,j,b,n];simp[f186C,g,i,ofE,ofP,Qt]
def gtO (prev:Option Tm) (t:Tm):Bool:=match prev with
 | none=>true
 | some q=>decide (Qm q t < 0)
def Wq (n:Int):Bool:=decide (n < -1000) || decide (1000 < n)
def vPL:Option Tm->Qw->Int
 | _,[]=>0
 | prev,p:: r=>if QR p.1≠0 then QR p.1 else if Yx p.1 then 1 else if p.2=0\/Wq p.2=true then 7 else if gtO prev p.1 then vPL (some p.1) r else 5
def Q5 (l:Qw):Int:=if 200 < l.length then 3 else vPL none l
def Fu (l:Qw):Option Tm:=l.getLast?.map (·.1)
def Dj:Fu []=none:=rfl
def M0 (l p):Fu (l ++ [p])=some p.1:=by simp[Fu]
def GB:=@Int.natCast_add
def BL:=@Int.natCast_one
def Qgx (l v) (Q:l.length < 100000000) (N: ∀q∈l,q.1.mass < big):
  ∀f e o m,l=e ++ f->m 0= .sl o 5 (Qt l)->m 9= .sl false 5 (Qt l)->m 10= .int .i64 l.length->m 11= .int .i64 e.length->
  R tb (.loop f197l0) m v (Qi 0 (Qu tb f197r0 (Qz f197 v)))=some (.int .i64 (vPL (Fu e) f),v):=by
 intro f;induction f with | nil=>intro e o m j h g b a;simp only[QH]at j;rw[<- j]at a;rw[Qc f197l0.eq_1];simp[g,b,a,f197r0,vPL] | cons p f P=>intro e o m j h g b a;have i:=QB j;have B:=QJ j;have k:=wr1 e.length (by omega);have d:=QN j;have E:=N p (by rw[j];simp);have n:=Tr p.1 v E;have s:=JS p.1 v;have I:=fun m=>P (e ++ [p]) o m (by rw[j];simp);rw[M0]at I;rw[Qc f197l0.eq_1];by_cases r:QR p.1=0;cases t:Yx p.1;by_cases w:p.2=0;simp[h,g,b,a,i,d,n,s,r,t,w,vPL];by_cases G:p.2 < -1000;simp[h,g,b,a,i,d,n,s,r,t,w,G,vPL,Wq];by_cases J:1000 < p.2;simp[h,g,b,a,i,d,n,s,r,t,w,G,J,vPL,Wq];rcases List.eq_nil_or_concat e with rfl | ⟨c,q,rfl⟩;have A:=a;have L:l[0]? =some p:=i;(have y:0 < l.length:=by omega);have K:IntKind.i64.wrap 1=1:=rfl;clear a i d k;simp[-getElem?_pos,g,b,A,L,y,K,n,s,r,t,w,G,J,vPL,Wq,Dj,gtO];refine I _ ?_ ?_ ?_ ?_ <;> simp[h,g,b];(have C:l[c.length]? =some q:=by rw[j];simp);have M:=call_Compare q.1 p.1 v (N q (by rw[j];simp)) E;(have D: (0:Int) < (c.length:Int)+1:=by omega);(have x: (0:Int)<=(c.length:Int)+1:=by omega);(have z: ((c.length:Int)+1).toNat=c.length+1:=by omega);have H:IntKind.i64.wrap (c.length:Int)=(c.length:Int):=QC (by simp at B;omega) (by simp at B;omega);simp only[List.concat_eq_append]at *;rw[M0];simp only[Zl,Pg,GB,BL]at a i d k I;by_cases O:Qm q.1 p.1 < 0;(have u: ¬0<=Qm q.1 p.1:=by omega);simp[h,g,b,a,i,C,d,k,H,D,x,z,n,s,M,r,t,w,G,J,O,u,vPL,Wq,gtO];refine I _ ?_ ?_ ?_ ?_ <;> simp[h,g,b];(have u:0<=Qm q.1 p.1:=by omega);simp[h,g,b,a,i,C,d,k,H,D,x,z,n,s,M,r,t,w,G,J,O,u,vPL,Wq,gtO];simp[h,g,b,a,i,d,n,s,r,t,vPL];simp[h,g,b,a,i,d,n,s,r,vPL]
def LI (l o a) (d:l.length < 100000000) (e: ∀q∈l,q.1.mass < big):call tb 197 [.sl o 5 (Qt l)] a=some (.int .i64 (Q5 l),a):=by
 rw[zcc 197 rfl rfl];by_cases c:200 < l.length;have b: (200:Int) < (l.length:Int):=by omega
 simp[f197C,c,b,Q5];have b: ¬(200:Int) < (l.length:Int):=by omega
 simp[f197C,c,b,Q5];refine(fun f=>Qgx l a d e l [] false f rfl) _ ?_ ?_ ?_ ?_ <;> simp
def QbG (l u) (O:l.length < 100000000) (L: ∀q∈l,q.1.mass < big):
  ∀c d o r,l=d ++ c->r 0= .sl o 5 (Qt l)->r 3= .int .i64 d.length->
  R tb (.loop f259l0) r u (Qi 0 (Qu tb f259r0 (Qz f259 u)))=some (.int .i64 (vPL (Fu d) c),u):=by
 intro c;induction c with | nil=>intro d o r g f e;simp only[QH]at g;rw[<- g]at e;rw[Qc f259l0.eq_1];simp[f,e,f259r0,vPL] | cons p c N=>intro d o r g f e;have h:=QB g;have y:=QJ g;have i:=wr1 d.length (by omega);have b:=QN g;have w:=L p (by rw[g];simp);have j:=WW p.1 u w;have m:=Ml p.1 u;have G:=fun r=>N (d ++ [p]) o r (by rw[g];simp);rw[M0]at G;rw[Qc f259l0.eq_1];by_cases k:QR p.1=0;cases n:Yx p.1;by_cases t:p.2=0;simp[f,e,h,b,j,m,k,n,t,vPL];by_cases z:p.2 < -1000;simp[f,e,h,b,j,m,k,n,t,z,vPL,Wq];by_cases E:1000 < p.2;simp[f,e,h,b,j,m,k,n,t,z,E,vPL,Wq];rcases List.eq_nil_or_concat d with rfl | ⟨a,q,rfl⟩;have H:=e;have J:l[0]? =some p:=h;(have A:0 < l.length:=by omega);have I:IntKind.i64.wrap 1=1:=rfl;clear e h b i;simp[-getElem?_pos,f,H,J,A,I,j,m,k,n,t,z,E,vPL,Wq,Dj,gtO];refine G _ ?_ ?_ <;> simp[f];(have C:l[a.length]? =some q:=by rw[g];simp);have K:=Uw q.1 p.1 u (L q (by rw[g];simp)) w;(have B: (0:Int) < (a.length:Int)+1:=by omega);(have v: (0:Int)<=(a.length:Int)+1:=by omega);(have x: ((a.length:Int)+1).toNat=a.length+1:=by omega);have D:IntKind.i64.wrap (a.length:Int)=(a.length:Int):=QC (by simp at y;omega) (by simp at y;omega);simp only[List.concat_eq_append]at *;rw[M0];simp only[Zl,Pg,GB,BL]at e h b i G;by_cases M:Qm q.1 p.1 < 0;(have s: ¬0<=Qm q.1 p.1:=by omega);simp[f,e,h,C,b,i,D,B,v,x,j,m,K,k,n,t,z,E,M,s,vPL,Wq,gtO];refine G _ ?_ ?_ <;> simp[f];(have s:0<=Qm q.1 p.1:=by omega);simp[f,e,h,C,b,i,D,B,v,x,j,m,K,k,n,t,z,E,M,s,vPL,Wq,gtO];simp[f,e,h,b,j,m,k,n,vPL];simp[f,e,h,b,j,m,k,vPL]
def IB (l o a) (d:l.length < 100000000) (e: ∀q∈l,q.1.mass < big):call tb 259 [.sl o 5 (Qt l)] a=some (.int .i64 (Q5 l),a):=by
 rw[zcc 259 rfl rfl];by_cases c:200 < l.length;have b: (200:Int) < (l.length:Int):=by omega
 simp[f259C,c,b,Q5];have b: ¬(200:Int) < (l.length:Int):=by omega
 simp[f259C,c,b,Q5];refine(fun f=>QbG l a d e l [] false f rfl) _ ?_ ?_ <;> simp
def MH: ∀l b,vPL b l=0->(∀q∈l,QR q.1=0/\Yx q.1=false/\q.2≠0/\ -1000<=q.2/\q.2<=1000)/\Asc (QW l)/\(∀a,b=some a->∀q∈l,Qm a q.1 < 0)
 | [],b,_=>⟨fun q h=>by simp at h,Asc.nil,fun a _ q h=>by simp at h⟩
 | p:: r,b,h=>by
  simp only[vPL]at h;split at h;rename_i c;exact absurd h c;rename_i k;split at h;cases h;rename_i t;split at h;cases h;rename_i f;split at h;rename_i i;obtain⟨n,s,m⟩:=MH r (some p.1) h;have e:=m p.1 rfl;refine⟨fun q d=> ?_,?_,?_⟩;rcases Zf.1 d with rfl | d;simp[Wq]at f;exact⟨by simpa using k,by simpa using t,f.1,f.2.1,f.2.2⟩;exact n q d;simp only[QW,ZI];refine YQ.2 ⟨fun y j=> ?_,s⟩;obtain⟨q,d,rfl⟩:=Yg.1 j;exact e q d;intro a o q d;subst o;have g:Qm a p.1 < 0:=by simpa[gtO]using i
  rcases Zf.1 d with rfl | d;exact g;exact XE g (e q d);cases h
def TD {l} (h:Q5 l=0) (c: ∀q∈l,q.1.mass < big):Uf l 1000/\l.length<=200/\∀q∈l,QR q.1=0/\Yx q.1=false:=by
 unfold Q5 at h;split at h;cases h;obtain⟨b,d,_⟩:=MH l none h;exact⟨⟨d,fun q a=>(b q a).2.2.1,by omega,fun q a=>⟨c q a,(b q a).2.2.2.1,(b q a).2.2.2.2⟩⟩,by omega,fun q a=>⟨(b q a).1,(b q a).2.1⟩⟩
end Go.Am
