/-
  Kn83, Kn84, Kn85, Kn86, Kn87, AmMemo, KnND.
-/
import Derived.Test.YtgjaamacjmjjcaaGreatDoorG26
import Derived.Test.YtgjaamacjmjjcaaGreatDoorG11
import Derived.KernelRfl
set_option linter.all false
open Go.Am.F
namespace Go.Am
set_option maxRecDepth 20000
def P4 (t:Tm):Qj:=if VX t=0 then [WV t]else []
def YS (u:Qj):Qj:=(u.map P4).flatten
def FK (u t):YS (u ++ [t])=YS u ++ P4 t:=by simp[YS]
def Iy: ∀u:Qj,(YS u).length<=u.length
 | []=>by simp[YS]
 | t:: u=>by
  have a:=Iy u;have:YS (t:: u)=P4 t ++ YS u:=by simp[YS]
  rw[this];have: (P4 t).length<=1:=by unfold P4;grind
  grind
def Qi6 {u} (c:UK u): ∀{l},(∀x∈l,x∈u)->∀x∈YS l,x∈u:=by
 intro l e x a;obtain⟨m,b,a⟩:=Nd.1 a;obtain⟨t,d,rfl⟩:=YL.1 b;unfold P4 at a;split at a;rename_i h;rw[Vz.1 a];exact c.key t (e t d) h;grind
def Mz {u} (c:UK u) {l} (a: ∀x∈l,x∈u):PsI u (Qq (YS l)):=⟨XY _,fun x b=>Qi6 c a x (Z7.1 b)⟩
def Qwa {u} (g:UK u) (B):
  ∀b a o h f,u=a ++ b->f 3= .sl o 4 (Qa (Qq (YS a)))->f 8= .sl h 4 (Qa u)->f 9= .int .i64 u.length->f 10= .int .i64 a.length->
  ClR (Qq (YS u)) B (R tb (.loop f606l0) f B (Qh 0 (Qs tb f606r0 (QA f606 B)))):=by
 have D:=g.len;intro b;induction b with | nil=>intro a o h f i l j k e;simp only[Qy]at i;rw[<- i]at l e;refine⟨false,?_⟩;have y:=ZL (Qq (YS u));generalize Qa (Qq (YS u))=I at *;rw[Qb f606l0.eq_1];simp[l,j,k,e,f606r0,y] | cons t b A=>intro a o h f i l j k e;have r:=Qv i;have E:=QD i;have p:=wr1 a.length (by omega);have n:=QF i;(have w:t∈u:=by grind);(have q: ∀x∈a,x∈u:=fun x J=>by grind);have z:=Mz g q;have d:=Qdd t B (g.gd t w) (g.ms t w);have H:=Iy a;have C:=WF (YS a);have m:=fun o h f=>A (a ++ [t]) o h f (by grind);rw[FK]at m;rw[Qb f606l0.eq_1];by_cases c:VX t=0;(have v:P4 t=[WV t]:=by simp[P4,c]);obtain⟨G,s⟩:=I6 (Qq (YS a)) (WV t) false B (by omega) (X8 (Vw g z)) (by have:=g.ms _ (g.key t w c);unfold big;omega) z.asc;rw[v,Nw]at m;simp only[T8,c]at d;simp[l,j,k,e,r,n,p,d,s,Qc];apply m G h <;> simp[j,k];(have v:P4 t=[]:=by simp[P4,c]);rw[v,Qy]at m;simp only[T8]at d;simp[l,j,k,e,r,n,p,d,c,Qc];apply m o h <;> simp[l,j,k]
def Qo5 {u} (b:UK u) (o B):ClR (Qq (YS u)) B (call tb 606 [.sl o 4 (Qa u)] B):=by
 rw[zcc 606 rfl rfl];simp[f606C];apply(fun a=>Qwa b B u [] true false a rfl) <;> simp[YS,Qq,Yo,Qa]
def QuI {u} (g:UK u) (B):
  ∀b a o f e,u=a ++ b->e 0= .sl f 4 (Qa u)->e 3= .sl o 4 (Qa (Qq (YS a)))->e 4= .int .i64 a.length->
  ClR (Qq (YS u)) B (R tb (.loop f618l0) e B (Qh 0 (Qs tb f618r0 (QA f618 B)))):=by
 have w:=g.len;intro b;induction b with | nil=>intro a o f e i h j p;simp only[Qy]at i;rw[<- i]at j p;refine⟨false,?_⟩;have v:=ZL (Qq (YS u));generalize Qa (Qq (YS u))=E at *;rw[Qb f618l0.eq_1];simp[h,j,p,f618r0,v] | cons t b z=>intro a o f e i h j p;have m:=Qv i;have C:=QD i;have q:=wr1 a.length (by omega);have n:=QF i;(have s:t∈u:=by grind);(have k: ∀x∈a,x∈u:=fun x D=>by grind);have d:=EM t B (g.gd t s) (g.ms t s);have y:=Iy a;have A:=WF (YS a);have l:=fun o f e=>z (a ++ [t]) o f e (by grind);rw[FK]at l;rw[Qb f618l0.eq_1];by_cases c:VX t=0;(have r:P4 t=[WV t]:=by simp[P4,c]);rw[r,Nw]at l;simp only[T8,c]at d;simp[h,j,p,m,n,q,d,(RJ (Qq (YS a)) (WV t) false B (by omega) (X8 (Vw g (Mz g k))) (by have:=g.ms _ (g.key t s c);unfold big;omega)),Qc];apply l false f <;> simp[h];(have r:P4 t=[]:=by simp[P4,c]);rw[r,Qy]at l;simp only[T8]at d;simp[h,j,p,m,n,q,d,c,Qc];apply l o f <;> simp[h,j]
def Qpa {u} (b:UK u) (o B):ClR (Qq (YS u)) B (call tb 618 [.sl o 4 (Qa u)] B):=by
 rw[zcc 618 rfl rfl];simp[f618C];apply(fun a=>QuI b B u [] true false a rfl) <;> simp[YS,Qq,Yo,Qa]
noncomputable def Xs (u C:Qj) (t x:Tm):Bool:= !Qx C t && !Qx C x && Qx (kcl u (QT x C)) t
noncomputable def IL (u C:Qj) (t:Tm):Qj:=(Qq (YS u)).filter (Xs u C t)
noncomputable def MF (k:Qj) (t:Tm):Qj:=if Z4 k [t]=0 then IL (Yt (k ++ [t])) (kcl (Yt (k ++ [t])) (Qq k)) t else []
def Qwd {u C} (Q:UC u) (E:UK u) (T:Asc u) (A:PsI u C) (t) (htm:t.mass < 1000000) (B):
  ∀j b s w g k,Qq (YS u)=b ++ j->k 3= .bx (Qd t)->k 6= .sl s 4 (Qa u)->k 8= .sl w 4 (Qa C)->k 9= .sl true 4 (Qa (b.filter (Xs u C t)))->k 27= .sl g 4 (Qa (Qq (YS u)))->k 28= .int .i64 (Qq (YS u)).length->k 29= .int .i64 b.length->
  LsR (IL u C t) 0 B (R tb (.loop f605l0) k B (Qh 0 (Qs tb f605r0 (QA f605 B)))):=by
 have hul:=E.len;have X:=Mz E (l:=u) fun x hx=>hx;have hKl:=Si Q T X;have hCl:=Si Q T A;unfold IL;generalize Qq (YS u)=K at *;intro j;induction j with | nil=>intro b s w g k L q J n m d e i;simp only[Qy]at L;rw[<- L]at m i;refine⟨false,?_⟩;have W:=ZL (K.filter (Xs u C t));generalize Qa (K.filter (Xs u C t))=EF at *;rw[Qb f605l0.eq_1];simp[m,d,e,i,f605r0,W] | cons x j Z=>intro b s w g k L q J n m d e i;have hll:=QD L;have v:=wr1 b.length (by omega);have p:=QF L;have M:=X.sub x (by grind);have hxm:=E.ms x M;have a:=Tq C t false B (by omega) (X8 (Vw E A)) (by unfold big;omega) A.asc;have c:=Tq C x false B (by omega) (X8 (Vw E A)) (by unfold big;omega) A.asc;obtain⟨o2,y⟩:=I6 C x false B (by omega) (X8 (Vw E A)) (by unfold big;omega) A.asc;have P:=Re A M;obtain⟨o3,z⟩:=Qag Q T P false false B;have H:=Pd P;have f:=Tq (kcl u (QT x C)) t false B (by have:=Si Q T H;omega) (X8 (Vw E H)) (by unfold big;omega) H.asc;(have r: (Qa K)[b.length]? =some (Qd x):=by rw[Xf,(Qv L)];rfl);have hKe: (Qa K).length=K.length:=QX _;have o:=fun s w g k=>Z (b ++ [x]) s w g k (by grind);have hfl:=Ux (Xs u C t) b;have N: (Qa (b.filter (Xs u C t))).length=(b.filter (Xs u C t)).length:=QX _;(have O: ((b.filter (Xs u C t)).length+1)*56<=140737488355328:=by omega);have D:=QQ (b.filter (Xs u C t)) [x];(have e1:Qa [x]=[Qd x]:=by simp[Qa]);rw[e1]at D;simp only[UW]at o;generalize hEK:Qa K=EK at *;rw[Qb f605l0.eq_1];have hop:Xs u C t x=(!Qx C t && !Qx C x && Qx (kcl u (QT x C)) t):=rfl;(have G:Xs u C t x=false->List.filter (Xs u C t) [x]=[]:=fun h=>by grind);(have V:Xs u C t x=true->List.filter (Xs u C t) [x]=[x]:=fun h=>by grind);generalize kcl u (QT x C)=C2 at *;cases S:Qx C t;cases U:Qx C x;cases Y:Qx C2 t;have I:=G (by grind);rw[I,Qy]at o;rw[S]at a;rw[U]at c;rw[Y]at f;simp[-getElem?_pos,q,J,n,m,d,e,i,r,p,v,a,c,y,z,f,Qc];apply o s w g <;> simp[q,J,n,m,d,e];have I:=V (by grind);rw[I,<- D]at o;rw[S]at a;rw[U]at c;rw[Y]at f;generalize Qa (b.filter (Xs u C t))=EF at *;generalize (b.filter (Xs u C t)).length=nf at *;simp[-getElem?_pos,q,J,n,m,d,e,i,r,p,v,a,c,y,z,f,Qc,N,O];apply o s w g <;> simp[q,J,n,d,e];have I:=G (by grind);rw[I,Qy]at o;rw[S]at a;rw[U]at c;simp[-getElem?_pos,q,n,m,d,e,i,r,p,v,a,c,Qc];apply o s w g <;> simp[q,J,n,m,d,e];have I:=G (by grind);rw[I,Qy]at o;rw[S]at a;simp[-getElem?_pos,q,n,m,d,e,i,r,p,v,a,Qc];apply o s w g <;> simp[q,J,n,m,d,e]
def Qdu (k t) (h:KI (k ++ [t])) (o B):LsR (MF k t) (Z4 k [t]) B (call tb 605 [.sl o 4 (Qa k),.agg (Qd t)] B):=by
 obtain⟨x,a⟩:=Om k [t] h false false B;obtain⟨l,i⟩:=E6 h;have q:Qa [t]=[Qd t]:=by simp[Qa]
 rw[q]at a;rw[zcc 605 rfl rfl];unfold MF;by_cases c:Z4 k [t]=0;have b:=Of h c;rw[c,Qg rfl]at a;obtain⟨n,e⟩:=Qag b.uc b.asc b.ps false false B;obtain⟨r,d⟩:=Qo5 b.uk false B;have m:=fun v s f j=>Qwd b.uc b.uk b.asc (Pd b.ps) t (h.ms t (by simp)) B (Qq (YS (Yt (k ++ [t])))) [] v s f j rfl;have g: (Qa (Qq (YS (Yt (k ++ [t]))))).length=(Qq (YS (Yt (k ++ [t])))).length:=QX _;rw[c,Qg rfl];generalize Yt (k ++ [t])=u at *;generalize kcl u (Qq k)=C at *;generalize Qq (YS u)=p at *;generalize Qa p=w at *;simp[f605C,a,(fun o=>NX k o B (by omega) (X8 i)),e,d,Qc];apply m false n r <;> simp[Qa,g];rw[Qe c]at a;rw[Qe c];refine⟨false,?_⟩;simp[f605C,a,c,Qc,Qa]
def QuJ {u C} (P:UC u) (s:UK u) (Q:Asc u) (O:PsI u C) (t) (htm:t.mass < 1000000) (h0:Qx C t=false) (B):
  ∀e a q r f i,Qq (YS u)=a ++ e->i 3= .bx (Qd t)->i 6= .sl q 4 (Qa u)->i 8= .sl r 4 (Qa C)->i 9= .sl true 4 (Qa (a.filter (Xs u C t)))->i 10= .sl f 4 (Qa (Qq (YS u)))->i 11= .int .i64 a.length->
  LsR (IL u C t) 0 B (R tb (.loop f617l0) i B (Qh 0 (Qs tb f617r0 (QA f617 B)))):=by
 have hul:=s.len;have X:=Mz s (l:=u) fun x Z=>Z;have hKl:=Si P Q X;have hCl:=Si P Q O;unfold IL;generalize Qq (YS u)=A at *;have j: (Qa A).length=A.length:=QX _;intro e;induction e with | nil=>intro a q r f i E G D m o d g;simp only[Qy]at E;rw[<- E]at o g;refine⟨false,?_⟩;have U:=ZL (A.filter (Xs u C t));generalize Qa (A.filter (Xs u C t))=EF at *;rw[Qb f617l0.eq_1];simp[m,o,d,g,j,f617r0,U] | cons x e IH=>intro a q r f i E G D m o d g;have hll:=QD E;have y:=wr1 a.length (by omega);have v:=QF E;have H:=X.sub x (by grind);have hxm:=s.ms x H;have b:=Sb C x false B (by omega) (X8 (Vw s O)) (by unfold big;omega);have n:=RJ C x false B (by omega) (X8 (Vw s O)) (by unfold big;omega);have J:=Re O H;obtain⟨o3,k⟩:=Qah P s Q J false false B;have N:=Pd J;have c:=Sb (kcl u (QT x C)) t false B (by have:=Si P Q N;omega) (X8 (Vw s N)) (by unfold big;omega);(have w: (Qa A)[a.length]? =some (Qd x):=by rw[Xf,(Qv E)];rfl);have z:=fun q r S i=>IH (a ++ [x]) q r S i (by grind);have Y:=Ux (Xs u C t) a;have I: (Qa (a.filter (Xs u C t))).length=(a.filter (Xs u C t)).length:=QX _;(have K: ((a.filter (Xs u C t)).length+1)*56<=140737488355328:=by omega);have p:=QQ (a.filter (Xs u C t)) [x];(have e1:Qa [x]=[Qd x]:=by simp[Qa]);rw[e1]at p;simp only[UW]at z;generalize hEK:Qa A=EK at *;rw[Qb f617l0.eq_1];have hop:Xs u C t x=(!Qx C t && !Qx C x && Qx (kcl u (QT x C)) t):=rfl;(have M:Xs u C t x=false->List.filter (Xs u C t) [x]=[]:=fun h=>by grind);(have T:Xs u C t x=true->List.filter (Xs u C t) [x]=[x]:=fun h=>by grind);generalize kcl u (QT x C)=C2 at *;cases V:Qx C x;cases W:Qx C2 t;have L:=M (by grind);rw[L,Qy]at z;rw[V]at b;rw[W]at c;simp[-getElem?_pos,G,D,m,o,d,g,j,w,v,y,b,n,k,c,Qc];apply z q r f <;> simp[G,D,m,o,d];have L:=T (by grind);rw[L,<- p]at z;rw[V]at b;rw[W]at c;generalize Qa (a.filter (Xs u C t))=EF at *;generalize (a.filter (Xs u C t)).length=nf at *;simp[-getElem?_pos,G,D,m,o,d,g,j,w,v,y,b,n,k,c,Qc,I,K];apply z q r f <;> simp[G,D,m,d];have L:=M (by grind);rw[L,Qy]at z;rw[V]at b;simp[-getElem?_pos,m,o,d,g,j,w,v,y,b,Qc];apply z q r f <;> simp[G,D,m,o,d]
def Qdy (k t) (h:KI (k ++ [t])) (o B):LsR (MF k t) (Z4 k [t]) B (call tb 617 [.sl o 4 (Qa k),.agg (Qd t)] B):=by
 obtain⟨D,a⟩:=EH k t h false B;obtain⟨v,m⟩:=E6 h;have p:=h.ms t (by simp);have g:=fun o=>RK k o B (by omega) (X8 m);rw[zcc 617 rfl rfl];unfold MF;by_cases c:Z4 k [t]=0;have f:=Of h c;rw[c,Qg rfl]at a;obtain⟨y,i⟩:=Qah f.uc f.uk f.asc f.ps false false B;have n:=Pd f.ps;obtain⟨s,j⟩:=Qpa f.uk false B;have b:=Sb (kcl (Yt (k ++ [t])) (Qq k)) t false B (by have:=Si f.uc f.asc n;omega) (X8 (Vw f.uk n)) (by unfold big;omega);rw[c,Qg rfl];cases d:Qx (kcl (Yt (k ++ [t])) (Qq k)) t;have r:=fun A w l q=>QuJ f.uc f.uk f.asc n t p d B (Qq (YS (Yt (k ++ [t])))) [] A w l q rfl;rw[d]at b;generalize Yt (k ++ [t])=u at *;generalize kcl u (Qq k)=C at *;generalize Qq (YS u)=z at *;generalize Qa z=E at *;simp[f617C,a,g,i,b,j,Qc];apply r false y s <;> simp[Qa];have e:IL (Yt (k ++ [t])) (kcl (Yt (k ++ [t])) (Qq k)) t=[]:=by unfold IL;refine JB.2 fun x _=> ?_;simp[Xs,d]
 rw[d]at b;rw[e];generalize Yt (k ++ [t])=u at *;generalize kcl u (Qq k)=C at *;refine⟨false,?_⟩;simp[f617C,a,g,i,b,Qc,Qa];rw[Qe c]at a;rw[Qe c];refine⟨false,?_⟩;simp[f617C,a,c,Qc,Qa]
def Qla {l} (h:l≠[]) (d:l.length < 1000000) (B):call tb 193 [.sl false 4 (Qa l)] B=some (.gs B.length 0 4 l.length,B ++ [Qk l]):=by
 rw[Y9 tb_193];have b: (Qa l).flatten.map AV.strip=Qk l:=by(have: (Qa l).flatten=Qk l:=by rw[Zr];rfl);rw[this,Z5 Zc]
 have a: (Qa l).length=l.length:=by simp[Zr]
 have c:l.length*56<=140737488355328:=by omega
 simp[X2,VE,b,a,(ZL l),h,c]
def QgY (l:Qj) (id:Nat) (B:Qr) (r:Out):Prop:=∃o c,r=some (.sl o 4 (Qa l),B.set id c)
def Qae (l t):ZR (Qk l ++ t) 0 4 l.length=Qa l:=by
 have:=X3 (f:=Qd) (k:=4) QE Zc l t;rwa[TW]at this
def Qpk {pre post p id n B} (hn:n=pre.length+1+post.length) (hl:n < 1000000) (E:B[id]? =some (Qk (pre ++ p:: post))):
  QgY (pre ++ post) id B (call tb 727 [.gs id 0 4 n,.int .i64 pre.length,.int .i64 ((pre.length:Int)+1)] B):=by
 have e1: (0:Int)<=(pre.length:Int):=by omega
 have e2: (pre.length:Int)<=(pre.length:Int)+1:=by omega
 have Y: (pre.length:Int)+1<=(n:Int):=by omega
 have Z: (0:Int)<=(pre.length:Int)+1:=by omega
 have e5: ¬(pre.length:Int)=(pre.length:Int)+1:=by omega
 have e6: (pre.length:Int)<=(n:Int):=by omega
 have e7: ((pre.length:Int)+1).toNat=pre.length+1:=by omega
 have e8:n - (pre.length+1)=post.length:=by omega
 have e10:n - (n - 1)=1:=by omega
 have e11: ((n - 1:Nat):Int)<=(n:Int):=by omega
 have hl0: (Qk pre).length=pre.length*4:=ZZ QE pre;have A:=ZZ QE post;have C: (Qk (pre ++ p:: post)).length=n*4:=by rw[ZZ QE];simp;omega
 have d:=SQ (f:=Qd) (k:=4) QE (l:=pre ++ p:: post) (pre:=pre) (post:=p:: post) rfl [];have b:=MK (f:=Qd) (k:=4) QE (l:=pre ++ p:: post) (pre:=pre ++ [p]) (post:=post) (by simp) [];rw[Q6,Rn]at b;simp only[Qy]at d b;have q:Qk (pre ++ p:: post)≠[]:=by intro e;have:=UV List.length e;rw[C]at this;simp at this;omega
 have hb56:n*56<=140737488355328:=by omega
 have z:pre.length*56<=140737488355328:=by omega
 have s: (pre.length+post.length)*56<=140737488355328:=by omega
 have V: (n:Int)<=((Qk (pre ++ p:: post)).length:Int) / 4:=by rw[C];omega
 have K:pre.length<=n:=by omega
 have o:=ZL (pre ++ post);change (Qk (pre ++ p:: post)).take (pre.length*4)=Qk pre at d;change (Qk (pre ++ p:: post)).drop ((pre.length+1)*4)=Qk post at b;have r: ∀x:QB,(B.set id x)[id]? =some x:=fun x=>by simp[(QJ E)]
 have m: ∀X:QB,(B.set id X).take B.length=B.set id X:=fun X=>Z2 (by simp);rw[zcc 727 rfl rfl];generalize hcc:Qk (pre ++ p:: post)=c at *;by_cases L:post=[];subst L;have S:n - (pre.length+1)=0:=by simpa using e8
 have e9':pre.length=n - 1:=by simpa using(by omega)
 have R:n - pre.length=1:=by omega
 have j:pre.length*4+4<=c.length:=by omega
 have g:=Qae pre (.undef:: .undef:: .undef:: .undef:: c.drop (pre.length*4+4));simp only[Qy]at o ⊢;unfold QgY;have a:pre.length*4<=(Qk pre).length+ (c.length - (pre.length*4+4)+1+1+1+1):=by omega
 by_cases T:pre.length=0;have O:=Yf T;subst O;have M:n=1:=by simpa using hn
 have H:c.drop 4=[]:=b;have Q:c.length=4:=by omega
 subst M;refine⟨false,List.replicate 4 .undef,?_⟩;simp[-getElem?_pos,f727C,E,Q,H,q,m,appM,Xt,ZY,Qa];refine⟨true,[],?_⟩;generalize Qa pre=EP at *;simp[-getElem?_pos,f727C,e1,Y,Z,e5,e6,e7,S,R,K,E,z,V,j,q,d,appM,Xt,ZY,T,g,o,a,r,m];have T: ¬post.length=0:=fun e=>L (Yf e);have j: (pre.length+1)*4+post.length*4<=c.length:=by omega
 have D: (pre.length+post.length)*4<=c.length:=by omega
 have v:pre.length*4<=c.length:=by omega
 have P: ((c.map AV.strip).drop ((pre.length+1)*4)).take (post.length*4)=Qk post:=by rw[<- PG,b,(Z5 Zc post),<- A,JJ]
 have N: (pre.length:Int)+ (post.length:Int)<=(n:Int):=by omega
 have W: (0:Int)<=(pre.length:Int)+ (post.length:Int):=by omega
 have I:n - (pre.length+post.length)=1:=by omega
 have U: ((pre.length:Int)+ (post.length:Int)).toNat=pre.length+post.length:=by omega
 have e18:pre.length+post.length<=n:=by omega
 obtain⟨h,t⟩: ∃h,Qk pre ++ (Qk post ++ c.drop (pre.length*4+post.length*4))=h:=⟨_,rfl⟩;have i:h=Qk (pre ++ post)++ c.drop ((pre.length+post.length)*4):=by rw[<- t,show Qk (pre ++ post)=Qk pre ++ Qk post from Ve _ _ _,Yg];simp
 have u: (Qk (pre ++ post)).length=(pre.length+post.length)*4:=by rw[ZZ QE];simp
 have J:h.length=c.length:=by rw[i,Q6,u,UP];omega
 have w:h.take ((pre.length+post.length)*4)=Qk (pre ++ post):=by rw[i,<- u,JS]
 have y: (pre.length+post.length)*4+4<=h.length:=by omega
 have G: (n:Int)<=(h.length:Int) / 4:=by rwa[J]
 have g:=Qae (pre ++ post) (.undef:: .undef:: .undef:: .undef:: h.drop ((pre.length+post.length)*4+4));rw[Q6]at g;have hz3: ¬pre.length+post.length=0:=by omega
 have a: (pre.length+post.length)*4<=(Qk (pre ++ post)).length+ (h.length - ((pre.length+post.length)*4+4)+1+1+1+1):=by omega
 refine⟨true,[],?_⟩;generalize Qa (pre ++ post)=EP at *;simp[-getElem?_pos,f727C,e1,Y,Z,e5,e6,e7,e8,N,W,I,U,L,E,s,G,j,D,v,y,q,d,w,P,A,t,appM,Xt,ZY,g,o,a,r,m]
def Qpg {pre post p} (v:pre.length+post.length < 100000) (o B):
  ∃q,call tb 627 [.sl o 4 (Qa (pre ++ p:: post)),.int .i64 pre.length] B=some (.sl q 4 (Qa (pre ++ post)),B):=by
 have a: (Qa (pre ++ p:: post)).length=pre.length+ (post.length+1):=by rw[QX];simp
 have b: (Qa (pre ++ p:: post)).take pre.length=Qa pre:=by rw[NM];simp
 have g: (Qa (pre ++ p:: post)).drop (pre.length+1)=Qa post:=by rw[NL];simp
 have e: (Qa (pre ++ p:: post)).take (pre.length+ (post.length+1))=Qa (pre ++ p:: post):=Z2 (by omega);have k:=QQ pre post;have f:=QX pre;have c:=QX post;have d:=ZL (pre ++ post);have j: (pre.length:Int)<=(pre.length:Int)+ ((post.length:Int)+1):=by omega
 have l: (0:Int)<=(pre.length:Int)+1:=by omega
 have r: (pre.length:Int)+1<=(pre.length:Int)+ ((post.length:Int)+1):=by omega
 have m:pre.length*56<=140737488355328:=by omega
 have h: (pre.length+post.length)*56<=140737488355328:=by omega
 refine⟨true,?_⟩;rw[zcc 627 rfl rfl];generalize Qa (pre ++ p:: post)=E at *;generalize n:Qa pre=u at *;generalize i:Qa post=t at *;generalize Qa (pre ++ post)=s at *;simp[f627C,a,b,g,e,k,f,c,d,(wr1 pre.length (by omega)),(by omega),j,l,r,m,h]
noncomputable def dvB (k:Qj) (t:Tm):Bool:=decide (Z4 k [t]=0) && Lq k t
noncomputable def SM:Nat->Qj->Qj
 | 0,out=>out
 | i+1,out=>match out[i]? with
  | none=>out
  | some x=>SM i (if dvB (out.eraseIdx i) x then out.eraseIdx i else out)
def Qd8 {c b x} (h:KI (c ++ x:: b)):KI ((c ++ b)++ [x]):=by
 obtain⟨f,e,d,g⟩:=h;refine⟨?_,?_,?_,?_⟩;simp at f ⊢;omega;rw[ZK]at e;rw[ZK,ZK];simp only[Qp,Q6,Zu,Xc]at e ⊢;omega;rw[Y3]at d;rw[Y3,Y3];simp only[Qw]at d ⊢;omega;intro y a;apply g;simp only[Zp,Zl]at a ⊢;rcases a with(a | a) | a;exact .inl a;exact .inr (.inr a);rcases a with rfl | a;exact .inr (.inl rfl);cases a
def Qd9 {k m} (h:KI (k ++ m)):KI k:=by
 obtain⟨a,e,c,d⟩:=h;refine⟨?_,?_,?_,fun y b=>d y (by simp[b])⟩;simp at a;omega;rw[ZK,Q6]at e;omega;rw[Y3]at c;omega
def Qas {b a} {x:Tm}: (b ++ x:: a).eraseIdx b.length=b ++ a:=by
 rw[List.eraseIdx_append_of_length_le (QY _)];simp
def Qur (k):
  ∀i d B o h,ZF k B->KI d->i<=d.length->h 6= .sl o 4 (Qa d)->h 7= .int .i64 ((i:Int) - 1)->
  LsR (SM i d) 0 k (R tb (.loop f624l0) h B (Qh 0 (Qs tb f624r0 (QA f624 k)))):=by
 intro i;induction i with | zero=>intro d B o h A C U r s;(have I:B.take k.length=k:=by obtain⟨M,rfl⟩:=A;simp);have G:=ZL d;(have Q:X4 k B=true:=by obtain⟨M,rfl⟩:=A;simp);refine⟨false,?_⟩;simp only[SM];generalize Qa d=EO at *;rw[Qb f624l0.eq_1];simp[r,s,f624r0,G,I] | succ i K=>intro d B o h A C U r s;obtain⟨x,N⟩: ∃x,d[i]? =some x:=⟨d[i]'(by omega),Za (by omega)⟩;(obtain⟨b,a,rfl,j⟩: ∃b a,d=b ++ x:: a/\b.length=i:=by refine⟨d.take i,d.drop (i+1),?_,by simp;omega⟩;obtain⟨h1,S⟩:=XR.1 N;rw[<- S,Jz,PA]);have u:=C.len;simp only[Q6,Zu]at u;(have O: ((i+1:Nat):Int) - 1=(i:Int):=by omega);rw[O]at s;have t:IntKind.i64.wrap ((i:Int)+1)=(i:Int)+1:=QC (by omega) (by omega);have m:IntKind.i64.wrap ((i:Int) - 1)=(i:Int) - 1:=QC (by omega) (by omega);(have w: (0:Int)<=(i:Int):=by omega);have g:=Qla (l:=b ++ x:: a) (by simp) (by simp;omega) B;obtain⟨o2,c,f⟩:=Qpk (pre:=b) (post:=a) (p:=x) (id:=B.length) (n:=b.length+1+a.length) (B:=B ++ [Qk (b ++ x:: a)]) rfl (by omega) Yc;(have z: (B ++ [Qk (b ++ x:: a)]).set B.length c=B ++ [c]:=by simp);rw[z]at f;(have V: (b ++ x:: a).length=b.length+1+a.length:=by simp;omega);rw[V]at g;have q:=Qd8 C;have e:=fun o=>I5 (b ++ a) x q o (B ++ [c]);have D:dvA (b ++ a) x= .tup [.bool (dvB (b ++ a) x),.int .i64 (Z4 (b ++ a) [x])]:=rfl;rw[D]at e;(have y: (Qa (b ++ x:: a))[i]? =some (Qd x):=by rw[Xf,N];rfl);have v:=A.app [c];generalize W:b.length+1+a.length=nn at *;rw[j]at f;(have Y:SM (i+1) (b ++ x:: a)=SM i (if dvB (b ++ a) x then b ++ a else b ++ x:: a):=by(have E: (b ++ x:: a)[i]? =some x:=by rw[<- j];simp);(have X: (b ++ x:: a).eraseIdx i=b ++ a:=by rw[<- j];exact Qas);simp only[SM,E,X]);rw[Y];have H:=fun o h=>K (b ++ a) (B ++ [c]) o h v (Qd9 q) (by simp;omega);have J:=fun o h=>K (b ++ x:: a) (B ++ [c]) o h v C (by simp;omega);generalize Qa (b ++ x:: a)=Z at *;generalize Qa (b ++ a)=EP at *;generalize Z4 (b ++ a) [x]=ue at *;generalize P:B ++ [c]=Bc at *;generalize T:B ++ [Qk (b ++ x:: a)]=Br at *;generalize B.length=bl at *;rw[Qb f624l0.eq_1];cases L:dvB (b ++ a) x;rw[L]at e;simp[-getElem?_pos,Ql,Q0,r,s,w,t,m,g,f,e,y,Qc];apply J o <;> simp[r];rw[L]at e;simp[-getElem?_pos,Ql,Q0,r,s,w,t,m,g,f,e,y,Qc];apply H false <;> simp
noncomputable def IG (k:Qj):Qj:=if Z4 k []=0 then SM k.length k else []
def Qpe (k) (h:KI k) (o B):LsR (IG k) (Z4 k []) B (call tb 624 [.sl o 4 (Qa k)] B):=by
 obtain⟨l,a⟩:=Om k [] (by rwa[Qy]) false true B;have g:=h.len;have b:=AN k B (by omega);have i:=fun o e=>Qur B k.length k B o e ⟨[],by simp⟩ h (QY _);have f:IntKind.i64.wrap ((k.length:Int) - 1)=(k.length:Int) - 1:=QC (by omega) (by omega);have d:=QX k;rw[WJ]at a;rw[zcc 624 rfl rfl];unfold IG;by_cases c:Z4 k []=0;rw[c,Qg rfl]at a;rw[c,Qg rfl];generalize Qa k=j at *;simp[f624C,a,b,d,f];apply i true <;> simp;rw[Qe c]at a;rw[Qe c];refine⟨false,?_⟩;simp[f624C,a,c,Qa]
def QqO (B):
  ∀i c o f,KI c->i<=c.length->f 6= .sl o 4 (Qa c)->f 7= .int .i64 ((i:Int) - 1)->
  LsR (SM i c) 0 B (R tb (.loop f626l0) f B (Qh 0 (Qs tb f626r0 (QA f626 B)))):=by
 intro i;induction i with | zero=>intro c o f r D j h;have s:=ZL c;refine⟨false,?_⟩;simp only[SM];generalize Qa c=L at *;rw[Qb f626l0.eq_1];simp[j,h,f626r0,s] | succ i y=>intro c o f r D j h;obtain⟨x,z⟩: ∃x,c[i]? =some x:=⟨c[i]'(by omega),Za (by omega)⟩;(obtain⟨b,a,rfl,g⟩: ∃b a,c=b ++ x:: a/\b.length=i:=by refine⟨c.take i,c.drop (i+1),?_,by simp;omega⟩;obtain⟨I,G⟩:=XR.1 z;rw[<- G,Jz,PA]);have q:=r.len;simp only[Q6,Zu]at q;(have H: ((i+1:Nat):Int) - 1=(i:Int):=by omega);rw[H]at h;have n:IntKind.i64.wrap ((i:Int) - 1)=(i:Int) - 1:=QC (by omega) (by omega);(have m: (0:Int)<=(i:Int):=by omega);obtain⟨K,e⟩:=Qpg (pre:=b) (post:=a) (p:=x) (by omega) false B;have l:=Qd8 r;have d:=fun o=>I2 (b ++ a) x l o B;have t:dvA (b ++ a) x= .tup [.bool (dvB (b ++ a) x),.int .i64 (Z4 (b ++ a) [x])]:=rfl;rw[t]at d;(have k: (Qa (b ++ x:: a))[i]? =some (Qd x):=by rw[Xf,z];rfl);rw[g]at e;(have C:SM (i+1) (b ++ x:: a)=SM i (if dvB (b ++ a) x then b ++ a else b ++ x:: a):=by(have w: (b ++ x:: a)[i]? =some x:=by rw[<- g];simp);(have E: (b ++ x:: a).eraseIdx i=b ++ a:=by rw[<- g];exact Qas);simp only[SM,w,E]);rw[C];have u:=fun o f=>y (b ++ a) o f (Qd9 l) (by simp;omega);have v:=fun o f=>y (b ++ x:: a) o f r (by simp;omega);generalize Qa (b ++ x:: a)=N at *;generalize Qa (b ++ a)=M at *;generalize Z4 (b ++ a) [x]=J at *;rw[Qb f626l0.eq_1];cases A:dvB (b ++ a) x;rw[A]at d;simp[-getElem?_pos,Ql,Q0,j,h,m,n,e,d,k,Qc];apply v o <;> simp[j];rw[A]at d;simp[-getElem?_pos,Ql,Q0,j,h,m,n,e,d,k,Qc];apply u false <;> simp
def Qpf (k) (h:KI k) (o B):LsR (IG k) (Z4 k []) B (call tb 626 [.sl o 4 (Qa k)] B):=by
 obtain⟨l,a⟩:=LV k [] (by rwa[Qy]) false true B;have g:=h.len;have i:=fun o e=>QqO B k.length k o e h (QY _);have f:IntKind.i64.wrap ((k.length:Int) - 1)=(k.length:Int) - 1:=QC (by omega) (by omega);have d:=QX k;have b:k.length*56<=140737488355328:=by omega
 rw[WJ]at a;rw[zcc 626 rfl rfl];unfold IG;by_cases c:Z4 k []=0;rw[c,Qg rfl]at a;rw[c,Qg rfl];generalize Qa k=j at *;simp[f626C,a,d,f,b];apply i true <;> simp;rw[Qe c]at a;rw[Qe c];refine⟨false,?_⟩;simp[f626C,a,c,Qa]
noncomputable def Wd (k:Qj):Qj->Bool×Int
 | []=>(true,0)
 | t:: l=>if dvB k t then Wd k l else(false,Z4 k [t])
noncomputable def Dh (k l:Qj):Bool×Int:=
 if Z4 k []≠0 then(false,Z4 k [])else if Z4 l []≠0 then(false,Z4 l [])else
  if(Wd k l).1 then Wd l k else(false,(Wd k l).2)
def W6 (p:Bool×Int):AV:= .tup [.bool p.1,.int .i64 p.2]
def QdJ {k t} (h:dvB k t=true):Z4 k [t]=0:=by
 simp only[dvB,Qu,QM]at h;exact h.1
def Ev: ∀{k l},(Wd k l).1=true->(Wd k l).2=0
 | k,[],_=>rfl
 | k,t:: l,h=>by
  simp only[Wd]at h ⊢;by_cases c:dvB k t=true;rw[Qg c]at h ⊢;exact Ev h;rw[Qe c]at h;cases h
def Qvw {k l} (v: ∀t∈l,KI (k ++ [t])) (x:l.length < 100000) (B):
  ∀a b o f j,l=b ++ a->j 0= .sl o 4 (Qa k)->j 10= .sl f 4 (Qa l)->j 11= .int .i64 l.length->j 12= .int .i64 b.length->
  R tb (.loop f629l0) j B (Qh 0 (Qs tb f629r0 (QA f629 B)))=some (W6 (Wd k a),B):=by
 intro a;induction a with | nil=>intro b o f j m r h i g;simp only[Qy]at m;rw[<- m]at g;rw[Qb f629l0.eq_1];simp[h,i,g,f629r0,Wd,W6] | cons t a u=>intro b o f j m r h i g;have q:=Qv m;(have w:l.length=b.length+ (a.length+1):=by rw[m];simp);have p:=wr1 b.length (by omega);(have n: (b.length:Int) < (l.length:Int):=by omega);have d:=I5 k t (v t (by rw[m];simp)) false B;have s:dvA k t= .tup [.bool (dvB k t),.int .i64 (Z4 k [t])]:=rfl;rw[s]at d;rw[Qb f629l0.eq_1];by_cases c:dvB k t=true;(have e:Wd k (t:: a)=Wd k a:=by simp[Wd,c]);rw[e];rw[c,QdJ c]at d;simp[r,h,i,g,q,n,p,d,Qc];apply(fun o f j=>u (b ++ [t]) o f j (by rw[m];simp)) o f <;> simp[r,h,i];(have c:dvB k t=false:=by simpa using c);(have e:Wd k (t:: a)=(false,Z4 k [t]):=by simp[Wd,c]);rw[e];rw[c]at d;simp[r,h,i,g,q,n,p,d,Qc,W6]
def Qdz {k l} (b: ∀t∈l,KI (k ++ [t])) (d:l.length < 100000) (o a B):call tb 629 [.sl o 4 (Qa k),.sl a 4 (Qa l)] B=some (W6 (Wd k l),B):=by
 rw[zcc 629 rfl rfl];simp[f629C];apply(fun c=>Qvw b d B l [] false false c rfl) <;> simp
def QuF {k l} (v: ∀t∈l,KI (k ++ [t])) (x:l.length < 100000) (B):
  ∀a d o p f,l=d ++ a->f 0= .sl o 4 (Qa k)->f 1= .sl p 4 (Qa l)->f 6= .int .i64 d.length->
  R tb (.loop f631l0) f B (Qh 0 (Qs tb f631r0 (QA f631 B)))=some (W6 (Wd k a),B):=by
 intro a;induction a with | nil=>intro d o p f g m n q;simp only[Qy]at g;rw[<- g]at q;rw[Qb f631l0.eq_1];simp[m,n,q,f631r0,Wd,W6] | cons t a u=>intro d o p f g m n q;have i:=Qv g;(have w:l.length=d.length+ (a.length+1):=by rw[g];simp);have j:=wr1 d.length (by omega);(have h: (d.length:Int) < (l.length:Int):=by omega);have b:=I2 k t (v t (by rw[g];simp)) false B;have r:dvA k t= .tup [.bool (dvB k t),.int .i64 (Z4 k [t])]:=rfl;rw[r]at b;rw[Qb f631l0.eq_1];by_cases c:dvB k t=true;(have e:Wd k (t:: a)=Wd k a:=by simp[Wd,c]);rw[e];rw[c,QdJ c]at b;simp[m,n,q,i,h,j,b,Qc];apply(fun o p f=>u (d ++ [t]) o p f (by rw[g];simp)) o p <;> simp[m,n];(have c:dvB k t=false:=by simpa using c);(have e:Wd k (t:: a)=(false,Z4 k [t]):=by simp[Wd,c]);rw[e];rw[c]at b;by_cases s:Z4 k [t]=0;rw[s]at b ⊢;simp[m,n,q,i,h,j,b,Qc,W6];simp[m,n,q,i,h,j,b,s,Qc,W6]
def QdA {k l} (b: ∀t∈l,KI (k ++ [t])) (d:l.length < 100000) (o a B):call tb 631 [.sl o 4 (Qa k),.sl a 4 (Qa l)] B=some (W6 (Wd k l),B):=by
 rw[zcc 631 rfl rfl];simp[f631C];apply(fun c=>QuF b d B l [] false false c rfl) <;> simp
def Qwp {k l} (m: ∀t∈l,KI (k ++ [t])) (i: ∀t∈k,KI (l ++ [t])) (h:k.length < 100000) (j:l.length < 100000) (B o b d) (e:d 0= .sl o 4 (Qa k)) (g:d 1= .sl b 4 (Qa l)):
  R tb f628r0 d B (QA f628 B)=some (W6 (if(Wd k l).1 then Wd l k else(false,(Wd k l).2)),B):=by
 have a:=fun o b=>Qdz m j o b B;have f:=fun o b=>Qdz i h o b B;unfold W6 at a f;cases c: (Wd k l).1;rw[c]at a;simp[f628r0,e,g,a,W6];rw[c,Ev c]at a;simp[f628r0,e,g,a,f,W6]
def Qph {k l} (i:KI k) (q:KI l) (j: ∀t∈l,KI (k ++ [t])) (m: ∀t∈k,KI (l ++ [t])) (o f B):call tb 628 [.sl o 4 (Qa k),.sl f 4 (Qa l)] B=some (W6 (Dh k l),B):=by
 obtain⟨x,b⟩:=Om k [] (by rwa[Qy]) false true B;obtain⟨u,a⟩:=Om l [] (by rwa[Qy]) false true B;rw[WJ]at b a;have n:=fun o f s=>Qwp j m (by have:=i.len;omega) (by have:=q.len;omega) B o f s;have g:IntKind.i64.wrap 1=1:=QC (by omega) (by omega);have r:IntKind.i64.wrap 2=2:=QC (by omega) (by omega);rw[zcc 628 rfl rfl];unfold Dh;generalize h:Qa k=v at *;generalize p:Qa l=w at *;simp only[f628C];by_cases c:Z4 k []=0;rw[c,Qg rfl]at b;by_cases d:Z4 l []=0;rw[d,Qg rfl]at a;rw[c,d];simp only[ne_eq,PC,ZM];simp;rw[Qb f628l0.eq_1];simp[b,g];rw[Qb f628l0.eq_1];simp[a,r];rw[Qb f628l0.eq_1];simp;rw[n false false] <;> simp;rw[Qe d]at a;have e: (if Z4 k []≠0 then(false,Z4 k [])else if Z4 l []≠0 then(false,Z4 l [])else if(Wd k l).1 then Wd l k else(false,(Wd k l).2))=(false,Z4 l []):=by simp[c,d]
 rw[e];simp;rw[Qb f628l0.eq_1];simp[b,g];rw[Qb f628l0.eq_1];simp[a,d,W6];rw[Qe c]at b;have e: (if Z4 k []≠0 then(false,Z4 k [])else if Z4 l []≠0 then(false,Z4 l [])else if(Wd k l).1 then Wd l k else(false,(Wd k l).2))=(false,Z4 k []):=by simp[c]
 rw[e];simp;rw[Qb f628l0.eq_1];simp[b,c,W6]
def Qpi {k l} (m:KI k) (i:KI l) (j: ∀t∈l,KI (k ++ [t])) (n: ∀t∈k,KI (l ++ [t])) (o d B):call tb 630 [.sl o 4 (Qa k),.sl d 4 (Qa l)] B=some (W6 (Dh k l),B):=by
 obtain⟨p,b⟩:=LV k [] (by rwa[Qy]) false true B;obtain⟨q,a⟩:=LV l [] (by rwa[Qy]) false true B;rw[WJ]at b a;have e:=fun o d=>QdA j (by have:=i.len;omega) o d B;have h:=fun o d=>QdA n (by have:=m.len;omega) o d B;unfold W6 at e h;rw[zcc 630 rfl rfl];unfold Dh;by_cases f:Z4 k []=0;rw[f,Qg rfl]at b;by_cases g:Z4 l []=0;rw[g,Qg rfl]at a;rw[f,g];simp only[ne_eq,PC,ZM];cases c: (Wd k l).1;rw[c]at e;simp[f630C,b,a,e,W6];rw[c,Ev c]at e;simp[f630C,b,a,e,h,W6];rw[Qe g]at a;simp[f630C,b,a,f,g,W6];rw[Qe f]at b;simp[f630C,b,f,W6]
def LW (l o a):call tb 607 [.sl o 4 (Qa l)] a=some (.bool (few l 64 140),a):=by
 have h:=A5 l false 64 140 a (by omega) (by omega) (by omega);rw[zcc 607 rfl rfl];simp at h;simp[f607C,h]
def CH {l} (a:l.length < 1000) (c:Qp l < 4000) (d:Qw l < 1000000):KI l:=⟨a,.inl c,by omega,fun x b=>by have:=QR b;omega⟩
def Fw {l} (h:few l 64 140=true):l.length<=64/\Qw l<=5880/\Qp l<=140:=by
 obtain⟨c,a,b⟩:=Qax (by omega) h;have e: (140:Int).toNat=140:=rfl;rw[e]at a b;omega
def Qay {k t} (h:few (t:: k) 64 140=true):KI (k ++ [t]):=by
 obtain⟨a,c,b⟩:=Fw h;simp only[Zu,Qw,Qp]at a c b;apply CH;simp;omega;rw[ZK];simp only[Qp];omega;rw[Y3];simp only[Qw];omega
def KH {u C} (f:UC u) (e:UK u) (d:Asc u) (b:PsI u C) (B o a):call tb 112 [.sl o 4 (Qa C),.sl a 4 (Qa C)] B=some (.bool true,B):=by
 have h:=KJ (l:=C) (M:=1000000) fun x c=>by have:=Vw e b x c;omega
 have g:C.length*1000000<=200*1000000:=YE _ (Si f d b);exact PT C B o a (by unfold big;omega) (by omega)
def Nq (B o a):call tb 112 [.sl o 4 [],.sl a 4 []] B=some (.bool true,B):=by
 have:=PT [] B o a (by simp[Qw,big]) (by simp);rwa[WJ]at this
def Qmh {u} (a:Asc u):PsI u u:=⟨a,fun x b=>b⟩
def Qgj {u C} (p) (h:PsI u C):PsI u (C.filter p):=⟨TH p h.asc,fun x a=>h.sub x (VP.1 a).1⟩
def DX {k u} (h:KN k u) (B o b):call tb 112 [.sl o 4 (Qa (knT k u)),.sl b 4 (Qa (knT k u))] B=some (.bool true,B):=by
 unfold knT;by_cases c:knE k u=0;rw[Qg c];unfold knE at c;split at c;cases c;rename_i j;split at c;rename_i a;exact absurd c a;rename_i a;split at c;cases c;rename_i g;have l:=WF u;obtain⟨f,e,d,i⟩:=Qf3 (by simpa using a) (by simpa using g) c (by omega);exact KH f e d (Pd i) B o b;rw[Qe c,WJ];exact Nq B o b
def L3 (k t) (p:call tb 602 [] []=some (.bool true,[])) (G: (k.length+1)*56<=140737488355328):call tb 601 [.sl false 4 (Qa k),.agg (Qd t)] []=some (.bool true,[]):=by
 have a:=fun o=>LW (t:: k) o [];have w:Qa (t:: k)=Qd t:: Qa k:=by simp[Qa]
 rw[w]at a;have f:=QX k;have e: (1+k.length)*56<=140737488355328:=by omega
 rw[zcc 601 rfl rfl];cases q:few (t:: k) 64 140;rw[q]at a;generalize Qa k=v at *;simp[f601C,p,a,f,e,Qc];rw[q]at a;have h:=Qay q;obtain⟨B,b⟩:=Qo6 k t h false [];obtain⟨A,d⟩:=EH k t h false [];by_cases c:Z4 k [t]=0;rw[c,Qg rfl]at b d;have g:=Of h c;have n:=fun o m=>KH g.uc g.uk g.asc (Qmh g.asc) [] o m;have s:KN k (Yt (k ++ [t])):=⟨by have:=h.len;simp at this;omega,by have:=g.uk.len;omega,fun x i=>by rcases Zp.1 i with i | i;exact h.ms x (Zp.2 (.inl i));exact g.uk.ms x i⟩;obtain⟨H,j⟩:=Qdv k (Yt (k ++ [t])) s false false [];obtain⟨C,l⟩:=Qdw k (Yt (k ++ [t])) s false false [];have r:=fun o m=>DX s [] o m;generalize Yt (k ++ [t])=u at *;generalize Qa (knT k u)=D at *;generalize knE k u=E at *;generalize Qa k=v at *;generalize Qa u=z at *;simp[f601C,p,a,f,e,Qc,b,d,j,l,n,r];rw[Qe c,WJ]at b d;have n:=fun o m=>Nq [] o m;generalize Qa k=v at *;generalize Z4 k [t]=y at *;simp[f601C,p,a,f,e,Qc,b,d,n,c]
def IA (k u) (j:call tb 602 [] []=some (.bool true,[])):call tb 615 [.sl false 4 (Qa k),.sl false 4 (Qa u)] []=some (.bool true,[]):=by
 have b:=fun o=>LW k o [];have a:=A5 u false 40 200 [] (by omega) (by omega) (by omega);have m: ((40:Nat):Int)=40:=rfl;rw[m]at a;rw[zcc 615 rfl rfl];cases h:few k 64 140;rw[h]at b;generalize Qa k=p at *;generalize Qa u=n at *;simp[f615C,j,b];rw[h]at b;cases l:few u 40 200;rw[l]at a;generalize Qa k=p at *;generalize Qa u=n at *;simp[f615C,j,b,a];rw[l]at a;obtain⟨C,B,v⟩:=Fw h;obtain⟨D,r,q⟩:=Qax (by omega) l;have s: (200:Int).toNat=200:=rfl;rw[s]at r q;have g:KN k u:=⟨by omega,by omega,fun x d=>by rcases Zp.1 d with d | d;have:=QR d;omega;have:=QR d;omega⟩;have e:=AN u [] (by omega);obtain⟨z,f⟩:=Qdv k u g false false [];obtain⟨w,c⟩:=Qdw k u g false false [];have i:=fun o t=>DX g [] o t;generalize Qa (knT k u)=A at *;generalize knE k u=y at *;generalize Qa k=p at *;generalize Qa u=n at *;simp[f615C,j,b,a,e,f,c,i]
def F4 {k t} (h:KI (k ++ [t])) (B o b):call tb 112 [.sl o 4 (Qa (MF k t)),.sl b 4 (Qa (MF k t))] B=some (.bool true,B):=by
 unfold MF;by_cases c:Z4 k [t]=0;rw[Qg c];have a:=Of h c;exact KH a.uc a.uk a.asc (Qgj _ (Mz a.uk fun x d=>d)) B o b;rw[Qe c,WJ];exact Nq B o b
def Qmd {k t} (h:Lq k t=true):MF k t=[]:=by
 unfold MF;split;unfold IL;refine JB.2 fun x _=> ?_;unfold Lq at h;simp[Xs,h];rfl
def Lu (k t) (j:call tb 602 [] []=some (.bool true,[])) (s: (k.length+1)*56<=140737488355328):call tb 616 [.sl false 4 (Qa k),.agg (Qd t)] []=some (.bool true,[]):=by
 have a:=fun o=>LW (t:: k) o [];have q:Qa (t:: k)=Qd t:: Qa k:=by simp[Qa]
 rw[q]at a;have g:=QX k;have e: (1+k.length)*56<=140737488355328:=by omega
 rw[zcc 616 rfl rfl];cases m:few (t:: k) 64 140;rw[m]at a;generalize Qa k=n at *;simp[f616C,j,a,g,e,Qc];rw[m]at a;have h:=Qay m;have c:=I5 k t h false [];have b:=I2 k t h false [];obtain⟨u,d⟩:=Qdu k t h false [];obtain⟨w,f⟩:=Qdy k t h false [];have l:=fun o r=>F4 h [] o r;unfold dvA at c b;cases i: (decide (Z4 k [t]=0) && Lq k t);rw[i]at c b;generalize Qa (MF k t)=v at *;generalize Qa k=n at *;generalize Z4 k [t]=p at *;simp[f616C,j,a,g,e,Qc,c,b,d,f,l];rw[i]at c b;rw[(Qmd (by simp only[Qu]at i;exact i.2)),WJ]at d f l;generalize Qa k=n at *;generalize Z4 k [t]=p at *;simp[f616C,j,a,g,e,Qc,c,b,d,f,l]
def Qfi {k} (h:KI k) (B o b):call tb 112 [.sl o 4 (Qa (JZ k)),.sl b 4 (Qa (JZ k))] B=some (.bool true,B):=by
 unfold JZ;by_cases c:Z4 k []=0;rw[Qg c];have a:=Of (k:=k) (m:=[]) (by rwa[Qy]) c;exact KH a.uc a.uk a.asc (Pd a.ps) B o b;rw[Qe c,WJ];exact Nq B o b
def H8: ∀i l,(∀x∈SM i l,x∈l)/\(SM i l).length<=l.length
 | 0,l=>⟨fun x a=>a,QY _⟩
 | i+1,l=>by
  simp only[SM];rcases a:l[i]? with _ | x;exact⟨fun x a=>a,QY _⟩;simp only;split;obtain⟨b,d⟩:=H8 i (l.eraseIdx i);exact⟨fun y c=>List.mem_of_mem_eraseIdx (b y c),WP d (List.length_eraseIdx_le l i)⟩;exact H8 i l
def Qf9 {k} (h:KI k) (B o a):call tb 112 [.sl o 4 (Qa (IG k)),.sl a 4 (Qa (IG k))] B=some (.bool true,B):=by
 unfold IG;by_cases c:Z4 k []=0;rw[Qg c];obtain⟨e,i⟩:=H8 k.length k;have g:=KJ (l:=SM k.length k) (M:=1000000) fun x d=>by have:=h.ms x (e x d);omega
 have b:=h.len;have f: (SM k.length k).length*1000000<=1000*1000000:=YE _ (by omega);exact PT _ B o a (by unfold big;omega) (by omega);rw[Qe c,WJ];exact Nq B o a
def IB (k l) (z:call tb 602 [] []=some (.bool true,[])):call tb 621 [.sl false 4 (Qa k),.sl false 4 (Qa l)] []=some (.bool true,[]):=by
 have c:=fun o=>LW k o [];have d:=fun o=>LW l o [];rw[zcc 621 rfl rfl];cases w:few k 64 140;rw[w]at c;generalize Qa k=E at *;generalize Qa l=G at *;simp[f621C,z,c];rw[w]at c;cases x:few l 64 140;rw[x]at d;generalize Qa k=E at *;generalize Qa l=G at *;simp[f621C,z,c,d];rw[x]at d;obtain⟨C,r,q⟩:=Fw w;obtain⟨B,p,s⟩:=Fw x;have h:KI k:=CH (by omega) (by omega) (by omega);have D:KI l:=CH (by omega) (by omega) (by omega);have e: ∀{a b:Qj},a.length<=64->Qw a<=5880->Qp a<=140->Qw b<=5880->Qp b<=140->∀t∈b,KI (a ++ [t]):=fun J I H K L t A=>by have V:=QR A;have S:=NO A;apply CH;simp;omega;rw[ZK];simp only[Qp];omega;rw[Y3];simp only[Qw];omega
 obtain⟨u,i⟩:=Qpc k (by rwa[Qy]) false [];obtain⟨U,n⟩:=Qpd k (by rwa[Qy]) false [];obtain⟨T,j⟩:=Qpe k h false [];obtain⟨P,m⟩:=Qpf k h false [];have g:=Qph h D (e C r q p s) (e B p s r q) false false [];have f:=Qpi h D (e C r q p s) (e B p s r q) false false [];unfold W6 at g f;have y:=fun o u=>Qfi h [] o u;have v:=fun o u=>Qf9 h [] o u;generalize Qa (JZ k)=N at *;generalize Qa (IG k)=O at *;generalize (Dh k l).1=Q at *;generalize (Dh k l).2=R at *;generalize Z4 k []=M at *;generalize Qa k=E at *;generalize Qa l=G at *;simp[f621C,z,c,d,i,n,j,m,g,f,y,v]
def QbA {T K} (h:KLe K (call T)) {n}: ∀{c g x},Z3 K n c g=some x->run T c g=some x:=by
 intro c;induction c with | bad=>intro g x f;simp[Z3]at f | skip=>intro g x f;rwa[QbF] | ret=>intro g x f;rwa[Qeu] | exit v=>intro g x f;rwa[QbC] | reg d q=>intro g x f;rw[Qet];simp only[Z3]at f;rcases o:YO K q g with _ | s;rw[o]at f;cases f;rw[Ru h o];rwa[o]at f | seq a b k j=>intro g x f;rw[Qev];simp only[Z3]at f;rcases i:Z3 K n a g with _ | p;rw[i]at f;cases f;obtain⟨e,s⟩:=p;rw[i]at f;rw[k i];cases e;exact j f;exact f;exact f | cond c a b k j=>intro g x f;rw[QbB];simp only[Z3]at f;split at f;rename_i l;rw[l];exact k f;rename_i l;rw[l];exact j f;cases f | block v c r=>intro g x f;rw[D9];simp only[Z3]at f;rcases i:Z3 K n c g with _ | p;rw[i]at f;cases f;rw[i]at f;rwa[r i] | loop c r=>intro g x f;simp only[Z3]at f;(have t: ∀(m:Nat) (g:St) (x:Ex×St),Rk (Z3 K n c) m g=some x->run T (.loop c) g=some x:=by intro m;induction m with | zero=>intro g x f;simp[Rk]at f | succ m u=>intro g x f;rw[QbE];simp only[Rk]at f;rcases i:Z3 K n c g with _ | p;rw[i]at f;cases f;obtain⟨e,s⟩:=p;rw[i]at f;rw[r i];cases e;exact u _ _ f;exact f;exact f);exact t n g x f
abbrev Z6:=Nat×List AV×List (List AV)×AV×List (List AV)
abbrev Zq:=List Z6
def FR:Zq->Nat->QB->Qr->Option (AV×Qr)
 | [],_,_,_=>none
 | (g,ar,b,v,b2):: fs,f,args,bs=>if(g == f && Mx b bs && SI ar args)=true then some (v,b2)else FR fs f args bs
def I8 (T:SD) (fs:Zq):Nat->Vi
 | 0,_,_,_=>none
 | n+1,f,args,bs=>match FR fs f args bs with
  | some r=>some r
  | none=>match T f with
   | none=>none
   | some (.orc g)=>g args bs
   | some (.code fn)=>
    if args.length=fn.nparams then
     match Z3 (I8 T fs n) n fn.body {env:=Wr args,bs}with
     | some (.normal,σ)=>Wi fn bs σ
     | some (.ret,σ)=>Wi fn bs σ
     | _=>none
    else none
def NY (T:SD):Zq->Prop
 | []=>True
 | (g,ar,b,v,b2):: fs=>call T g ar b=some (v,b2)/\NY T fs
def QaV {T}: ∀{i},NY T i->∀{f a d r},FR i f a d=some r->call T f a d=some r
 | [],_,_,_,_,_,h=>by simp[FR]at h
 | (g,m,b,v,l):: i,k,f,a,d,r,h=>by
  simp only[FR]at h;split at h;rename_i c;simp only[Qu,Tp]at c;obtain⟨⟨rfl,j⟩,e⟩:=c;have e:=Ts _ _ e;have j:=LZ _ _ j;subst e;subst j;cases h;exact k.1;exact QaV k.2 h
def HL {T} {d} (j:NY T d): ∀n,KLe (I8 T d n) (call T)
 | 0,_,_,_,_,h=>by simp[I8]at h
 | n+1,f,e,l,r,h=>by
  simp only[I8]at h;split at h;rename_i m a;cases h;exact QaV j a;rw[ER];have i:=HL j n;split at h;cases h;rename_i g c;rwa[c];rename_i o c;rw[c];simp only;split at h;rename_i a;rw[Qg a];split at h;rename_i k b;rwa[QbA i b];rename_i k b;rwa[QbA i b];cases h;cases h
def Yb (T:SD) (L:Zq) (x:Z6):Option (AV×Qr):=I8 T L 400 x.1 x.2.1 x.2.2.1
def Yd {T:SD} {L:Zq} {x:Z6} (o:NY T L) (c:Yb T L x=some x.2.2.2):NY T (x:: L):=⟨HL o _ _ _ _ _ c,o⟩
def QeV:Yi:=[101,110,99]
def Vj:QB:=[.int .i64 2,.str [109],.int .i64 0,.sl false 4 []]
def Sn:QB:=[.int .i64 2,.str [107],.int .i64 3,.sl false 4 []]
def SZ:QB:=[.int .i64 3,.str QeV,.int .i64 0,.sl false 4 [Vj,Sn]]
def Kb:QB:=[.int .i64 2,.str [110],.int .i64 2,.sl false 4 []]
def Kc:QB:=[.int .i64 3,.str [112,97,105,114],.int .i64 0,.sl false 4 [Kb,Sn]]
def Kd:Qr:=[SZ,Kc]
def IW:Qr:=[Sn,Vj,Kb,SZ,Kc]
def Qnl:Qr:=[Sn,SZ,Kc]
def QeW:Qr:=[[.str [101,110,99,40,109,58,97,110,121,44,32,107,58,107,101,121,41]],[.str [112,97,105,114,40,110,58,110,111,110,99,101,44,32,107,58,107,101,121,41]]]
def Gw:QB:=[.int .i64 3,.str [112,97,105,114],.int .i64 0,.sl false 4 [Vj,Kb]]
def CO:QB:=[.int .i64 3,.str [104,97,115,104],.int .i64 0,.sl false 4 [Gw]]
def CP:Qr:=[Sn,Vj,Kb,SZ,Gw,Kc,CO]
def VZ:QB:=[.int .i64 2,.str [108],.int .i64 3,.sl false 4 []]
def QhP:Qr:=[Sn,VZ,Vj,Kb,SZ,Kc]
def Md:QB:=[.int .i64 2,.str [103],.int .i64 4,.sl false 4 []]
def Rl:QB:=[.int .i64 2,.str [120],.int .i64 2,.sl false 4 []]
def Me:QB:=[.int .i64 3,.str [101,120,112],.int .i64 0,.sl false 4 [Md,Rl]]
def T0:QB:=[.int .i64 2,.str [121],.int .i64 2,.sl false 4 []]
def O1:QB:=[.int .i64 3,.str [109,117,108],.int .i64 0,.sl false 4 [Rl,T0]]
def Gx:QB:=[.int .i64 3,.str [101,120,112],.int .i64 0,.sl false 4 [Md,O1]]
def QhQ:Qr:=[Md,Rl,T0,Me,O1,Gx]
def CQ:Qr:=[T0,Me]
def Gy:Qr:=[Md,T0,Me]
def CR:Qr:=[Md,T0,Me,Gx]
def QhR:QB:=[.str [121,58,110,111,110,99,101]]
def QhS:Qr:=[[.str [101,120,112,40,103,58,100,97,116,97,44,32,120,58,110,111,110,99,101,41]],QhR]
def QhT:Qr:=[Md,Rl,T0,Me]
def QhU:Yi:=[120,58,110,111,110,99,101]
def Jh:QB:=[.int .i64 3,.str QeV,.int .i64 0,.sl false 4 [SZ,VZ]]
def O3:Qr:=[Jh]
def Gz:Qr:=[Sn,VZ,Vj,SZ,Jh]
def Ji:Qr:=[Sn,Jh]
def GA:Qr:=[VZ,Jh]
def CS:Qr:=[VZ,SZ,Jh]
def GB:QB:=[.int .i64 3,.str QeV,.int .i64 0,.sl false 4 [Vj,VZ]]
def LD:Qr:=[GB]
def GC:Qr:=[VZ,Vj,GB]
def CT:Qr:=[Rl,T0,O1]
def GD:QB:=[.int .i64 2,.str [97],.int .i64 0,.sl false 4 []]
def Jj:QB:=[.int .i64 2,.str [98],.int .i64 0,.sl false 4 []]
def GE:QB:=[.int .i64 3,.str [120,111,114],.int .i64 0,.sl false 4 [GD,Jj]]
def CU:Qr:=[GD,Jj,GE]
def QeU:Zq:=[]
def QeX:Z6:=(518,[.sl false 4 Kd,.sl false 4 [Vj]],[],.tup [.sl false 4 IW,.int .i64 0],[])
def Qnc:Zq:=QeX:: QeU
def QeY:Z6:=(531,[.sl false 4 Kd,.agg Sn],[],.bool true,[])
def Qnd:Zq:=QeY:: Qnc
def QeZ:Z6:=(531,[.sl false 4 Qnl,.agg Vj],[],.bool true,[])
def Qne:Zq:=QeZ:: Qnd
def Qe0:Z6:=(531,[.sl false 4 [Sn,Vj,SZ,Kc],.agg Kb],[],.bool true,[])
def Qnf:Zq:=Qe0:: Qne
def Qe1:Z6:=(529,[.sl false 4 Kd,.sl false 4 IW],[],.sl false 4 IW,[])
def Qng:Zq:=Qe1:: Qnf
def Qe2:Z6:=(603,[.str [109,58,97,110,121],.sl false 1 QeW],[],.bool true,[])
def Qnh:Zq:=Qe2:: Qng
def Qe3:Z6:=(518,[.sl false 4 Kd,.sl false 4 [CO]],[],.tup [.sl false 4 CP,.int .i64 0],[])
def Qni:Zq:=Qe3:: Qnh
def Qe4:Z6:=(531,[.sl false 4 IW,.agg Gw],[],.bool true,[])
def Qnj:Zq:=Qe4:: Qni
def Qe5:Z6:=(531,[.sl false 4 [Sn,Vj,Kb,SZ,Gw,Kc],.agg CO],[],.bool true,[])
def Qnk:Zq:=Qe5:: Qnj
def Qe6:Z6:=(529,[.sl false 4 Kd,.sl false 4 CP],[],.sl false 4 CP,[])
def Qg1:Zq:=Qe6:: Qnk
def CV:Z6:=(603,[.str [104,97,115,104,40,112,97,105,114,40,109,58,97,110,121,44,32,110,58,110,111,110,99,101,41,41],.sl false 1 QeW],[],.bool true,[])
def Qg2:Zq:=CV:: Qg1
def CW:Z6:=(518,[.sl false 4 Kd,.sl false 4 [VZ]],[],.tup [.sl false 4 QhP,.int .i64 0],[])
def Qg3:Zq:=CW:: Qg2
def CX:Z6:=(531,[.sl false 4 Qnl,.agg VZ],[],.bool false,[])
def Qg4:Zq:=CX:: Qg3
def CY:Z6:=(531,[.sl false 4 IW,.agg VZ],[],.bool false,[])
def Qg5:Zq:=CY:: Qg4
def CZ:Z6:=(529,[.sl false 4 Kd,.sl false 4 QhP],[],.sl false 4 IW,[])
def Qg6:Zq:=CZ:: Qg5
def C0:Z6:=(603,[.str [108,58,107,101,121],.sl false 1 QeW],[],.bool false,[])
def Qg7:Zq:=C0:: Qg6
def C1:Z6:=(518,[.sl false 4 [Me,T0],.sl false 4 [Gx]],[],.tup [.sl false 4 QhQ,.int .i64 0],[])
def Qg8:Zq:=C1:: Qg7
def C3:Z6:=(531,[.sl false 4 CQ,.agg Md],[],.bool true,[])
def Qg9:Zq:=C3:: Qg8
def C4:Z6:=(531,[.sl false 4 Gy,.agg Rl],[],.bool false,[])
def Qha:Zq:=C4:: Qg9
def C5:Z6:=(531,[.sl false 4 Gy,.agg O1],[],.bool false,[])
def Qhb:Zq:=C5:: Qha
def C6:Z6:=(531,[.sl false 4 Gy,.agg Gx],[],.bool true,[])
def Qhc:Zq:=C6:: Qhb
def C7:Z6:=(531,[.sl false 4 CR,.agg Rl],[],.bool false,[])
def Qhd:Zq:=C7:: Qhc
def C8:Z6:=(531,[.sl false 4 CR,.agg O1],[],.bool false,[])
def Qhe:Zq:=C8:: Qhd
def C9:Z6:=(529,[.sl false 4 CQ,.sl false 4 QhQ],[],.sl false 4 CR,[])
def Qhf:Zq:=C9:: Qhe
def Ba:Z6:=(603,[.str [101,120,112,40,103,58,100,97,116,97,44,32,109,117,108,40,120,58,110,111,110,99,101,44,32,121,58,110,111,110,99,101,41,41],.sl false 1 QhS],[],.bool true,[])
def Qhg:Zq:=Ba:: Qhf
def Bd:Z6:=(518,[.sl false 4 [Me,T0],.sl false 4 [Rl]],[],.tup [.sl false 4 QhT,.int .i64 0],[])
def Qhh:Zq:=Bd:: Qhg
def Be:Z6:=(529,[.sl false 4 CQ,.sl false 4 QhT],[],.sl false 4 Gy,[])
def Qhi:Zq:=Be:: Qhh
def Bg:Z6:=(603,[.str QhU,.sl false 1 QhS],[],.bool false,[])
def Qhj:Zq:=Bg:: Qhi
def Bh:Z6:=(518,[.sl false 4 O3,.sl false 4 [Vj]],[],.tup [.sl false 4 Gz,.int .i64 0],[])
def Qhk:Zq:=Bh:: Qhj
def Bi:Z6:=(531,[.sl false 4 O3,.agg Sn],[],.bool false,[])
def Qhl:Zq:=Bi:: Qhk
def Bj:Z6:=(531,[.sl false 4 O3,.agg VZ],[],.bool false,[])
def Qhm:Zq:=Bj:: Qhl
def Bk:Z6:=(531,[.sl false 4 O3,.agg Vj],[],.bool false,[])
def Qhn:Zq:=Bk:: Qhm
def Bl:Z6:=(531,[.sl false 4 O3,.agg SZ],[],.bool false,[])
def Qho:Zq:=Bl:: Qhn
def Bm:Z6:=(529,[.sl false 4 O3,.sl false 4 Gz],[],.sl false 4 O3,[])
def Qhp:Zq:=Bm:: Qho
def Bn:Z6:=(531,[.sl false 4 Ji,.agg VZ],[],.bool false,[])
def Qhq:Zq:=Bn:: Qhp
def Bo:Z6:=(531,[.sl false 4 Ji,.agg Vj],[],.bool false,[])
def Qhr:Zq:=Bo:: Qhq
def Bp:Z6:=(531,[.sl false 4 Ji,.agg SZ],[],.bool false,[])
def Qhs:Zq:=Bp:: Qhr
def Bq:Z6:=(529,[.sl false 4 Ji,.sl false 4 Gz],[],.sl false 4 Ji,[])
def Qht:Zq:=Bq:: Qhs
def Bt:Z6:=(531,[.sl false 4 GA,.agg Sn],[],.bool false,[])
def Qhu:Zq:=Bt:: Qht
def Bu:Z6:=(531,[.sl false 4 GA,.agg Vj],[],.bool false,[])
def Qhv:Zq:=Bu:: Qhu
def Bv:Z6:=(531,[.sl false 4 GA,.agg SZ],[],.bool true,[])
def Qhw:Zq:=Bv:: Qhv
def Bx:Z6:=(531,[.sl false 4 CS,.agg Sn],[],.bool false,[])
def Qhx:Zq:=Bx:: Qhw
def Bz:Z6:=(531,[.sl false 4 CS,.agg Vj],[],.bool false,[])
def Qhy:Zq:=Bz:: Qhx
def BA:Z6:=(529,[.sl false 4 GA,.sl false 4 Gz],[],.sl false 4 CS,[])
def Qhz:Zq:=BA:: Qhy
def BC:Z6:=(605,[.sl false 4 O3,.agg Vj],[],.tup [.sl false 4 [],.int .i64 0],[])
def QhA:Zq:=BC:: Qhz
def BD:Z6:=(518,[.sl false 4 LD,.sl false 4 [Vj]],[],.tup [.sl false 4 GC,.int .i64 0],[])
def QhB:Zq:=BD:: QhA
def BE:Z6:=(531,[.sl false 4 LD,.agg VZ],[],.bool false,[])
def QhC:Zq:=BE:: QhB
def BF:Z6:=(531,[.sl false 4 LD,.agg Vj],[],.bool false,[])
def QhD:Zq:=BF:: QhC
def BG:Z6:=(529,[.sl false 4 LD,.sl false 4 GC],[],.sl false 4 LD,[])
def QhE:Zq:=BG:: QhD
def BH:Z6:=(531,[.sl false 4 [VZ,GB],.agg Vj],[],.bool true,[])
def QhF:Zq:=BH:: QhE
def BI:Z6:=(529,[.sl false 4 [VZ,GB],.sl false 4 GC],[],.sl false 4 GC,[])
def QhG:Zq:=BI:: QhF
def BJ:Z6:=(605,[.sl false 4 LD,.agg Vj],[],.tup [.sl false 4 [VZ],.int .i64 0],[])
def QhH:Zq:=BJ:: QhG
def BK:Z6:=(518,[.sl false 4 [O1,T0],.sl false 4 [Rl]],[],.tup [.sl false 4 CT,.int .i64 0],[])
def QhI:Zq:=BK:: QhH
def BL:Z6:=(531,[.sl false 4 [T0,O1],.agg Rl],[],.bool true,[])
def QhJ:Zq:=BL:: QhI
def BN:Z6:=(529,[.sl false 4 [T0,O1],.sl false 4 CT],[],.sl false 4 CT,[])
def QhK:Zq:=BN:: QhJ
def BO:Z6:=(603,[.str QhU,.sl false 1 [[.str [109,117,108,40,120,58,110,111,110,99,101,44,32,121,58,110,111,110,99,101,41]],QhR]],[],.bool true,[])
def QhL:Zq:=BO:: QhK
def BP:Z6:=(518,[.sl false 4 [GE,Jj],.sl false 4 [GD]],[],.tup [.sl false 4 CU,.int .i64 0],[])
def QhM:Zq:=BP:: QhL
def BQ:Z6:=(531,[.sl false 4 [Jj,GE],.agg GD],[],.bool true,[])
def QhN:Zq:=BQ:: QhM
def BR:Z6:=(529,[.sl false 4 [Jj,GE],.sl false 4 CU],[],.sl false 4 CU,[])
def QhO:Zq:=BR:: QhN
def BS:Z6:=(603,[.str [97,58,97,110,121],.sl false 1 [[.str [120,111,114,40,97,58,97,110,121,44,32,98,58,97,110,121,41]],[.str [98,58,97,110,121]]]],[],.bool true,[])
def Qsm:Zq:=BS:: QhO
end Go.Am
