/-
  Kn83, Kn84, Kn85, Kn86, Kn87, AmMemo, KnND.
-/
import Derived.Test.YtgjaamacjmjjcaaGreatDoorG26
import Derived.Test.YtgjaamacjmjjcaaGreatDoorG11
import Derived.KernelRfl
set_option linter.all false
open Go.Am.F
namespace Go.Am
set_option maxRecDepth 20000
def P3 (t:Tm):Qj:=if VW t=0 then [WV t]else []
def YS (u:Qj):Qj:=(u.map P3).flatten
def FJ (u t):YS (u ++ [t])=YS u ++ P3 t:=by simp[YS]
def Iw: ∀u:Qj,(YS u).length<=u.length
 | []=>by simp[YS]
 | t:: u=>by
  have a:=Iw u;have:YS (t:: u)=P3 t ++ YS u:=by simp[YS]
  rw[this];have: (P3 t).length<=1:=by unfold P3;grind
  grind
def Qi5 {u} (c:UK u): ∀{l},(∀x∈l,x∈u)->∀x∈YS l,x∈u:=by
 intro l e x a;obtain⟨m,b,a⟩:=Nd.1 a;obtain⟨t,d,rfl⟩:=YL.1 b;unfold P3 at a;split at a;rename_i h;rw[Vz.1 a];exact c.key t (e t d) h;grind
def My {u} (c:UK u) {l} (a: ∀x∈l,x∈u):PsI u (Qq (YS l)):=⟨XY _,fun x b=>Qi5 c a x (Z8.1 b)⟩
def Qv9 {u} (g:UK u) (B):
  ∀b a o h f,u=a ++ b->f 3= .sl o 4 (Qa (Qq (YS a)))->f 8= .sl h 4 (Qa u)->f 9= .int .i64 u.length->f 10= .int .i64 a.length->
  ClR (Qq (YS u)) B (R tb (.loop f606l0) f B (Qh 0 (Qs tb f606r0 (QA f606 B)))):=by
 have D:=g.len;intro b;induction b with | nil=>intro a o h f i l j k e;simp only[Qy]at i;rw[<- i]at l e;refine⟨false,?_⟩;have y:=ZL (Qq (YS u));generalize Qa (Qq (YS u))=I at *;rw[Qb f606l0.eq_1];simp[l,j,k,e,f606r0,y] | cons t b A=>intro a o h f i l j k e;have r:=Qv i;have E:=QD i;have p:=wr1 a.length (by omega);have n:=QF i;(have w:t∈u:=by grind);(have q: ∀x∈a,x∈u:=fun x J=>by grind);have z:=My g q;have d:=Qdc t B (g.gd t w) (g.ms t w);have H:=Iw a;have C:=WF (YS a);have m:=fun o h f=>A (a ++ [t]) o h f (by grind);rw[FJ]at m;rw[Qb f606l0.eq_1];by_cases c:VW t=0;(have v:P3 t=[WV t]:=by simp[P3,c]);obtain⟨G,s⟩:=I4 (Qq (YS a)) (WV t) false B (by omega) (X8 (Vw g z)) (by have:=g.ms _ (g.key t w c);unfold big;omega) z.asc;rw[v,Nu]at m;simp only[T8,c]at d;simp[l,j,k,e,r,n,p,d,s,Qc];apply m G h <;> simp[j,k];(have v:P3 t=[]:=by simp[P3,c]);rw[v,Qy]at m;simp only[T8]at d;simp[l,j,k,e,r,n,p,d,c,Qc];apply m o h <;> simp[l,j,k]
def Qo4 {u} (b:UK u) (o B):ClR (Qq (YS u)) B (call tb 606 [.sl o 4 (Qa u)] B):=by
 rw[zcc 606 rfl rfl];simp[f606C];apply(fun a=>Qv9 b B u [] true false a rfl) <;> simp[YS,Qq,Yo,Qa]
def QuH {u} (g:UK u) (B):
  ∀b a o f e,u=a ++ b->e 0= .sl f 4 (Qa u)->e 3= .sl o 4 (Qa (Qq (YS a)))->e 4= .int .i64 a.length->
  ClR (Qq (YS u)) B (R tb (.loop f618l0) e B (Qh 0 (Qs tb f618r0 (QA f618 B)))):=by
 have w:=g.len;intro b;induction b with | nil=>intro a o f e i h j p;simp only[Qy]at i;rw[<- i]at j p;refine⟨false,?_⟩;have v:=ZL (Qq (YS u));generalize Qa (Qq (YS u))=E at *;rw[Qb f618l0.eq_1];simp[h,j,p,f618r0,v] | cons t b z=>intro a o f e i h j p;have m:=Qv i;have C:=QD i;have q:=wr1 a.length (by omega);have n:=QF i;(have s:t∈u:=by grind);(have k: ∀x∈a,x∈u:=fun x D=>by grind);have d:=EH t B (g.gd t s) (g.ms t s);have y:=Iw a;have A:=WF (YS a);have l:=fun o f e=>z (a ++ [t]) o f e (by grind);rw[FJ]at l;rw[Qb f618l0.eq_1];by_cases c:VW t=0;(have r:P3 t=[WV t]:=by simp[P3,c]);rw[r,Nu]at l;simp only[T8,c]at d;simp[h,j,p,m,n,q,d,(RH (Qq (YS a)) (WV t) false B (by omega) (X8 (Vw g (My g k))) (by have:=g.ms _ (g.key t s c);unfold big;omega)),Qc];apply l false f <;> simp[h];(have r:P3 t=[]:=by simp[P3,c]);rw[r,Qy]at l;simp only[T8]at d;simp[h,j,p,m,n,q,d,c,Qc];apply l o f <;> simp[h,j]
def Qo9 {u} (b:UK u) (o B):ClR (Qq (YS u)) B (call tb 618 [.sl o 4 (Qa u)] B):=by
 rw[zcc 618 rfl rfl];simp[f618C];apply(fun a=>QuH b B u [] true false a rfl) <;> simp[YS,Qq,Yo,Qa]
noncomputable def Xs (u C:Qj) (t x:Tm):Bool:= !Qx C t && !Qx C x && Qx (kcl u (QT x C)) t
noncomputable def IJ (u C:Qj) (t:Tm):Qj:=(Qq (YS u)).filter (Xs u C t)
noncomputable def ME (k:Qj) (t:Tm):Qj:=if Z5 k [t]=0 then IJ (Yt (k ++ [t])) (kcl (Yt (k ++ [t])) (Qq k)) t else []
def Qwc {u C} (Q:UC u) (E:UK u) (T:Asc u) (A:PsI u C) (t) (htm:t.mass < 1000000) (B):
  ∀j b s w g k,Qq (YS u)=b ++ j->k 3= .bx (Qd t)->k 6= .sl s 4 (Qa u)->k 8= .sl w 4 (Qa C)->k 9= .sl true 4 (Qa (b.filter (Xs u C t)))->k 27= .sl g 4 (Qa (Qq (YS u)))->k 28= .int .i64 (Qq (YS u)).length->k 29= .int .i64 b.length->
  LsR (IJ u C t) 0 B (R tb (.loop f605l0) k B (Qh 0 (Qs tb f605r0 (QA f605 B)))):=by
 have hul:=E.len;have X:=My E (l:=u) fun x hx=>hx;have hKl:=Si Q T X;have hCl:=Si Q T A;unfold IJ;generalize Qq (YS u)=K at *;intro j;induction j with | nil=>intro b s w g k L q J n m d e i;simp only[Qy]at L;rw[<- L]at m i;refine⟨false,?_⟩;have W:=ZL (K.filter (Xs u C t));generalize Qa (K.filter (Xs u C t))=EF at *;rw[Qb f605l0.eq_1];simp[m,d,e,i,f605r0,W] | cons x j Z=>intro b s w g k L q J n m d e i;have hll:=QD L;have v:=wr1 b.length (by omega);have p:=QF L;have M:=X.sub x (by grind);have hxm:=E.ms x M;have a:=Tq C t false B (by omega) (X8 (Vw E A)) (by unfold big;omega) A.asc;have c:=Tq C x false B (by omega) (X8 (Vw E A)) (by unfold big;omega) A.asc;obtain⟨o2,y⟩:=I4 C x false B (by omega) (X8 (Vw E A)) (by unfold big;omega) A.asc;have P:=Rb A M;obtain⟨o3,z⟩:=Qag Q T P false false B;have H:=Pb P;have f:=Tq (kcl u (QT x C)) t false B (by have:=Si Q T H;omega) (X8 (Vw E H)) (by unfold big;omega) H.asc;(have r: (Qa K)[b.length]? =some (Qd x):=by rw[Xf,(Qv L)];rfl);have hKe: (Qa K).length=K.length:=QX _;have o:=fun s w g k=>Z (b ++ [x]) s w g k (by grind);have hfl:=Ux (Xs u C t) b;have N: (Qa (b.filter (Xs u C t))).length=(b.filter (Xs u C t)).length:=QX _;(have O: ((b.filter (Xs u C t)).length+1)*56<=140737488355328:=by omega);have D:=QQ (b.filter (Xs u C t)) [x];(have e1:Qa [x]=[Qd x]:=by simp[Qa]);rw[e1]at D;simp only[UW]at o;generalize hEK:Qa K=EK at *;rw[Qb f605l0.eq_1];have hop:Xs u C t x=(!Qx C t && !Qx C x && Qx (kcl u (QT x C)) t):=rfl;(have G:Xs u C t x=false->List.filter (Xs u C t) [x]=[]:=fun h=>by grind);(have V:Xs u C t x=true->List.filter (Xs u C t) [x]=[x]:=fun h=>by grind);generalize kcl u (QT x C)=C2 at *;cases S:Qx C t;cases U:Qx C x;cases Y:Qx C2 t;have I:=G (by grind);rw[I,Qy]at o;rw[S]at a;rw[U]at c;rw[Y]at f;simp[-getElem?_pos,q,J,n,m,d,e,i,r,p,v,a,c,y,z,f,Qc];apply o s w g <;> simp[q,J,n,m,d,e];have I:=V (by grind);rw[I,<- D]at o;rw[S]at a;rw[U]at c;rw[Y]at f;generalize Qa (b.filter (Xs u C t))=EF at *;generalize (b.filter (Xs u C t)).length=nf at *;simp[-getElem?_pos,q,J,n,m,d,e,i,r,p,v,a,c,y,z,f,Qc,N,O];apply o s w g <;> simp[q,J,n,d,e];have I:=G (by grind);rw[I,Qy]at o;rw[S]at a;rw[U]at c;simp[-getElem?_pos,q,n,m,d,e,i,r,p,v,a,c,Qc];apply o s w g <;> simp[q,J,n,m,d,e];have I:=G (by grind);rw[I,Qy]at o;rw[S]at a;simp[-getElem?_pos,q,n,m,d,e,i,r,p,v,a,Qc];apply o s w g <;> simp[q,J,n,m,d,e]
def Qdt (k t) (h:KI (k ++ [t])) (o B):LsR (ME k t) (Z5 k [t]) B (call tb 605 [.sl o 4 (Qa k),.agg (Qd t)] B):=by
 obtain⟨x,a⟩:=Oj k [t] h false false B;obtain⟨l,i⟩:=E4 h;have q:Qa [t]=[Qd t]:=by simp[Qa]
 rw[q]at a;rw[zcc 605 rfl rfl];unfold ME;by_cases c:Z5 k [t]=0;have b:=Od h c;rw[c,Qg rfl]at a;obtain⟨n,e⟩:=Qag b.uc b.asc b.ps false false B;obtain⟨r,d⟩:=Qo4 b.uk false B;have m:=fun v s f j=>Qwc b.uc b.uk b.asc (Pb b.ps) t (h.ms t (by simp)) B (Qq (YS (Yt (k ++ [t])))) [] v s f j rfl;have g: (Qa (Qq (YS (Yt (k ++ [t]))))).length=(Qq (YS (Yt (k ++ [t])))).length:=QX _;rw[c,Qg rfl];generalize Yt (k ++ [t])=u at *;generalize kcl u (Qq k)=C at *;generalize Qq (YS u)=p at *;generalize Qa p=w at *;simp[f605C,a,(fun o=>NV k o B (by omega) (X8 i)),e,d,Qc];apply m false n r <;> simp[Qa,g];rw[Qe c]at a;rw[Qe c];refine⟨false,?_⟩;simp[f605C,a,c,Qc,Qa]
def QuI {u C} (P:UC u) (s:UK u) (Q:Asc u) (O:PsI u C) (t) (htm:t.mass < 1000000) (h0:Qx C t=false) (B):
  ∀e a q r f i,Qq (YS u)=a ++ e->i 3= .bx (Qd t)->i 6= .sl q 4 (Qa u)->i 8= .sl r 4 (Qa C)->i 9= .sl true 4 (Qa (a.filter (Xs u C t)))->i 10= .sl f 4 (Qa (Qq (YS u)))->i 11= .int .i64 a.length->
  LsR (IJ u C t) 0 B (R tb (.loop f617l0) i B (Qh 0 (Qs tb f617r0 (QA f617 B)))):=by
 have hul:=s.len;have X:=My s (l:=u) fun x Z=>Z;have hKl:=Si P Q X;have hCl:=Si P Q O;unfold IJ;generalize Qq (YS u)=A at *;have j: (Qa A).length=A.length:=QX _;intro e;induction e with | nil=>intro a q r f i E G D m o d g;simp only[Qy]at E;rw[<- E]at o g;refine⟨false,?_⟩;have U:=ZL (A.filter (Xs u C t));generalize Qa (A.filter (Xs u C t))=EF at *;rw[Qb f617l0.eq_1];simp[m,o,d,g,j,f617r0,U] | cons x e IH=>intro a q r f i E G D m o d g;have hll:=QD E;have y:=wr1 a.length (by omega);have v:=QF E;have H:=X.sub x (by grind);have hxm:=s.ms x H;have b:=Sb C x false B (by omega) (X8 (Vw s O)) (by unfold big;omega);have n:=RH C x false B (by omega) (X8 (Vw s O)) (by unfold big;omega);have J:=Rb O H;obtain⟨o3,k⟩:=Qah P s Q J false false B;have N:=Pb J;have c:=Sb (kcl u (QT x C)) t false B (by have:=Si P Q N;omega) (X8 (Vw s N)) (by unfold big;omega);(have w: (Qa A)[a.length]? =some (Qd x):=by rw[Xf,(Qv E)];rfl);have z:=fun q r S i=>IH (a ++ [x]) q r S i (by grind);have Y:=Ux (Xs u C t) a;have I: (Qa (a.filter (Xs u C t))).length=(a.filter (Xs u C t)).length:=QX _;(have K: ((a.filter (Xs u C t)).length+1)*56<=140737488355328:=by omega);have p:=QQ (a.filter (Xs u C t)) [x];(have e1:Qa [x]=[Qd x]:=by simp[Qa]);rw[e1]at p;simp only[UW]at z;generalize hEK:Qa A=EK at *;rw[Qb f617l0.eq_1];have hop:Xs u C t x=(!Qx C t && !Qx C x && Qx (kcl u (QT x C)) t):=rfl;(have M:Xs u C t x=false->List.filter (Xs u C t) [x]=[]:=fun h=>by grind);(have T:Xs u C t x=true->List.filter (Xs u C t) [x]=[x]:=fun h=>by grind);generalize kcl u (QT x C)=C2 at *;cases V:Qx C x;cases W:Qx C2 t;have L:=M (by grind);rw[L,Qy]at z;rw[V]at b;rw[W]at c;simp[-getElem?_pos,G,D,m,o,d,g,j,w,v,y,b,n,k,c,Qc];apply z q r f <;> simp[G,D,m,o,d];have L:=T (by grind);rw[L,<- p]at z;rw[V]at b;rw[W]at c;generalize Qa (a.filter (Xs u C t))=EF at *;generalize (a.filter (Xs u C t)).length=nf at *;simp[-getElem?_pos,G,D,m,o,d,g,j,w,v,y,b,n,k,c,Qc,I,K];apply z q r f <;> simp[G,D,m,d];have L:=M (by grind);rw[L,Qy]at z;rw[V]at b;simp[-getElem?_pos,m,o,d,g,j,w,v,y,b,Qc];apply z q r f <;> simp[G,D,m,o,d]
def Qdx (k t) (h:KI (k ++ [t])) (o B):LsR (ME k t) (Z5 k [t]) B (call tb 617 [.sl o 4 (Qa k),.agg (Qd t)] B):=by
 obtain⟨D,a⟩:=EE k t h false B;obtain⟨v,m⟩:=E4 h;have p:=h.ms t (by simp);have g:=fun o=>RJ k o B (by omega) (X8 m);rw[zcc 617 rfl rfl];unfold ME;by_cases c:Z5 k [t]=0;have f:=Od h c;rw[c,Qg rfl]at a;obtain⟨y,i⟩:=Qah f.uc f.uk f.asc f.ps false false B;have n:=Pb f.ps;obtain⟨s,j⟩:=Qo9 f.uk false B;have b:=Sb (kcl (Yt (k ++ [t])) (Qq k)) t false B (by have:=Si f.uc f.asc n;omega) (X8 (Vw f.uk n)) (by unfold big;omega);rw[c,Qg rfl];cases d:Qx (kcl (Yt (k ++ [t])) (Qq k)) t;have r:=fun A w l q=>QuI f.uc f.uk f.asc n t p d B (Qq (YS (Yt (k ++ [t])))) [] A w l q rfl;rw[d]at b;generalize Yt (k ++ [t])=u at *;generalize kcl u (Qq k)=C at *;generalize Qq (YS u)=z at *;generalize Qa z=E at *;simp[f617C,a,g,i,b,j,Qc];apply r false y s <;> simp[Qa];have e:IJ (Yt (k ++ [t])) (kcl (Yt (k ++ [t])) (Qq k)) t=[]:=by unfold IJ;refine Jw.2 fun x _=> ?_;simp[Xs,d]
 rw[d]at b;rw[e];generalize Yt (k ++ [t])=u at *;generalize kcl u (Qq k)=C at *;refine⟨false,?_⟩;simp[f617C,a,g,i,b,Qc,Qa];rw[Qe c]at a;rw[Qe c];refine⟨false,?_⟩;simp[f617C,a,c,Qc,Qa]
def Qk9 {l} (h:l≠[]) (d:l.length < 1000000) (B):call tb 193 [.sl false 4 (Qa l)] B=some (.gs B.length 0 4 l.length,B ++ [Qk l]):=by
 rw[Y9 tb_193];have b: (Qa l).flatten.map AV.strip=Qk l:=by(have: (Qa l).flatten=Qk l:=by rw[Zr];rfl);rw[this,Z6 Zc]
 have a: (Qa l).length=l.length:=by simp[Zr]
 have c:l.length*56<=140737488355328:=by omega
 simp[X2,VD,b,a,(ZL l),h,c]
def QgX (l:Qj) (id:Nat) (B:Qr) (r:Out):Prop:=∃o c,r=some (.sl o 4 (Qa l),B.set id c)
def Qae (l t):ZS (Qk l ++ t) 0 4 l.length=Qa l:=by
 have:=X3 (f:=Qd) (k:=4) QE Zc l t;rwa[TW]at this
def Qpj {pre post p id n B} (hn:n=pre.length+1+post.length) (hl:n < 1000000) (E:B[id]? =some (Qk (pre ++ p:: post))):
  QgX (pre ++ post) id B (call tb 727 [.gs id 0 4 n,.int .i64 pre.length,.int .i64 ((pre.length:Int)+1)] B):=by
 have e1: (0:Int)<=(pre.length:Int):=by omega
 have e2: (pre.length:Int)<=(pre.length:Int)+1:=by omega
 have Y: (pre.length:Int)+1<=(n:Int):=by omega
 have Z: (0:Int)<=(pre.length:Int)+1:=by omega
 have e5: ¬(pre.length:Int)=(pre.length:Int)+1:=by omega
 have e6: (pre.length:Int)<=(n:Int):=by omega
 have e7: ((pre.length:Int)+1).toNat=pre.length+1:=by omega
 have e8:n - (pre.length+1)=post.length:=by omega
 have e10:n - (n - 1)=1:=by omega
 have e11: ((n - 1:Nat):Int)<=(n:Int):=by omega
 have hl0: (Qk pre).length=pre.length*4:=Z0 QE pre;have A:=Z0 QE post;have C: (Qk (pre ++ p:: post)).length=n*4:=by rw[Z0 QE];simp;omega
 have d:=SP (f:=Qd) (k:=4) QE (l:=pre ++ p:: post) (pre:=pre) (post:=p:: post) rfl [];have b:=MJ (f:=Qd) (k:=4) QE (l:=pre ++ p:: post) (pre:=pre ++ [p]) (post:=post) (by simp) [];rw[Q6,Rk]at b;simp only[Qy]at d b;have q:Qk (pre ++ p:: post)≠[]:=by intro e;have:=UU List.length e;rw[C]at this;simp at this;omega
 have hb56:n*56<=140737488355328:=by omega
 have z:pre.length*56<=140737488355328:=by omega
 have s: (pre.length+post.length)*56<=140737488355328:=by omega
 have V: (n:Int)<=((Qk (pre ++ p:: post)).length:Int) / 4:=by rw[C];omega
 have K:pre.length<=n:=by omega
 have o:=ZL (pre ++ post);change (Qk (pre ++ p:: post)).take (pre.length*4)=Qk pre at d;change (Qk (pre ++ p:: post)).drop ((pre.length+1)*4)=Qk post at b;have r: ∀x:QB,(B.set id x)[id]? =some x:=fun x=>by simp[(QJ E)]
 have m: ∀X:QB,(B.set id X).take B.length=B.set id X:=fun X=>Z3 (by simp);rw[zcc 727 rfl rfl];generalize hcc:Qk (pre ++ p:: post)=c at *;by_cases L:post=[];subst L;have S:n - (pre.length+1)=0:=by simpa using e8
 have e9':pre.length=n - 1:=by simpa using(by omega)
 have R:n - pre.length=1:=by omega
 have j:pre.length*4+4<=c.length:=by omega
 have g:=Qae pre (.undef:: .undef:: .undef:: .undef:: c.drop (pre.length*4+4));simp only[Qy]at o ⊢;unfold QgX;have a:pre.length*4<=(Qk pre).length+ (c.length - (pre.length*4+4)+1+1+1+1):=by omega
 by_cases T:pre.length=0;have O:=Yg T;subst O;have M:n=1:=by simpa using hn
 have H:c.drop 4=[]:=b;have Q:c.length=4:=by omega
 subst M;refine⟨false,List.replicate 4 .undef,?_⟩;simp[-getElem?_pos,f727C,E,Q,H,q,m,appM,Xt,ZZ,Qa];refine⟨true,[],?_⟩;generalize Qa pre=EP at *;simp[-getElem?_pos,f727C,e1,Y,Z,e5,e6,e7,S,R,K,E,z,V,j,q,d,appM,Xt,ZZ,T,g,o,a,r,m];have T: ¬post.length=0:=fun e=>L (Yg e);have j: (pre.length+1)*4+post.length*4<=c.length:=by omega
 have D: (pre.length+post.length)*4<=c.length:=by omega
 have v:pre.length*4<=c.length:=by omega
 have P: ((c.map AV.strip).drop ((pre.length+1)*4)).take (post.length*4)=Qk post:=by rw[<- PE,b,(Z6 Zc post),<- A,JH]
 have N: (pre.length:Int)+ (post.length:Int)<=(n:Int):=by omega
 have W: (0:Int)<=(pre.length:Int)+ (post.length:Int):=by omega
 have I:n - (pre.length+post.length)=1:=by omega
 have U: ((pre.length:Int)+ (post.length:Int)).toNat=pre.length+post.length:=by omega
 have e18:pre.length+post.length<=n:=by omega
 obtain⟨h,t⟩: ∃h,Qk pre ++ (Qk post ++ c.drop (pre.length*4+post.length*4))=h:=⟨_,rfl⟩;have i:h=Qk (pre ++ post)++ c.drop ((pre.length+post.length)*4):=by rw[<- t,show Qk (pre ++ post)=Qk pre ++ Qk post from Ve _ _ _,Yh];simp
 have u: (Qk (pre ++ post)).length=(pre.length+post.length)*4:=by rw[Z0 QE];simp
 have J:h.length=c.length:=by rw[i,Q6,u,UP];omega
 have w:h.take ((pre.length+post.length)*4)=Qk (pre ++ post):=by rw[i,<- u,JQ]
 have y: (pre.length+post.length)*4+4<=h.length:=by omega
 have G: (n:Int)<=(h.length:Int) / 4:=by rwa[J]
 have g:=Qae (pre ++ post) (.undef:: .undef:: .undef:: .undef:: h.drop ((pre.length+post.length)*4+4));rw[Q6]at g;have hz3: ¬pre.length+post.length=0:=by omega
 have a: (pre.length+post.length)*4<=(Qk (pre ++ post)).length+ (h.length - ((pre.length+post.length)*4+4)+1+1+1+1):=by omega
 refine⟨true,[],?_⟩;generalize Qa (pre ++ post)=EP at *;simp[-getElem?_pos,f727C,e1,Y,Z,e5,e6,e7,e8,N,W,I,U,L,E,s,G,j,D,v,y,q,d,w,P,A,t,appM,Xt,ZZ,g,o,a,r,m]
def Qpf {pre post p} (v:pre.length+post.length < 100000) (o B):
  ∃q,call tb 627 [.sl o 4 (Qa (pre ++ p:: post)),.int .i64 pre.length] B=some (.sl q 4 (Qa (pre ++ post)),B):=by
 have a: (Qa (pre ++ p:: post)).length=pre.length+ (post.length+1):=by rw[QX];simp
 have b: (Qa (pre ++ p:: post)).take pre.length=Qa pre:=by rw[NK];simp
 have g: (Qa (pre ++ p:: post)).drop (pre.length+1)=Qa post:=by rw[NJ];simp
 have e: (Qa (pre ++ p:: post)).take (pre.length+ (post.length+1))=Qa (pre ++ p:: post):=Z3 (by omega);have k:=QQ pre post;have f:=QX pre;have c:=QX post;have d:=ZL (pre ++ post);have j: (pre.length:Int)<=(pre.length:Int)+ ((post.length:Int)+1):=by omega
 have l: (0:Int)<=(pre.length:Int)+1:=by omega
 have r: (pre.length:Int)+1<=(pre.length:Int)+ ((post.length:Int)+1):=by omega
 have m:pre.length*56<=140737488355328:=by omega
 have h: (pre.length+post.length)*56<=140737488355328:=by omega
 refine⟨true,?_⟩;rw[zcc 627 rfl rfl];generalize Qa (pre ++ p:: post)=E at *;generalize n:Qa pre=u at *;generalize i:Qa post=t at *;generalize Qa (pre ++ post)=s at *;simp[f627C,a,b,g,e,k,f,c,d,(wr1 pre.length (by omega)),(by omega),j,l,r,m,h]
noncomputable def dvB (k:Qj) (t:Tm):Bool:=decide (Z5 k [t]=0) && Lo k t
noncomputable def SL:Nat->Qj->Qj
 | 0,out=>out
 | i+1,out=>match out[i]? with
  | none=>out
  | some x=>SL i (if dvB (out.eraseIdx i) x then out.eraseIdx i else out)
def Qd7 {c b x} (h:KI (c ++ x:: b)):KI ((c ++ b)++ [x]):=by
 obtain⟨f,e,d,g⟩:=h;refine⟨?_,?_,?_,?_⟩;simp at f ⊢;omega;rw[ZK]at e;rw[ZK,ZK];simp only[Qp,Q6,Zu,Xc]at e ⊢;omega;rw[Y3]at d;rw[Y3,Y3];simp only[Qw]at d ⊢;omega;intro y a;apply g;simp only[Zp,Zk]at a ⊢;rcases a with(a | a) | a;exact .inl a;exact .inr (.inr a);rcases a with rfl | a;exact .inr (.inl rfl);cases a
def Qd8 {k m} (h:KI (k ++ m)):KI k:=by
 obtain⟨a,e,c,d⟩:=h;refine⟨?_,?_,?_,fun y b=>d y (by simp[b])⟩;simp at a;omega;rw[ZK,Q6]at e;omega;rw[Y3]at c;omega
def Qas {b a} {x:Tm}: (b ++ x:: a).eraseIdx b.length=b ++ a:=by
 rw[List.eraseIdx_append_of_length_le (QY _)];simp
def Quq (k):
  ∀i d B o h,ZF k B->KI d->i<=d.length->h 6= .sl o 4 (Qa d)->h 7= .int .i64 ((i:Int) - 1)->
  LsR (SL i d) 0 k (R tb (.loop f624l0) h B (Qh 0 (Qs tb f624r0 (QA f624 k)))):=by
 intro i;induction i with | zero=>intro d B o h A C U r s;(have I:B.take k.length=k:=by obtain⟨M,rfl⟩:=A;simp);have G:=ZL d;(have Q:X4 k B=true:=by obtain⟨M,rfl⟩:=A;simp);refine⟨false,?_⟩;simp only[SL];generalize Qa d=EO at *;rw[Qb f624l0.eq_1];simp[r,s,f624r0,G,I] | succ i K=>intro d B o h A C U r s;obtain⟨x,N⟩: ∃x,d[i]? =some x:=⟨d[i]'(by omega),Za (by omega)⟩;(obtain⟨b,a,rfl,j⟩: ∃b a,d=b ++ x:: a/\b.length=i:=by refine⟨d.take i,d.drop (i+1),?_,by simp;omega⟩;obtain⟨h1,S⟩:=XR.1 N;rw[<- S,Jy,Pz]);have u:=C.len;simp only[Q6,Zu]at u;(have O: ((i+1:Nat):Int) - 1=(i:Int):=by omega);rw[O]at s;have t:IntKind.i64.wrap ((i:Int)+1)=(i:Int)+1:=QC (by omega) (by omega);have m:IntKind.i64.wrap ((i:Int) - 1)=(i:Int) - 1:=QC (by omega) (by omega);(have w: (0:Int)<=(i:Int):=by omega);have g:=Qk9 (l:=b ++ x:: a) (by simp) (by simp;omega) B;obtain⟨o2,c,f⟩:=Qpj (pre:=b) (post:=a) (p:=x) (id:=B.length) (n:=b.length+1+a.length) (B:=B ++ [Qk (b ++ x:: a)]) rfl (by omega) Yd;(have z: (B ++ [Qk (b ++ x:: a)]).set B.length c=B ++ [c]:=by simp);rw[z]at f;(have V: (b ++ x:: a).length=b.length+1+a.length:=by simp;omega);rw[V]at g;have q:=Qd7 C;have e:=fun o=>I3 (b ++ a) x q o (B ++ [c]);have D:dvA (b ++ a) x= .tup [.bool (dvB (b ++ a) x),.int .i64 (Z5 (b ++ a) [x])]:=rfl;rw[D]at e;(have y: (Qa (b ++ x:: a))[i]? =some (Qd x):=by rw[Xf,N];rfl);have v:=A.app [c];generalize W:b.length+1+a.length=nn at *;rw[j]at f;(have Y:SL (i+1) (b ++ x:: a)=SL i (if dvB (b ++ a) x then b ++ a else b ++ x:: a):=by(have E: (b ++ x:: a)[i]? =some x:=by rw[<- j];simp);(have X: (b ++ x:: a).eraseIdx i=b ++ a:=by rw[<- j];exact Qas);simp only[SL,E,X]);rw[Y];have H:=fun o h=>K (b ++ a) (B ++ [c]) o h v (Qd8 q) (by simp;omega);have J:=fun o h=>K (b ++ x:: a) (B ++ [c]) o h v C (by simp;omega);generalize Qa (b ++ x:: a)=Z at *;generalize Qa (b ++ a)=EP at *;generalize Z5 (b ++ a) [x]=ue at *;generalize P:B ++ [c]=Bc at *;generalize T:B ++ [Qk (b ++ x:: a)]=Br at *;generalize B.length=bl at *;rw[Qb f624l0.eq_1];cases L:dvB (b ++ a) x;rw[L]at e;simp[-getElem?_pos,Ql,Q0,r,s,w,t,m,g,f,e,y,Qc];apply J o <;> simp[r];rw[L]at e;simp[-getElem?_pos,Ql,Q0,r,s,w,t,m,g,f,e,y,Qc];apply H false <;> simp
noncomputable def IE (k:Qj):Qj:=if Z5 k []=0 then SL k.length k else []
def Qpd (k) (h:KI k) (o B):LsR (IE k) (Z5 k []) B (call tb 624 [.sl o 4 (Qa k)] B):=by
 obtain⟨l,a⟩:=Oj k [] (by rwa[Qy]) false true B;have g:=h.len;have b:=AN k B (by omega);have i:=fun o e=>Quq B k.length k B o e ⟨[],by simp⟩ h (QY _);have f:IntKind.i64.wrap ((k.length:Int) - 1)=(k.length:Int) - 1:=QC (by omega) (by omega);have d:=QX k;rw[WJ]at a;rw[zcc 624 rfl rfl];unfold IE;by_cases c:Z5 k []=0;rw[c,Qg rfl]at a;rw[c,Qg rfl];generalize Qa k=j at *;simp[f624C,a,b,d,f];apply i true <;> simp;rw[Qe c]at a;rw[Qe c];refine⟨false,?_⟩;simp[f624C,a,c,Qa]
def QqN (B):
  ∀i c o f,KI c->i<=c.length->f 6= .sl o 4 (Qa c)->f 7= .int .i64 ((i:Int) - 1)->
  LsR (SL i c) 0 B (R tb (.loop f626l0) f B (Qh 0 (Qs tb f626r0 (QA f626 B)))):=by
 intro i;induction i with | zero=>intro c o f r D j h;have s:=ZL c;refine⟨false,?_⟩;simp only[SL];generalize Qa c=L at *;rw[Qb f626l0.eq_1];simp[j,h,f626r0,s] | succ i y=>intro c o f r D j h;obtain⟨x,z⟩: ∃x,c[i]? =some x:=⟨c[i]'(by omega),Za (by omega)⟩;(obtain⟨b,a,rfl,g⟩: ∃b a,c=b ++ x:: a/\b.length=i:=by refine⟨c.take i,c.drop (i+1),?_,by simp;omega⟩;obtain⟨I,G⟩:=XR.1 z;rw[<- G,Jy,Pz]);have q:=r.len;simp only[Q6,Zu]at q;(have H: ((i+1:Nat):Int) - 1=(i:Int):=by omega);rw[H]at h;have n:IntKind.i64.wrap ((i:Int) - 1)=(i:Int) - 1:=QC (by omega) (by omega);(have m: (0:Int)<=(i:Int):=by omega);obtain⟨K,e⟩:=Qpf (pre:=b) (post:=a) (p:=x) (by omega) false B;have l:=Qd7 r;have d:=fun o=>I0 (b ++ a) x l o B;have t:dvA (b ++ a) x= .tup [.bool (dvB (b ++ a) x),.int .i64 (Z5 (b ++ a) [x])]:=rfl;rw[t]at d;(have k: (Qa (b ++ x:: a))[i]? =some (Qd x):=by rw[Xf,z];rfl);rw[g]at e;(have C:SL (i+1) (b ++ x:: a)=SL i (if dvB (b ++ a) x then b ++ a else b ++ x:: a):=by(have w: (b ++ x:: a)[i]? =some x:=by rw[<- g];simp);(have E: (b ++ x:: a).eraseIdx i=b ++ a:=by rw[<- g];exact Qas);simp only[SL,w,E]);rw[C];have u:=fun o f=>y (b ++ a) o f (Qd8 l) (by simp;omega);have v:=fun o f=>y (b ++ x:: a) o f r (by simp;omega);generalize Qa (b ++ x:: a)=N at *;generalize Qa (b ++ a)=M at *;generalize Z5 (b ++ a) [x]=J at *;rw[Qb f626l0.eq_1];cases A:dvB (b ++ a) x;rw[A]at d;simp[-getElem?_pos,Ql,Q0,j,h,m,n,e,d,k,Qc];apply v o <;> simp[j];rw[A]at d;simp[-getElem?_pos,Ql,Q0,j,h,m,n,e,d,k,Qc];apply u false <;> simp
def Qpe (k) (h:KI k) (o B):LsR (IE k) (Z5 k []) B (call tb 626 [.sl o 4 (Qa k)] B):=by
 obtain⟨l,a⟩:=LS k [] (by rwa[Qy]) false true B;have g:=h.len;have i:=fun o e=>QqN B k.length k o e h (QY _);have f:IntKind.i64.wrap ((k.length:Int) - 1)=(k.length:Int) - 1:=QC (by omega) (by omega);have d:=QX k;have b:k.length*56<=140737488355328:=by omega
 rw[WJ]at a;rw[zcc 626 rfl rfl];unfold IE;by_cases c:Z5 k []=0;rw[c,Qg rfl]at a;rw[c,Qg rfl];generalize Qa k=j at *;simp[f626C,a,d,f,b];apply i true <;> simp;rw[Qe c]at a;rw[Qe c];refine⟨false,?_⟩;simp[f626C,a,c,Qa]
noncomputable def Wd (k:Qj):Qj->Bool×Int
 | []=>(true,0)
 | t:: l=>if dvB k t then Wd k l else(false,Z5 k [t])
noncomputable def Dg (k l:Qj):Bool×Int:=
 if Z5 k []≠0 then(false,Z5 k [])else if Z5 l []≠0 then(false,Z5 l [])else
  if(Wd k l).1 then Wd l k else(false,(Wd k l).2)
def W6 (p:Bool×Int):AV:= .tup [.bool p.1,.int .i64 p.2]
def QdI {k t} (h:dvB k t=true):Z5 k [t]=0:=by
 simp only[dvB,Qu,QM]at h;exact h.1
def Et: ∀{k l},(Wd k l).1=true->(Wd k l).2=0
 | k,[],_=>rfl
 | k,t:: l,h=>by
  simp only[Wd]at h ⊢;by_cases c:dvB k t=true;rw[Qg c]at h ⊢;exact Et h;rw[Qe c]at h;cases h
def Qvv {k l} (v: ∀t∈l,KI (k ++ [t])) (x:l.length < 100000) (B):
  ∀a b o f j,l=b ++ a->j 0= .sl o 4 (Qa k)->j 10= .sl f 4 (Qa l)->j 11= .int .i64 l.length->j 12= .int .i64 b.length->
  R tb (.loop f629l0) j B (Qh 0 (Qs tb f629r0 (QA f629 B)))=some (W6 (Wd k a),B):=by
 intro a;induction a with | nil=>intro b o f j m r h i g;simp only[Qy]at m;rw[<- m]at g;rw[Qb f629l0.eq_1];simp[h,i,g,f629r0,Wd,W6] | cons t a u=>intro b o f j m r h i g;have q:=Qv m;(have w:l.length=b.length+ (a.length+1):=by rw[m];simp);have p:=wr1 b.length (by omega);(have n: (b.length:Int) < (l.length:Int):=by omega);have d:=I3 k t (v t (by rw[m];simp)) false B;have s:dvA k t= .tup [.bool (dvB k t),.int .i64 (Z5 k [t])]:=rfl;rw[s]at d;rw[Qb f629l0.eq_1];by_cases c:dvB k t=true;(have e:Wd k (t:: a)=Wd k a:=by simp[Wd,c]);rw[e];rw[c,QdI c]at d;simp[r,h,i,g,q,n,p,d,Qc];apply(fun o f j=>u (b ++ [t]) o f j (by rw[m];simp)) o f <;> simp[r,h,i];(have c:dvB k t=false:=by simpa using c);(have e:Wd k (t:: a)=(false,Z5 k [t]):=by simp[Wd,c]);rw[e];rw[c]at d;simp[r,h,i,g,q,n,p,d,Qc,W6]
def Qdy {k l} (b: ∀t∈l,KI (k ++ [t])) (d:l.length < 100000) (o a B):call tb 629 [.sl o 4 (Qa k),.sl a 4 (Qa l)] B=some (W6 (Wd k l),B):=by
 rw[zcc 629 rfl rfl];simp[f629C];apply(fun c=>Qvv b d B l [] false false c rfl) <;> simp
def QuE {k l} (v: ∀t∈l,KI (k ++ [t])) (x:l.length < 100000) (B):
  ∀a d o p f,l=d ++ a->f 0= .sl o 4 (Qa k)->f 1= .sl p 4 (Qa l)->f 6= .int .i64 d.length->
  R tb (.loop f631l0) f B (Qh 0 (Qs tb f631r0 (QA f631 B)))=some (W6 (Wd k a),B):=by
 intro a;induction a with | nil=>intro d o p f g m n q;simp only[Qy]at g;rw[<- g]at q;rw[Qb f631l0.eq_1];simp[m,n,q,f631r0,Wd,W6] | cons t a u=>intro d o p f g m n q;have i:=Qv g;(have w:l.length=d.length+ (a.length+1):=by rw[g];simp);have j:=wr1 d.length (by omega);(have h: (d.length:Int) < (l.length:Int):=by omega);have b:=I0 k t (v t (by rw[g];simp)) false B;have r:dvA k t= .tup [.bool (dvB k t),.int .i64 (Z5 k [t])]:=rfl;rw[r]at b;rw[Qb f631l0.eq_1];by_cases c:dvB k t=true;(have e:Wd k (t:: a)=Wd k a:=by simp[Wd,c]);rw[e];rw[c,QdI c]at b;simp[m,n,q,i,h,j,b,Qc];apply(fun o p f=>u (d ++ [t]) o p f (by rw[g];simp)) o p <;> simp[m,n];(have c:dvB k t=false:=by simpa using c);(have e:Wd k (t:: a)=(false,Z5 k [t]):=by simp[Wd,c]);rw[e];rw[c]at b;by_cases s:Z5 k [t]=0;rw[s]at b ⊢;simp[m,n,q,i,h,j,b,Qc,W6];simp[m,n,q,i,h,j,b,s,Qc,W6]
def Qdz {k l} (b: ∀t∈l,KI (k ++ [t])) (d:l.length < 100000) (o a B):call tb 631 [.sl o 4 (Qa k),.sl a 4 (Qa l)] B=some (W6 (Wd k l),B):=by
 rw[zcc 631 rfl rfl];simp[f631C];apply(fun c=>QuE b d B l [] false false c rfl) <;> simp
def Qwo {k l} (m: ∀t∈l,KI (k ++ [t])) (i: ∀t∈k,KI (l ++ [t])) (h:k.length < 100000) (j:l.length < 100000) (B o b d) (e:d 0= .sl o 4 (Qa k)) (g:d 1= .sl b 4 (Qa l)):
  R tb f628r0 d B (QA f628 B)=some (W6 (if(Wd k l).1 then Wd l k else(false,(Wd k l).2)),B):=by
 have a:=fun o b=>Qdy m j o b B;have f:=fun o b=>Qdy i h o b B;unfold W6 at a f;cases c: (Wd k l).1;rw[c]at a;simp[f628r0,e,g,a,W6];rw[c,Et c]at a;simp[f628r0,e,g,a,f,W6]
def Qpg {k l} (i:KI k) (q:KI l) (j: ∀t∈l,KI (k ++ [t])) (m: ∀t∈k,KI (l ++ [t])) (o f B):call tb 628 [.sl o 4 (Qa k),.sl f 4 (Qa l)] B=some (W6 (Dg k l),B):=by
 obtain⟨x,b⟩:=Oj k [] (by rwa[Qy]) false true B;obtain⟨u,a⟩:=Oj l [] (by rwa[Qy]) false true B;rw[WJ]at b a;have n:=fun o f s=>Qwo j m (by have:=i.len;omega) (by have:=q.len;omega) B o f s;have g:IntKind.i64.wrap 1=1:=QC (by omega) (by omega);have r:IntKind.i64.wrap 2=2:=QC (by omega) (by omega);rw[zcc 628 rfl rfl];unfold Dg;generalize h:Qa k=v at *;generalize p:Qa l=w at *;simp only[f628C];by_cases c:Z5 k []=0;rw[c,Qg rfl]at b;by_cases d:Z5 l []=0;rw[d,Qg rfl]at a;rw[c,d];simp only[ne_eq,PA,ZN];simp;rw[Qb f628l0.eq_1];simp[b,g];rw[Qb f628l0.eq_1];simp[a,r];rw[Qb f628l0.eq_1];simp;rw[n false false] <;> simp;rw[Qe d]at a;have e: (if Z5 k []≠0 then(false,Z5 k [])else if Z5 l []≠0 then(false,Z5 l [])else if(Wd k l).1 then Wd l k else(false,(Wd k l).2))=(false,Z5 l []):=by simp[c,d]
 rw[e];simp;rw[Qb f628l0.eq_1];simp[b,g];rw[Qb f628l0.eq_1];simp[a,d,W6];rw[Qe c]at b;have e: (if Z5 k []≠0 then(false,Z5 k [])else if Z5 l []≠0 then(false,Z5 l [])else if(Wd k l).1 then Wd l k else(false,(Wd k l).2))=(false,Z5 k []):=by simp[c]
 rw[e];simp;rw[Qb f628l0.eq_1];simp[b,c,W6]
def Qph {k l} (m:KI k) (i:KI l) (j: ∀t∈l,KI (k ++ [t])) (n: ∀t∈k,KI (l ++ [t])) (o d B):call tb 630 [.sl o 4 (Qa k),.sl d 4 (Qa l)] B=some (W6 (Dg k l),B):=by
 obtain⟨p,b⟩:=LS k [] (by rwa[Qy]) false true B;obtain⟨q,a⟩:=LS l [] (by rwa[Qy]) false true B;rw[WJ]at b a;have e:=fun o d=>Qdz j (by have:=i.len;omega) o d B;have h:=fun o d=>Qdz n (by have:=m.len;omega) o d B;unfold W6 at e h;rw[zcc 630 rfl rfl];unfold Dg;by_cases f:Z5 k []=0;rw[f,Qg rfl]at b;by_cases g:Z5 l []=0;rw[g,Qg rfl]at a;rw[f,g];simp only[ne_eq,PA,ZN];cases c: (Wd k l).1;rw[c]at e;simp[f630C,b,a,e,W6];rw[c,Et c]at e;simp[f630C,b,a,e,h,W6];rw[Qe g]at a;simp[f630C,b,a,f,g,W6];rw[Qe f]at b;simp[f630C,b,f,W6]
def LU (l o a):call tb 607 [.sl o 4 (Qa l)] a=some (.bool (few l 64 140),a):=by
 have h:=A5 l false 64 140 a (by omega) (by omega) (by omega);rw[zcc 607 rfl rfl];simp at h;simp[f607C,h]
def CG {l} (a:l.length < 1000) (c:Qp l < 4000) (d:Qw l < 1000000):KI l:=⟨a,.inl c,by omega,fun x b=>by have:=QR b;omega⟩
def Fv {l} (h:few l 64 140=true):l.length<=64/\Qw l<=5880/\Qp l<=140:=by
 obtain⟨c,a,b⟩:=Qax (by omega) h;have e: (140:Int).toNat=140:=rfl;rw[e]at a b;omega
def Qay {k t} (h:few (t:: k) 64 140=true):KI (k ++ [t]):=by
 obtain⟨a,c,b⟩:=Fv h;simp only[Zu,Qw,Qp]at a c b;apply CG;simp;omega;rw[ZK];simp only[Qp];omega;rw[Y3];simp only[Qw];omega
def KE {u C} (f:UC u) (e:UK u) (d:Asc u) (b:PsI u C) (B o a):call tb 112 [.sl o 4 (Qa C),.sl a 4 (Qa C)] B=some (.bool true,B):=by
 have h:=KF (l:=C) (M:=1000000) fun x c=>by have:=Vw e b x c;omega
 have g:C.length*1000000<=200*1000000:=YE _ (Si f d b);exact PR C B o a (by unfold big;omega) (by omega)
def Nn (B o a):call tb 112 [.sl o 4 [],.sl a 4 []] B=some (.bool true,B):=by
 have:=PR [] B o a (by simp[Qw,big]) (by simp);rwa[WJ]at this
def Qmg {u} (a:Asc u):PsI u u:=⟨a,fun x b=>b⟩
def Qgi {u C} (p) (h:PsI u C):PsI u (C.filter p):=⟨TH p h.asc,fun x a=>h.sub x (VN.1 a).1⟩
def DW {k u} (h:KN k u) (B o b):call tb 112 [.sl o 4 (Qa (knT k u)),.sl b 4 (Qa (knT k u))] B=some (.bool true,B):=by
 unfold knT;by_cases c:knE k u=0;rw[Qg c];unfold knE at c;split at c;cases c;rename_i j;split at c;rename_i a;exact absurd c a;rename_i a;split at c;cases c;rename_i g;have l:=WF u;obtain⟨f,e,d,i⟩:=Qf2 (by simpa using a) (by simpa using g) c (by omega);exact KE f e d (Pb i) B o b;rw[Qe c,WJ];exact Nn B o b
def L1 (k t) (p:call tb 602 [] []=some (.bool true,[])) (G: (k.length+1)*56<=140737488355328):call tb 601 [.sl false 4 (Qa k),.agg (Qd t)] []=some (.bool true,[]):=by
 have a:=fun o=>LU (t:: k) o [];have w:Qa (t:: k)=Qd t:: Qa k:=by simp[Qa]
 rw[w]at a;have f:=QX k;have e: (1+k.length)*56<=140737488355328:=by omega
 rw[zcc 601 rfl rfl];cases q:few (t:: k) 64 140;rw[q]at a;generalize Qa k=v at *;simp[f601C,p,a,f,e,Qc];rw[q]at a;have h:=Qay q;obtain⟨B,b⟩:=Qo5 k t h false [];obtain⟨A,d⟩:=EE k t h false [];by_cases c:Z5 k [t]=0;rw[c,Qg rfl]at b d;have g:=Od h c;have n:=fun o m=>KE g.uc g.uk g.asc (Qmg g.asc) [] o m;have s:KN k (Yt (k ++ [t])):=⟨by have:=h.len;simp at this;omega,by have:=g.uk.len;omega,fun x i=>by rcases Zp.1 i with i | i;exact h.ms x (Zp.2 (.inl i));exact g.uk.ms x i⟩;obtain⟨H,j⟩:=Qdu k (Yt (k ++ [t])) s false false [];obtain⟨C,l⟩:=Qdv k (Yt (k ++ [t])) s false false [];have r:=fun o m=>DW s [] o m;generalize Yt (k ++ [t])=u at *;generalize Qa (knT k u)=D at *;generalize knE k u=E at *;generalize Qa k=v at *;generalize Qa u=z at *;simp[f601C,p,a,f,e,Qc,b,d,j,l,n,r];rw[Qe c,WJ]at b d;have n:=fun o m=>Nn [] o m;generalize Qa k=v at *;generalize Z5 k [t]=y at *;simp[f601C,p,a,f,e,Qc,b,d,n,c]
def Iy (k u) (j:call tb 602 [] []=some (.bool true,[])):call tb 615 [.sl false 4 (Qa k),.sl false 4 (Qa u)] []=some (.bool true,[]):=by
 have b:=fun o=>LU k o [];have a:=A5 u false 40 200 [] (by omega) (by omega) (by omega);have m: ((40:Nat):Int)=40:=rfl;rw[m]at a;rw[zcc 615 rfl rfl];cases h:few k 64 140;rw[h]at b;generalize Qa k=p at *;generalize Qa u=n at *;simp[f615C,j,b];rw[h]at b;cases l:few u 40 200;rw[l]at a;generalize Qa k=p at *;generalize Qa u=n at *;simp[f615C,j,b,a];rw[l]at a;obtain⟨C,B,v⟩:=Fv h;obtain⟨D,r,q⟩:=Qax (by omega) l;have s: (200:Int).toNat=200:=rfl;rw[s]at r q;have g:KN k u:=⟨by omega,by omega,fun x d=>by rcases Zp.1 d with d | d;have:=QR d;omega;have:=QR d;omega⟩;have e:=AN u [] (by omega);obtain⟨z,f⟩:=Qdu k u g false false [];obtain⟨w,c⟩:=Qdv k u g false false [];have i:=fun o t=>DW g [] o t;generalize Qa (knT k u)=A at *;generalize knE k u=y at *;generalize Qa k=p at *;generalize Qa u=n at *;simp[f615C,j,b,a,e,f,c,i]
def F3 {k t} (h:KI (k ++ [t])) (B o b):call tb 112 [.sl o 4 (Qa (ME k t)),.sl b 4 (Qa (ME k t))] B=some (.bool true,B):=by
 unfold ME;by_cases c:Z5 k [t]=0;rw[Qg c];have a:=Od h c;exact KE a.uc a.uk a.asc (Qgi _ (My a.uk fun x d=>d)) B o b;rw[Qe c,WJ];exact Nn B o b
def Qmc {k t} (h:Lo k t=true):ME k t=[]:=by
 unfold ME;split;unfold IJ;refine Jw.2 fun x _=> ?_;unfold Lo at h;simp[Xs,h];rfl
def Ls (k t) (j:call tb 602 [] []=some (.bool true,[])) (s: (k.length+1)*56<=140737488355328):call tb 616 [.sl false 4 (Qa k),.agg (Qd t)] []=some (.bool true,[]):=by
 have a:=fun o=>LU (t:: k) o [];have q:Qa (t:: k)=Qd t:: Qa k:=by simp[Qa]
 rw[q]at a;have g:=QX k;have e: (1+k.length)*56<=140737488355328:=by omega
 rw[zcc 616 rfl rfl];cases m:few (t:: k) 64 140;rw[m]at a;generalize Qa k=n at *;simp[f616C,j,a,g,e,Qc];rw[m]at a;have h:=Qay m;have c:=I3 k t h false [];have b:=I0 k t h false [];obtain⟨u,d⟩:=Qdt k t h false [];obtain⟨w,f⟩:=Qdx k t h false [];have l:=fun o r=>F3 h [] o r;unfold dvA at c b;cases i: (decide (Z5 k [t]=0) && Lo k t);rw[i]at c b;generalize Qa (ME k t)=v at *;generalize Qa k=n at *;generalize Z5 k [t]=p at *;simp[f616C,j,a,g,e,Qc,c,b,d,f,l];rw[i]at c b;rw[(Qmc (by simp only[Qu]at i;exact i.2)),WJ]at d f l;generalize Qa k=n at *;generalize Z5 k [t]=p at *;simp[f616C,j,a,g,e,Qc,c,b,d,f,l]
def Qfh {k} (h:KI k) (B o b):call tb 112 [.sl o 4 (Qa (JX k)),.sl b 4 (Qa (JX k))] B=some (.bool true,B):=by
 unfold JX;by_cases c:Z5 k []=0;rw[Qg c];have a:=Od (k:=k) (m:=[]) (by rwa[Qy]) c;exact KE a.uc a.uk a.asc (Pb a.ps) B o b;rw[Qe c,WJ];exact Nn B o b
def H7: ∀i l,(∀x∈SL i l,x∈l)/\(SL i l).length<=l.length
 | 0,l=>⟨fun x a=>a,QY _⟩
 | i+1,l=>by
  simp only[SL];rcases a:l[i]? with _ | x;exact⟨fun x a=>a,QY _⟩;simp only;split;obtain⟨b,d⟩:=H7 i (l.eraseIdx i);exact⟨fun y c=>List.mem_of_mem_eraseIdx (b y c),WP d (List.length_eraseIdx_le l i)⟩;exact H7 i l
def Qf8 {k} (h:KI k) (B o a):call tb 112 [.sl o 4 (Qa (IE k)),.sl a 4 (Qa (IE k))] B=some (.bool true,B):=by
 unfold IE;by_cases c:Z5 k []=0;rw[Qg c];obtain⟨e,i⟩:=H7 k.length k;have g:=KF (l:=SL k.length k) (M:=1000000) fun x d=>by have:=h.ms x (e x d);omega
 have b:=h.len;have f: (SL k.length k).length*1000000<=1000*1000000:=YE _ (by omega);exact PR _ B o a (by unfold big;omega) (by omega);rw[Qe c,WJ];exact Nn B o a
def Iz (k l) (z:call tb 602 [] []=some (.bool true,[])):call tb 621 [.sl false 4 (Qa k),.sl false 4 (Qa l)] []=some (.bool true,[]):=by
 have c:=fun o=>LU k o [];have d:=fun o=>LU l o [];rw[zcc 621 rfl rfl];cases w:few k 64 140;rw[w]at c;generalize Qa k=E at *;generalize Qa l=G at *;simp[f621C,z,c];rw[w]at c;cases x:few l 64 140;rw[x]at d;generalize Qa k=E at *;generalize Qa l=G at *;simp[f621C,z,c,d];rw[x]at d;obtain⟨C,r,q⟩:=Fv w;obtain⟨B,p,s⟩:=Fv x;have h:KI k:=CG (by omega) (by omega) (by omega);have D:KI l:=CG (by omega) (by omega) (by omega);have e: ∀{a b:Qj},a.length<=64->Qw a<=5880->Qp a<=140->Qw b<=5880->Qp b<=140->∀t∈b,KI (a ++ [t]):=fun J I H K L t A=>by have V:=QR A;have S:=NM A;apply CG;simp;omega;rw[ZK];simp only[Qp];omega;rw[Y3];simp only[Qw];omega
 obtain⟨u,i⟩:=Qpb k (by rwa[Qy]) false [];obtain⟨U,n⟩:=Qpc k (by rwa[Qy]) false [];obtain⟨T,j⟩:=Qpd k h false [];obtain⟨P,m⟩:=Qpe k h false [];have g:=Qpg h D (e C r q p s) (e B p s r q) false false [];have f:=Qph h D (e C r q p s) (e B p s r q) false false [];unfold W6 at g f;have y:=fun o u=>Qfh h [] o u;have v:=fun o u=>Qf8 h [] o u;generalize Qa (JX k)=N at *;generalize Qa (IE k)=O at *;generalize (Dg k l).1=Q at *;generalize (Dg k l).2=R at *;generalize Z5 k []=M at *;generalize Qa k=E at *;generalize Qa l=G at *;simp[f621C,z,c,d,i,n,j,m,g,f,y,v]
def Qbz {T K} (h:KLe K (call T)) {n}: ∀{c g x},Z4 K n c g=some x->run T c g=some x:=by
 intro c;induction c with | bad=>intro g x f;simp[Z4]at f | skip=>intro g x f;rwa[QbE] | ret=>intro g x f;rwa[Qet] | exit v=>intro g x f;rwa[QbB] | reg d q=>intro g x f;rw[Qes];simp only[Z4]at f;rcases o:YO K q g with _ | s;rw[o]at f;cases f;rw[Rs h o];rwa[o]at f | seq a b k j=>intro g x f;rw[Qeu];simp only[Z4]at f;rcases i:Z4 K n a g with _ | p;rw[i]at f;cases f;obtain⟨e,s⟩:=p;rw[i]at f;rw[k i];cases e;exact j f;exact f;exact f | cond c a b k j=>intro g x f;rw[QbA];simp only[Z4]at f;split at f;rename_i l;rw[l];exact k f;rename_i l;rw[l];exact j f;cases f | block v c r=>intro g x f;rw[D8];simp only[Z4]at f;rcases i:Z4 K n c g with _ | p;rw[i]at f;cases f;rw[i]at f;rwa[r i] | loop c r=>intro g x f;simp only[Z4]at f;(have t: ∀(m:Nat) (g:St) (x:Ex×St),Ri (Z4 K n c) m g=some x->run T (.loop c) g=some x:=by intro m;induction m with | zero=>intro g x f;simp[Ri]at f | succ m u=>intro g x f;rw[QbD];simp only[Ri]at f;rcases i:Z4 K n c g with _ | p;rw[i]at f;cases f;obtain⟨e,s⟩:=p;rw[i]at f;rw[r i];cases e;exact u _ _ f;exact f;exact f);exact t n g x f
abbrev Z7:=Nat×List AV×List (List AV)×AV×List (List AV)
abbrev Zq:=List Z7
def FQ:Zq->Nat->QB->Qr->Option (AV×Qr)
 | [],_,_,_=>none
 | (g,ar,b,v,b2):: fs,f,args,bs=>if(g == f && Mw b bs && SG ar args)=true then some (v,b2)else FQ fs f args bs
def I6 (T:SC) (fs:Zq):Nat->Vi
 | 0,_,_,_=>none
 | n+1,f,args,bs=>match FQ fs f args bs with
  | some r=>some r
  | none=>match T f with
   | none=>none
   | some (.orc g)=>g args bs
   | some (.code fn)=>
    if args.length=fn.nparams then
     match Z4 (I6 T fs n) n fn.body {env:=Wr args,bs}with
     | some (.normal,σ)=>Wi fn bs σ
     | some (.ret,σ)=>Wi fn bs σ
     | _=>none
    else none
def NW (T:SC):Zq->Prop
 | []=>True
 | (g,ar,b,v,b2):: fs=>call T g ar b=some (v,b2)/\NW T fs
def QaV {T}: ∀{i},NW T i->∀{f a d r},FQ i f a d=some r->call T f a d=some r
 | [],_,_,_,_,_,h=>by simp[FQ]at h
 | (g,m,b,v,l):: i,k,f,a,d,r,h=>by
  simp only[FQ]at h;split at h;rename_i c;simp only[Qu,Tp]at c;obtain⟨⟨rfl,j⟩,e⟩:=c;have e:=Ts _ _ e;have j:=LX _ _ j;subst e;subst j;cases h;exact k.1;exact QaV k.2 h
def HK {T} {d} (j:NW T d): ∀n,KLe (I6 T d n) (call T)
 | 0,_,_,_,_,h=>by simp[I6]at h
 | n+1,f,e,l,r,h=>by
  simp only[I6]at h;split at h;rename_i m a;cases h;exact QaV j a;rw[EN];have i:=HK j n;split at h;cases h;rename_i g c;rwa[c];rename_i o c;rw[c];simp only;split at h;rename_i a;rw[Qg a];split at h;rename_i k b;rwa[Qbz i b];rename_i k b;rwa[Qbz i b];cases h;cases h
def Yc (T:SC) (L:Zq) (x:Z7):Option (AV×Qr):=I6 T L 400 x.1 x.2.1 x.2.2.1
def Ye {T:SC} {L:Zq} {x:Z7} (o:NW T L) (c:Yc T L x=some x.2.2.2):NW T (x:: L):=⟨HK o _ _ _ _ _ c,o⟩
def QeU:ZM:=[101,110,99]
def Vj:QB:=[.int .i64 2,.str [109],.int .i64 0,.sl false 4 []]
def Sn:QB:=[.int .i64 2,.str [107],.int .i64 3,.sl false 4 []]
def SX:QB:=[.int .i64 3,.str QeU,.int .i64 0,.sl false 4 [Vj,Sn]]
def L9:QB:=[.int .i64 2,.str [110],.int .i64 2,.sl false 4 []]
def Ka:QB:=[.int .i64 3,.str [112,97,105,114],.int .i64 0,.sl false 4 [L9,Sn]]
def Kb:Qr:=[SX,Ka]
def IR:Qr:=[Sn,Vj,L9,SX,Ka]
def Qnk:Qr:=[Sn,SX,Ka]
def QeV:Qr:=[[.str [101,110,99,40,109,58,97,110,121,44,32,107,58,107,101,121,41]],[.str [112,97,105,114,40,110,58,110,111,110,99,101,44,32,107,58,107,101,121,41]]]
def Gv:QB:=[.int .i64 3,.str [112,97,105,114],.int .i64 0,.sl false 4 [Vj,L9]]
def CO:QB:=[.int .i64 3,.str [104,97,115,104],.int .i64 0,.sl false 4 [Gv]]
def CP:Qr:=[Sn,Vj,L9,SX,Gv,Ka,CO]
def VY:QB:=[.int .i64 2,.str [108],.int .i64 3,.sl false 4 []]
def QhO:Qr:=[Sn,VY,Vj,L9,SX,Ka]
def Mb:QB:=[.int .i64 2,.str [103],.int .i64 4,.sl false 4 []]
def Rj:QB:=[.int .i64 2,.str [120],.int .i64 2,.sl false 4 []]
def Mc:QB:=[.int .i64 3,.str [101,120,112],.int .i64 0,.sl false 4 [Mb,Rj]]
def T0:QB:=[.int .i64 2,.str [121],.int .i64 2,.sl false 4 []]
def O0:QB:=[.int .i64 3,.str [109,117,108],.int .i64 0,.sl false 4 [Rj,T0]]
def Gw:QB:=[.int .i64 3,.str [101,120,112],.int .i64 0,.sl false 4 [Mb,O0]]
def QhP:Qr:=[Mb,Rj,T0,Mc,O0,Gw]
def CQ:Qr:=[T0,Mc]
def Gx:Qr:=[Mb,T0,Mc]
def CR:Qr:=[Mb,T0,Mc,Gw]
def QhQ:QB:=[.str [121,58,110,111,110,99,101]]
def QhR:Qr:=[[.str [101,120,112,40,103,58,100,97,116,97,44,32,120,58,110,111,110,99,101,41]],QhQ]
def QhS:Qr:=[Mb,Rj,T0,Mc]
def QhT:ZM:=[120,58,110,111,110,99,101]
def Jf:QB:=[.int .i64 3,.str QeU,.int .i64 0,.sl false 4 [SX,VY]]
def O1:Qr:=[Jf]
def Gy:Qr:=[Sn,VY,Vj,SX,Jf]
def Jg:Qr:=[Sn,Jf]
def Gz:Qr:=[VY,Jf]
def CS:Qr:=[VY,SX,Jf]
def GA:QB:=[.int .i64 3,.str QeU,.int .i64 0,.sl false 4 [Vj,VY]]
def LB:Qr:=[GA]
def GB:Qr:=[VY,Vj,GA]
def CT:Qr:=[Rj,T0,O0]
def GC:QB:=[.int .i64 2,.str [97],.int .i64 0,.sl false 4 []]
def Jh:QB:=[.int .i64 2,.str [98],.int .i64 0,.sl false 4 []]
def GD:QB:=[.int .i64 3,.str [120,111,114],.int .i64 0,.sl false 4 [GC,Jh]]
def CU:Qr:=[GC,Jh,GD]
def QeT:Zq:=[]
def QeW:Z7:=(518,[.sl false 4 Kb,.sl false 4 [Vj]],[],.tup [.sl false 4 IR,.int .i64 0],[])
def Qnb:Zq:=QeW:: QeT
def QeX:Z7:=(531,[.sl false 4 Kb,.agg Sn],[],.bool true,[])
def Qnc:Zq:=QeX:: Qnb
def QeY:Z7:=(531,[.sl false 4 Qnk,.agg Vj],[],.bool true,[])
def Qnd:Zq:=QeY:: Qnc
def QeZ:Z7:=(531,[.sl false 4 [Sn,Vj,SX,Ka],.agg L9],[],.bool true,[])
def Qne:Zq:=QeZ:: Qnd
def Qe0:Z7:=(529,[.sl false 4 Kb,.sl false 4 IR],[],.sl false 4 IR,[])
def Qnf:Zq:=Qe0:: Qne
def Qe1:Z7:=(603,[.str [109,58,97,110,121],.sl false 1 QeV],[],.bool true,[])
def Qng:Zq:=Qe1:: Qnf
def Qe2:Z7:=(518,[.sl false 4 Kb,.sl false 4 [CO]],[],.tup [.sl false 4 CP,.int .i64 0],[])
def Qnh:Zq:=Qe2:: Qng
def Qe3:Z7:=(531,[.sl false 4 IR,.agg Gv],[],.bool true,[])
def Qni:Zq:=Qe3:: Qnh
def Qe4:Z7:=(531,[.sl false 4 [Sn,Vj,L9,SX,Gv,Ka],.agg CO],[],.bool true,[])
def Qnj:Zq:=Qe4:: Qni
def Qe5:Z7:=(529,[.sl false 4 Kb,.sl false 4 CP],[],.sl false 4 CP,[])
def Qg0:Zq:=Qe5:: Qnj
def CV:Z7:=(603,[.str [104,97,115,104,40,112,97,105,114,40,109,58,97,110,121,44,32,110,58,110,111,110,99,101,41,41],.sl false 1 QeV],[],.bool true,[])
def Qg1:Zq:=CV:: Qg0
def CW:Z7:=(518,[.sl false 4 Kb,.sl false 4 [VY]],[],.tup [.sl false 4 QhO,.int .i64 0],[])
def Qg2:Zq:=CW:: Qg1
def CX:Z7:=(531,[.sl false 4 Qnk,.agg VY],[],.bool false,[])
def Qg3:Zq:=CX:: Qg2
def CY:Z7:=(531,[.sl false 4 IR,.agg VY],[],.bool false,[])
def Qg4:Zq:=CY:: Qg3
def CZ:Z7:=(529,[.sl false 4 Kb,.sl false 4 QhO],[],.sl false 4 IR,[])
def Qg5:Zq:=CZ:: Qg4
def C0:Z7:=(603,[.str [108,58,107,101,121],.sl false 1 QeV],[],.bool false,[])
def Qg6:Zq:=C0:: Qg5
def C1:Z7:=(518,[.sl false 4 [Mc,T0],.sl false 4 [Gw]],[],.tup [.sl false 4 QhP,.int .i64 0],[])
def Qg7:Zq:=C1:: Qg6
def C3:Z7:=(531,[.sl false 4 CQ,.agg Mb],[],.bool true,[])
def Qg8:Zq:=C3:: Qg7
def C4:Z7:=(531,[.sl false 4 Gx,.agg Rj],[],.bool false,[])
def Qg9:Zq:=C4:: Qg8
def C5:Z7:=(531,[.sl false 4 Gx,.agg O0],[],.bool false,[])
def Qha:Zq:=C5:: Qg9
def C6:Z7:=(531,[.sl false 4 Gx,.agg Gw],[],.bool true,[])
def Qhb:Zq:=C6:: Qha
def C7:Z7:=(531,[.sl false 4 CR,.agg Rj],[],.bool false,[])
def Qhc:Zq:=C7:: Qhb
def C8:Z7:=(531,[.sl false 4 CR,.agg O0],[],.bool false,[])
def Qhd:Zq:=C8:: Qhc
def C9:Z7:=(529,[.sl false 4 CQ,.sl false 4 QhP],[],.sl false 4 CR,[])
def Qhe:Zq:=C9:: Qhd
def Ba:Z7:=(603,[.str [101,120,112,40,103,58,100,97,116,97,44,32,109,117,108,40,120,58,110,111,110,99,101,44,32,121,58,110,111,110,99,101,41,41],.sl false 1 QhR],[],.bool true,[])
def Qhf:Zq:=Ba:: Qhe
def Bd:Z7:=(518,[.sl false 4 [Mc,T0],.sl false 4 [Rj]],[],.tup [.sl false 4 QhS,.int .i64 0],[])
def Qhg:Zq:=Bd:: Qhf
def Be:Z7:=(529,[.sl false 4 CQ,.sl false 4 QhS],[],.sl false 4 Gx,[])
def Qhh:Zq:=Be:: Qhg
def Bg:Z7:=(603,[.str QhT,.sl false 1 QhR],[],.bool false,[])
def Qhi:Zq:=Bg:: Qhh
def Bh:Z7:=(518,[.sl false 4 O1,.sl false 4 [Vj]],[],.tup [.sl false 4 Gy,.int .i64 0],[])
def Qhj:Zq:=Bh:: Qhi
def Bi:Z7:=(531,[.sl false 4 O1,.agg Sn],[],.bool false,[])
def Qhk:Zq:=Bi:: Qhj
def Bj:Z7:=(531,[.sl false 4 O1,.agg VY],[],.bool false,[])
def Qhl:Zq:=Bj:: Qhk
def Bk:Z7:=(531,[.sl false 4 O1,.agg Vj],[],.bool false,[])
def Qhm:Zq:=Bk:: Qhl
def Bl:Z7:=(531,[.sl false 4 O1,.agg SX],[],.bool false,[])
def Qhn:Zq:=Bl:: Qhm
def Bm:Z7:=(529,[.sl false 4 O1,.sl false 4 Gy],[],.sl false 4 O1,[])
def Qho:Zq:=Bm:: Qhn
def Bn:Z7:=(531,[.sl false 4 Jg,.agg VY],[],.bool false,[])
def Qhp:Zq:=Bn:: Qho
def Bo:Z7:=(531,[.sl false 4 Jg,.agg Vj],[],.bool false,[])
def Qhq:Zq:=Bo:: Qhp
def Bp:Z7:=(531,[.sl false 4 Jg,.agg SX],[],.bool false,[])
def Qhr:Zq:=Bp:: Qhq
def Bq:Z7:=(529,[.sl false 4 Jg,.sl false 4 Gy],[],.sl false 4 Jg,[])
def Qhs:Zq:=Bq:: Qhr
def Bt:Z7:=(531,[.sl false 4 Gz,.agg Sn],[],.bool false,[])
def Qht:Zq:=Bt:: Qhs
def Bu:Z7:=(531,[.sl false 4 Gz,.agg Vj],[],.bool false,[])
def Qhu:Zq:=Bu:: Qht
def Bv:Z7:=(531,[.sl false 4 Gz,.agg SX],[],.bool true,[])
def Qhv:Zq:=Bv:: Qhu
def Bx:Z7:=(531,[.sl false 4 CS,.agg Sn],[],.bool false,[])
def Qhw:Zq:=Bx:: Qhv
def Bz:Z7:=(531,[.sl false 4 CS,.agg Vj],[],.bool false,[])
def Qhx:Zq:=Bz:: Qhw
def BA:Z7:=(529,[.sl false 4 Gz,.sl false 4 Gy],[],.sl false 4 CS,[])
def Qhy:Zq:=BA:: Qhx
def BC:Z7:=(605,[.sl false 4 O1,.agg Vj],[],.tup [.sl false 4 [],.int .i64 0],[])
def Qhz:Zq:=BC:: Qhy
def BD:Z7:=(518,[.sl false 4 LB,.sl false 4 [Vj]],[],.tup [.sl false 4 GB,.int .i64 0],[])
def QhA:Zq:=BD:: Qhz
def BE:Z7:=(531,[.sl false 4 LB,.agg VY],[],.bool false,[])
def QhB:Zq:=BE:: QhA
def BF:Z7:=(531,[.sl false 4 LB,.agg Vj],[],.bool false,[])
def QhC:Zq:=BF:: QhB
def BG:Z7:=(529,[.sl false 4 LB,.sl false 4 GB],[],.sl false 4 LB,[])
def QhD:Zq:=BG:: QhC
def BH:Z7:=(531,[.sl false 4 [VY,GA],.agg Vj],[],.bool true,[])
def QhE:Zq:=BH:: QhD
def BI:Z7:=(529,[.sl false 4 [VY,GA],.sl false 4 GB],[],.sl false 4 GB,[])
def QhF:Zq:=BI:: QhE
def BJ:Z7:=(605,[.sl false 4 LB,.agg Vj],[],.tup [.sl false 4 [VY],.int .i64 0],[])
def QhG:Zq:=BJ:: QhF
def BK:Z7:=(518,[.sl false 4 [O0,T0],.sl false 4 [Rj]],[],.tup [.sl false 4 CT,.int .i64 0],[])
def QhH:Zq:=BK:: QhG
def BL:Z7:=(531,[.sl false 4 [T0,O0],.agg Rj],[],.bool true,[])
def QhI:Zq:=BL:: QhH
def BN:Z7:=(529,[.sl false 4 [T0,O0],.sl false 4 CT],[],.sl false 4 CT,[])
def QhJ:Zq:=BN:: QhI
def BO:Z7:=(603,[.str QhT,.sl false 1 [[.str [109,117,108,40,120,58,110,111,110,99,101,44,32,121,58,110,111,110,99,101,41]],QhQ]],[],.bool true,[])
def QhK:Zq:=BO:: QhJ
def BP:Z7:=(518,[.sl false 4 [GD,Jh],.sl false 4 [GC]],[],.tup [.sl false 4 CU,.int .i64 0],[])
def QhL:Zq:=BP:: QhK
def BQ:Z7:=(531,[.sl false 4 [Jh,GD],.agg GC],[],.bool true,[])
def QhM:Zq:=BQ:: QhL
def BR:Z7:=(529,[.sl false 4 [Jh,GD],.sl false 4 CU],[],.sl false 4 CU,[])
def QhN:Zq:=BR:: QhM
def BS:Z7:=(603,[.str [97,58,97,110,121],.sl false 1 [[.str [120,111,114,40,97,58,97,110,121,44,32,98,58,97,110,121,41]],[.str [98,58,97,110,121]]]],[],.bool true,[])
def Qsl:Zq:=BS:: QhN
end Go.Am
