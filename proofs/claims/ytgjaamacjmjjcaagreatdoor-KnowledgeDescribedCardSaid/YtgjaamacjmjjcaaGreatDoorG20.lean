/-
  Kn7, Kn9, Kn10, Kn11, Kn12, Kn13, Kn14, Kn15, Kn16, Kn17.
-/
import Derived.Test.YtgjaamacjmjjcaaGreatDoorG19
set_option linter.all false
open Go.Am.F
namespace Go.Am
set_option maxRecDepth 20000
def Qdp (a b o d c) (g:c[d]? =some (QS a)) (f:a.length=b.length) (i:a.length < 1000000):
  call tb 550 [.gs d 0 1 a.length,.sl o 1 (UA b)] c=some (.tup [],c.set d (QS (VN a b))):=by
 have h:=fun k=>Qna a b d c (QJ g) f i a.length 0 false k (by omega) (by omega);have e:c.set d (QS (Vb a b 0))=c:=by rw[QgS];obtain⟨l,j⟩:=XR.1 g;rw[<- j,List.set_getElem_self]
 rw[e]at h;rw[zcc 550 rfl rfl];simp[f550C];refine h _ ?_ ?_ ?_ ?_ <;> simp
def QwH (l:Sq) (n:Nat):Rv->Prop
 | none=>∀j,j < n->WT l j=false
 | some c=>c < n/\WT l c=true/\∀j,j < c->WT l j=false
def frV:Rv->AV
 | none=> .int .i64 (-1)
 | some c=> .int .i64 (c:Int)
def QcQ (l:Sq) (n:Nat) (B:Qr) (r:Option (AV×Qr)):Prop:=∃o,QwH l n o/\r=some (frV o,B)
def Qcn (l o n B) (u:B[o]? =some (QS l)) (x:n<=64*l.length) (v:n < 1000000):
  ∀d k b,n - k<=d->k<=n->(∀j,j < k->WT l j=false)->b 0= .gs o 0 1 l.length->b 6= .int .i64 n->b 7= .int .i64 k->
  QcQ l n B (R tb (.loop f551l0) b B (Qh 0 (Qs tb f551r0 (QA f551 B)))):=by
 intro d;induction d with | zero=>intro k b t q i f c e;(have:k=n:=by omega);subst this;refine⟨none,i,?_⟩;rw[Qb f551l0.eq_1];simp[c,e,f551r0,frV] | succ d s=>intro k b t q i f c e;by_cases p:k < n;(have r: (k:Int) < (n:Int):=by omega);(have g:IntKind.i64.wrap ((k:Int)+1)=((k+1:Nat):Int):=by rw[QC (by omega) (by omega)];omega);have m:=EN l k o B u (by omega) (by omega);cases a:WT l k;rw[a]at m;rw[Qb f551l0.eq_1];simp[f,c,e,r,m,g];refine(fun b=>s (k+1) b (by omega) (by omega) (fun j w=>by rcases ZI j k with h | h;exact i j h;(have:j=k:=by omega);rwa[this])) _ ?_ ?_ ?_ <;> simp[f,c];rw[a]at m;refine⟨some k,⟨p,a,i⟩,?_⟩;rw[Qb f551l0.eq_1];simp[f,c,e,r,m,g,f551r0,frV];exact s k b (by omega) q i f c e
def Qdq (l a n B) (d:B[a]? =some (QS l)) (e:n<=64*l.length) (b:n < 1000000):QcQ l n B (call tb 551 [.gs a 0 1 l.length,.int .i64 n] B):=by
 rw[zcc 551 rfl rfl];simp[f551C];refine(fun c=>Qcn l a n B d e b n 0 c (by omega) (by omega) (fun j f=>by omega)) _ ?_ ?_ ?_ <;> simp
def Zd {b:Type} {B} {i:Nat} {x} (h:B[i]? =some x) (M:List b): (B ++ M)[i]? =some x:=by
 rwa[Y8 (QJ h)]
def Uh {a:Type} (B x) (M:List a): (B ++ x:: M)[B.length]? =some x:=by simp
def KA {a:Type} (B x y) (M:List a): (B ++ x:: y:: M)[B.length+1]? =some y:=by
 rw[Yv (by omega)];simp
def N6 {a:Type} (B x y) (M:List a): (B ++ x:: M).set B.length y=B ++ y:: M:=by
 rw[Sr _ _ (QY _)];simp
def QbJ {a:Type} (B x y z) (M:List a): (B ++ x:: y:: M).set (B.length+1) z=B ++ x:: z:: M:=by
 rw[Sr _ _ (by omega)];simp
def TSg.app {B v l} (h:TSg B v l) (M):TSg (B ++ M) v l:=by
 obtain⟨f,d,e,c,b⟩:=h;exact⟨f,d,e,c,fun a=>⟨(b a).1,Zd (b a).2 M⟩⟩
def Kf (C:Qj) (w:Sq) (f:Tm->Bool):Prop:=w.length=C.length / 64+1/\∀(k:Nat) (y:Tm),C[k]? =some y->WT w k=f y
def Ho {C} (f:Asc C) {i j:Nat} {y} (g:C[i]? =some y) (k:C[j]? =some y):i=j:=by
 obtain⟨a,c⟩:=XR.1 g;obtain⟨b,d⟩:=XR.1 k;have e:=NF.1 f;rcases JG i j with h | h | h;have:=e i j a b h;rw[c,d,Xd]at this;omega;exact h;have:=e j i b a h;rw[c,d,Xd]at this;omega
def CD (C:Qj) (f:Tm->Bool) (B:Qr) (r:Option (AV×Qr)):Prop:=∃w,Kf C w f/\r=some (.gs B.length 0 1 w.length,B ++ [QS w])
def QiZ (l x y):Qx (l ++ [x]) y=(Qx l y || decide (Qo x y=0)):=by
 simp[Qx,As]
def Qmo {C B g H q} (O:B[g]? =some (H:: q)) (M:TSg B H C) (L:C.length < 1000000) (N: ∀x∈C,x.mass < big) (J:Asc C) (S) (K:Asc S) (A: ∀y∈S,y∈C) (T:S.length < 1000000):
  ∀b a o w c,S=a ++ b->Kf C w (Qx a)->c 0= .gp g 0->c 5= .gs B.length 0 1 w.length->c 17= .sl o 4 (Qa S)->c 18= .int .i64 S.length->c 19= .int .i64 a.length->
  CD C (Qx S) B (R tb (.loop f544l0) c (B ++ [QS w]) (Qh 0 (Qs tb f544r0 (QA f544 B)))):=by
 intro b;induction b with | nil=>intro a o w c f u E s i d l;simp only[Qy]at f;subst f;refine⟨w,u,?_⟩;rw[Qb f544l0.eq_1];simp[s,i,d,l,f544r0] | cons y b Q=>intro a o w c f u E s i d l;have V:=QD f;(have D:y∈S:=by rw[f];simp);obtain⟨k,n,m⟩:=QoU (Zd O [QS w]) (M.app [QS w]) L N J (A y D);have P:=QJ n;have U:=u.1;have r:=Qdn w k B.length (B ++ [QS w]) (Uh B (QS w) []) (by omega) (by omega);rw[N6]at r;(have G:y ∉ a:=by intro h;rw[f]at K;have:=(JC.1 K).2.2 y h y (by simp);rw[Xd]at this;omega);(have p:Kf C (XB w k) (Qx (a ++ [y])):=by refine⟨by rwa[Pc],fun j z t=> ?_⟩;rw[Qif (by omega),u.2 j z t,QiZ];by_cases v:j=k;subst v;rw[n]at t;(have:y=z:=by injection t);subst this;(have:Qx a y=false:=by cases h:Qx a y;rfl;exact absurd (Zz.1 h) G);simp[this,Xd];(have: ¬Qo y z=0:=by intro e;have e:=Wz.1 e;subst e;exact v (Ho J t n));simp[v,this]);have I:=fun o c=>Q (a ++ [y]) o (XB w k) c (by rw[f];simp) p;rw[Pc]at I;(have W:Qd y≠[]:=by intro h;have:=QE y;rw[h]at this;simp at this);rw[Qb f544l0.eq_1];simp[E,s,i,d,l,(Qv f),(QF f),(wr1 a.length (by omega)),Qc,m,r];refine I o _ ?_ ?_ ?_ ?_ ?_ <;> simp[E,s,i,d]
def Qen (n):QS (List.replicate n 0)=List.replicate n (.int .u64 0):=by
 simp[QS,Tr]
def DO (n) (x:AV): (List.replicate n [x]).flatten=List.replicate n x:=by
 induction n with | zero=>rfl | succ n a=>simp[Rx,a]
def Qk1 (n j):WT (List.replicate n 0) j=false:=by
 unfold WT;rw[ZT,Jv];split <;> simp
def Qdm {C B g m a} (i:B[g]? =some (m:: a)) (l:TSg B m C) (u:C.length < 1000000) (r: ∀x∈C,x.mass < big) (z:Asc C) {x} (J:x.mass < 1000000) (e: ∀y∈QI x,y∈C):
  CD C (Qx (QI x)) B (call tb 544 [.gp g 0,.agg (Qd x)] B):=by
 have t:Kf C (List.replicate (C.length / 64+1) 0) (Qx []):=⟨by simp,fun k y _=>by rw[Qk1];rfl⟩;have h:=fun o A=>Qmo i l u r z (QI x) (Vr x) e (by have E:=WH x;have H:=Yu x;omega) (QI x) [] o _ A rfl t;rw[Qen,PB]at h;obtain⟨D,G,rfl,c,I⟩:=l;obtain⟨n,v⟩:=Ry x (B ++ [List.replicate (C.length / 64+1) (.int .u64 0)]) (by omega);have q:=QJ i;have d:IntKind.i64.wrap ((C.length:Int) / 64)=(C.length:Int) / 64:=QC (by omega) (by omega);have f:IntKind.i64.wrap ((C.length:Int) / 64+1)=(C.length:Int) / 64+1:=QC (by omega) (by omega);have K: ((C.length:Int) / 64+1).toNat=C.length / 64+1:=by omega
 have w:Qn .quo (.int .i64 C.length) (.int .i64 64)=some (.int .i64 ((C.length:Int) / 64)):=by simp[Qn,toI,d]
 have p:Qn .add (.int .i64 ((C.length:Int) / 64)) (.int .i64 1)=some (.int .i64 ((C.length / 64+1:Nat):Int)):=by simp[Qn,f]
 have j: (C.length / 64+1)*8<=140737488355328:=by omega
 have b: ((C.length / 64+1:Nat):Int)<=4611686018427387904:=by omega
 have s:IntKind.u64.wrap 0=0:=rfl;rw[zcc 544 rfl rfl];generalize C.length / 64+1=W at *;simp[-getElem?_pos,Ql,-Qn,f544C,i,w,p,(by omega),j,b,(by omega),Qc,v];refine h n _ ?_ ?_ ?_ ?_ ?_ <;> simp
abbrev Ln:=Nat×List W64×List W64
def RN (x:Ln):AV:= .agg [.int .i64 (x.1:Int),.sl false 1 (UA x.2.1)]
def Rj (x:Ln):AV:= .agg [.int .i64 (x.1:Int),.sl false 1 (UA x.2.2)]
def fR (k:Nat) (RS:List Ln):Option Ln:=RS.find? fun x=>x.1 == k
def QfS (k:Nat): ∀a:List Ln,Wg false (a.map RN) (.int .i64 (k:Int))=some ((fR k a).map fun x=> .sl false 1 (UA x.2.1))
 | []=>by simp[Wg,P2,fR]
 | x:: a=>by
  simp only[ZO,RN,Wg,P3,QU];by_cases h:x.1=k;subst h;simp[fR];have b: ((k:Int) == (x.1:Int))=false:=by simp only[O8,ne_eq];omega
  have c: (x.1 == k)=false:=by simp only[O8,ne_eq];exact h
  rw[b];simp only[fR,List.find?_cons,c];exact(QfS k a)
def QfR (k:Nat): ∀a:List Ln,Wg false (a.map Rj) (.int .i64 (k:Int))=some ((fR k a).map fun x=> .sl false 1 (UA x.2.2))
 | []=>by simp[Wg,P2,fR]
 | x:: a=>by
  simp only[ZO,Rj,Wg,P3,QU];by_cases h:x.1=k;subst h;simp[fR];have b: ((k:Int) == (x.1:Int))=false:=by simp only[O8,ne_eq];omega
  have c: (x.1 == k)=false:=by simp only[O8,ne_eq];exact h
  rw[b];simp only[fR,List.find?_cons,c];exact(QfR k a)
def QdW {k a x} (h:fR k a=some x):x∈a/\x.1=k:=⟨List.mem_of_find?_eq_some h,by have:=List.find?_some h;simpa using this⟩
def QpY {k a} (h:fR k a=none): ∀x∈a,x.1≠k:=fun x b=>by have:=List.find?_eq_none.1 h x b;simpa using this
def SY (B:Qr) (b0:Nat) (C:Qj) (n:Nat) (RS:List Ln):Prop:=∃(idC szC:Nat) (c:QB) (vb:AV),
 B[b0+2]? =some [.gs idC 0 szC C.length,.int .i64 (n:Int),.mp b0,.mp (b0+1),vb]/\B[b0]? =some (.undef:: RS.map RN)/\B[b0+1]? =some (.undef:: RS.map Rj)/\
 (C≠[]->szC=4/\b0+2 < idC/\B[idC]? =some (Qk C ++ c))/\
 (vb= .gs 0 0 0 0\/∃(idb:Nat) (ks:QB),vb= .gs idb 0 1 ks.length/\ks≠[]/\b0+2 < idb/\(C≠[]->idC < idb)/\B[idb]? =some ks/\ks.length<=RS.length)
def SY.app {B j C n i} (h:SY B j C n i) (M):SY (B ++ M) j C n i:=by
 obtain⟨f,d,c,k,w,r,o,a,g⟩:=h;refine⟨f,d,c,k,Zd w M,Zd r M,Zd o M,fun e=>⟨(a e).1,(a e).2.1,Zd (a e).2.2 M⟩,?_⟩;rcases g with g | ⟨b,v,p,s,q,l,u,t⟩;exact .inl g;exact .inr ⟨b,v,p,s,q,l,Zd u M,t⟩
def vN (N:Nat) (w:Sq):Nat->Bool:=fun j=>decide (j < N) && WT w j
def Qu4 (N) {a b} (h:a.length=b.length):vN N (VN a b)=xv (vN N a) (vN N b):=by
 funext j;simp only[vN,xv,AG h];cases decide (j < N) <;> simp
def QkK (N n:Nat) (RS:List Ln):Prop:=∀x∈RS,x.1 < N/\x.2.1.length=N / 64+1/\x.2.2.length=n / 64+1/\WT x.2.1 x.1=true/\∀j,j < x.1->WT x.2.1 j=false
def Qnm (N n:Nat) (RS:List Ln) (B:Qr) (b0:Sq) (r:Option (AV×Qr)):Prop:=∃b q,b.length=N / 64+1/\q.length=n / 64+1/\
 Sp (RS.map fun x=>vN N x.2.1) (xv (vN N b0) (vN N b))/\(∀x∈RS,WT b x.1=false)/\r=some (.tup [.gs B.length 0 1 b.length,.gs (B.length+1) 0 1 q.length],B ++ [QS b,QS q])
def Qmk {B b0 C n f} (hS:SY B b0 C n f) (hR:QkK C.length n f) (hC:C.length < 100000) (hn:n < 100000) (w):
  ∀d k b q e,C.length - k<=d->k<=C.length->b.length=C.length / 64+1->q.length=n / 64+1->Sp (f.map fun x=>vN C.length x.2.1) (xv (vN C.length w) (vN C.length b))->(∀x∈f,x.1 < k->WT b x.1=false)->
  e 0= .gp (b0+2) 0->e 1= .gs B.length 0 1 b.length->e 6= .gs (B.length+1) 0 1 q.length->e 21= .int .i64 C.length->e 22= .int .i64 k->
  Qnm C.length n f B w (R tb (.loop f548l0) e (B ++ [QS b,QS q]) (Qh 0 (Qs tb f548r0 (QA f548 (B ++ [QS w]))))):=by
 intro d;induction d with | zero=>intro k b q e hd hk J A i z m o p a g;(have:k=C.length:=by omega);subst this;refine⟨b,q,J,A,i,fun x D=>z x D (hR x D).1,?_⟩;rw[Qb f548l0.eq_1];simp[m,o,p,a,g,f548r0] | succ d K=>intro k b q e hd hk J A i z m o p a g;by_cases hlt:k < C.length;(have U: (k:Int) < (C.length:Int):=by omega);(have t:IntKind.i64.wrap ((k:Int)+1)=((k+1:Nat):Int):=by rw[QC (by omega) (by omega)];omega);(have W:k / 64 < b.length:=by omega);have L:=EN b k B.length (B ++ [QS b,QS q]) (Uh B _ _) W (by omega);obtain⟨idC,szC,c,vb,S,T,s3,s4,s5⟩:=hS.app [QS b,QS q];have s:=QfS k f;have I:=QfR k f;have hw0:IntKind.i64.wrap 0=0:=rfl;rw[Qb f548l0.eq_1];rcases M:fR k f with _ | x;rw[M]at s I;have v:=fun e=>K (k+1) b q e (by omega) (by omega) J A i (fun x D r=>by have:=QpY M x D;exact z x D (by omega));simp only[Nh]at s I;generalize f.map RN=eR at *;generalize f.map Rj=X at *;generalize H:B ++ [QS b,QS q]=Y at *;simp[-getElem?_pos,Ql,Q0,m,o,a,g,U,S,T,s,t];refine v _ ?_ ?_ ?_ ?_ ?_ <;> simp[m,o,p,a];rw[M]at s I;simp only[Zn]at s I;obtain⟨E,P⟩:=QdW M;obtain⟨r1,r2,r3,r4,r5⟩:=hR x E;cases l:WT b k;rw[l]at L;have v:=fun e=>K (k+1) b q e (by omega) (by omega) J A i (fun y Q N=>by rcases ZI y.1 k with h | h;exact z y Q h;(have:y.1=k:=by omega);rwa[this]);generalize f.map RN=eR at *;generalize f.map Rj=X at *;generalize H:B ++ [QS b,QS q]=Y at *;simp[-getElem?_pos,Ql,Q0,m,o,a,g,U,S,T,s,t,L];refine v _ ?_ ?_ ?_ ?_ ?_ <;> simp[m,o,p,a];rw[l]at L;(have j:b.length=x.2.1.length:=by omega);(have u:q.length=x.2.2.length:=by omega);have G:=Qdp b x.2.1 false B.length (B ++ [QS b,QS q]) (Uh B _ _) j (by omega);rw[N6]at G;have r:=Qdp q x.2.2 false (B.length+1) (B ++ [QS (VN b x.2.1),QS q]) (KA B _ _ _) u (by omega);rw[QbJ]at r;obtain⟨idC',Z,c',vb',V,s2',O,s4',s5'⟩:=hS.app [QS (VN b x.2.1),QS q];have v:=fun e=>K (k+1) (VN b x.2.1) (VN q x.2.2) e (by omega) (by omega) (by rwa[K3 j]) (by rwa[K3 u]) (by rw[Qu4 _ j,<- SX];exact i.sum (Sp.mem (YL.2 ⟨x,E,rfl⟩))) (fun y Q N=>by rw[AG j];rcases ZI y.1 k with h | h;rw[z y Q h,r5 y.1 (by omega)];rfl;(have:y.1=k:=by omega);rw[this,l,<- P,r4];rfl);rw[K3 j,K3 u]at v;generalize f.map RN=eR at *;generalize f.map Rj=X at *;generalize H:B ++ [QS b,QS q]=Y at *;generalize hBB2:B ++ [QS (VN b x.2.1),QS q]=BB2 at *;simp[-getElem?_pos,Ql,Q0,m,o,p,a,g,U,S,T,V,O,s,I,t,L,G,r];refine v _ ?_ ?_ ?_ ?_ ?_ <;> simp[m,o,p,a];exact K k b q e (by omega) hk J A i z m o p a g
def Qdo {B l C n j} (e:SY B l C n j) (r:QkK C.length n j) (J:C.length < 100000) (p:n < 100000) (w) (v:w.length=C.length / 64+1):
  Qnm C.length n j B w (call tb 548 [.gp (l+2) 0,.gs B.length 0 1 w.length] (B ++ [QS w])):=by
 have h:=fun o=>Qmk e r J p w C.length 0 w (List.replicate (n / 64+1) 0) o (by omega) (by omega) v (by simp) (by rw[L8];exact .zero) (fun x _ Q=>by omega);rw[Qen,PB]at h;obtain⟨u,D,c,T,A,R,P,M,O⟩:=e.app [QS w];obtain⟨m,k,N,y,d,H,K,G,t⟩:=e.app [QS w,List.replicate (n / 64+1) (.int .u64 0)];have i:IntKind.i64.wrap ((n:Int) / 64)=(n:Int) / 64:=QC (by omega) (by omega);have g:IntKind.i64.wrap ((n:Int) / 64+1)=(n:Int) / 64+1:=QC (by omega) (by omega);have I:Qn .quo (.int .i64 n) (.int .i64 64)=some (.int .i64 ((n:Int) / 64)):=by simp[Qn,toI,i]
 have L:Qn .add (.int .i64 ((n:Int) / 64)) (.int .i64 1)=some (.int .i64 ((n / 64+1:Nat):Int)):=by simp[Qn,g]
 have f: (n / 64+1)*8<=140737488355328:=by omega
 have b: ((n / 64+1:Nat):Int)<=4611686018427387904:=by omega
 have E:IntKind.u64.wrap 0=0:=rfl;rw[zcc 548 rfl rfl];generalize n / 64+1=W at *;have q:B ++ [QS w]++ [List.replicate W (AV.int .u64 0)]=B ++ [QS w,List.replicate W (AV.int .u64 0)]:=by simp
 have a: (B ++ [QS w]).length=B.length+1:=by simp
 generalize z:B ++ [QS w]=U at *;generalize s:B ++ [QS w,List.replicate W (AV.int .u64 0)]=S at *;simp[-getElem?_pos,Ql,Q0,-Qn,f548C,A,d,I,L,(by omega),f,b,(by omega),q,a];refine h _ ?_ ?_ ?_ ?_ ?_ <;> simp
def Qrj {a B v l} (S o) (h:TS a B v l) (x:l.length+S.length < 1000000): ∃s r,appM 56 4 v (.sl o 4 (Qa S)) B=some (s,r)/\TS a r s (l ++ S):=by
 obtain⟨M,f,w,rfl,rfl,u⟩:=h;have i: (l.length+S.length)*56<=140737488355328:=X7 (by omega);have p: (Qa S).flatten=Qk S:=by rw[Zr];rfl
 have m: (Qa S).length=S.length:=by simp[Zr]
 have q:Xt 4 (.sl o 4 (Qa S)) (a ++ M)=some (S.length,Qk S):=by simp[Xt,p,m,(Z5 Zc S)]
 by_cases j:S=[];subst j;refine⟨_,a ++ M,?_,M,f,w,rfl,rfl,by simpa using u⟩;simp only[appM,q,QN];rw[Qg ⟨by omega,i⟩,Qg Xc];simp;have d: ¬S.length=0:=fun e=>j (Yf e);rcases u with⟨rfl,rfl,rfl⟩ | ⟨rfl,k,b,n⟩;refine⟨.gs (a ++ M).length 0 4 S.length,a ++ (M ++ [Qk S]),?_,M ++ [Qk S],(a ++ M).length,4,rfl,rfl,.inr ⟨rfl,by simp,by simpa using j,?_⟩⟩;simp only[appM,q,QN];rw[Qg ⟨by omega,i⟩,Qe d,Qg (by simp)];simp;rw[<- ZU,Yc];simp;have t: (Qk l).length=l.length*4:=ZZ QE l;have c:Qk (l ++ S)=Qk l ++ Qk S:=by simp[Qk,Ve]
 refine⟨.gs (a ++ M).length 0 4 (l.length+S.length),(a ++ M).set f []++ [Qk l ++ Qk S],?_,M.set (f - a.length) []++ [Qk l ++ Qk S],(a ++ M).length,4,?_,by simp,.inr ⟨rfl,by simp,by simp[b],?_⟩⟩;simp only[appM,q,QN];rw[Qg ⟨by omega,i⟩,Qe d,Qe (by omega),Qg ⟨trivial,trivial⟩,n];simp only[QN];rw[Qg ⟨(by intro e;rw[e]at t;simp at t;exact b (Yf (by omega))),by omega⟩,Qe (by omega),Z2 (by omega),(Z5 Zc l)];rw[WG k,ZU];have e: (a ++ M).length=((a ++ M).set f []).length:=by simp
 rw[c,e,Yc]
def Qu2 {b B v l} (h:TS b B v l) {g} (f:g < b.length) (x):TS (b.set g x) (B.set g x) v l:=by
 obtain⟨M,i,c,rfl,rfl,a⟩:=h;refine⟨M,i,c,List.set_append_left _ _ f,rfl,?_⟩;rcases a with a | ⟨e,j,d,k⟩;exact .inl a;refine .inr ⟨e,by simpa using j,d,?_⟩;rwa[QG,Qe (by omega)]
def MR {a B v l} (h:TS a B v l) {i:Nat} {x} (b:a[i]? =some x):B[i]? =some x:=by
 obtain⟨M,d,c,rfl,rfl,e⟩:=h;exact Zd b M
def Qu1 {a B v l} (h:TS a B v l): ∃M,B=a ++ M:=by
 obtain⟨M,b,c,e,_,_⟩:=h;exact⟨M,e⟩
def Oc {a:Type} {B:List a} {i x} (h:B[i]? =some x):B.set i x=B:=by
 obtain⟨c,b⟩:=XR.1 h;rw[<- b,List.set_getElem_self]
def gC (b0 n:Nat) (v:AV):QB:=[v,.int .i64 (n:Int),.mp b0,.mp (b0+1),.gs 0 0 0 0]
def YJ:Qj->Qj
 | []=>[]
 | x:: r=>QI x ++ YJ r
def Tf {y}: ∀{l},y∈YJ l↔∃x∈l,y∈QI x
 | []=>by simp[YJ]
 | x:: r=>by simp[YJ,Tf (l:=r)]
def RM: ∀l:Qj,(YJ l).length<=Qp l
 | []=>by simp[YJ]
 | x:: r=>by
  have a:=WH x;have b:=RM r;simp only[YJ,Q6,Qp];omega
def SU {x y} (h:y∈QI x):y.mass<=x.mass:=VD x y (RV x y h)
def Qpt (d n m) (E:Qr) (L) (J:d+2 < E.length) (hgi:m≠d+2) (hL:E[m]? =some (Qk L)) (hLl:L.length < 1000000) (P: ∀x∈L,x.mass < 1000000) (c K) (Q:Out->Prop) (X):
  ∀a b C B v l,L=b ++ a->TS (E.set (d+2) (gC d n v)) B v C->C.length+Qp a < 1000000->(∀x∈C,x.mass < 1000000)->
   l 0=X->l 5= .gp (d+2) 0->l 23= .gs m 0 4 L.length->l 24= .int .i64 L.length->l 25= .int .i64 b.length->
   (∀i D H,TS (E.set (d+2) (gC d n H)) D H (C ++ YJ a)->i 0=X->i 5= .gp (d+2) 0->Q (R tb c i D K))->
  Q (R tb (.loop f542l0) l B (Qh 0 (Qs tb c K))):=by
 intro a;induction a with | nil=>intro b C B v l t e z A T G p o q h;simp only[Qy]at t;rw[<- t]at q;rw[Qb f542l0.eq_1];simp[p,o,q];refine h _ B v (by simpa[YJ]using e) ?_ ?_ <;> simp[T,G] | cons x a Z=>intro b C B v l t e z A T G p o q h;have hll:=QD t;(have W:b.length < L.length:=by omega);have hxm:=P x (by rw[t];simp);simp only[Qp]at z;have hsl:=WH x;(have U:B[m]? =some (Qk L):=by refine MR e ?_;rwa[QG,Qe (by omega)]);(have N:B[d+2]? =some (gC d n v):=by refine MR e ?_;rw[QG,Qg rfl,Qg J]);have M:=Vo (f:=Qd) (k:=4) QE t [];have I: (Qk L).map AV.strip=Qk L:=Z5 Zc L;rw[Qy]at M;have Y: (Qk L).length=L.length*4:=ZZ QE L;(have O:b.length*4+4<=(Qk L).length:=by omega);obtain⟨o1,hs⟩:=Ry x B (by omega);obtain⟨S,V,ha,j⟩:=Qrj (QI x) false e (by omega);(have s:V[d+2]? =some (gC d n v):=by refine MR j ?_;rw[QG,Qg rfl,Qg J]);have r:=Qu2 j (g:=d+2) (by simpa using J) (gC d n S);rw[T6]at r;have ih:=fun l=>Z (b ++ [x]) (C ++ QI x) (V.set (d+2) (gC d n S)) S l (by rw[t];simp) r (by simp;omega) (fun y hy=>by rcases Zp.1 hy with h | h;exact A y h;have:=SU h;omega);obtain⟨id,sz,hv⟩:=Li e;obtain⟨id2,sz2,w⟩:=Li j;rw[Q6]at w;have hr: (YZ Qd L)=Qk L:=rfl;rw[hr]at M;have hl2:=QJ s;rw[Qb f542l0.eq_1];generalize Qk L=rL at *;simp only[gC]at *;subst hv;subst w;simp[-getElem?_pos,Ql,G,p,o,q,(QF t),(wr1 b.length (by omega)),U,N,s,M,I,O,Qc,hs,ha];refine ih _ ?_ ?_ ?_ ?_ ?_ ?_;simp[T];simp[G];simp[p];simp[o];simp;intro i D H u;refine h i D H ?_;simpa[YJ,ZU]using u
def fC (C:Qj) (f:Tm->Bool):Nat->Bool:=fun j=>match C[j]? with
 | some y=>f y
 | none=>false
def Gj {C w f} (h:Kf C w f):vN C.length w=fC C f:=by
 funext j;simp only[vN,fC];rcases ZI j C.length with a | a;rw[Za a,h.2 j _ (Za a)];simp[a];rw[ZP a];have: ¬j < C.length:=by omega
 simp[this]
def Dk {c p v} (d:v p=true): ∀{b:List (c×(c->Bool))},Tri b->(∀x∈b,v x.1=false)->Tri (b ++ [(p,v)])
 | [],_,_=>⟨d,by simp,trivial⟩
 | (q,r):: b,⟨f,e,g⟩,h=>⟨f,fun x a=>by
   rcases Zp.1 a with a | a;exact e x a;simp at a;subst a;exact h (q,r) (by simp),Dk d g fun x a=>h x (by simp[a])⟩
def Qtr (f) (a:f.map AV.strip=f):ZR f 0 1 f.length=f.map fun x=>[x]:=by
 unfold ZR;apply Ss;intro i;rcases ZI i f.length with h | h;have c:f[i].strip=f[i]:=by have:=UV (fun l=>l[i]?) a;simp only[Nc,Za h,Zn]at this;injection this
 have b: (f.drop i).take 1=[f[i]]:=by rw[LG h];rfl
 simp[h,a,b];simp[h]
def Qgr (l): (QS l).map AV.strip=QS l:=by simp[QS,Tr,AV.strip]
def Hz (l):ZR (QS l) 0 1 l.length=UA l:=by
 have:=Qtr (QS l) (Qgr l);rw[OG]at this;rw[this];simp[QS,UA]
structure ElI (C l:List Tm) (n:Nat) (RS:List Ln):Prop where
 fit:QkK C.length n RS
 tri:Tri (RS.map fun x=>(x.1,vN C.length x.2.1))
 sp: ∀v,Sp (RS.map fun x=>vN C.length x.2.1) v↔Sp (l.map fun x=>fC C (Qx (QI x))) v
def QeR (C l:Qj) (n:Nat) (B0:Qr) (r:Option (AV×Qr)):Prop:=∃RS M,SY (B0 ++ M) B0.length C n RS/\ElI C l n RS/\r=some (.gp (B0.length+2) 0,B0 ++ M)
def Qlz {C l n e x w b} (h:ElI C l n e) (g:Kf C w (Qx (QI x))) (c:Sp (e.map fun x=>vN C.length x.2.1) (xv (vN C.length w) (vN C.length b))) (i: ∀j,j < C.length->WT b j=false):ElI C (l ++ [x]) n e:=by
 have k:vN C.length b=zv0:=by funext j;simp only[vN,zv0];by_cases f:j < C.length;rw[i j f];simp;simp[f]
 rw[k,Mb,Gj g]at c;refine⟨h.fit,h.tri,fun v=>⟨fun d=> ?_,fun d=> ?_⟩⟩;exact((h.sp v).1 d).mono fun y a=>by simp only[Xp];exact TE _ a
 refine d.sub fun y a=> ?_;rw[Xp]at a;rcases Zp.1 a with a | a;exact(h.sp y).2 (.mem a);simp at a;subst a;exact c
def Qps {C l n e x w b q c} (h:ElI C l n e) (u:Kf C w (Qx (QI x))) (i:Sp (e.map fun x=>vN C.length x.2.1) (xv (vN C.length w) (vN C.length b)))
  (d: ∀x∈e,WT b x.1=false) (r:b.length=C.length / 64+1) (p:q.length=n / 64+1) (t:c < C.length) (f:WT b c=true) (o: ∀j,j < c->WT b j=false):ElI C (l ++ [x]) n (e ++ [(c,b,q)]):=by
 have g:=Gj u;refine⟨?_,?_,?_⟩;intro y a;rcases Zp.1 a with a | a;exact h.fit y a;simp at a;subst a;exact⟨t,r,p,f,o⟩;rw[Xp];refine Dk (by simp[vN,t,f]) h.tri fun y a=> ?_;obtain⟨z,m,rfl⟩:=YL.1 a;simp[vN,d z m];intro v;rw[Xp,Xp];constructor;refine Sp.sub fun y a=> ?_;rcases Zp.1 a with a | a;exact((h.sp y).1 (.mem a)).mono fun z d=>TE _ d;simp at a;subst a;have s:=((h.sp _).1 i).mono (M:=(l.map fun x=>fC C (Qx (QI x)))++ [x].map fun x=>fC C (Qx (QI x))) fun z d=>TE _ d;have k:Sp ((l.map fun x=>fC C (Qx (QI x)))++ [x].map fun x=>fC C (Qx (QI x))) (vN C.length w):=by rw[g];exact .mem (by simp)
 have:=k.sum s;rwa[Lj]at this;refine Sp.sub fun y a=> ?_;rcases Zp.1 a with a | a;exact((h.sp y).2 (.mem a)).mono fun z d=>TE _ d;simp at a;subst a;rw[<- g];have s:=i.mono (M:=(e.map fun x=>vN C.length x.2.1)++ [(c,b,q)].map fun x=>vN C.length x.2.1) fun z d=>TE _ d;have k:Sp ((e.map fun x=>vN C.length x.2.1)++ [(c,b,q)].map fun x=>vN C.length x.2.1) (vN C.length b):= .mem (by simp);have:=s.sum k;rwa[SX,L8,Mb]at this
def ZF (B0 B:Qr):Prop:=∃M,B=B0 ++ M
def ZF.app {a B} (h:ZF a B) (M):ZF a (B ++ M):=by
 obtain⟨b,rfl⟩:=h;exact⟨b ++ M,by simp⟩
def ZF.set {d B} (h:ZF d B) {i} (e:d.length<=i) (x):ZF d (B.set i x):=by
 obtain⟨g,rfl⟩:=h;exact⟨_,WG e x⟩
def Qub {k a b} (c: ∀x∈a,WT b x.1=false) (f:WT b k=true):fR k a=none:=by
 rcases h:fR k a with _ | x;rfl;obtain⟨e,d⟩:=QdW h;have:=c x e;rw[d,f]at this;cases this
def QbK {a:Type} (l) (x y:a): (l ++ [x]).set l.length y=l ++ [y]:=by
 rw[Sr _ _ (QY _)];simp
def QuY {B8:Qr} {f C} {n:Nat} {h x e szC k j}
  (m:f+2 < B8.length) (t:B8[f]? =some (.undef:: (h.map RN ++ [RN x]))) (q:B8[f+1]? =some (.undef:: (h.map Rj ++ [Rj x])))
  (w:C≠[]->szC=4/\f+2 < e/\B8[e]? =some (Qk C ++ k))
  (p: ∃(d:Nat) (g:QB),j= .gs d 0 1 g.length/\g≠[]/\f+2 < d/\(C≠[]->e < d)/\B8[d]? =some g/\g.length<=h.length+1):
  SY (B8.set (f+2) [.gs e 0 szC C.length,.int .i64 (n:Int),.mp f,.mp (f+1),j]) f C n (h ++ [x]):=by
 refine⟨e,szC,k,j,?_,?_,?_,?_,?_⟩;rw[QG,Qg rfl,Qg m];rw[QG,Qe (by omega),t];simp;rw[QG,Qe (by omega),q];simp;intro v;obtain⟨a,b,c⟩:=w v;refine⟨a,b,?_⟩;rwa[QG,Qe (by omega)];obtain⟨d,g,r,u,l,o,y,s⟩:=p;refine .inr ⟨d,g,r,u,l,o,?_,by simpa using s⟩;rwa[QG,Qe (by omega)]
def Qie {B c C idC l cc w q m} (i r:Nat) (o) (I:r < 1000000) (z:B[c]? =some w) (A:B[c+1]? =some q) (v:B[c+2]? =some m) (k:C≠[]->c+2 < idC/\B[idC]? =some (Qk C ++ cc))
  (D:l= .gs 0 0 0 0\/∃(a:Nat) (b:QB),l= .gs a 0 1 b.length/\b≠[]/\c+2 < a/\(C≠[]->idC < a)/\B[a]? =some b/\b.length<=r):
  ∃p f,appM 8 1 l (.sl o 1 [[.int .i64 (i:Int)]]) B=some (p,f)/\(∀g:Qr,g.length=c->ZF g B->ZF g f)/\f[c]? =some w/\f[c+1]? =some q/\f[c+2]? =some m/\(C≠[]->f[idC]? =some (Qk C ++ cc))/\
   (∃(a:Nat) (b:QB),p= .gs a 0 1 b.length/\b≠[]/\c+2 < a/\(C≠[]->idC < a)/\f[a]? =some b/\b.length<=r+1):=by
 have s:Xt 1 (.sl o 1 [[AV.int .i64 (i:Int)]]) B=some (1,[.int .i64 (i:Int)]):=by simp[Xt,AV.strip]
 have j:=QJ v;rcases D with rfl | ⟨a,b,rfl,t,H,y,u,x⟩;refine⟨.gs B.length 0 1 1,B ++ [[.int .i64 (i:Int)]],?_,fun g _ h=>h.app _,Zd z _,Zd A _,Zd v _,fun d=>Zd (k d).2 _,⟨B.length,[.int .i64 (i:Int)],rfl,by simp,j,fun d=>QJ (k d).2,by simp,by simp⟩⟩;simp[appM,s];have G: ¬b.length=0:=fun e=>t (Yf e);have E:=QJ u;refine⟨.gs B.length 0 1 (b.length+1),B.set a []++ [b.map AV.strip ++ [.int .i64 (i:Int)]],?_,fun g e h=>(h.set (by omega) _).app _,?_,?_,?_,?_,⟨B.length,b.map AV.strip ++ [.int .i64 (i:Int)],by simp,by simp,j,fun d=>QJ (k d).2,?_,by simpa using x⟩⟩;simp only[appM,s,QN];rw[Qg ⟨by omega,by omega⟩,Qe (by omega),Qe (by omega),Qg ⟨trivial,trivial⟩,u];simp only[QN];rw[Qg ⟨t,by omega⟩,Qe (by omega)];simp;refine Zd ?_ _;rwa[QG,Qe (by omega)];refine Zd ?_ _;rwa[QG,Qe (by omega)];refine Zd ?_ _;rwa[QG,Qe (by omega)];intro d;have:=y d;refine Zd ?_ _;rw[QG,Qe (by omega)];exact(k d).2;have e:B.length=(B.set a []).length:=by simp
 rw[e,Yc]
def Qpu (C) (hC:C.length < 100000) (hCm: ∀x∈C,x.mass < big) (hCa:Asc C) (g l) (hl:l.length < 100000) (hlm: ∀x∈l,x.mass < 1000000) (hlC: ∀x∈l,∀y∈QI x,y∈C):
  ∀v d o h B G,l=d ++ v->SY B g.length C l.length h->ZF g B->ElI C d l.length h->h.length<=d.length->
   G 5= .gp (g.length+2) 0->G 53= .sl o 4 (Qa l)->G 54= .int .i64 l.length->G 55= .int .i64 d.length->
  QeR C l l.length g (R tb (.loop f542l1) G B (Qh 2 (Qs tb f542r0 (QA f542 g)))):=by
 intro v;induction v with | nil=>intro d o h B G Q J hP hE hRl h5 H I O;simp only[Qy]at Q;subst Q;obtain⟨M,rfl⟩:=hP;refine⟨h,M,J,hE,?_⟩;rw[Qb f542l1.eq_1];simp[h5,H,I,O,f542r0] | cons x v IH=>intro d o h B G Q J hP hE hRl h5 H I O;have hgp:=Qv Q;have hll:=QD Q;have hw1:=wr1 d.length (by omega);have hlt:=QF Q;(have hxl:x∈l:=by rw[Q];simp);(obtain⟨w,hw,T⟩:CD C (Qx (QI x)) B (call tb 544 [.gp (g.length+2) 0,.agg (Qd x)] B):=by obtain⟨idC,szC,c,vb,s1,s2,s3,s4,s5⟩:=J;exact Qdm s1 ⟨idC,szC,rfl,c,fun L=>⟨(s4 L).1,(s4 L).2.2⟩⟩ (by omega) hCm hCa (hlm x hxl) (hlC x hxl));obtain⟨b,q,hb,hq,hsp,hz,W⟩:=Qdo J hE.fit hC hl w hw.1;obtain⟨f,hf,z⟩:=Qdq b B.length C.length (B ++ [QS b,QS q]) (Uh B _ _) (by omega) (by omega);obtain⟨idC,szC,cc,vb,s1,s2,s3,s4,s5⟩:=J.app [QS b,QS q];rcases f with _ | c;have Z:=Qlz hE hw hsp hf;have ih:=fun o G=>IH (d ++ [x]) o h (B ++ [QS b,QS q]) G (by rw[Q];simp) (J.app _) (hP.app _) Z (by simp;omega);simp only[frV]at z;rw[Qb f542l1.eq_1];generalize S:B ++ [QS b,QS q]=B1 at *;generalize k:B ++ [QS w]=B2 at *;simp[-getElem?_pos,Ql,Q0,h5,H,I,O,hgp,hlt,hw1,Qc,T,W,z,s1];refine ih o _ ?_ ?_ ?_ ?_ <;> simp[h5,H,I];obtain⟨hcC,hcb,hcl⟩:=hf;(have hq2: (XB q d.length).length=l.length / 64+1:=by rwa[Pc]);have Z:=Qps hE hw hsp hz hb hq2 hcC hcb hcl;have U:=Qdn q d.length (B.length+1) (B ++ [QS b,QS q]) (KA B _ _ _) (by omega) (by omega);rw[QbJ]at U;obtain⟨m,A,cc',P,t1,t2,t3,t4,t5⟩:=J.app [QS b,QS (XB q d.length)];have hP2:=hP.app [QS b,QS (XB q d.length)];have f1:=QfS c h;have f2:=QfR c h;rw[Qub hz hcb]at f1 f2;simp only[Nh]at f1 f2;have hbB:=Uh B (QS b) [QS (XB q d.length)];have hqB:=KA B (QS b) (QS (XB q d.length)) [];(have hb0:g.length+2 < B.length:=by obtain⟨_,_,_,_,s1,_⟩:=J;exact QJ s1);have ch1:=Hz b;have ch2:=Hz (XB q d.length);rw[Pc]at ch2;have hbl:=OG b;have hql:=OG (XB q d.length);rw[Pc]at hql;(have hb0': ¬b.length=0:=by omega);(have hq0': ¬q.length=0:=by omega);have eR:RN (c,b,XB q d.length)= .agg [.int .i64 (c:Int),.sl false 1 (UA b)]:=rfl;have eQ:Rj (c,b,XB q d.length)= .agg [.int .i64 (c:Int),.sl false 1 (UA (XB q d.length))]:=rfl;simp only[frV]at z;have ih:=fun o B G J hP=>IH (d ++ [x]) o (h ++ [(c,b,XB q d.length)]) B G (by rw[Q];simp) J hP Z (by simp;omega);have hfl: (XB q d.length).length=q.length:=Pc _ _;obtain⟨E1,hE1⟩: ∃E,E=AV.undef:: (h.map RN ++ [.agg [.int .i64 (c:Int),.sl false 1 []]]):=⟨_,rfl⟩;obtain⟨E2,hE2'⟩: ∃E,E=AV.undef:: (h.map RN ++ [RN (c,b,XB q d.length)]):=⟨_,rfl⟩;obtain⟨Q1,hQ1⟩: ∃E,E=AV.undef:: (h.map Rj ++ [.agg [.int .i64 (c:Int),.sl false 1 []]]):=⟨_,rfl⟩;obtain⟨Q2,hQ2⟩: ∃E,E=AV.undef:: (h.map Rj ++ [Rj (c,b,XB q d.length)]):=⟨_,rfl⟩;generalize S:B ++ [QS b,QS (XB q d.length)]=B1 at *;have l1:=QJ hqB;obtain⟨B2,k⟩: ∃B2,B1.set g.length E1=B2:=⟨_,rfl⟩;obtain⟨B3,p⟩: ∃B3,B2.set B.length []=B3:=⟨_,rfl⟩;obtain⟨B4,r⟩: ∃B4,B3.set g.length E2=B4:=⟨_,rfl⟩;obtain⟨B5,u⟩: ∃B5,B4.set (g.length+1) Q1=B5:=⟨_,rfl⟩;obtain⟨B6,D⟩: ∃B6,B5.set (B.length+1) []=B6:=⟨_,rfl⟩;obtain⟨N,K⟩: ∃N,B6.set (g.length+1) Q2=N:=⟨_,rfl⟩;(have p2:ZF g B2:=by rw[<- k];exact hP2.set (by omega) _);(have p3:ZF g B3:=by rw[<- p];exact p2.set (by omega) _);(have p4:ZF g B4:=by rw[<- r];exact p3.set (by omega) _);(have p5:ZF g B5:=by rw[<- u];exact p4.set (by omega) _);(have p6:ZF g B6:=by rw[<- D];exact p5.set (by omega) _);(have p7:ZF g N:=by rw[<- K];exact p6.set (by omega) _);(have a1:B2[B.length]? =some (QS b):=by rwa[<- k,QG,Qe (by omega)]);(have a2:B3[g.length]? =some E1:=by rw[<- p,QG,Qe (by omega),<- k,QG,Qg rfl,Qg (by omega)]);(have a3:B4[g.length+1]? =some (.undef:: h.map Rj):=by rwa[<- r,QG,Qe (by omega),<- p,QG,Qe (by omega),<- k,QG,Qe (by omega)]);(have a4:B5[B.length+1]? =some (QS (XB q d.length)):=by rwa[<- u,QG,Qe (by omega),<- r,QG,Qe (by omega),<- p,QG,Qe (by omega),<- k,QG,Qe (by omega)]);(have len5:B5.length=B1.length:=by rw[<- u,<- r,<- p,<- k];simp);(have a5:B6[g.length+1]? =some Q1:=by rw[<- D,QG,Qe (by omega),<- u,QG,Qg rfl,Qg (by rw[<- r,<- p,<- k];simp;omega)]);(have X: ∀j,j≠g.length->j≠g.length+1->j≠B.length->j≠B.length+1->N[j]? =B1[j]? :=by intro j j1 j2 j3 j4;rw[<- K,QG,Qe (by omega),<- D,QG,Qe (by omega),<- u,QG,Qe (by omega),<- r,QG,Qe (by omega),<- p,QG,Qe (by omega),<- k,QG,Qe (by omega)]);(have a6:N[g.length+2]? =some [.gs m 0 A C.length,.int .i64 (l.length:Int),.mp g.length,.mp (g.length+1),P]:=by rwa[X _ (by omega) (by omega) (by omega) (by omega)]);(have a7:N[g.length]? =some E2:=by rw[<- K,QG,Qe (by omega),<- D,QG,Qe (by omega),<- u,QG,Qe (by omega),<- r,QG,Qg rfl,Qg (by rw[<- p,<- k];simp;omega)]);(have a8:N[g.length+1]? =some Q2:=by rw[<- K,QG,Qg rfl,Qg (by rw[<- D,WZ,len5];omega)]);obtain⟨idC2,szC2,cc2,vb2,u1,u2,u3,u4,u5⟩:=J;have u1':=Zd u1 [QS b,QS (XB q d.length)];rw[S,t1]at u1';cases u1';(have a9:C≠[]->A=4/\g.length+2 < m/\N[m]? =some (Qk C ++ cc2):=by intro L;obtain⟨x1,x2,x3⟩:=u4 L;have:=QJ x3;refine⟨x1,x2,?_⟩;rw[X _ (by omega) (by omega) (by omega) (by omega),<- S];exact Zd x3 _);(have a10:P= .gs 0 0 0 0\/∃(t:Nat) (V:QB),P= .gs t 0 1 V.length/\V≠[]/\g.length+2 < t/\(C≠[]->m < t)/\N[t]? =some V/\V.length<=h.length:=by rcases u5 with u5 | ⟨t,V,q1,q2,q3,q4,q5,q6⟩;exact .inl u5;have:=QJ q5;refine .inr ⟨t,V,q1,q2,q3,q4,?_,q6⟩;rw[X _ (by omega) (by omega) (by omega) (by omega),<- S];exact Zd q5 _);obtain⟨v2,B8,ap,pp,g1,g2,g3,g4,g5⟩:=Qie (C:=C) (idC:=m) (cc:=cc2) d.length h.length false (by omega) a7 a8 a6 (fun L=>⟨(a9 L).2.1,(a9 L).2.2⟩) a10;subst hE2';subst hQ2;have ih2:=fun o G=>ih o _ G (QuY (B8:=B8) (n:=l.length) (szC:=A) (QJ g3) g1 g2 (fun L=>⟨(a9 L).1,(a9 L).2.1,g4 L⟩) g5) ((pp g rfl p7).set (i:=g.length+2) (by omega) [.gs m 0 A C.length,.int .i64 (l.length:Int),.mp g.length,.mp (g.length+1),v2]);clear ih;have l8:=QJ g3;subst hE1;subst hQ1;rw[eR]at *;rw[eQ]at *;(have zl1: (h.map RN).length=(h.map Rj).length:=by simp);generalize h.map RN=eRs at *;generalize h.map Rj=eQs at *;generalize QS (XB q d.length)=RQ at *;generalize UA (XB q d.length)=WQ at *;generalize hBB:B ++ [QS b,QS q]=BB at *;generalize hBw:B ++ [QS w]=Bw at *;generalize QS b=RB at *;generalize UA b=WB at *;obtain⟨idv2,ksv2,hv2',_⟩:=g5;subst hv2';(have Y: (0:Int)<=(c:Int):=by omega);(have zn1: ¬((eRs.length:Int) < 0):=by omega);(have zn2: ¬((eQs.length:Int) < 0):=by omega);(obtain⟨va,vs,vn,hvb⟩: ∃a s n,P= .gs a 0 s n:=by rcases a10 with e | ⟨t,V,e,_⟩;exact⟨0,0,0,e⟩;exact⟨t,1,V.length,e⟩);subst hvb;rw[Qb f542l1.eq_1];simp[-getElem?_pos,Ql,Q0,h5,H,I,O,hgp,hlt,hw1,Qc,T,W,z,U,s1,t1,t2,f1,f2,k,a1,ZY,hb0',hq0',hbl,hql,ch1,ch2,OO,p,a2,(QbK (h.map RN) (.agg [.int .i64 (c:Int),.sl false 1 []]) (.agg [.int .i64 (c:Int),.sl false 1 (UA b)])),(QbK (h.map Rj) (.agg [.int .i64 (c:Int),.sl false 1 []]) (.agg [.int .i64 (c:Int),.sl false 1 (UA (XB q d.length))])),r,a3,u,a4,D,a5,K,a6,ap,g3,Y,zn1,zn2,(Yc),(Yc)];refine ih2 o _ ?_ ?_ ?_ ?_ <;> simp[h5,H,I]
def RC: ∀l:Qj,l.length<=Qp l
 | []=>by simp
 | x:: r=>by
  have h:=RC r;have a:1<=x.nodes:=by cases x;simp[Tm.nodes];try omega
  simp only[Zu,Qp];omega
def Qpv (l o) (hl:l.length < 100000) (I: ∀x∈l,x.mass < 1000000) (d n) (G:ZF d n) (hg:d.length+2 < n.length) (h0:n[d.length]? =some [.undef]) (h1:n[d.length+1]? =some [.undef])
  (C) (hC:C.length < 100000) (k: ∀x∈C,x.mass < 1000000) (K: ∀x∈l,∀y∈QI x,y∈C) (v B) (m:TS (n.set (d.length+2) (gC d.length l.length v)) B v C) (q) (r0:q 0= .sl o 4 (Qa l)) (T:q 5= .gp (d.length+2) 0):
  QeR (Qq C) l l.length d (R tb f542r1 q B (QA f542 d)):=by
 have s: (n.set (d.length+2) (gC d.length l.length v))[d.length+2]? =some (gC d.length l.length v):=by rw[QG,Qg rfl,Qg hg]
 obtain⟨w,hs,f⟩:=Qrk m (by omega) k;have P:=MR f s;have i0:=MR (i:=d.length) f (by rwa[QG,Qe (by omega)]);have W:=MR (i:=d.length+1) f (by rwa[QG,Qe (by omega)]);have r:ZF d w:=by obtain⟨M,e⟩:=Qu1 f;rw[e];exact(G.set (by omega) _).app M
 have A: ∃E h,call tb 172 [v,.fn 543 []] w=some (E,h)/\ZF d h/\h[d.length]? =some [.undef]/\h[d.length+1]? =some [.undef]/\h[d.length+2]? =some (gC d.length l.length v)/\∃g p c,E= .gs g 0 p (Qq C).length/\(Qq C≠[]->p=4/\d.length+2 < g/\h[g]? =some (Qk (Qq C)++ c)):=by obtain⟨M,g,p,e1,S,hc⟩:=f;rcases hc with⟨rfl,rfl,Q⟩ | ⟨rfl,X,q3,O⟩;(have N:C=[]:=by have:=Vg C;rw[Q]at this;exact Yf (by simpa using this.symm));subst N;refine⟨.gs 0 0 0 0,w,?_,r,i0,W,P,0,0,[],by simp[Qq,Yo],fun J=>absurd (by simp[Qq,Yo]) J⟩;(have Y:v= .gs 0 0 0 0:=by rw[S,Q];rfl);rw[Y,zcc 172 rfl rfl];simp[f172C];(obtain⟨t,ht⟩:=Qk8 543 QtM (XL C) w g O (by rw[Vg];omega) fun x j=>by have:=k x (U3.1 j);unfold big;omega);rw[ON]at ht;simp only[WZ]at X;refine⟨_,_,by rwa[S],r.set (by omega) _,?_,?_,?_,g,4,t,rfl,fun _=>⟨rfl,by omega,?_⟩⟩;rwa[QG,Qe (by omega)];rwa[QG,Qe (by omega)];rwa[QG,Qe (by omega)];rw[QG,Qg rfl,Qg (QJ O)]
 obtain⟨E,h,L,H,j0,j1,z,g,p,c,rfl,u⟩:=A;have hsl:=WF C;have V:SY (h.set (d.length+2) (gC d.length l.length (.gs g 0 p (Qq C).length))) d.length (Qq C) l.length []:=by refine⟨g,p,c,.gs 0 0 0 0,?_,?_,?_,?_,.inl rfl⟩;rw[QG,Qg rfl,Qg (QJ z)];rfl;rwa[QG,Qe (by omega)];rwa[QG,Qe (by omega)];intro J;obtain⟨U,Z,a3⟩:=u J;refine⟨U,Z,?_⟩;rwa[QG,Qe (by omega)]
 have D:=fun o q=>Qpu (Qq C) (by omega) (fun x j=>by have:=k x (Z7.1 j);unfold big;omega) (XY C) d l hl I (fun x j y hy=>Z7.2 (K x j y hy)) l [] o [] _ q rfl V (H.set (by omega) _) ⟨fun x j=>absurd j (by simp),trivial,fun v=>Iff.rfl⟩ (by simp);obtain⟨a,b,hv⟩:=Li m;have l3:=QJ z;simp only[gC]at *;subst hv;simp[-getElem?_pos,Ql,f542r1,r0,T,(MR m s),hs,P,L,z];refine D false _ ?_ ?_ ?_ ?_ <;> simp[T]
def QoS (l t o B) (hl:Qp l+t.nodes < 100000) (j: ∀x∈l,x.mass < 1000000) (Y:t.mass < 1000000):
  QeR (Qq (YJ (l ++ [t]))) l l.length B (call tb 542 [.sl o 4 (Qa l),.agg (Qd t)] B):=by
 have N:=RC l;have hL: (YJ (l ++ [t])).length<=Qp l+t.nodes:=by have:=RM (l ++ [t]);rw[ZK]at this;simpa[Qp]using this
 have q: ∀x∈l ++ [t],x.mass < 1000000:=fun x k=>by rcases Zp.1 k with h | h;exact j x h;simp at h;subst h;exact Y
 have K: ∃b,b=B ++ [[AV.undef],[AV.undef],gC B.length l.length (.gs 0 0 0 0)]:=⟨_,rfl⟩;obtain⟨b,a⟩:=K;obtain⟨H,z,i,e⟩: ∃H z,call tb 193 [.sl false 4 (Qa l)] b=some (H,z)/\TS b z H l:=by rw[Y9 tb_193];by_cases c:l=[];subst c;exact⟨.gs 0 0 0 0,b,by simp[X2,VE,Qa],QbV b⟩;(have O: (Qa l).flatten.map AV.strip=Qk l:=by(have: (Qa l).flatten=Qk l:=by rw[Zr];rfl);rw[this,Z5 Zc]);(have S: (Qa l).length=l.length:=by simp[Zr]);(have q5:l.length*56<=140737488355328:=by omega);refine⟨.gs b.length 0 4 l.length,b ++ [Qk l],by simp[X2,VE,O,S,(ZL l),c,q5],[Qk l],b.length,4,rfl,rfl,.inr ⟨rfl,QY _,c,Yc⟩⟩
 obtain⟨v2,n,m,p⟩:=Qu0 t false e (by omega);obtain⟨X,Z,s⟩:=Li e;obtain⟨M,I,V,d,r,L⟩:=p;rcases L with⟨_,_,E⟩ | ⟨rfl,q2,q3,U⟩;simp at E;have D:b.length=B.length+3:=by rw[a];simp
 have g:n[B.length+2]? =some (gC B.length l.length (.gs 0 0 0 0)):=by rw[d];exact Zd (by rw[a,Yv (by omega)];simp) M
 have f:=fun J=>Qpt B.length l.length I n (l ++ [t]) (QJ g) (by omega) U (by simp;omega) q f542r1 (QA f542 B) (QeR (Qq (YJ (l ++ [t]))) l l.length B) (.sl false 4 (Qa l)) (l ++ [t]) [] [] n (.gs 0 0 0 0) J rfl (by rw[Oc g];exact QbV n) (by rw[ZK];simp[Qp];omega) (by simp);have A:=fun v w J h=>Qpv l false (by omega) j B n (by rw[d,a];exact⟨_,ZU _ _ _⟩) (QJ g) (by rw[d];exact Zd (by rw[a];simp) M) (by rw[d];exact Zd (by rw[a,Yv (by omega)];simp) M) (YJ (l ++ [t])) (by omega) (fun x k=>by obtain⟨y,G,C⟩:=Tf.1 k;have:=SU C;have:=q y G;omega) (fun x k y G=>Tf.2 ⟨x,TE _ k,G⟩) v w h J;subst s;subst r;have T:B ++ [[AV.undef]]++ [[AV.undef]]++ [gC B.length l.length (.gs 0 0 0 0)]=b:=by rw[a];simp
 simp only[gC]at *;rw[zcc 542 rfl rfl];generalize W: (l ++ [t]).length=LL at *;simp[-getElem?_pos,f542C,(a.symm),i,m,Qc];refine f _ ?_ ?_ ?_ ?_ ?_ ?_;simp;simp;simp;simp;simp;intro u w P h1 R Q;exact A P w u (by simpa using h1) R Q
def IX (l:Qj) (t:Tm):Prop:=Sp (l.map fun x=>Qx (QI x)) (Qx (QI t))
def Qua {C f g} (c: ∀y,f y=true->y∈C) (d: ∀y,g y=true->y∈C) (h:fC C f=fC C g):f=g:=by
 funext y;by_cases a:y∈C;obtain⟨i,b,e⟩:=List.mem_iff_getElem.1 a;have:=congrFun h i;simp only[fC,Za b,e]at this;exact this;cases k:f y;cases j:g y;rfl;exact absurd (d y j) a;exact absurd (c y k) a
def Qns (C) (f g):fC C (xv f g)=xv (fC C f) (fC C g):=by
 funext j;simp only[fC,xv];cases C[j]? <;> simp
def QdV (C):fC C zv0=zv0:=by
 funext j;simp only[fC,zv0];cases C[j]? <;> simp
def Qq7 {C:Qj} {L} (g: ∀f∈L,∀y,f y=true->y∈C) {v} (h:Sp L v): ∀y,v y=true->y∈C:=by
 induction h with | zero=>intro y c;simp[zv0]at c | @add a b e _ i=>intro y c;simp only[xv]at c;cases d:a y;rw[d]at c;exact i y (by simpa using c);exact g a e y d
def Qws {C L} (j: ∀f∈L,∀y,f y=true->y∈C) {v} (i: ∀y,v y=true->y∈C):Sp (L.map (fC C)) (fC C v)↔Sp L v:=by
 constructor;intro h;have: ∀u,Sp (L.map (fC C)) u->∃w,Sp L w/\fC C w=u:=by intro u k;induction k with | zero=>exact⟨zv0,.zero,QdV C⟩ | @add a b d _ c=>obtain⟨w,g,e⟩:=c;obtain⟨f,l,rfl⟩:=YL.1 d;exact⟨xv f w,.add l g,by rw[Qns,e]⟩
 obtain⟨w,g,e⟩:=this _ h;rwa[<- Qua (Qq7 j g) i e];intro h;clear i;induction h with | zero=>rw[QdV];exact .zero | @add a b d _ c=>rw[Qns];exact .add (YL.2 ⟨a,d,rfl⟩) c
def P0: ∀a b,ZD (a ++ b)=(ZD a && ZD b)
 | [],b=>by simp[ZD]
 | x:: a,b=>by simp[ZD,P0 a b,Bool.and_assoc]
def Tx (l:Qj) (t:Tm):Int:=if 200 < l.length then 3 else Ww (l ++ [t])
def AL (l t o i b) (k:l.length < 1000000) (e: ∀x∈l,x.mass < big) (f:t.mass < big):call tb 179 [.sl o 4 (Qa l),.sl i 4 [Qd t]] b=some (.int .i64 (Tx l t),b):=by
 have h:=fun g=>F8 (l ++ [t]) b (by simp;omega) (fun x j=>by rcases Zp.1 j with h | h;exact e x h;simp at h;subst h;exact f) (l ++ [t]) [] g rfl;have d:=Rq [l,[t]] false b (by simp) (by simp;omega);simp only[S3,ZO,Vn,Su,GV,Qy,Qa]at d;rw[zcc 179 rfl rfl];by_cases c:200 < l.length;have a: (200:Int) < (l.length:Int):=by omega
 simp[f179C,a,c,Tx];have a: ¬(200:Int) < (l.length:Int):=by omega
 simp[f179C,a,c,Tx,d];refine h _ ?_ ?_ ?_ <;> simp
def Qjn (l B) (hl:l.length < 100000000) (J:l≠[]) (W: ∀x∈l,x.mass < big) (Z: ∀x∈l,∀I,T1 x.kids I (call tb 184 [.sl false 4 (Qa x.kids)] I)):
  ∀d a c n,l=a ++ d->c.length=l.length*4->(c.map AV.strip).take (a.length*4)=Qk a->n 3= .gs B.length 0 4 l.length->n 9= .sl false 4 (Qa l)->n 10= .int .i64 l.length->n 11= .int .i64 a.length->
  R tb (.loop f184l0) n (B ++ [c]) (Qh 0 (Qs tb f184r0 (QA f184 B)))=some (.sl true 4 (Qa l),B):=by
 have M: ∀x y:QB,(B ++ [x]).set B.length y=B ++ [y]:=fun x y=>by rw[PE];simp
 have eg: ∀x:QB,(B ++ [x])[B.length]? =some x:=fun x=>Yc;intro d;induction d with | nil=>intro a c n p L H u w g i;simp only[Qy]at p;rw[<- p]at i H;have Y: ¬l.length=0:=fun e=>J (Yf e);(have K:ZR c 0 4 l.length=Qa l:=by(have e1:c.map AV.strip=Qk l:=by rw[<- H,Z2 (by simp[L])]);(have e2:ZR c 0 4 l.length=ZR (c.map AV.strip) 0 4 l.length:=by unfold ZR;apply Rp;intro k _;rw[<- PG,<- SC,Mm];apply Rp;intro v _;exact(OZ v).symm);rw[e2,e1];have:=X3 (f:=Qd) (k:=4) QE Zc l [];rwa[TW,Qy]at this);have P:=ZL l;(have r:l.length*4<=c.length:=by omega);rw[Qb f184l0.eq_1];simp[u,w,g,i,f184r0,ZY,Y,r,M,K] | cons x d Q=>intro a c n p L H u w g i;have P:=Qv p;have hll:=QD p;have A:=wr1 a.length (by omega);have G:=QF p;(have b:a.length < l.length:=by omega);have T:=W x (by rw[p];simp);have C:=fun I=>K5 x x true I T T;obtain⟨o,q⟩:=Z x (by rw[p];simp) (B ++ [c.take (a.length*4)++ (Qd x ++ c.drop (a.length*4+4))]);(have r:a.length*4+4<=c.length:=by omega);obtain⟨N,S⟩:=Qeh (v:= .sl o 4 (Qa x.kids)) L rfl b H rfl;(have s:a.length*4+3 < (c.take (a.length*4)++ (Qd x ++ c.drop (a.length*4+4))).length:=by simp;omega);generalize E:c.take (a.length*4)++ (Qd x ++ c.drop (a.length*4+4))=O at *;(have z: ∀h:a.length < (Qa l).length,(Qa l)[a.length]=Qd x:=fun h=>by have:=Za h;rw[Xf,P]at this;injection this with this;exact this.symm);rw[Qb f184l0.eq_1];by_cases m:x.kids=[];obtain⟨U,V⟩:=Qba N rfl b S m;(have j:a.length*4+3+1<=(O.set (a.length*4+3) (.sl o 4 (Qa x.kids))).length:=by rw[N];omega);have D:=fun n=>Q (a ++ [x]) _ n (by rw[p];simp) U (by simpa using V);rw[m]at q j D;(have t:a.length*4+3+1<=O.length:=by simpa using j);simp only[Qa,Xb,Y4]at q j D;simp[u,w,g,i,z,G,b,A,Qc,C,M,r,E,q,s,m,Qa,t];refine D _ ?_ ?_ ?_ ?_ <;> simp[u,w,g];(have X: ¬(x.kids.length:Int)=0:=by intro e;exact m (Yf (by omega)));have D:=fun n=>Q (a ++ [x]) _ n (by rw[p];simp) N (by simpa using S);simp[u,w,g,i,z,G,b,A,Qc,C,M,r,E,q,s,m];refine D _ ?_ ?_ ?_ ?_ <;> simp[u,w,g]
def Qk9 (l o b) (h:l.length < 100000000) (d:l≠[]) (g: ∀x∈l,x.mass < 1000000):call tb 184 [.sl o 4 (Qa l)] b=some (.sl true 4 (Qa l),b):=by
 have j:l.length*56<=140737488355328:=X7 (by omega);have e: (l.length:Int)<=4611686018427387904:=by omega
 have a: (List.replicate l.length [AV.int .i64 0,.str [],.int .i64 0,.sl true 4 []]).flatten.length=l.length*4:=by simp
 have i:=(fun c k m=>Qjn l b h d (fun x f=>by have:=g x f;unfold big;omega) (fun x f b=>Qa9 x b (by have:=g x f;omega)) l [] c m rfl k (by simp[YZ])) _ a;rw[zcc 184 rfl rfl];simp[f184C,j,e];refine i _ ?_ ?_ ?_ ?_ <;> simp
def Qdl (t B) (g:t.mass < 1000000) (c:QZ t=0) (d:QI t≠[]):call tb 540 [.agg (Qd t)] B=some (.otup 4 (Qa (QI t)) [.int .i64 0],B):=by
 have a:=AL [] t true false B (by simp) (by simp) (by unfold big;omega);have e:Tx [] t=0:=by simp[Tx,Ww,c]
 rw[e]at a;simp only[Qa]at a;obtain⟨o,b⟩:=Ry t B (by omega);rw[zcc 540 rfl rfl];simp[f540C,a,b,(Qk9 (QI t) false B (by have:=WH t;have:=Yu t;omega) d (fun x f=>by have:=SU f;omega)),Qc,(ZL (QI t))];done
def BW (l:Qj) (t:Tm) (B:Qr) (r:Option (AV×Qr)):Prop:=∃(v:Qr) (e:Int),r=some (.tup [.sl false 1 v,.int .i64 e],B)/\(e=0↔IX l t)
def Qkj (n q t i B) (A:ZF i B) (C:B[t]? =some (QS q)) (G:q.length=n / 64+1) (E:n < 100000):
  ∀d k f c,n - k<=d->k<=n->f.length<=k->c 9= .gs t 0 1 q.length->c 10= .sl true 1 f->c 39= .int .i64 n->c 40= .int .i64 k->ZD f=true->
   ∃v:Qr,R tb (.loop f541l0) c B (Qh 0 (Qs tb f541r0 (QA f541 i)))=some (.tup [.sl false 1 v,.int .i64 0],i):=by
 have r:B.take i.length=i:=by obtain⟨M,rfl⟩:=A;simp
 intro d;induction d with | zero=>intro k f c z w x h b a e m;(have:k=n:=by omega);subst this;refine⟨f,?_⟩;rw[Qb f541l0.eq_1];simp[h,b,a,e,f541r0,m,r] | succ d u=>intro k f c z w x h b a e m;by_cases D:k < n;(have y: (k:Int) < (n:Int):=by omega);(have l:IntKind.i64.wrap ((k:Int)+1)=((k+1:Nat):Int):=by rw[QC (by omega) (by omega)];omega);have o:=EN q k t B C (by omega) (by omega);(have j: (f.length+1)*8<=140737488355328:=by omega);rw[Qb f541l0.eq_1];cases g:WT q k;rw[g]at o;have s:=fun c=>u (k+1) f c (by omega) (by omega) (by omega);simp[h,b,a,e,y,o,l];refine s _ ?_ ?_ ?_ ?_ m <;> simp[h,b,a];rw[g]at o;(have p:ZD (f ++ [[.int .i64 (k:Int)]])=true:=by rw[P0,m];rfl);have s:=fun c=>u (k+1) (f ++ [[.int .i64 (k:Int)]]) c (by omega) (by omega) (by simp;omega);simp[h,b,a,e,y,o,l,j];refine s _ ?_ ?_ ?_ ?_ p <;> simp[h,a];exact u k f c (by omega) w x h b a e m
def QoR (l t o B) (hl:Qp l+t.nodes < 100000) (m: ∀x∈l,x.mass < 1000000) (P:t.mass < 1000000) (hr:Tx l t=0):
  BW l t B (call tb 541 [.sl o 4 (Qa l),.agg (Qd t)] B):=by
 have hnl:=RC l;have O:=AL l t false false B (by omega) (fun x g=>by have:=m x g;unfold big;omega) (by unfold big;omega);rw[hr]at O;obtain⟨K,M,E,R,Z⟩:=QoS l t false B hl m P;have hcl: (YJ (l ++ [t])).length<=Qp l+t.nodes:=by have:=RM (l ++ [t]);rw[ZK]at this;simpa[Qp]using this
 have hCl:=WF (YJ (l ++ [t]));have T: ∀x∈Qq (YJ (l ++ [t])),x.mass < big:=fun x g=>by obtain⟨y,d,S⟩:=Tf.1 (Z7.1 g);have Q:=SU S;(have V:y.mass < 1000000:=by rcases Zp.1 d with h | h;exact m y h;simp at h;subst h;exact P);unfold big;omega
 have L:=XY (YJ (l ++ [t]));have z: ∀y∈QI t,y∈Qq (YJ (l ++ [t])):=fun y d=>Z7.2 (Tf.2 ⟨t,by simp,d⟩);have N: ∀x∈l,∀y∈QI x,y∈Qq (YJ (l ++ [t])):=fun x g y d=>Z7.2 (Tf.2 ⟨x,by simp[g],d⟩);generalize Qq (YJ (l ++ [t]))=C at *;have hP:ZF B (B ++ M):=⟨M,rfl⟩;obtain⟨w,U,k⟩:CD C (Qx (QI t)) (B ++ M) (call tb 544 [.gp (B.length+2) 0,.agg (Qd t)] (B ++ M)):=by obtain⟨p,u,c,vb,D,s2,s3,I,s5⟩:=E;exact Qdm D ⟨p,u,rfl,c,fun hn=>⟨(I hn).1,(I hn).2.2⟩⟩ (by omega) T L P z
 obtain⟨b,q,hb,hq,hsp,hz,i⟩:=Qdo E R.fit (by omega) (by omega) w U.1;obtain⟨f,A,a⟩:=Qdq b (B ++ M).length C.length (B ++ M ++ [QS b,QS q]) (Uh (B ++ M) _ _) (by omega) (by omega);obtain⟨p,u,cc,vb,D,s2,s3,I,s5⟩:=E.app [QS b,QS q];have s: (f=none)↔IX l t:=by(have H: ∀x∈K.map fun x=>(x.1,vN C.length x.2.1),vN C.length b x.1=false:=by intro x g;obtain⟨y,d,rfl⟩:=YL.1 g;simp[vN,hz y d]);(have W: (K.map fun x=>(x.1,vN C.length x.2.1)).map (·.2)=K.map fun x=>vN C.length x.2.1:=by simp);have Q:=QbT R.tri (by rwa[W]) H;rw[W,R.sp,Gj U]at Q;(have V: (f=none)↔vN C.length b=zv0:=by constructor;intro e;subst e;funext j;simp only[vN,zv0];by_cases X:j < C.length;rw[A j X];simp;simp[X];intro e;rcases f with _ | c;rfl;have:=congrFun e c;simp[vN,zv0,A.1,A.2.1]at this);rw[V,Q];(have e2: (l.map fun x=>fC C (Qx (QI x)))=(l.map fun x=>Qx (QI x)).map (fC C):=by simp);rw[e2];exact Qws (fun f A y d=>by obtain⟨x,g,rfl⟩:=YL.1 A;exact N x g y (Zz.1 d)) (fun y d=>z y (Zz.1 d))
 have G:=fun ρ=>Qkj l.length q ((B ++ M).length+1) B (B ++ M ++ [QS b,QS q]) ((hP).app _) (KA (B ++ M) (QS b) (QS q) []) hq (by omega) l.length 0 [] ρ (by omega) (by omega) (by simp);have J: (B ++ M ++ [QS b,QS q]).take B.length=B:=by rw[ZU];simp
 have Y: (B ++ M).take B.length=B:=by simp
 rw[zcc 541 rfl rfl];generalize hBM:B ++ M=BM at *;generalize hB3:BM ++ [QS b,QS q]=B3 at *;rcases f with _ | c;simp only[frV]at a;have n: ∀r:Option (AV×Qr),(∃v:Qr,r=some (.tup [.sl false 1 v,.int .i64 0],B))->BW l t B r:=fun r ⟨v,hv⟩=>⟨v,0,hv,⟨fun _=>s.1 rfl,fun _=>rfl⟩⟩;refine n _ ?_;simp[-getElem?_pos,Ql,Q0,f541C,O,Z,k,i,a,D,Qc];refine G _ ?_ ?_ ?_ ?_ ?_ <;> simp[ZD];simp only[frV]at a;refine⟨[],4,?_,⟨fun h=>absurd h (by decide),fun h=>absurd (s.2 h) (by simp)⟩⟩;simp[-getElem?_pos,Ql,Q0,f541C,O,Z,k,i,a,D,(by omega),J,Qc]
def TO (n:Int):Z1->Z1
 | []=>[n]
 | x:: xs=>if x>=n then(if x=n then xs else n:: x:: xs)else x:: TO n xs
def IF {n y}: ∀{l},y∈TO n l->y=n\/y∈l
 | [],h=>by simp[TO]at h;exact .inl h
 | x:: a,h=>by
  simp only[TO]at h;split at h;split at h;exact .inr (by simp[h]);simp at h;rcases h with h | h | h <;> simp[h];rcases Zl.1 h with h | h;exact .inr (by simp[h]);rcases IF h with h | h <;> simp[h]
def DP {n}: ∀{l},l.Pairwise (· < ·)->(TO n l).Pairwise (· < ·)
 | [],_=>by simp[TO]
 | x:: f,h=>by
  obtain⟨c,b⟩:=Uy.1 h;simp only[TO];split;split;exact b;rename_i d e;refine Uy.2 ⟨fun y a=> ?_,h⟩;rcases Zl.1 a with rfl | a;omega;have:=c y a;omega;rename_i d;refine Uy.2 ⟨fun y a=> ?_,DP b⟩;rcases IF a with rfl | a;omega;exact c y a
def AE {N:Nat}: ∀(l:Z1) a,l.Pairwise (· < ·)->(∀x∈l,a<=x/\x < a+N)->l.length<=N
 | [],_,_,_=>by simp
 | x:: e,a,h,b=>by
  obtain⟨f,d⟩:=Uy.1 h;obtain⟨k,m⟩:=b x (by simp);have g: (0:Int) < N:=by omega
  have j:=AE (N:=N - 1) e (a+1) d (fun y c=>by have i:=f y c;have n:=b y (by simp[c]);omega);simp only[Zu];omega
def DC {l b a x} (h:l=b ++ x:: a): (Zy l)[b.length]? =some [.int .i64 x]:=by subst h;simp[Zy]
def Xe (l): (Zy l).length=l.length:=by simp[Zy]
def R8 (l x):Zy l ++ [[.int .i64 x]]=Zy (l ++ [x]):=by simp[Zy]
def VU (l):ZD (Zy l)=true:=by
 induction l with | nil=>rfl | cons x l a=>simp only[Zy,ZO]at *;simp[ZD,Q5,AV.gpfree,a]
def QiP (l n C) (K:l.length < 1000000): ∀c b a d f,l=b ++ c->a.length<=b.length+1->(d=false->a.length<=b.length)->
  f 0= .sl false 1 (Zy l)->f 1= .int .i64 n->f 5= .sl true 1 (Zy a)->f 6= .bool d->f 7= .int .i64 b.length->
  R tb (.loop f316l0) f C (Qh 0 (Qs tb f316r0 (QA f316 C)))=some (.sl false 1 (Zy (a ++ if d then c else TO n c)),C):=by
 intro c;induction c with | nil=>intro b a d f k J D i j q o t;simp only[Qy]at k;(have e: (a.length+1)*8<=140737488355328:=by subst k;omega);rw[<- k]at t;have g:=Xe l;have h:=Xe a;have v:=VU a;rw[Qb f316l0.eq_1];cases d;simp[i,j,q,o,t,g,h,e,(R8 a n),(VU (a ++ [n])),f316r0,TO];simp[i,j,q,o,t,g,h,v,f316r0] | cons x c z=>intro b a d f k J D i j q o t;have v:=DC k;have g:=Xe l;have h:=Xe a;have H:=QD k;have m:=wr1 b.length (by omega);have p:=QF k;(have E:b.length < l.length:=by omega);(have e: (a.length+1)*8<=140737488355328:=by omega);(have u: (a.length+1+1)*8<=140737488355328:=by omega);have w:=R8 a x;have y:=R8 (a ++ [n]) x;have r:=Xe (a ++ [n]);simp only[Q6,Rn]at r;rw[Qb f316l0.eq_1];cases d;have I:=D rfl;by_cases A:n<=x;by_cases G:x=n;subst G;have s:=fun f=>z (b ++ [x]) a true f (by rw[k];simp) (by simp;omega) (by simp);simp[-getElem?_pos,Ql,i,j,q,o,t,v,g,h,p,m];rw[s] <;> simp[i,j,q,TO];have B:=G;have s:=fun f=>z (b ++ [x]) (a ++ [n]++ [x]) true f (by rw[k];simp) (by simp;omega) (by simp);simp only[ZU,Xb,Y4]at s y;simp[-getElem?_pos,Ql,i,j,q,o,t,v,g,h,p,m,A,B,e,u,(R8 a n),y,r];rw[s] <;> simp[i,j,TO,A,B];(have B: ¬x=n:=by omega);have s:=fun f=>z (b ++ [x]) (a ++ [x]) false f (by rw[k];simp) (by simp;omega) (by simp;omega);simp[-getElem?_pos,Ql,i,j,q,o,t,v,g,h,p,m,A,B,e,w];rw[s] <;> simp[i,j,o,TO,A];have s:=fun f=>z (b ++ [x]) (a ++ [x]) true f (by rw[k];simp) (by simp;omega) (by simp);simp[-getElem?_pos,Ql,i,j,q,o,t,v,g,h,p,m,e,w];rw[s] <;> simp[i,j,o]
def Qow (l n o a) (b:l.length < 1000000):call tb 316 [.sl o 1 (Zy l),.int .i64 n] a=some (.sl false 1 (Zy (TO n l)),a):=by
 have h:=fun c=>QiP l n a b l [] [] false c rfl (by simp) (by simp);simp only[Y4,Xa,ZM]at h;rw[zcc 316 rfl rfl];simp[f316C];refine h _ ?_ ?_ ?_ ?_ ?_ <;> simp[Zy]
def Hp {a}: ∀{C},Asc a->Asc C->(∀x∈a,x∈C)->a.length<=C.length:=by
 induction a with | nil=>intro C _ _ _;simp | cons x a j=>intro C l i c;obtain⟨f,m⟩:=Uy.1 l;obtain⟨p,q,rfl⟩:=List.append_of_mem (c x (by simp));obtain⟨r,n,g⟩:=JC.1 i;obtain⟨o,e⟩:=Uy.1 n;have:=j m e (fun y d=>by have b:=f y d;rcases Zp.1 (c y (by simp[d]))with h | h;have k:=XG b (g y h x (by simp));rw[Xd]at k;omega;rcases Zl.1 h with h | h;subst h;rw[Xd]at b;omega;exact h);simp only[Q6,Zu];omega
abbrev Lm:=List Tm×List Int
def U0 (x:Lm):QB:=[.sl false 4 (Qa x.1),.sl false 1 (Zy x.2)]
def V0 (l:List Lm):Qr:=l.map U0
def Ku (l): (V0 l).length=l.length:=by simp[V0]
def Fr {l b a x} (h:l=b ++ x:: a): (V0 l)[b.length]? =some (U0 x):=by subst h;simp[V0]
def IV (N:Nat) (l:Z1):Prop:=l.Pairwise (· < ·)/\∀x∈l,(0:Int)<=x/\x < N
def IV.flip {N l} (h:IV N l) {n:Int} (b:0<=n) (c:n < N):IV N (TO n l):=⟨DP h.1,fun x a=>by
 rcases IF a with rfl | a;exact⟨b,c⟩;exact h.2 x a⟩
def IV.len {N l} (h:IV N l):l.length<=N:=AE l 0 h.1 (by simpa using h.2)
def Kg (C:Qj) (N:Nat) (x:Lm):Prop:=Asc x.1/\(∀y∈x.1,y∈C)/\IV N x.2
def pvR (x:Lm):Tm:=x.1.getLastD (.mk 0 [] 0 [])
def QjC {x} (h:x.1≠[]): ∃i,x.1=i ++ [pvR x]:=by
 refine⟨x.1.dropLast,?_⟩;unfold pvR;rw[List.getLastD_eq_getLast?,List.getLast?_eq_some_getLast h];exact(List.dropLast_concat_getLast h).symm
def Qkq {c pre post} {a:c×(c->Bool)}: ∀(_:Tri (pre ++ a:: post)),∀r∈pre,a.2 r.1=false:=by
 induction pre with | nil=>intro _ r b;cases b | cons p pre f=>intro h r b;obtain⟨g,e,d⟩:=h;rcases Zl.1 b with rfl | b;exact e a (by simp);exact f d r b
def QfX {a b} (d:Asc b):Qx (Yr a b)=xv (Qx a) (Qx b):=by
 funext y;have h:=Nr (y:=y) (a:=a) d;rw[<- Zz,<- Zz,<- Zz]at h;simp only[xv];cases c:Qx a y <;> cases e:Qx b y <;> simp[c,e]at h ⊢ <;> exact h
def Qgo (b N) (S:N < 1000000) (w c K) (Q:Out->Prop) (d g a) (A:b=d ++ a:: g) (B:IV N a.2) (T C:AV):
  ∀f e m s n P j,a.2=e ++ f->IV N m->j 0= .sl false 2 (V0 b)->j 3= .bx [.sl s 4 (Qa P),.sl n 1 (Zy m)]->j 4=C->j 5= .int .i64 d.length->j 8= .int .i64 e.length->
   (∀i r y,IV N r->i 0= .sl false 2 (V0 b)->i 3= .bx [.sl s 4 (Qa P),.sl y 1 (Zy r)]->i 4=C->i 5= .int .i64 d.length->Q (R tb c i w K))->
  Q (R tb (.loop f315l0) j w (Qh 2 (Qh 1 (Qs tb c K)))):=by
 have E:=Fr A;have G:b.length=d.length+ (g.length+1):=by rw[A];simp
 have z:d.length < b.length:=by omega
 have H:=Ku b;have L:=B.len;have q:=Xe a.2;intro f;induction f with | nil=>intro e m s n P j l k p u v o t h;simp only[Qy]at l;rw[<- l]at t;rw[Qb f315l0.eq_1];simp[-getElem?_pos,Ql,Q0,p,u,o,t,E,U0,q];refine h _ m n k ?_ ?_ ?_ ?_ <;> simp[p,u,v,o] | cons x f J=>intro e m s n P j l k p u v o t h;have M:=QD l;(have I:e.length < a.2.length:=by omega);have O:=k.len;have D:=B.2 x (by rw[l];simp);rw[Qb f315l0.eq_1];simp[-getElem?_pos,Ql,Q0,p,u,o,t,E,U0,q,(QF l),(DC l),(Qow m x false w (by omega)),(wr1 e.length (by omega))];refine(fun n j=>J (e ++ [x]) (TO x m) s n P j (by rw[l];simp) (k.flip D.1 D.2)) false _ ?_ ?_ ?_ ?_ ?_ h <;> simp[p,v,o]
def QkL (C:Qj) (N:Nat) (rows:List Lm) (x0:Lm) (bs:Qr) (r:Option (AV×Qr)):Prop:=∃x,Kg C N x/\Sp (rows.map fun r=>Qx r.1) (xv (Qx x0.1) (Qx x.1))/\(∀r∈rows,Qx x.1 (pvR r)=false)/\r=some (.agg (U0 x),bs)
def QjO (C) (hC:C.length < 1000000) (J:Asc C) (B: ∀x∈C,x.mass < big) (N) (hN:N < 1000000) (b) (hR: ∀r∈b,Kg C N r/\r.1≠[]) (hT:Tri (b.map fun r=>(pvR r,Qx r.1))) (hrl:b.length < 1000000) (W A) (v4:AV):
  ∀d c x T w k,b=c ++ d->Kg C N x->Sp (b.map fun r=>Qx r.1) (xv (Qx W.1) (Qx x.1))->(∀r∈c,Qx x.1 (pvR r)=false)->
   k 0= .sl false 2 (V0 b)->k 3= .bx [.sl T 4 (Qa x.1),.sl w 1 (Zy x.2)]->k 4= .bx [.sl true 4 [],.sl true 1 []]->k 5= .int .i64 c.length->
  QkL C N b W A (R tb (.loop f315l1) k A (Qh 0 (Qs tb f315r1 (QA f315 A)))):=by
 have g:=Ku b;intro d;induction d with | nil=>intro c x T w k j m n hz t u Q v;simp only[Qy]at j;rw[<- j]at v;refine⟨x,m,n,by rwa[j],?_⟩;have g2:=VU x.2;rw[Qb f315l1.eq_1];simp[-getElem?_pos,t,u,Q,v,g,f315r1,U0,(ZL x.1),g2] | cons a d IH=>intro c x T w k j m n hz t u Q v;have hg:=Fr j;have hll:=QD j;have z:=QF j;(have hltn:c.length < b.length:=by omega);have K:=wr1 c.length (by omega);(have H: (Qa x.1).length=x.1.length:=by simp[Zr]);by_cases l:x.1=[];refine⟨x,m,n,fun r _=>by rw[l];rfl,?_⟩;have g2:=VU x.2;(have hlx:x.1.length=0:=by rw[l];rfl);(have M:Qa x.1=[]:=by rw[l];rfl);rw[Qb f315l1.eq_1];rw[M]at u;simp[-getElem?_pos,Ql,t,u,Q,v,g,z,f315r1,U0,g2,M];(have p:0 < x.1.length:=by have:x.1.length≠0:=fun e=>l (Yf e);omega);(have hxp: (0:Int) < (x.1.length:Int):=by have:x.1.length≠0:=fun e=>l (Yf e);omega);(have P:a∈b:=by rw[j];simp);obtain⟨⟨aA,U,aI⟩,X⟩:=hR a P;obtain⟨V,o⟩:=QjC X;have hal:=Hp aA J U;have hxl2:=Hp m.1 J m.2.1;(have q: (Qa a.1).length=a.1.length:=by simp[Zr]);(have hla:a.1.length=V.length+1:=by rw[o];simp);(have s: (Qa a.1)[V.length]? =some (Qd (pvR a)):=by rw[Xf,o];simp);(have G:IntKind.i64.wrap ((a.1.length:Int) - 1)=(V.length:Int):=by rw[QC (by omega) (by omega)];omega);(have hltA:V.length < a.1.length:=by omega);have O: ∀y∈x.1,y.mass < big:=fun y D=>B y (m.2.1 y D);have i:=Kk x.1 (pvR a) false A (by omega) O (B _ (U _ (by rw[o];simp)));rw[Qb f315l1.eq_1];cases S:Qx x.1 (pvR a);rw[S]at i;have Y:=fun k=>IH (c ++ [a]) x T w k (by rw[j];simp) m n (fun r f=>by rcases Zp.1 f with f | f;exact hz r f;simp at f;subst f;exact S);simp[-getElem?_pos,Ql,t,u,v,g,z,H,p,hg,U0,G,q,s,Qc,i,f315r0,K];refine Y _ ?_ ?_ ?_ ?_ <;> simp[t,u,Q];rw[S]at i;have E:Kg C N (Yr x.1 a.1,x.2):=⟨R2 _ _ m.1,fun y D=>by rcases VI aA D with h | h;exact m.2.1 y h;exact U y h,m.2.2⟩;have I:=QfX (a:=x.1) aA;have Y:=fun fr Z w k=>IH (c ++ [a]) (Yr x.1 a.1,fr) false w k (by rw[j];simp) ⟨E.1,E.2.1,Z⟩ (by show Sp _ (xv (Qx W.1) (Qx (Yr x.1 a.1)));rw[I,<- SX];exact n.sum (.mem (YL.2 ⟨a,P,rfl⟩))) (fun r f=>by show Qx (Yr x.1 a.1) (pvR r)=false;rw[I];simp only[xv];rcases Zp.1 f with f | f;have hl:=(Qkq (pre:=c.map fun r=>(pvR r,Qx r.1)) (post:=d.map fun r=>(pvR r,Qx r.1)) (a:=(pvR a,Qx a.1)) (by rw[j]at hT;simpa using hT)) (pvR r,Qx r.1) (YL.2 ⟨r,f,rfl⟩);simp only at hl;rw[hz r f,hl];rfl;simp at f;subst f;rw[S,(Zz.2 (by rw[o];simp))];rfl);simp[-getElem?_pos,Ql,t,u,v,g,z,H,p,hg,U0,G,q,s,Qc,i,(Kl x.1 a.1 false false A (by omega) (by omega) O (fun y D=>B y (U y D)))];refine Qgo b N hN A f315r0 _ (QkL C N b W A) c d a j aI (.undef) (.bx [.sl true 4 [],.sl true 1 []]) a.2 [] x.2 false w (Yr x.1 a.1) _ rfl m.2.2 ?_ ?_ ?_ ?_ ?_ ?_;simp[t];simp;simp[Q];simp[v];simp;intro ρ' fr' o2' L q0 q3 q4 q5;simp[f315r0,q5,K];refine Y fr' L o2' _ ?_ ?_ ?_ ?_ <;> simp[q0,q3,q4]
def Qc8 (C) (g:C.length < 1000000) (c:Asc C) (f: ∀x∈C,x.mass < big) (N) (h:N < 1000000) (a) (k: ∀r∈a,Kg C N r/\r.1≠[]) (i:Tri (a.map fun r=>(pvR r,Qx r.1))) (d:a.length < 1000000) (b) (l:Kg C N b) (o n j e):
  QkL C N a b e (call tb 315 [.sl o 2 (V0 a),.agg [.sl n 4 (Qa b.1),.sl j 1 (Zy b.2)]] e):=by
 rw[zcc 315 rfl rfl];simp[f315C];refine(fun m=>QjO C g c f N h a k i d b e .undef a [] b false false m rfl l (by rw[L8];exact .zero) (by simp)) _ ?_ ?_ ?_ ?_ <;> simp
end Go.Am
