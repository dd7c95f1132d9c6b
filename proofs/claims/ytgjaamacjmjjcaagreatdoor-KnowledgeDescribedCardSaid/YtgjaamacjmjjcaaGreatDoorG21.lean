/-
  Kn18, Kn20, Kn25, Kn26, Kn27, Kn28, Kn29, Kn30, Kn31.
-/
import Derived.Test.YtgjaamacjmjjcaaGreatDoorG20
import Derived.Test.YtgjaamacjmjjcaaGreatDoorG19
set_option linter.all false
open Go.Am.F
namespace Go.Am
set_option maxRecDepth 20000
structure RwI (C l:List Tm) (N:Nat) (rows:List Lm):Prop where
 v: ∀r∈rows,Kg C N r/\r.1≠[]
 tri:Tri (rows.map fun r=>(pvR r,Qx r.1))
 sp: ∀f,Sp (rows.map fun r=>Qx r.1) f↔Sp (l.map fun x=>Qx (QI x)) f
def QlR:Qx []=zv0:=rfl
def Qms {C l N a t} {x:Lm} (h:RwI C l N a) (c:Sp (a.map fun r=>Qx r.1) (xv (Qx (QI t)) (Qx x.1))) (e:x.1=[]):RwI C (l ++ [t]) N a:=by
 rw[e,QlR,Mb]at c;refine⟨h.v,h.tri,fun v=>⟨fun d=> ?_,fun d=> ?_⟩⟩;exact((h.sp v).1 d).mono fun y b=>by simp only[Xp];exact TE _ b
 refine d.sub fun y b=> ?_;rw[Xp]at b;rcases Zp.1 b with b | b;exact(h.sp y).2 (.mem b);simp at b;subst b;exact c
def QqU {C l N b t x} (h:RwI C l N b) (f:Kg C N x) (d:Sp (b.map fun r=>Qx r.1) (xv (Qx (QI t)) (Qx x.1))) (c: ∀r∈b,Qx x.1 (pvR r)=false) (k:x.1≠[]):RwI C (l ++ [t]) N (b ++ [x]):=by
 obtain⟨i,m⟩:=QjC k;refine⟨?_,?_,?_⟩;intro y a;rcases Zp.1 a with a | a;exact h.v y a;simp at a;subst a;exact⟨f,k⟩;rw[Xp];refine Dk (Zz.2 (by rw[m];simp)) h.tri fun y a=> ?_;obtain⟨z,j,rfl⟩:=YL.1 a;exact c z j;intro v;rw[Xp,Xp];constructor;refine Sp.sub fun y a=> ?_;rcases Zp.1 a with a | a;exact((h.sp y).1 (.mem a)).mono fun z c=>TE _ c;simp at a;subst a;have e:=((h.sp _).1 d).mono (M:=(l.map fun x=>Qx (QI x))++ [t].map fun x=>Qx (QI x)) fun z c=>TE _ c;have g:Sp ((l.map fun x=>Qx (QI x))++ [t].map fun x=>Qx (QI x)) (Qx (QI t)):= .mem (by simp);have:=g.sum e;rwa[Lj]at this;refine Sp.sub fun y a=> ?_;rcases Zp.1 a with a | a;exact((h.sp y).2 (.mem a)).mono fun z c=>TE _ c;simp at a;subst a;have e:=d.mono (M:=(b.map fun r=>Qx r.1)++ [x].map fun r=>Qx r.1) fun z c=>TE _ c;have g:Sp ((b.map fun r=>Qx r.1)++ [x].map fun r=>Qx r.1) (Qx x.1):= .mem (by simp);have:=e.sum g;rwa[SX,L8,Mb]at this
def Qnn (C l:Qj) (N:Nat) (bs:Qr) (r:Option (AV×Qr)):Prop:=∃(rows:List Lm) (xs:Z1),RwI C l N rows/\rows.length<=l.length/\r=some (.tup [.sl false 2 (V0 rows),.sl false 1 (Zy xs)],bs)
def QjN (C) (X:C.length < 1000000) (K:Asc C) (Q: ∀x∈C,x.mass < big) (l) (hl:l.length < 100000) (N: ∀x∈l,x.mass < 1000000) (J: ∀x∈l,∀y∈QI x,y∈C) (D):
  ∀d b a f g,l=b ++ d->RwI C b l.length a->a.length<=b.length->f.length<=b.length->g 0= .sl false 4 (Qa l)->g 4= .sl true 2 (V0 a)->g 5= .sl true 1 (Zy f)->g 6= .int .i64 b.length->
  Qnn C l l.length D (R tb (.loop f314l0) g D (Qh 0 (Qs tb f314r0 (QA f314 D)))):=by
 have M: ∀a:List Lm,ZD (V0 a)=true:=by intro a;induction a with | nil=>rfl | cons x r v=>have I:=ZL x.1;have P:=VU x.2;simp only[V0,ZO]at *;simp[ZD,U0,Q5,AV.gpfree,I,P,v]
 intro d;induction d with | nil=>intro b a f g i s A L q B H G;simp only[Qy]at i;subst i;have I:=M a;have P:=VU f;refine⟨a,f,s,A,?_⟩;rw[Qb f314l0.eq_1];simp[q,B,H,G,f314r0,I,P] | cons x d S=>intro b a f g i s A L q B H G;have U:=Qv i;have hll:=QD i;have t:=wr1 b.length (by omega);have E:=QF i;(have j:x∈l:=by rw[i];simp);have V:=N x j;obtain⟨o1,m⟩:=On x D (by omega);obtain⟨r,O,w,W,c⟩:=Qc8 C X K Q l.length (by omega) a s.v s.tri (by omega) (QI x,[(b.length:Int)]) (⟨Vr x,J x j,by simp,fun y T=>by simp at T;subst T;omega⟩) false false false D;(have p: (a.length+1)*48<=140737488355328:=by omega);(have n: (f.length+1)*8<=140737488355328:=by omega);(have k:V0 a ++ [U0 r]=V0 (a ++ [r]):=by simp[V0]);(have u: (Qa r.1).length=r.1.length:=by simp[Zr]);have Z:Zy [(b.length:Int)]=[[.int .i64 (b.length:Int)]]:=rfl;simp only[Z]at c;rw[Qb f314l0.eq_1];by_cases h:r.1=[];have v:=fun g=>S (b ++ [x]) a f g (by rw[i];simp) (Qms s w h) (by simp;omega) (by simp;omega);(have o:U0 r=[.sl false 4 [],.sl false 1 (Zy r.2)]:=by simp[U0,h,Qa]);rw[o]at c;simp[-getElem?_pos,Ql,q,B,G,U,E,t,Qc,m,c];refine v _ ?_ ?_ ?_ ?_ <;> simp[q,B,H];(have Y: (0:Int) < (r.1.length:Int):=by have:r.1.length≠0:=fun e=>h (Yf e);omega);(have z:0 < r.1.length:=by omega);have v:=fun g=>S (b ++ [x]) (a ++ [r]) (f ++ [(b.length:Int)]) g (by rw[i];simp) (QqU s O w W h) (by simp;omega) (by simp;omega);have o:U0 r=[.sl false 4 (Qa r.1),.sl false 1 (Zy r.2)]:=rfl;rw[o]at c k;simp[-getElem?_pos,Ql,q,B,H,G,U,E,t,Qc,m,c,u,z,p,n,(Ku a),(Xe f),k,(R8 f (b.length:Int))];refine v _ ?_ ?_ ?_ ?_ <;> simp[q]
def Qov (C) (g:C.length < 1000000) (a:Asc C) (c: ∀x∈C,x.mass < big) (l) (i:l.length < 100000) (e: ∀x∈l,x.mass < 1000000) (b: ∀x∈l,∀y∈QI x,y∈C) (o d):
  Qnn C l l.length d (call tb 314 [.sl o 4 (Qa l)] d):=by
 rw[zcc 314 rfl rfl];simp[f314C];refine(fun h=>QjN C g a c l i e b d l [] [] [] h rfl ⟨by simp,trivial,fun f=>Iff.rfl⟩ (by simp) (by simp)) _ ?_ ?_ ?_ ?_ <;> simp[V0,Zy]
def Fu (t): ∀l:Qj,Ww (l ++ [t])=if Ww l≠0 then Ww l else QZ t
 | []=>by simp[Ww];intro h;exact h.symm
 | x:: r=>by
  simp only[Xb,Ww,(Fu t r)];split;simp;simp
def Qlb (l t o b) (g:l.length < 100000000) (d: ∀x∈l,x.mass < big) (e:t.mass < big):call tb 246 [.sl o 4 (Qa l),.agg (Qd t)] b=some (.int .i64 (Tx l t),b):=by
 have h:=fun f=>Jq l t b g d e l [] f rfl;rw[zcc 246 rfl rfl];by_cases c:200 < l.length;have a: (200:Int) < (l.length:Int):=by omega
 simp[f246C,a,c,Tx];have a: ¬(200:Int) < (l.length:Int):=by omega
 rw[show Tx l t=if Ww l≠0 then Ww l else QZ t by rw[Tx,Qe c,Fu]];simp only[ne_eq,ite_not]at h ⊢;simp[f246C,a];refine h _ ?_ ?_ ?_ <;> simp
def Qou (l t o B) (Y:Qp l+t.nodes < 100000) (j: ∀x∈l,x.mass < 1000000) (R:t.mass < 1000000) (V:Tx l t=0):
  BW l t B (call tb 313 [.sl o 4 (Qa l),.agg (Qd t)] B):=by
 have N:=RC l;have E:=Qlb l t false B (by omega) (fun x i=>by have:=j x i;unfold big;omega) (by unfold big;omega);rw[V]at E;have Q: (YJ (l ++ [t])).length<=Qp l+t.nodes:=by have:=RM (l ++ [t]);rw[ZK]at this;simpa[Qp]using this
 have T:=WF (YJ (l ++ [t]));have m: ∀x∈Qq (YJ (l ++ [t])),x.mass < big:=fun x i=>by obtain⟨y,d,H⟩:=Tf.1 (Z7.1 i);have G:=SU H;(have K:y.mass < 1000000:=by rcases Zp.1 d with h | h;exact j y h;simp at h;subst h;exact R);unfold big;omega
 have u:=XY (YJ (l ++ [t]));have D: ∀y∈QI t,y∈Qq (YJ (l ++ [t])):=fun y d=>Z7.2 (Tf.2 ⟨t,by simp,d⟩);have z: ∀x∈l,∀y∈QI x,y∈Qq (YJ (l ++ [t])):=fun x i y d=>Z7.2 (Tf.2 ⟨x,by simp[i],d⟩);generalize Qq (YJ (l ++ [t]))=C at *;obtain⟨b,v,w,S,f⟩:=Qov C (by omega) u m l (by omega) j z false B;obtain⟨X,g⟩:=On t B (by omega);have p:Kg C l.length (QI t,[]):=⟨Vr t,D,by simp,fun y d=>by simp at d⟩;obtain⟨r,M,O,P,a⟩:=Qc8 C (by omega) u m l.length (by omega) b w.v w.tri (by omega) (QI t,[]) p false false true B;have n:r.1=[]↔IX l t:=by(have L: (b.map fun r=>(pvR r,Qx r.1)).map (·.2)=b.map fun r=>Qx r.1:=by simp);have G:=QbT w.tri (by rwa[L]) (fun x i=>by obtain⟨y,d,rfl⟩:=YL.1 i;exact P y d);rw[L,w.sp]at G;(have K:r.1=[]↔Qx r.1=zv0:=by constructor;intro e;rw[e];rfl;intro e;rcases A:r.1 with _ | ⟨y,W⟩;rfl;have J:Qx r.1 y=true:=Zz.2 (by rw[A];simp);rw[e]at J;cases J);rw[K,G];rfl
 have q: (Qa r.1).length=r.1.length:=by simp[Zr]
 simp only[Zy,Vn]at a;have I:=VU r.2;rw[zcc 313 rfl rfl];by_cases c:r.1=[];have k:U0 r=[.sl false 4 [],.sl false 1 (Zy r.2)]:=by simp[U0,c,Qa]
 rw[k]at a;refine⟨Zy r.2,0,?_,⟨fun _=>n.1 c,fun _=>rfl⟩⟩;simp[-getElem?_pos,Ql,Q0,f313C,E,f,g,a,Qc,I];have U: (0:Int) < (r.1.length:Int):=by have:r.1.length≠0:=fun e=>c (Yf e);omega
 have s:0 < r.1.length:=by omega
 have k:U0 r=[.sl false 4 (Qa r.1),.sl false 1 (Zy r.2)]:=rfl;rw[k]at a;refine⟨[],4,?_,⟨fun h=>absurd h (by decide),fun h=>absurd (n.2 h) c⟩⟩;simp[-getElem?_pos,Ql,Q0,f313C,E,f,g,a,Qc,I,q,s]
def Yx (s:Qj) (u:Tm):Qj:=QI u ++ YJ (s.filter fun t=>isB t XOR)
def XQ (m:Qj) (t:Tm):Bool:=isB t XOR || Qx m t
def NB (s:Qj) (u:Tm):Qj:=s.filter (XQ (Yx s u))
open Classical in
noncomputable def SS (s:Qj) (u:Tm):Bool:=decide (IX (NB s u) u)
structure SH (s:List Tm) (u:Tm):Prop where
 len:s.length<=200
 nod:Qp s+u.nodes < 90000
 mass: ∀x∈s,x.mass < 1000000
 um:u.mass < 1000000
 v: ∀x∈s,QZ x=0
 uv:QZ u=0
 ne: ∀x∈s,isB x XOR=true->QI x≠[]
 une:QI u≠[]
def UJ (p): ∀l:Qj,Qp (l.filter p)<=Qp l
 | []=>by simp
 | x:: r=>by
  have h:=UJ p r;simp only[GW];split;simp only[Qp];omega;simp only[Qp];omega
def Qav: ∀{l},(∀x∈l,QZ x=0)->Ww l=0
 | [],_=>rfl
 | x:: r,h=>by simp only[Ww,h x (by simp),ne_eq,PC,ZM];exact Qav fun y a=>h y (by simp[a])
def SH.right {s u} (h:SH s u):Tx (NB s u) u=0:=by
 have b: (NB s u).length<=s.length:=Ux _ _;have:=h.len;rw[Tx,Qe (by omega)];refine Qav fun x a=> ?_;rcases Zp.1 a with a | a;exact h.v x (VP.1 a).1;simp at a;subst a;exact h.uv
def A8 (a b):YJ (a ++ b)=YJ a ++ YJ b:=by
 induction a with | nil=>rfl | cons x a c=>simp[YJ,c]
def H6 {s u} (h:SH s u): (Yx s u).length < 90000:=by
 have a:=WH u;have d:=RM (s.filter fun t=>isB t XOR);have b:=UJ (fun t=>isB t XOR) s;have c:=h.nod;simp only[Yx,Q6];omega
def IE {s u} (h:SH s u): ∀x∈Yx s u,x.mass < big:=by
 intro x a;rcases Zp.1 a with a | a;have c:=SU a;have e:=h.um;unfold big;omega;obtain⟨y,d,b⟩:=Tf.1 a;have c:=SU b;have e:=h.mass y (VP.1 d).1;unfold big;omega
def QlS (l t):Qx (Qq l) t=Qx l t:=by
 rw[JM,Zz,Zz];exact Z7
def QuX (s u) (h:SH s u) (A):
  ∀k a j,s=a ++ k->j 3= .bx (Qd u)->j 11= .sl true 4 (Qa (Qq (Yx s u)))\/j 11= .sl false 4 (Qa (Qq (Yx s u)))->j 12= .sl true 4 (Qa (a.filter (XQ (Yx s u))))->j 42= .sl false 4 (Qa s)->j 43= .int .i64 s.length->j 44= .int .i64 a.length->
  R tb (.loop f539l1) j A (Qh 2 (Qs tb f539r0 (QA f539 A)))=some (.bool (SS s u),A):=by
 have N:=H6 h;have P:=WF (Yx s u);have J:=h.len;intro k;induction k with | nil=>intro a j r B q i f c l;simp only[Qy]at r;rw[<- r]at l i;have W:=UJ (XQ (Yx s u)) s;have L:=h.nod;obtain⟨v,e,K,X⟩:=QoR (NB s u) u false A (by unfold NB;omega) (fun x y=>h.mass x (VP.1 y).1) h.um h.right;have T:NB s u=s.filter (XQ (Yx s u)):=rfl;rw[T]at K;(have S:decide (e=0)=SS s u:=by unfold SS;rwa[JI]);rw[<- S];generalize s.filter (XQ (Yx s u))=Y at *;(obtain⟨I,q⟩: ∃o,j 11= .sl o 4 (Qa (Qq (Yx s u))):=by rcases q with h | h <;> exact⟨_,h⟩);rw[Qb f539l1.eq_1];simp[B,i,f,c,l,f539r0,Qc,K] | cons x k U=>intro a j r B q i f c l;have H:=Qv r;have Q:=QD r;have w:=wr1 a.length (by omega);have t:=QF r;(have G:x∈s:=by rw[r];simp);(have E:x.mass < big:=by have:=h.mass x G;unfold big;omega);have b:=RH x XOR false A;have d:=Tq (Qq (Yx s u)) x false A (by omega) (fun p O=>(IE h) p (Z7.1 O)) E (XY _);rw[QlS]at d;have V:=Ux (XQ (Yx s u)) a;(have m: ((a.filter (XQ (Yx s u))).length+1)*56<=140737488355328:=by omega);have z:=fun j=>U (a ++ [x]) j (by rw[r];simp);(obtain⟨I,g⟩: ∃o,j 11= .sl o 4 (Qa (Qq (Yx s u))):=by rcases q with h | h <;> exact⟨_,h⟩);simp only[XOR]at b;rw[Qb f539l1.eq_1];by_cases y:isB x XOR=true;(have C: (a ++ [x]).filter (XQ (Yx s u))=a.filter (XQ (Yx s u))++ [x]:=by simp[UW,XQ,y]);rw[C]at z;simp only[XOR]at y;rw[y]at b;generalize a.filter (XQ (Yx s u))=M at *;simp[i,f,c,l,H,t,w,Qc,b,m,ZH,QQ];refine z _ ?_ ?_ ?_ ?_ ?_ ?_ <;> simp[B,g,f,c];(have n:isB x XOR=false:=by simpa using y);simp only[XOR]at n;rw[n]at b;cases D:Qx (Yx s u) x;(have C: (a ++ [x]).filter (XQ (Yx s u))=a.filter (XQ (Yx s u)):=by simp[UW,XQ,XOR,n,D]);rw[C]at z;rw[D]at d;generalize a.filter (XQ (Yx s u))=M at *;simp[g,i,f,c,l,H,t,w,Qc,b,d,m,ZH,QQ];refine z _ ?_ ?_ ?_ ?_ ?_ ?_ <;> simp[B,g,i,f,c];(have C: (a ++ [x]).filter (XQ (Yx s u))=a.filter (XQ (Yx s u))++ [x]:=by simp[UW,XQ,XOR,n,D]);rw[C]at z;rw[D]at d;generalize a.filter (XQ (Yx s u))=M at *;simp[g,i,f,c,l,H,t,w,Qc,b,d,m,ZH,QQ];refine z _ ?_ ?_ ?_ ?_ ?_ ?_ <;> simp[B,g,f,c]
def QuW (s u) (h:SH s u) (m):
  ∀b a f,s=a ++ b->f 3= .bx (Qd u)->f 5= .sl true 4 (Qa (QI u ++ YJ (a.filter fun t=>isB t XOR)))->f 22= .sl false 4 (Qa s)->f 23= .int .i64 s.length->f 24= .int .i64 a.length->f 0= .sl false 4 (Qa s)->
  R tb (.loop f539l0) f m (Qh 0 (Qs tb f539r1 (QA f539 m)))=some (.bool (SS s u),m):=by
 have K:=H6 h;have G:=h.len;have D:=h.nod;intro b;induction b with | nil=>intro a f j p n d g i z;simp only[Qy]at j;rw[<- j]at i n;have C:=fun f=>QuX s u h m s [] f rfl;have w:=NX (Yx s u) false m (by omega) (IE h);have e:QI u ++ YJ (s.filter fun t=>isB t XOR)=Yx s u:=rfl;rw[e]at n;generalize Qq (Yx s u)=O at *;generalize Yx s u=Q at *;rw[Qb f539l0.eq_1];simp[n,d,g,i,z,f539r1,w];refine C _ ?_ ?_ ?_ ?_ ?_ ?_ <;> simp[p,Qa] | cons x b N=>intro a f j p n d g i z;have E:=Qv j;have I:=QD j;have v:=wr1 a.length (by omega);have y:=QF j;(have k:x∈s:=by rw[j];simp);have c:=RH x XOR false m;have o:=fun f=>N (a ++ [x]) f (by rw[j];simp);simp only[XOR]at c;rw[Qb f539l0.eq_1];by_cases r:isB x XOR=true;(have A: (a ++ [x]).filter (fun t=>isB t XOR)=a.filter (fun t=>isB t XOR)++ [x]:=by simp[UW,r]);(have J: (QI u ++ YJ (a.filter fun t=>isB t XOR)).length+ (QI x).length < 90000:=by have C:=WH u;have P:=RM (a.filter fun t=>isB t XOR);have p:=UJ (fun t=>isB t XOR) a;have S:=WH x;(have n:Qp s=Qp a+ (x.nodes+Qp b):=by rw[j,ZK];simp[Qp]);simp only[Q6];omega);(have q: ((QI u ++ YJ (a.filter fun t=>isB t XOR)).length+ (QI x).length)*56<=140737488355328:=by omega);rw[A,A8,<- ZU]at o;(have L:YJ [x]=QI x:=by simp[YJ]);rw[L]at o;simp only[XOR]at r;rw[r]at c;generalize QI u ++ YJ (a.filter fun t=>isB t XOR)=B at *;(have M: (Qa B).length=B.length:=by simp[Zr]);(have H: (Qa (QI x)).length=(QI x).length:=by simp[Zr]);simp[n,d,g,i,E,y,v,Qc,c,(Qdl x m (h.mass x k) (h.v x k) (h.ne x k r)),q,M,H];refine o _ ?_ ?_ ?_ ?_ ?_ ?_ <;> simp[p,z,d,g,QQ];(have l:isB x XOR=false:=by simpa using r);(have A: (a ++ [x]).filter (fun t=>isB t XOR)=a.filter (fun t=>isB t XOR):=by simp[UW,l]);rw[A]at o;simp only[XOR]at l;rw[l]at c;generalize QI u ++ YJ (a.filter fun t=>isB t XOR)=B at *;simp[d,g,i,E,y,v,Qc,c];refine o _ ?_ ?_ ?_ ?_ ?_ ?_ <;> simp[p,z,n,d,g]
def QoQ (s u) (h:SH s u) (o a):call tb 539 [.sl o 4 (Qa s),.agg (Qd u)] a=some (.bool (SS s u),a):=by
 rw[zcc 539 rfl rfl];simp[f539C,(Qdl u a h.um h.uv h.une),Qc];refine(fun b=>QuW s u h a s [] b rfl) _ ?_ ?_ ?_ ?_ ?_ ?_ <;> simp[YJ]
end Go.Am
namespace Go.Am
set_option maxRecDepth 20000
def bs2 (B:Qr) (ia1 ia2 x0:Nat) (c0 c1 c2:AV) (A1 A2:Z1) (lg:Bool):Qr:=((B.set ia1 (Qt A1)).set ia2 (Qt A2)).set x0 [c0,c1,c2,.bool lg]
def QcU {B ia1 a b} (h:a≠b) (f c d g i k j):bsS (bsS B ia1 b f c d g k) a b f c d i j=bs2 B ia1 a b f c d g i j:=by
 unfold bsS bs2;rw[JU _ _ (fun e=>h e.symm),T6]
def HG {B e d f b a A c} (h:B[e]? =some (Qt A)) (g:B[d]? =some [f,b,a,.bool c]):bsS B e d f b a A c=B:=by
 unfold bsS;rw[Oc h,Oc g]
def IZ {B b a j} (g e c A d) (h:b≠j) (f:a≠j): (bsS B b a g e c A d)[j]? =B[j]? :=by
 unfold bsS;rw[QG,Qe f,QG,Qe h]
def Qno (B:Qr) (ia1 ia2 x0:Nat) (c0 c1 c2:AV) (a1 a2 p1 p2:Z1) (q:Int) (r:Out):Prop:=∃(A1 A2:Z1) (J:QB) (lg:Bool),A1.length=a1.length/\A2.length=a2.length/\
 (lg= !(okE (Zg a1 p1 q) && okE (Zg a2 p2 q)))/\(lg=false->A1=Zg a1 p1 q/\A2=Zg a2 p2 q)/\r=some (.tup [],bs2 (B ++ [J]) ia1 ia2 x0 c0 c1 c2 A1 A2 lg)
def QhZ (B1:Qr) (ia1 ia2 x0:Nat) (c0 c1 c2:AV) (a2 p2:Z1) (q:Int) (A1:Z1) (lg1:Bool) (r:Out):Prop:=∃(A2:Z1) (lg:Bool),A2.length=a2.length/\(lg=(lg1 || !okE (Zg a2 p2 q)))/\(lg=false->A2=Zg a2 p2 q)/\r=some (.tup [],bs2 B1 ia1 ia2 x0 c0 c1 c2 A1 A2 lg)
def Qdt (B x0 ga gp ia1 ia2 ip1 ip2 c0 c1 c2 ua up a1 a2 p1 p2 q) (hx:B[x0]? =some [c0,c1,c2,.bool false]) (ha:B[ga]? =some [.gs ia1 0 1 a1.length,.gs ia2 0 1 a2.length,ua]) (hp:B[gp]? =some [.gs ip1 0 1 a1.length,.gs ip2 0 1 a2.length,up])
  (h1:B[ia1]? =some (Qt a1)) (h2:B[ia2]? =some (Qt a2)) (h3:B[ip1]? =some (Qt p1)) (h4:B[ip2]? =some (Qt p2)) (l1:a1.length=p1.length) (l2:a2.length=p2.length)
  (n1:ia1≠ia2) (n2:ia1≠ip1) (n3:ia1≠ip2) (n4:ia2≠ip1) (n5:ia2≠ip2) (n6:x0≠ia1) (n7:x0≠ia2) (n8:x0≠ip1) (n9:x0≠ip2)
  (hl1:a1.length < 1000000) (hl2:a2.length < 1000000) (b1: ∀i,(a1.getD i 0).natAbs<=1099511627776) (b2: ∀i,(a2.getD i 0).natAbs<=1099511627776) (b3: ∀i,(p1.getD i 0).natAbs<=1099511627776) (b4: ∀i,(p2.getD i 0).natAbs<=1099511627776) (hq:q.natAbs<=1099511627776):
  Qno B ia1 ia2 x0 c0 c1 c2 a1 a2 p1 p2 q (call tb 566 [.gp x0 0,.gp ga 0,.gp gp 0,.int .i64 q] B):=by
 obtain⟨J,hJ⟩: ∃J,J=[AV.gs ia1 0 1 a1.length,.gs ip1 0 1 a1.length,.gs ia2 0 1 a2.length,.gs ip2 0 1 a2.length]:=⟨_,rfl⟩;obtain⟨B1,hB1⟩: ∃B1,B ++ [J]=B1:=⟨_,rfl⟩;have hx':B1[x0]? =some [c0,c1,c2,.bool false]:=by rw[<- hB1];exact Zd hx _
 have h1':B1[ia1]? =some (Qt a1):=by rw[<- hB1];exact Zd h1 _
 have h2':B1[ia2]? =some (Qt a2):=by rw[<- hB1];exact Zd h2 _
 have h4':B1[ip2]? =some (Qt p2):=by rw[<- hB1];exact Zd h4 _
 have hj:B1[B.length]? =some J:=by rw[<- hB1];exact Yc
 have k1:=QJ h1;have k2:=QJ h2;have kx:=QJ hx;have S1:Es B1 ia1 ip1 x0 p1:=⟨QJ h1',QJ hx',(by rw[<- hB1];exact Zd h3 _),n2,fun e=>n6 e.symm,fun e=>n8 e.symm⟩;have key: ∀(A1:Z1) (lg1:Bool),A1.length=a1.length->∀ρ:Ye,ρ 0= .gp x0 0->ρ 3= .int .i64 q->ρ 30= .gs B.length 0 2 2->ρ 31= .int .i64 2->ρ 32= .int .i64 1->QhZ B1 ia1 ia2 x0 c0 c1 c2 a2 p2 q A1 lg1 (R tb (.loop f566l1) ρ (bsS B1 ia1 x0 c0 c1 c2 A1 lg1) (Qh 0 (QA f566 B))):=by intro A1 lg1 hA1 ρ q0 q3 q30 q31 q32;obtain⟨B2,hB2⟩: ∃B2,bsS B1 ia1 x0 c0 c1 c2 A1 lg1=B2:=⟨_,rfl⟩;(have x2:B2[x0]? =some [c0,c1,c2,.bool lg1]:=by rw[<- hB2];exact Ff S1 c0 c1 c2 A1 lg1);(have i2:B2[ia2]? =some (Qt a2):=by rwa[<- hB2,IZ c0 c1 c2 A1 lg1 n1 n7]);(have p2':B2[ip2]? =some (Qt p2):=by rwa[<- hB2,IZ c0 c1 c2 A1 lg1 n3 n9]);(have j2:B2[B.length]? =some J:=by rwa[<- hB2,IZ c0 c1 c2 A1 lg1 (by omega) (by omega)]);(have hself:bsS B2 ia2 x0 c0 c1 c2 (stE a2 p2 q 0) (lg1 || !okK a2 p2 q 0)=B2:=by(have e1:stE a2 p2 q 0=a2:=by simp[stE]);(have e2: (lg1 || !okK a2 p2 q 0)=lg1:=by simp[okK]);rw[e1,e2];exact HG i2 x2);have hbb:=fun A2 l2=>QcU (B:=B1) (ia1:=ia1) (fun e=>n7 e.symm) c0 c1 c2 A1 A2 lg1 l2;rw[hB2]at hbb;have hl0:=fun ρ=>QeF (⟨QJ i2,QJ x2,p2',n5,fun e=>n7 e.symm,fun e=>n9 e.symm⟩) c0 c1 c2 a2 q l2 hl2 b2 b4 hq lg1 (QhZ B1 ia1 ia2 x0 c0 c1 c2 a2 p2 q A1 lg1) (.gs B.length 0 2 2) (.int .i64 2) (.int .i64 1) B (by intro ρ' r0 r3 r30 r31 r32;refine⟨Zg a2 p2 q,(lg1 || !okE (Zg a2 p2 q)),X1 q l2,rfl,fun _=>rfl,?_⟩;rw[hbb];simp[f566r0,r32,QC];rw[Qb f566l1.eq_1];simp[f566r0,r30,r31]) (by intro A hA hok;refine⟨A,true,hA,by rw[hok];simp,fun h=>absurd h (by simp),?_⟩;rw[hbb]) a2.length 0 ρ (by omega) (by omega);rw[hself]at hl0;rw[hB2,Qb f566l1.eq_1];rw[hJ]at j2;simp[-getElem?_pos,Ql,q30,q31,q32,j2];apply hl0 <;> simp[q0,q3,q30,q31,q32]
 have hself1:bsS B1 ia1 x0 c0 c1 c2 (stE a1 p1 q 0) (false || !okK a1 p1 q 0)=B1:=by(have e1:stE a1 p1 q 0=a1:=by simp[stE]);(have e2: (false || !okK a1 p1 q 0)=false:=by simp[okK]);rw[e1,e2];exact HG h1' hx'
 have hl0:=fun ρ=>QeF S1 c0 c1 c2 a1 q l1 hl1 b1 b3 hq false (Qno B ia1 ia2 x0 c0 c1 c2 a1 a2 p1 p2 q) (.gs B.length 0 2 2) (.int .i64 2) (.int .i64 0) B (by intro ρ' r0 r3 r30 r31 r32;simp[f566r0,r32,QC];obtain⟨A2,lg,e1,e2,e3,e4⟩:=(fun ρ=>key (Zg a1 p1 q) (false || !okE (Zg a1 p1 q)) (X1 q l1) ρ) (upd (upd ρ' 87 (.int .i64 1)) 32 (.int .i64 1)) (by simp[r0]) (by simp[r3]) (by simp[r30]) (by simp[r31]) (by simp);simp only[T3]at e2 e4;refine⟨Zg a1 p1 q,A2,J,lg,X1 q l1,e1,?_,fun h=>⟨rfl,e3 h⟩,?_⟩;rw[e2];simp;rwa[hB1]) (by intro A hA hok;refine⟨A,a2,J,true,hA,rfl,by rw[hok];rfl,fun h=>absurd h (by simp),?_⟩;(have h5: (bsS B1 ia1 x0 c0 c1 c2 A true)[ia2]? =some (Qt a2):=by rwa[IZ c0 c1 c2 A true n1 n7]);rw[hB1,<- QcU (fun e=>n7 e.symm) c0 c1 c2 A a2 true true,HG h5 (Ff S1 c0 c1 c2 A true)]) a1.length 0 ρ (by omega) (by omega);rw[hself1]at hl0;have k3:=QJ ha;have k4:=QJ hp;rw[zcc 566 rfl rfl];have hJ2:B ++ [[AV.gs ia1 0 1 a1.length,.gs ip1 0 1 a1.length,.gs ia2 0 1 a2.length,.gs ip2 0 1 a2.length]]=B1:=by rw[<- hB1,hJ]
 rw[hJ]at hj;simp[-getElem?_pos,Ql,Q0,f566C,ha,hp,hJ2];rw[Qb f566l1.eq_1];simp[-getElem?_pos,Ql,hj];apply hl0 <;> simp
end Go.Am
namespace Go.Am
set_option maxRecDepth 20000
structure ES (B:List (List AV)) (x0 n:Nat) (cols:AV) (rs:List (List Int)) (us:List Bool) (piv:List Int) (lg:Bool):Prop where
 x:B[x0]? =some [cols,.gs (if rs.length=0 then 0 else x0+4*rs.length) 0 (if rs.length=0 then 0 else 1) rs.length,.gs (if n=0 then 0 else x0+4*rs.length+n) 0 (if n=0 then 0 else 1) n,.bool lg]
 rl:rs.length≠0->B[x0+4*rs.length]? =some ((List.range rs.length).map fun i=> .gp (x0+4*i+3) 0)
 pl:n≠0->B[x0+4*rs.length+n]? =some (Qt piv)
 pn:piv.length=n
 row: ∀i,i < rs.length->B[x0+4*i+3]? =some [.gs (x0+4*i+1) 0 1 n,.gs (x0+4*i+2) 0 1 rs.length,.bool (us.getD i true)]/\B[x0+4*i+1]? =some (Qt ((rwE rs i).take n))/\B[x0+4*i+2]? =some (Qt ((rwE rs i).drop n))
 ul:us.length=rs.length
 wl: ∀i,i < rs.length->(rwE rs i).length=n+rs.length
 bd:lg=false->∀i,i < rs.length->okE (rwE rs i)=true
def Wl {a} (h:okE a=true) (i): (a.getD i 0).natAbs<=1099511627776:=by
 simp only[ZT];rcases ZI i a.length with b | b;rw[Za b];have:=Wc.1 h a[i] (V3 b);simpa using this;rw[ZP b];simp
def Ci {a:Z1} {n i} (h:i < n): (a.take n).getD i 0=a.getD i 0:=by
 simp[ZT,h]
def Oo {a n c i} (h:c < n): ((rwE a i).take n).getD c 0=ceE a i c:=Ci h
def Sg {m x0 i} (h:i < m): ((List.range m).map fun i=>AV.gp (x0+4*i+3) 0)[i]? =some (.gp (x0+4*i+3) 0):=by simp[h]
def OU (m a): ((List.range m).map fun i=>AV.gp (a+4*i+3) 0).length=m:=by simp
def Ee (b a c): ∀i,(scE b a c i).2<=i
 | 0=>by simp[scE]
 | i+1=>by
  have d:=Ee b a c i;simp only[scE];split;split <;> simp only <;> omega;omega
def J6:Rv->AV
 | none=> .int .i64 (-1)
 | some j=> .int .i64 (j:Int)
def QtA {B u n cols a g piv} (h:ES B u n cols a g piv false) (hm:a.length < 100000) (hn:n < 100000) (c) (hc:c < n) (K) (Q:Out->Prop)
  (hq: ∀y:Ye,y 0= .gp u 0->y 1= .int .i64 (c:Int)->y 4=J6 (scE a g c a.length).1->y 5= .int .i64 ((scE a g c a.length).2:Int)->Q (R tb f564r0 y B K)):
  ∀d i r,a.length - i<=d->i<=a.length->r 0= .gp u 0->r 1= .int .i64 (c:Int)->r 4=J6 (scE a g c i).1->r 5= .int .i64 ((scE a g c i).2:Int)->
   r 18= .gs (if a.length=0 then 0 else u+4*a.length) 0 (if a.length=0 then 0 else 1) a.length->r 19= .int .i64 a.length->r 20= .int .i64 i->
  Q (R tb (.loop f564l0) r B (Qh 2 (Qs tb f564r0 K))):=by
 intro d;induction d with | zero=>intro i r hd hi E w p G f j o;(have:i=a.length:=by omega);subst this;rw[Qb f564l0.eq_1];simp[f,j,o];apply hq <;> simp[E,w,p,G] | succ d IH=>intro i r hd hi E w p G f j o;by_cases k:i < a.length;(have t:a.length≠0:=by omega);rw[Qe t,Qe t]at f;have hx:=h.x;rw[Qe t,Qe t]at hx;(have hI: (i:Int) < (a.length:Int):=by omega);(have hw1:IntKind.i64.wrap ((i:Int)+1)=((i+1:Nat):Int):=by rw[QC (by omega) (by omega)];omega);have C:=h.rl t;have z:=Sg (x0:=u) k;have D:=OU a.length u;obtain⟨O,r2,r3⟩:=h.row i k;have hwl:=h.wl i k;(have hlc:c < ((rwE a i).take n).length:=by rw[Z9];omega);have A:=XW hlc;rw[Oo hc]at A;(have I: (Qt ((rwE a i).take n)).length=n:=by rw[YC,Z9];omega);have H:c+1<=n:=hc;(have J: (c:Int) < (n:Int):=by omega);have hl3:=QJ O;have hb:=Wl (h.bd rfl i k) c;have X: (ceE a i c).natAbs<=1099511627776:=hb;have s:i+1<=a.length:=k;have hscl:=Ee a g c i;(have hw2:IntKind.i64.wrap (((scE a g c i).2:Int)+1)=(((scE a g c i).2+1:Nat):Int):=by rw[QC (by omega) (by omega)];omega);(have b5:Qn .add (.int .i64 ((scE a g c i).2:Int)) (.int .i64 1)=some (.int .i64 (((scE a g c i).2+1:Nat):Int)):=by simp[Qn,toI,hw2]);(have b6:Qn .add (.int .i64 (i:Int)) (.int .i64 1)=some (.int .i64 ((i+1:Nat):Int)):=by simp[Qn,toI,hw1]);(have W:Qn .lss (.int .i64 (i:Int)) (.int .i64 (a.length:Int))=some (.bool true):=by simp[Qn,hI]);(have V:Qn .eql (.int .i64 (ceE a i c)) (.int .i64 0)=some (.bool (decide (ceE a i c=0))):=by by_cases t:ceE a i c=0 <;> simp[Qn,t]);have q:=fun r=>IH (i+1) r (by omega) s;rw[Qe t,Qe t]at q;have ca:=fun B=>JW (n:=ceE a i c) (by omega) (by omega) B;rw[Qb f564l0.eq_1];cases hu:g.getD i true;rw[hu]at O;by_cases S:ceE a i c=0;(have T:acE a g c i=false:=by simp[acE,S]);(have e:scE a g c (i+1)=scE a g c i:=by simp[scE,T]);rw[e]at q;have d1:=Xy S;rw[d1]at V;generalize ceE a i c=v at *;generalize (List.range a.length).map (fun i=>AV.gp (u+4*i+3) 0)=gl at *;generalize (rwE a i).take n=tk at *;simp[-getElem?_pos,Ql,Q0,-Qn,w,p,G,f,j,o,b5,b6,W,V,C,z,D,k,s,O,r2,I,H,J,A];apply q <;> simp[E,w,p,G,f,j];have d1:=Y0 S;(have T:acE a g c i=true:=by simp only[acE,hu,d1];rfl);rw[d1]at V;rcases U: (scE a g c i).1 with _ | b;(have e:scE a g c (i+1)=(some i,(scE a g c i).2+1):=by simp[scE,T,U]);rw[e]at q;rw[U]at p;simp only[J6]at p q;generalize ceE a i c=v at *;generalize (List.range a.length).map (fun i=>AV.gp (u+4*i+3) 0)=gl at *;generalize (rwE a i).take n=tk at *;generalize (scE a g c i).2=cnt at *;simp[-getElem?_pos,Ql,Q0,-Qn,w,p,G,f,j,o,b5,b6,W,V,C,z,D,k,s,O,r2,I,H,J,A,show Qn .lss (.int .i64 (-1)) (.int .i64 0)=some (.bool true)from rfl];apply q <;> simp[E,w,f,j];obtain⟨s1,s2,s3,s4⟩:=(scI a g c i).sm b U;(have m:b < a.length:=by omega);have M:=Sg (x0:=u) m;obtain⟨t1,t2,t3⟩:=h.row b m;have hwlb:=h.wl b m;(have Z:c < ((rwE a b).take n).length:=by rw[Z9];omega);have x:=XW Z;rw[Oo hc]at x;(have P: (Qt ((rwE a b).take n)).length=n:=by rw[YC,Z9];omega);have Y: (ceE a b c).natAbs<=1099511627776:=Wl (h.bd rfl b m) c;have cb:=fun B=>JW (n:=ceE a b c) (by omega) (by omega) B;have hl3b:=QJ t1;(have hbI: ¬(b:Int) < 0:=by omega);(have N: (b:Int) < (a.length:Int):=by omega);have hb1:b+1<=a.length:=m;(have b9:Qn .lss (.int .i64 (b:Int)) (.int .i64 0)=some (.bool false):=by simp[Qn]);(have L:Qn .lss (.int .i64 ((ceE a i c).natAbs:Int)) (.int .i64 ((ceE a b c).natAbs:Int))=some (.bool (decide ((ceE a i c).natAbs < (ceE a b c).natAbs))):=by by_cases t: (ceE a i c).natAbs < (ceE a b c).natAbs;(have: ((ceE a i c).natAbs:Int) < ((ceE a b c).natAbs:Int):=by omega);simp only[Qn,QU,Xy t,Xy this];(have: ¬((ceE a i c).natAbs:Int) < ((ceE a b c).natAbs:Int):=by omega);simp only[Qn,QU,Y0 t,Y0 this]);rw[U]at p;simp only[J6]at p;by_cases l: (ceE a i c).natAbs < (ceE a b c).natAbs;(have e:scE a g c (i+1)=(some i,(scE a g c i).2+1):=by simp[scE,T,U,l]);rw[e]at q;simp only[J6]at q;rw[Xy l]at L;clear l s4 hb X Y e;generalize ((ceE a i c).natAbs:Int)=va at *;generalize ((ceE a b c).natAbs:Int)=vba at *;generalize ceE a i c=v at *;generalize ceE a b c=vb at *;generalize (List.range a.length).map (fun i=>AV.gp (u+4*i+3) 0)=gl at *;generalize (rwE a i).take n=tk at *;generalize (rwE a b).take n=tkb at *;generalize (scE a g c i).2=cnt at *;simp[-getElem?_pos,Ql,Q0,-Qn,E,w,p,G,f,j,o,b5,b6,W,V,b9,L,C,z,D,k,s,O,r2,I,H,J,A,hx,M,t1,t2,P,x,ca,cb,N,hb1];apply q <;> simp[E,w,f,j];(have e:scE a g c (i+1)=(some b,(scE a g c i).2+1):=by simp[scE,T,U,l]);rw[e]at q;simp only[J6]at q;rw[Y0 l]at L;clear l s4 hb X Y e;generalize ((ceE a i c).natAbs:Int)=va at *;generalize ((ceE a b c).natAbs:Int)=vba at *;generalize ceE a i c=v at *;generalize ceE a b c=vb at *;generalize (List.range a.length).map (fun i=>AV.gp (u+4*i+3) 0)=gl at *;generalize (rwE a i).take n=tk at *;generalize (rwE a b).take n=tkb at *;generalize (scE a g c i).2=cnt at *;simp[-getElem?_pos,Ql,Q0,-Qn,E,w,p,G,f,j,o,b5,b6,W,V,b9,L,C,z,D,k,s,O,r2,I,H,J,A,hx,M,t1,t2,P,x,ca,cb,N,hb1];apply q <;> simp[E,w,p,f,j];rw[hu]at O;(have T:acE a g c i=false:=by simp only[acE,hu];rfl);(have e:scE a g c (i+1)=scE a g c i:=by simp[scE,T]);rw[e]at q;generalize (List.range a.length).map (fun i=>AV.gp (u+4*i+3) 0)=gl at *;simp[-getElem?_pos,Ql,Q0,-Qn,p,G,f,j,o,b5,b6,W,C,z,D,k,s,O];apply q <;> simp[E,w,p,G,f,j];exact IH i r (by omega) hi E w p G f j o
end Go.Am
namespace Go.Am
set_option maxRecDepth 20000
def Eg {a p q n}:Zg a p q=Zg (a.take n) (p.take n) q ++ Zg (a.drop n) (p.drop n) q:=by
 unfold Zg;rw[<- List.take_zipWith,<- List.drop_zipWith,PA]
def Hg (a b):okE (a ++ b)=(okE a && okE b):=by simp[okE]
def PZ {a:Z1} (h: ∀i,(a.getD i 0).natAbs<=1099511627776) (n i): ((a.take n).getD i 0).natAbs<=1099511627776:=by
 by_cases b:i < n;simp_all;grind
def PY {a:Z1} (h: ∀i,(a.getD i 0).natAbs<=1099511627776) (n i): ((a.drop n).getD i 0).natAbs<=1099511627776:=by
 simp_all
def QfM {v B} {c n} {f} {a} {E} {s} (hP:ZF v B) (O:v.length<=c) (h:ES B c n f a E s false) (hm:a.length < 100000) (hn:n < 100000) {i b} (k:i < a.length) (C:b < a.length) (hib:i≠b) (q) (M:q.natAbs<=1099511627776):
  ∃(A:Z1) (l:Bool) (z:Qr),ES z c n f (a.set i A) E s l/\ZF v z/\(l= !okE (Zg (rwE a i) (rwE a b) q))/\(l=false->A=Zg (rwE a i) (rwE a b) q)/\A.length=n+a.length/\
   call tb 566 [.gp c 0,.gp (c+4*i+3) 0,.gp (c+4*b+3) 0,.int .i64 q] B=some (.tup [],z):=by
 obtain⟨r1,H,G⟩:=h.row i k;obtain⟨t1,t2,Y⟩:=h.row b C;have wi:=h.wl i k;have wb:=h.wl b C;have D:=Wl (h.bd rfl i k);have I:=Wl (h.bd rfl b C);have t: ((rwE a i).take n).length=n:=by grind
 have y: ((rwE a i).drop n).length=a.length:=by grind
 have l3: ((rwE a b).take n).length=n:=by grind
 have l4: ((rwE a b).drop n).length=a.length:=by grind
 have W:=Qdt B c (c+4*i+3) (c+4*b+3) (c+4*i+1) (c+4*i+2) (c+4*b+1) (c+4*b+2) _ _ _ _ _ ((rwE a i).take n) ((rwE a i).drop n) ((rwE a b).take n) ((rwE a b).drop n) q h.x (by rwa[t,y]) (by rwa[t,y]) H G t2 Y (by omega) (by omega) (by omega) (by omega) (by omega) (by omega) (by omega) (by omega) (by omega) (by omega) (by omega) (by omega) (by omega) (PZ D n) (PY D n) (PZ I n) (PY I n) M;obtain⟨p,o,J,l,P,R,K,e4,T⟩:=W;rw[t]at P;rw[y]at R;have r: (p ++ o).length=n+a.length:=by grind
 have u:Zg (rwE a i) (rwE a b) q=Zg ((rwE a i).take n) ((rwE a b).take n) q ++ Zg ((rwE a i).drop n) ((rwE a b).drop n) q:=Eg;rw[<- Hg,<- u]at K;have Z:=QJ h.x;have X:=QJ H;have V:=QJ G;refine⟨p ++ o,l,_,?_,?_,K,fun h=>by grind,r,T⟩;have d: ∀j,j≠c+4*i+1->j≠c+4*i+2->j≠c->∀(x:QB),B[j]? =some x->(bs2 (B ++ [J]) (c+4*i+1) (c+4*i+2) c f (.gs (if a.length=0 then 0 else c+4*a.length) 0 (if a.length=0 then 0 else 1) a.length) (.gs (if n=0 then 0 else c+4*a.length+n) 0 (if n=0 then 0 else 1) n) p o l)[j]? =some x:=by intro j j1 N j3 x m;unfold bs2;rw[QG,Qe (fun e=>j3 e.symm),QG,Qe (fun e=>N e.symm),QG,Qe (fun e=>j1 e.symm)];grind
 refine⟨?_,?_,?_,h.pn,?_,?_,?_,?_⟩;rw[WZ];unfold bs2;rw[QG,Qg rfl,Qg (by simp;omega)];rw[WZ];intro w;exact d _ (by omega) (by omega) (by omega) _ (h.rl w);rw[WZ];intro w;exact d _ (by omega) (by omega) (by omega) _ (h.pl w);rw[WZ];intro j m;obtain⟨S,U,L⟩:=h.row j m;refine⟨d _ (by omega) (by omega) (by omega) _ S,?_,?_⟩;by_cases g:j=i;subst g;rw[Po _ _ _ _ k,Qg rfl];have: (p ++ o).take n=p:=by grind
 rw[this];unfold bs2;rw[QG,Qe (by omega),QG,Qe (by omega),QG,Qg rfl,Qg (by simp;omega)];rw[Po _ _ _ _ k,Qe g];exact d _ (by omega) (by omega) (by omega) _ U;by_cases g:j=i;subst g;rw[Po _ _ _ _ k,Qg rfl];have: (p ++ o).drop n=o:=by grind
 rw[this];unfold bs2;rw[QG,Qe (by omega),QG,Qg rfl,Qg (by simp;omega)];rw[Po _ _ _ _ k,Qe g];exact d _ (by omega) (by omega) (by omega) _ L;rw[WZ];exact h.ul;rw[WZ];intro j m;rw[Po _ _ _ _ k];split;omega;exact h.wl j m;rw[WZ];intro Q j m;rw[Po _ _ _ _ k];split;grind;exact h.bd rfl j m;unfold bs2;exact(((hP.app [J]).set (by omega) _).set (by omega) _).set (by omega) _
def Qfd (B:Qr) (x0 n:Nat) (cols:AV) (rs:Xv) (us:WN) (piv:Z1) (c b k:Nat):Prop:=
 (orE rs us c b k=true/\ES B x0 n cols (rnE rs us c b k) us piv false)\/(orE rs us c b k=false/\∃rs',rs'.length=rs.length/\ES B x0 n cols rs' us piv true)
def Qjl {d a c b k} (h:orE d a c b k=false):orE d a c b (k+1)=false:=by simp[orE,h]
def JQ:=@Int.natAbs_tdiv
def QtB {B0 j n cols a us piv} (hx0:B0.length<=j) (hm:a.length < 100000) (hn:n < 100000) (H: ∀i,i < a.length->(rwE a i).length=n+a.length) (hbd: ∀i,i < a.length->okE (rwE a i)=true) (c) (hc:c < n) (b) (hb:b < a.length) (hbn:ceE a b c≠0) (K) (Q:Out->Prop)
  (hq: ∀(M:Ye) (W:Qr),M 0= .gp j 0->M 1= .int .i64 (c:Int)->ZF B0 W->Qfd W j n cols a us piv c b a.length->Q (R tb (.loop f564l2) M W K)):
  ∀d k B q,a.length - k<=d->k<=a.length->ZF B0 B->Qfd B j n cols a us piv c b k->q 0= .gp j 0->q 1= .int .i64 (c:Int)->q 4= .int .i64 (b:Int)->
   q 93= .gs (j+4*a.length) 0 1 a.length->q 94= .int .i64 a.length->q 95= .int .i64 k->
  Q (R tb (.loop f564l1) q B (Qh 4 (Qh 1 (Qs tb (.loop f564l2) K)))):=by
 have hz:a.length≠0:=by omega
 intro d;induction d with | zero=>intro k B q hd hk hP hI y D C f e s;(have:k=a.length:=by omega);subst this;rw[Qb f564l1.eq_1];simp_all | succ d IH=>intro k B q hd hk hP hI y D C f e s;by_cases g:k < a.length;(have hkI: (k:Int) < (a.length:Int):=by omega);have p:k+1<=a.length:=g;(have hw1:IntKind.i64.wrap ((k:Int)+1)=((k+1:Nat):Int):=by rw[QC (by omega) (by omega)];omega);(have b1:Qn .lss (.int .i64 (k:Int)) (.int .i64 (a.length:Int))=some (.bool true):=by simp_all);(have b2:Qn .add (.int .i64 (k:Int)) (.int .i64 1)=some (.int .i64 ((k+1:Nat):Int)):=by simp_all);have r:=Sg (x0:=j) g;have hgpb:=Sg (x0:=j) hb;have m:=OU a.length j;have hb1:b+1<=a.length:=hb;(have hbI: (b:Int) < (a.length:Int):=by omega);have O:c+1<=n:=hc;(have T: (c:Int) < (n:Int):=by omega);(obtain⟨o,lg,x,hcl⟩: ∃(o:Xv) (lg:Bool),ES B j n cols o us piv lg/\o.length=a.length:=by rcases hI with⟨_,h⟩ | ⟨_,N,D,h⟩;exact⟨_,_,h,XT _ _ _ _ _⟩;grind);have hgp':=r;have hx:=x.x;rw[hcl,Qe hz,Qe hz]at hx;have u:=x.rl (by omega);rw[hcl]at u;obtain⟨L,r2,r3⟩:=x.row k (by omega);have hwk:=x.wl k (by omega);(have hlc:c < ((rwE o k).take n).length:=by rw[Z9];omega);have E:=XW hlc;rw[Oo hc]at E;(have hpl: (Qt ((rwE o k).take n)).length=n:=by rw[YC,Z9];omega);have hl3:=QJ L;have hlx:=QJ hx;(have V:Qn .neq (.int .i64 (ceE o k c)) (.int .i64 0)=some (.bool (!decide (ceE o k c=0))):=by simp);(have U:Qn .neq (.int .i64 (k:Int)) (.int .i64 (b:Int))=some (.bool (!decide (k=b))):=by by_cases hz:k=b;simp[Qn,hz];(have: ¬(k:Int)=(b:Int):=by omega);simp[Qn,hz,this]);(have z: (lg=true\/k=b\/us.getD k true=true\/ceE o k c=0)->Qfd B j n cols a us piv c b (k+1):=by intro hs;rcases hI with⟨ho,Z⟩ | ⟨ho,N,Y,X⟩;(have hlg:lg=false:=by have Y:=Z.x;grind);(have hno: (!decide (k=b) && acE a us c k)=false:=by rcases hs with h | h | h | h;grind;grind;simp only[acE,h];simp;(have e1:ceE o k c=ceE a k c:=by have g1:=(Z.row k (by rw[XT];omega)).2.1;rw[r2]at g1;injection g1 with g1;have P:=UV (fun l=>l[c]?) g1;rw[E]at P;(have hlc2:c < ((rwE (rnE a us c b k) k).take n).length:=by rw[Qbw hk,Z9,H k g];omega);rw[XW hlc2,Oo hc]at P;injection P with P;injection P with _ P;rw[P];unfold ceE;rw[Qbw hk]);rw[e1]at h;simp[acE,h]);refine .inl ⟨?_,?_⟩;simp only[orE,ho,hno];rfl;(have:rnE a us c b (k+1)=rnE a us c b k:=by simp only[rnE,hno];rfl);grind;exact .inr ⟨Qjl ho,N,Y,X⟩);have w:=fun hs q=>IH (k+1) B q (by omega) p hP (z hs);by_cases I:k=b;have G:=w (.inr (.inl I));rw[Xy I]at U;rw[Qb f564l1.eq_1];generalize (List.range a.length).map (fun i=>AV.gp (j+4*i+3) 0)=gl at *;simp[-getElem?_pos,-Qn,y,C,f,e,s,b1,b2,U,u,r,m,g,p];apply G <;> simp[y,D,C,f,e];rw[Y0 I]at U;cases hu:us.getD k true;rw[hu]at L;by_cases t:ceE o k c=0;have G:=w (.inr (.inr (.inr t)));rw[Xy t]at V;rw[Qb f564l1.eq_1];generalize ceE o k c=v at *;generalize (List.range a.length).map (fun i=>AV.gp (j+4*i+3) 0)=gl at *;generalize (rwE o k).take n=tk at *;simp[-getElem?_pos,Ql,Q0,-Qn,y,D,C,f,e,s,b1,b2,V,U,u,r,m,g,p,L,r2,hpl,O,T,E];apply G <;> simp[y,D,C,f,e];rw[Y0 t]at V;cases lg;(have hIf:orE a us c b k=true/\ES B j n cols (rnE a us c b k) us piv false:=by rcases hI with h | ⟨_,N,Y,X⟩;exact h;have Y:=x.x;have X:=X.x;grind);obtain⟨ho,Z⟩:=hIf;have hcl2:=XT a us c b k;have e1:rwE (rnE a us c b k) k=rwE a k:=Qbw hk;have e2:rwE (rnE a us c b k) b=rwE a b:=Qwj hk;obtain⟨v1,v2,v3⟩:=Z.row k (by omega);obtain⟨w1,w2,w3⟩:=Z.row b (by omega);rw[e1]at v2;rw[e2]at w2;(have hkl:c < ((rwE a k).take n).length:=by rw[Z9,H k g];omega);(have hbl:c < ((rwE a b).take n).length:=by rw[Z9,H b hb];omega);have pk:=XW hkl;have pb:=XW hbl;rw[Oo hc]at pk pb;(have plk: (Qt ((rwE a k).take n)).length=n:=by grind);(have plb: (Qt ((rwE a b).take n)).length=n:=by rw[YC,Z9,H b hb];omega);have bk:=Wl (hbd k g) c;(have J:ceE o k c=ceE a k c:=by grind);rw[J]at t V;(have hac:acE a us c k=true:=by simp only[acE,hu,Y0 t];rfl);(have hq: ((ceE a k c).tdiv (ceE a b c)).natAbs<=1099511627776:=by rw[JQ];exact WP (Ng _ _) bk);(have b10:Qn .quo (.int .i64 (ceE a k c)) (.int .i64 (ceE a b c))=some (.int .i64 ((ceE a k c).tdiv (ceE a b c))):=by show(if IntKind.i64=IntKind.i64/\ceE a b c≠0 then some (toI IntKind.i64 ((ceE a k c).tdiv (ceE a b c)))else none)=_;rw[Qg ⟨rfl,hbn⟩,toI,(QC (by omega) (by omega))]);obtain⟨A,lg2,W,Y,X,q3,q4,q5,q6⟩:=QfM hP hx0 Z (by omega) hn (i:=k) (b:=b) (by omega) (by omega) I _ hq;rw[e1,e2]at q3 q4;(have hnx:Qfd W j n cols a us piv c b (k+1):=by(have hcd: (!decide (k=b) && acE a us c k)=true:=by grind);cases lg2;(have S:okE (nwE a c b k)=true:=by(have:okE (Zg (rwE a k) (rwE a b) ((ceE a k c).tdiv (ceE a b c)))=true:=by grind);exact this);refine .inl ⟨?_,?_⟩;simp only[orE,ho,S];simp;(have:rnE a us c b (k+1)=(rnE a us c b k).set k A:=by simp only[rnE,hcd,QU];rw[q4 rfl];rfl);grind;(have S:okE (nwE a c b k)=false:=by(have:okE (Zg (rwE a k) (rwE a b) ((ceE a k c).tdiv (ceE a b c)))=false:=by grind);exact this);refine .inr ⟨?_,_,?_,Y⟩;simp only[orE,hcd,S];simp;rw[WZ,hcl2]);have G:=fun q=>IH (k+1) W q (by omega) p X hnx;have hlw:=QJ w1;rw[Qb f564l1.eq_1];clear z w hI t J bk hq q3 q4 q5 hnx;generalize (ceE a k c).tdiv (ceE a b c)=qq at *;generalize ceE a k c=v at *;generalize ceE a b c=vb at *;generalize (List.range a.length).map (fun i=>AV.gp (j+4*i+3) 0)=gl at *;generalize (rwE a k).take n=tk at *;generalize (rwE a b).take n=tkb at *;simp[-getElem?_pos,Ql,Q0,-Qn,y,D,C,f,e,s,b1,b2,V,U,b10,u,r,hgpb,m,g,p,hb1,hbI,L,v2,w1,w2,plk,plb,pk,pb,O,T,hx,q6];apply G <;> simp[y,D,C,f,e];have G:=w (.inl rfl);rw[Qb f564l1.eq_1];generalize ceE o k c=v at *;generalize (List.range a.length).map (fun i=>AV.gp (j+4*i+3) 0)=gl at *;generalize (rwE o k).take n=tk at *;simp[-getElem?_pos,Ql,Q0,-Qn,y,D,C,f,e,s,b1,b2,V,U,u,r,m,g,p,L,r2,hpl,O,T,E,hx];apply G <;> simp[y,D,C,f,e];rw[hu]at L;have G:=w (.inr (.inr (.inl hu)));rw[Qb f564l1.eq_1];generalize (List.range a.length).map (fun i=>AV.gp (j+4*i+3) 0)=gl at *;simp[-getElem?_pos,Ql,Q0,-Qn,y,C,f,e,s,b1,b2,U,u,r,m,g,p,L];apply G <;> simp[y,D,C,f,e];grind
end Go.Am
namespace Go.Am
set_option maxRecDepth 20000
def Kz {a:WN} {b j v} (c:b < a.length): (a.set b v).getD j true=if j=b then v else a.getD j true:=by
 simp only[ZT,QG];by_cases h:b=j;subst h;simp[c];have: ¬j=b:=fun e=>h e.symm;simp[h,this]
def Qpy {l B a n i g o d} (r:ZF l B) (v:l.length<=a) (h:ES B a n i g o d false) {b c} (q:b < g.length) (D:c < n) (p):
  ES ((B.set (a+4*g.length+n) (Qt (d.set c p))).set (a+4*b+3) [.gs (a+4*b+1) 0 1 n,.gs (a+4*b+2) 0 1 g.length,.bool true]) a n i g (o.set b true) (d.set c p) false/\
  ZF l ((B.set (a+4*g.length+n) (Qt (d.set c p))).set (a+4*b+3) [.gs (a+4*b+1) 0 1 n,.gs (a+4*b+2) 0 1 g.length,.bool true]):=by
 have f: ∀j,j≠a+4*g.length+n->j≠a+4*b+3->∀x:QB,B[j]? =some x->((B.set (a+4*g.length+n) (Qt (d.set c p))).set (a+4*b+3) [.gs (a+4*b+1) 0 1 n,.gs (a+4*b+2) 0 1 g.length,.bool true])[j]? =some x:=by intro j u z x C;rwa[QG,Qe (fun e=>z e.symm),QG,Qe (fun e=>u e.symm)]
 have t:=QJ (h.row b q).1;refine⟨⟨f _ (by omega) (by omega) _ h.x,fun m=>f _ (by omega) (by omega) _ (h.rl m),fun m=> ?_,by rw[WZ];exact h.pn,?_,by rw[WZ];exact h.ul,h.wl,h.bd⟩,(r.set (by omega) _).set (by omega) _⟩;rw[QG,Qe (by omega),QG,Qg rfl,Qg (QJ (h.pl (by omega)))];intro j s;obtain⟨y,w,A⟩:=h.row j s;refine⟨?_,f _ (by omega) (by omega) _ w,f _ (by omega) (by omega) _ A⟩;rw[Kz (by rwa[h.ul])];by_cases k:j=b;subst k;rw[Qg rfl,QG,Qg rfl,Qg (by rwa[WZ])];rw[Qe k];exact f _ (by omega) (by omega) _ y
def QeQ (B0:Qr) (x0 n m:Nat) (cols:AV) (piv:Z1) (c:Nat) (o:Option (Xv×WN×Int)) (r:Out):Prop:=∃B',ZF B0 B'/\r=some (.tup [],B')/\match o with
 | none=>∃rs' us',rs'.length=m/\ES B' x0 n cols rs' us' piv true
 | some (rs',us',p)=>rs'.length=m/\ES B' x0 n cols rs' us' (piv.set c p) false
def QtC {L k n m cols d} (z:L.length<=k) (hm:m < 100000) (hn:n < 100000) (c) (P:c < n) (t:d.getD c (-1)= -1) (hpl:d.length=n) (U):
  ∀f a g B r,a.length=m->msE a g c m < f->ZF L B->ES B k n cols a g d false->r 0= .gp k 0->r 1= .int .i64 (c:Int)->
  QeQ L k n m cols d c (coE c f a g) (R tb (.loop f564l2) r B (Qh 0 (QA f564 U))):=by
 intro f;induction f with | zero=>intro a g B r _ h;omega | succ f IH=>intro a g B r hl V hP h h0 h1;have Z:=scI a g c a.length;have E:=h.x;have hl3:=QJ E;(have u:d.set c (-1)=d:=by refine Oc ?_;(have:c < d.length:=by omega);rw[ZT,Za this]at t;rw[Za this];simp only[PD]at t;rw[t]);have hl0:=fun r=>QtA h (by omega) hn c P (Qh 1 (Qs tb (.loop f564l2) (Qh 0 (QA f564 U)))) (QeQ L k n m cols d c (coE c (f+1) a g)) (by intro ρ' S X N y;rcases x: (scE a g c a.length).1 with _ | b;obtain⟨D,hno⟩:=Z.nn x;(have Q:scE a g c a.length=(none,(scE a g c a.length).2):=by rw[<- x]);(have p:coE c (f+1) a g=some (a,g,-1):=by rw[coE,Q]);rw[p];rw[D]at y;refine⟨B,hP,?_,hl,?_⟩;simp[f564r0,S,y];rwa[u];obtain⟨w,s2,s3,s4⟩:=Z.sm b x;(have hz:a.length≠0:=by omega);(have s:n≠0:=by omega);rw[Qe hz,Qe hz,Qe s,Qe s]at E;have hrl:=h.rl hz;have G:=Sg (x0:=k) w;have O:=OU a.length k;obtain⟨r1,r2,r3⟩:=h.row b w;have H:=h.pl s;have hppl:=QJ H;have hb1:b+1<=a.length:=w;(have Y: (b:Int) < (a.length:Int):=by omega);have hc1:c+1<=n:=P;(have hcI: (c:Int) < (n:Int):=by omega);have hbl:=QJ r1;rw[x]at N;simp only[J6]at N;(have Q:scE a g c a.length=(some b,(scE a g c a.length).2):=by rw[<- x]);by_cases l: (scE a g c a.length).2=1;(have p:coE c (f+1) a g=some (a,g.set b true,(b:Int)):=by rw[coE,Q,l];simp);rw[p];obtain⟨e1,e2⟩:=Qpy hP z h w P (b:Int);refine⟨_,e2,?_,hl,e1⟩;rw[l]at y;have J:=Th d (b:Int) (n:=c) (by omega);(have A: (Qt d).length=n:=by rwa[YC]);(have n1: ¬k+4*a.length+n=k:=by omega);(have n2: ¬k+4*a.length+n=k+4*a.length:=by omega);(have n3: ¬k+4*a.length+n=k+4*b+3:=by omega);(have g1: (B.set (k+4*a.length+n) (Qt (d.set c (b:Int))))[k]? =some [cols,.gs (k+4*a.length) 0 1 a.length,.gs (k+4*a.length+n) 0 1 n,.bool false]:=by rwa[QG,Qe n1]);(have g2: (B.set (k+4*a.length+n) (Qt (d.set c (b:Int))))[k+4*a.length]? =some ((List.range a.length).map fun i=> .gp (k+4*i+3) 0):=by rwa[QG,Qe n2]);(have g3: (B.set (k+4*a.length+n) (Qt (d.set c (b:Int))))[k+4*b+3]? =some [.gs (k+4*b+1) 0 1 n,.gs (k+4*b+2) 0 1 a.length,.bool (g.getD b true)]:=by rwa[QG,Qe n3]);have hg1l:=QJ g3;generalize hPV:Qt (d.set c (b:Int))=PV at *;generalize hB1:B.set (k+4*a.length+n) PV=B1 at *;generalize (List.range a.length).map (fun i=>AV.gp (k+4*i+3) 0)=gl at *;simp[-getElem?_pos,Ql,Q0,f564r0,S,X,N,y,E,H,A,J,hc1,hcI,hB1,g1,g2,g3,G,O,hb1,Y];(have v: ¬((scE a g c a.length).2:Int)=1:=by omega);(have hcnt0: ¬((scE a g c a.length).2:Int)=0:=by omega);(have q: ¬(scE a g c a.length).2=0:=by omega);(have K:ceE a b c≠0:=by intro e;simp[acE,e]at s2);have hlt:=(CI h.wl w K (fun j hj hj2=>s4 j hj hj2) a.length (QY _)).2 (Z.tw b x (by omega));(have p:coE c (f+1) a g=if orE a g c b a.length then coE c f (rnE a g c b a.length) g else none:=by rw[coE,Q];simp only[Qe l]);rw[p];have hl1:=fun r=>QtB (piv:=d) (cols:=cols) (us:=g) z (by omega) hn h.wl (h.bd rfl) c P b w K (Qh 0 (QA f564 U)) (QeQ L k n m cols d c (if orE a g c b a.length then coE c f (rnE a g c b a.length) g else none)) (by intro T B2 p0 p1 C hI;rcases hI with⟨W,he2⟩ | ⟨W,o,q1',M⟩;rw[Qg W];exact IH _ g B2 T (by rwa[XT]) (by rw[<- hl]at V ⊢;omega) C he2 p0 p1;rw[Qe (by rw[W];simp)];refine⟨B2,C,?_,o,g,by omega,M⟩;have I:=M.x;have hl4:=QJ I;generalize (if o.length=0 then 0 else k+4*o.length)=i1 at *;generalize (if o.length=0 then 0 else 1)=i2 at *;generalize (if n=0 then 0 else k+4*o.length+n)=i3 at *;generalize (if n=0 then 0 else 1)=i4 at *;rw[Qb f564l2.eq_1];simp[-getElem?_pos,Ql,Q0,p0,I]) a.length 0 B r (by omega) (by omega) hP (.inl ⟨rfl,h⟩);simp[-getElem?_pos,Ql,Q0,f564r0,S,X,N,y,E,v,q];apply hl1 <;> simp[S,X,N]) a.length 0 r (by omega) (by omega);generalize hi1: (if a.length=0 then 0 else k+4*a.length)=i1 at *;generalize hi2: (if a.length=0 then 0 else 1)=i2 at *;generalize (if n=0 then 0 else k+4*a.length+n)=i3 at *;generalize (if n=0 then 0 else 1)=i4 at *;rw[Qb f564l2.eq_1];simp[-getElem?_pos,Ql,Q0,h0,E];apply hl0 <;> simp[h0,h1,J6,scE]
def Qo2 {f e n cols b} (i:f.length<=e) (m:n < 100000) (c) (j:c < n) (g:b.getD c (-1)= -1) (a) (l:a.length < 100000) (d B) (k:ZF f B) (h:ES B e n cols a d b false):
  QeQ f e n a.length cols b c (coE c (msE a d c a.length+1) a d) (call tb 564 [.gp e 0,.int .i64 (c:Int)] B):=by
 rw[zcc 564 rfl rfl];simp[f564C];apply(fun o=>QtC (cols:=cols) i l m c j g h.pn B (msE a d c a.length+1) a d B o rfl (by omega) k h) <;> simp
def Qle {e n a f} (c:Nat) (b i B) (h:ES B e n a b i f true):call tb 564 [.gp e 0,.int .i64 (c:Int)] B=some (.tup [],B):=by
 have d:=h.x;have g:=QJ d;generalize (if b.length=0 then 0 else e+4*b.length)=k at *;generalize (if b.length=0 then 0 else 1)=m at *;generalize (if n=0 then 0 else e+4*b.length+n)=j at *;generalize (if n=0 then 0 else 1)=l at *;rw[zcc 564 rfl rfl];simp[f564C];rw[Qb f564l2.eq_1];simp[-getElem?_pos,Ql,Q0,d]
end Go.Am
namespace Go.Am
def QdI (c): ∀f a d g i p,d.length=a.length->coE c f a d=some (g,i,p)->
  g.length=a.length/\i.length=d.length/\(∀j,d.getD j true=true->rwE g j=rwE a j/\i.getD j true=true)/\(p= -1\/∃b:Nat,p=(b:Int)/\b < a.length/\i.getD b true=true/\ceE g b c≠0)
 | 0,_,_,_,_,_,_,h=>by simp[coE]at h
 | f+1,a,d,g,i,p,s,h=>by
  rcases n: (scE a d c a.length).1 with _ | b;have m:scE a d c a.length=(none,(scE a d c a.length).2):=by rw[<- n]
  rw[coE,m]at h;simp only[QW,Zk]at h;obtain⟨rfl,rfl,rfl⟩:=h;exact⟨rfl,rfl,fun j l=>⟨rfl,l⟩,.inl rfl⟩;obtain⟨r,v,z,y⟩:=(scI a d c a.length).sm b n;have m:scE a d c a.length=(some b,(scE a d c a.length).2):=by rw[<- n]
  rw[coE,m]at h;simp only at h;by_cases k: (scE a d c a.length).2=1;rw[Qg k]at h;simp only[QW,Zk]at h;obtain⟨rfl,rfl,rfl⟩:=h;refine⟨rfl,by simp,fun j l=>⟨rfl,?_⟩,.inr ⟨b,rfl,r,?_,(by intro e;simp[acE,e]at v)⟩⟩;rw[Kz (by omega)];split;rfl;exact l;rw[Kz (by omega),Qg rfl];rw[Qe k]at h;split at h;obtain⟨q,u,t,o⟩:=QdI c f _ d g i p (by rwa[XT]) h;rw[XT]at q o;refine⟨q,u,fun j l=> ?_,o⟩;obtain⟨x,w⟩:=t j l;refine⟨?_,w⟩;rw[x];rw[UM _ _ _ _ _ (QY _)];have:acE a d c j=false:=by simp only[acE,l];rfl
  simp[this];cases h
def PvI (rs:Xv) (us:WN) (pv:Z1):Prop:=∀c,c < pv.length->pv.getD c (-1)= -1\/∃b:Nat,pv.getD c (-1)=(b:Int)/\b < rs.length/\us.getD b true=true/\ceE rs b c≠0
def LY {rs}: ∀c s,elE rs c=some s->s.1.length=rs.length/\s.2.1.length=rs.length/\s.2.2.length=c/\PvI s.1 s.2.1 s.2.2
 | 0,s,h=>by
  simp only[elE,QW]at h;subst h;exact⟨rfl,by simp,rfl,fun c f=>by simp at f⟩
 | c+1,s,h=>by
  simp only[elE]at h;rcases n:elE rs c with _ | a;rw[n]at h;simp at h;rw[n]at h;simp only[QN]at h;obtain⟨w,A,p,k⟩:=LY c a n;rcases f:coE c (msE a.1 a.2.1 c a.1.length+1) a.1 a.2.1 with _ | x;rw[f]at h;simp at h;rw[f]at h;simp only[Zn,QW]at h;subst h;obtain⟨y,z,q,i⟩:=QdI c _ a.1 a.2.1 x.1 x.2.1 x.2.2 (by omega) f;refine⟨by simp only;omega,by simp only;omega,by simp[p],?_⟩;intro d v;simp only[Q6,Rn]at v;simp only;by_cases g:d=c;subst g;have e: (a.2.2 ++ [x.2.2]).getD d (-1)=x.2.2:=by rw[ZT,Yv (by omega),p];simp
  rw[e];rcases i with i | ⟨b,j,r,l,o⟩;exact .inl i;exact .inr ⟨b,j,by omega,l,o⟩;have e: (a.2.2 ++ [x.2.2]).getD d (-1)=a.2.2.getD d (-1):=by rw[ZT,ZT,Y8 (by omega)]
  rw[e];rcases k d (by omega)with k | ⟨b,j,r,l,o⟩;exact .inl k;obtain⟨u,t⟩:=q b l;refine .inr ⟨b,j,by omega,t,?_⟩;unfold ceE at *;rwa[u]
def YM:List Q9->Int
 | []=>0
 | g:: r=>if ZA g≠0 then ZA g else YM r
def Uu (cols:Qj) (m i:Nat) (g:Q9):Z1:=cols.map (pwT g)++ (List.replicate m (0:Int)).set i 1
def Yn (cols:Qj) (l:List Q9):Xv:=(List.range l.length).map fun i=>Uu cols l.length i (l.getD i [])
def VY (cols:Qj) (m:Nat) (g:Q9):Z1:=cols.map (pwT g)++ List.replicate m 0
def meF:Option (Xv×WN×Z1)->Nat->Z1->Int
 | none,_,_=>3
 | some s,n,t=>rdE s.1 s.2.2 n 0 t
def meE (l:List Q9) (m:Q9):Int:=
 if 12 < l.length then 3 else if YM l≠0 then YM l else if ZA m≠0 then ZA m
 else if 12 < (Xz (l ++ [m])).length then 3
 else meF (elE (Yn (Xz (l ++ [m])) l) (Xz (l ++ [m])).length) (Xz (l ++ [m])).length (VY (Xz (l ++ [m])) l.length m)
end Go.Am
namespace Go.Am
set_option maxRecDepth 20000
def HD (x) (a:x.strip=x) (o B):appM 8 1 (.gs 0 0 0 0) (.sl o 1 [[x]]) B=some (.gs B.length 0 1 1,B ++ [[x]]):=by
 simp[appM,Xt,a]
def J0 (x) (g:x.strip=x) (o) {B c a} (f:B[c]? =some a) (b:a≠[]) (h:a.map AV.strip=a) (j:a.length < 1000000):
  appM 8 1 (.gs c 0 1 a.length) (.sl o 1 [[x]]) B=some (.gs B.length 0 1 (a.length+1),B.set c []++ [a ++ [x]]):=by
 have i: ¬a.length=0:=fun e=>b (Yf e);have d:Xt 1 (.sl o 1 [[x]]) B=some (1,[x]):=by simp[Xt,g]
 simp only[appM,d,QN];rw[Qg ⟨by omega,by omega⟩,Qe (by omega),Qe (by omega),Qg ⟨trivial,trivial⟩,f];simp only[QN];rw[Qg ⟨b,by omega⟩,Qe (by omega),G9,Z2 (QY _),h]
def gpL (x0 i:Nat):QB:=(List.range i).map fun i=>AV.gp (x0+4*i+3) 0
def EY (a i): (gpL a i).length=i:=by simp[gpL]
def QiW (a i): (gpL a i).map AV.strip=gpL a i:=by simp[gpL,AV.strip]
def QlP (a i):gpL a i ++ [.gp (a+4*i+3) 0]=gpL a (i+1):=by simp[gpL,List.range_succ]
structure SB (B:List (List AV)) (x0 n:Nat) (cols:AV) (rs:List (List Int)) (m i j:Nat):Prop where
 x:B[x0]? =some [cols,.gs (if i=0 then 0 else x0+4*i) 0 (if i=0 then 0 else 1) i,.gs (if j=0 then 0 else x0+4*i+j) 0 (if j=0 then 0 else 1) j,.bool false]
 rl:i≠0->B[x0+4*i]? =some (gpL x0 i)
 pl:j≠0->B[x0+4*i+j]? =some (Qt (List.replicate j (-1)))
 row: ∀k,k < i->B[x0+4*k+3]? =some [.gs (x0+4*k+1) 0 1 n,.gs (x0+4*k+2) 0 1 m,.bool false]/\B[x0+4*k+1]? =some (Qt ((rwE rs k).take n))/\B[x0+4*k+2]? =some (Qt ((rwE rs k).drop n))
 len:B.length=x0+1+4*i+j
def QuQ {B a n d g m i} (h:SB B a n d g m i 0) (I: (rwE g i).length=n+m) (p)
  (b:p=((if i=0 then B ++ [Qt ((rwE g i).take n),Qt ((rwE g i).drop n),[.gs (a+4*i+1) 0 1 n,.gs (a+4*i+2) 0 1 m,.bool false]]else(B ++ [Qt ((rwE g i).take n),Qt ((rwE g i).drop n),[.gs (a+4*i+1) 0 1 n,.gs (a+4*i+2) 0 1 m,.bool false]]).set (a+4*i) [])++ [gpL a (i+1)]).set a [d,.gs (a+4* (i+1)) 0 1 (i+1),.gs 0 0 0 0,.bool false]):
  SB p a n d g m (i+1) 0:=by
 have f:=h.len;obtain⟨C,l⟩: ∃C,C=B ++ [Qt ((rwE g i).take n),Qt ((rwE g i).drop n),[.gs (a+4*i+1) 0 1 n,.gs (a+4*i+2) 0 1 m,.bool false]]:=⟨_,rfl⟩;rw[<- l]at b;obtain⟨D,o⟩: ∃D,D=(if i=0 then C else C.set (a+4*i) []):=⟨_,rfl⟩;rw[<- o]at b;have r:C.length=a+4*i+4:=by rw[l];simp;omega
 have v:D.length=a+4*i+4:=by rw[o];split <;> simp[r]
 have z:C[a+4*i+1]? =some (Qt ((rwE g i).take n)):=by rw[l,Yv (by omega)];simp[f];rw[show a+4*i+1 - (a+1+4*i)=0 by omega];rfl
 have s:C[a+4*i+2]? =some (Qt ((rwE g i).drop n)):=by rw[l,Yv (by omega)];simp[f];rw[show a+4*i+2 - (a+1+4*i)=1 by omega];rfl
 have y:C[a+4*i+3]? =some [.gs (a+4*i+1) 0 1 n,.gs (a+4*i+2) 0 1 m,.bool false]:=by rw[l,Yv (by omega)];simp[f];rw[show a+4*i+3 - (a+1+4*i)=2 by omega];rfl
 have c: ∀j,j≠a->j≠a+4*i->∀x:QB,C[j]? =some x->p[j]? =some x:=by intro j u H x E;rw[b,QG,Qe (fun e=>u e.symm)];refine Zd ?_ _;rw[o];split;exact E;rwa[QG,Qe (fun e=>H e.symm)]
 refine⟨?_,?_,fun G=>absurd rfl G,?_,?_⟩;rw[b,QG,Qg rfl,Qg (by simp;omega)];simp;intro _;rw[b,QG,Qe (by omega)];have:a+4* (i+1)=D.length:=by omega
 rw[this,Yc];intro k J;by_cases q:k=i;subst q;exact⟨c _ (by omega) (by omega) _ y,c _ (by omega) (by omega) _ z,c _ (by omega) (by omega) _ s⟩;obtain⟨t,w,A⟩:=h.row k (by omega);refine⟨c _ (by omega) (by omega) _ ?_,c _ (by omega) (by omega) _ ?_,c _ (by omega) (by omega) _ ?_⟩;rw[l];exact Zd t _;rw[l];exact Zd w _;rw[l];exact Zd A _;rw[b];simp;omega
def QuP {B b n a i m j} (h:SB B b n a i m m j) (f)
  (c:f=((if j=0 then B else B.set (b+4*m+j) [])++ [Qt (List.replicate (j+1) (-1))]).set b [a,.gs (if m=0 then 0 else b+4*m) 0 (if m=0 then 0 else 1) m,.gs (b+4*m+ (j+1)) 0 1 (j+1),.bool false]):
  SB f b n a i m m (j+1):=by
 obtain⟨D,g⟩: ∃D,D=(if j=0 then B else B.set (b+4*m+j) []):=⟨_,rfl⟩;rw[<- g]at c;have q:D.length=b+1+4*m+j:=by rw[g];split <;> simp[(h.len)]
 have d: ∀k,k≠b->(j≠0->k≠b+4*m+j)->∀x:QB,B[k]? =some x->f[k]? =some x:=by intro k s v x r;rw[c,QG,Qe (fun e=>s e.symm)];refine Zd ?_ _;rw[g];split;exact r;rename_i u;rwa[QG,Qe (fun e=>v u e.symm)]
 refine⟨?_,?_,?_,?_,?_⟩;rw[c,QG,Qg rfl,Qg (by simp;omega)];simp;intro t;exact d _ (by omega) (by omega) _ (h.rl t);intro _;rw[c,QG,Qe (by omega)];have:b+4*m+ (j+1)=D.length:=by omega
 rw[this,Yc];intro k p;obtain⟨o,w,l⟩:=h.row k p;exact⟨d _ (by omega) (by omega) _ o,d _ (by omega) (by omega) _ w,d _ (by omega) (by omega) _ l⟩;rw[c];simp;omega
def Qwq {B d n b a} (h:SB B d n b a a.length a.length n) (f: ∀i,i < a.length->(rwE a i).length=n+a.length) (l: ∀i,i < a.length->okE (rwE a i)=true):
  ES B d n b a (List.replicate a.length false) (List.replicate n (-1)) false:=by
 refine⟨h.x,fun c=>h.rl c,fun c=>h.pl c,by simp,fun i e=> ?_,by simp,f,fun _=>l⟩;obtain⟨g,k,j⟩:=h.row i e;refine⟨?_,k,j⟩;rw[g];simp[ZT,e]
end Go.Am
namespace Go.Am
set_option maxRecDepth 20000
structure GH (l:List (List Pw)) (m:List Pw) (cols:List Tm):Prop where
 len:l.length<=12
 cl:cols.length<=12
 cm: ∀t∈cols,t.mass < 1000000
 ca:Asc cols
 ok: ∀g∈l,okG g
 okm:okG m
 keys: ∀g∈l,Asc (QV g)/\∀q∈g,q.1∈cols
 keym:Asc (QV m)/\∀q∈m,q.1∈cols
def MJ (a m i g): (Uu a m i g).length=a.length+m:=by simp[Uu]
def QjJ (a m i g): (Uu a m i g).take a.length=a.map (pwT g):=by
 rw[Uu,PM (by simp),Z2 (by simp)]
def BX:=@List.drop_append_of_le_length
def QjI (a m i g): (Uu a m i g).drop a.length=(List.replicate m (0:Int)).set i 1:=by
 rw[Uu,BX (by simp),PN (by simp)];rfl
def VL (cols l): (Yn cols l).length=l.length:=by simp[Yn]
def SR {cols l i} (h:i < l.length):rwE (Yn cols l) i=Uu cols l.length i (l.getD i []):=by
 simp[rwE,Yn,ZT,h]
def KY (m): (List.replicate m [AV.int .i64 0]).flatten=Qt (List.replicate m 0):=by
 rw[DO];simp[Qt]
def F9 (l): (Qt l).all AV.noOwn=true:=by
 simp[Qt,AV.noOwn]
def Qwu {l mp b} (H:GH l mp b) {B0 x0} (hx0:B0.length<=x0) (w K) (Q:Out->Prop) (v1)
  (hq: ∀(r:Ye) (o:Bool) (B':Qr),ZF B0 B'->SB B' x0 b.length (.sl w 4 (Qa b)) (Yn b l) l.length l.length 0->r 0= .sl o 1 (ZS l)->r 1=v1->r 11= .gp x0 0->Q (R tb f562r2 r B' K)):
  ∀h a o J B k,l=a ++ h->ZF B0 B->SB B x0 b.length (.sl w 4 (Qa b)) (Yn b l) l.length a.length 0->k 0= .sl o 1 (ZS l)->k 1=v1->k 11= .gp x0 0->k 50= .sl J 1 (ZS l)->k 51= .int .i64 l.length->k 52= .int .i64 a.length->
  Q (R tb (.loop f562l1) k B (Qh 2 (Qs tb f562r2 K))):=by
 have hl12:=H.len;intro h;induction h with | nil=>intro a o J B k v hP z Y h1 p s q C;simp only[Qy]at v;subst v;rw[Qb f562l1.eq_1];simp[s,q,C];apply hq _ o B hP z <;> simp[Y,h1,p] | cons g h IH=>intro a o J B k v hP z Y h1 p s q C;have hg:=Qv v;have hll:=QD v;(have t:a.length < l.length:=by omega);(have j:g∈l:=by rw[v];simp);(have Z:l.getD a.length []=g:=by rw[ZT,hg];rfl);have A:=SR (cols:=b) t;rw[Z]at A;have c563:=EQ b g false false B (by have:=H.cl;omega) H.cm H.ca (H.ok g j).2 (H.keys g j).1 (H.keys g j).2;have E:=fun o1 o3=>EQ b g o1 o3 B (by have:=H.cl;omega) H.cm H.ca (H.ok g j).2 (H.keys g j).1 (H.keys g j).2;have y:=z.x;simp only[QU]at y;have hlx:=QJ y;have hlen:=z.len;have hx2: (B ++ [Qt (b.map (pwT g))])[x0]? =some [.sl w 4 (Qa b),.gs (if a.length=0 then 0 else x0+4*a.length) 0 (if a.length=0 then 0 else 1) a.length,.gs 0 0 0 0,.bool false]:=Zd y _;(have q1:l.length*8<=140737488355328:=by omega);(have q2: (l.length:Int)<=4611686018427387904:=by omega);(have O: (B ++ [Qt (b.map (pwT g))]).length=x0+4*a.length+2:=by simp;omega);(have hB2:B ++ [Qt (b.map (pwT g))]++ [Qt (List.replicate l.length 0)]=B ++ [Qt (b.map (pwT g)),Qt (List.replicate l.length 0)]:=by simp);(have M: (B ++ [Qt (b.map (pwT g)),Qt (List.replicate l.length 0)]).length=x0+4*a.length+3:=by simp;omega);(have hBl:B.length=x0+4*a.length+1:=by omega);(have hB3:B ++ [Qt (b.map (pwT g)),Qt (List.replicate l.length 0)]++ [[.gs (x0+4*a.length+1) 0 1 b.length,.gs (x0+4*a.length+2) 0 1 l.length,.bool false]]=B ++ [Qt (b.map (pwT g)),Qt (List.replicate l.length 0),[.gs (x0+4*a.length+1) 0 1 b.length,.gs (x0+4*a.length+2) 0 1 l.length,.bool false]]:=by simp);obtain⟨L,f⟩: ∃L,L=B ++ [Qt (b.map (pwT g)),Qt (List.replicate l.length 0),[.gs (x0+4*a.length+1) 0 1 b.length,.gs (x0+4*a.length+2) 0 1 l.length,.bool false]]:=⟨_,rfl⟩;(have g3:L[x0+4*a.length+3]? =some [.gs (x0+4*a.length+1) 0 1 b.length,.gs (x0+4*a.length+2) 0 1 l.length,.bool false]:=by rw[f,Yv (by omega),show x0+4*a.length+3 - B.length=2 by omega];rfl);(have g2:L[x0+4*a.length+2]? =some (Qt (List.replicate l.length 0)):=by rw[f,Yv (by omega),show x0+4*a.length+2 - B.length=1 by omega];rfl);have g3l:=QJ g3;obtain⟨i,N⟩: ∃i,L.set (x0+4*a.length+2) (Qt ((List.replicate l.length (0:Int)).set a.length 1))=i:=⟨_,rfl⟩;(have d:i=B ++ [Qt (b.map (pwT g)),Qt ((List.replicate l.length (0:Int)).set a.length 1),[.gs (x0+4*a.length+1) 0 1 b.length,.gs (x0+4*a.length+2) 0 1 l.length,.bool false]]:=by rw[<- N,f,Sr _ _ (by omega),show x0+4*a.length+2 - B.length=1 by omega];rfl);(have x4:i[x0]? =some [.sl w 4 (Qa b),.gs (if a.length=0 then 0 else x0+4*a.length) 0 (if a.length=0 then 0 else 1) a.length,.gs 0 0 0 0,.bool false]:=by rw[d];exact Zd y _);have S:=Th (List.replicate l.length (0:Int)) 1 (n:=a.length) (by simp;omega);(have D: (Qt (List.replicate l.length (0:Int))).length=l.length:=by simp);have P:a.length+1<=l.length:=t;(have u:i.length=x0+4*a.length+4:=by rw[d];simp;omega);have hno:=F9 (List.replicate l.length 0);have hrf:=KY l.length;(obtain⟨V,X,m⟩: ∃V,appM 8 1 (.gs (if a.length=0 then 0 else x0+4*a.length) 0 (if a.length=0 then 0 else 1) a.length) (.sl false 1 [[.gp (x0+4*a.length+3) 0]]) i=some (.gs (x0+4* (a.length+1)) 0 1 (a.length+1),V)/\V=(if a.length=0 then i else i.set (x0+4*a.length) [])++ [gpL x0 (a.length+1)]:=by by_cases c:a.length=0;refine⟨_,?_,rfl⟩;have:=HD (.gp (x0+4*a.length+3) 0) rfl false i;rw[Qg c,Qg c,Qg c,c];rw[c]at this;rw[this,u,c];simp[gpL,List.range_succ];refine⟨_,?_,rfl⟩;rw[Qe c,Qe c,Qe c];(have W:i[x0+4*a.length]? =some (gpL x0 a.length):=by rw[d];exact Zd (z.rl c) _);(have hne:gpL x0 a.length≠[]:=fun e=>by have:=EY x0 a.length;rw[e]at this;exact c this.symm);have:=J0 (.gp (x0+4*a.length+3) 0) rfl false W hne (QiW _ _) (by rw[EY];omega);rw[EY,QlP]at this;rw[this,u,show x0+4*a.length+4=x0+4* (a.length+1) by omega]);obtain⟨I,G⟩: ∃I,V.set x0 [.sl w 4 (Qa b),.gs (x0+4* (a.length+1)) 0 1 (a.length+1),.gs 0 0 0 0,.bool false]=I:=⟨_,rfl⟩;(have x5:V[x0]? =some [.sl w 4 (Qa b),.gs (if a.length=0 then 0 else x0+4*a.length) 0 (if a.length=0 then 0 else 1) a.length,.gs 0 0 0 0,.bool false]:=by(have hD: ∀x:QB,i[x0]? =some x->(if a.length=0 then i else i.set (x0+4*a.length) [])[x0]? =some x:=by intro x y;split;exact y;rwa[QG,Qe (by omega)]);rw[m];exact Zd (hD _ x4) _);(have U:SB I x0 b.length (.sl w 4 (Qa b)) (Yn b l) l.length (a.length+1) 0:=by refine QuQ z (by rw[A,(MJ b l.length a.length g)]) I ?_;rw[A,QjJ,QjI,<- d,<- m,G]);(have hP2:ZF B0 I:=by rw[<- G];refine ZF.set ?_ hx0 _;rw[m];refine ZF.app ?_ _;(have T:ZF B0 i:=by rw[d];exact hP.app _);split;exact T;exact T.set (by omega) _);have ih:=fun o J k=>IH (a ++ [g]) o J I k (by rw[v];simp) hP2 (by simpa using U);rw[<- f]at hB3;rw[Qb f562l1.eq_1];clear U m z;generalize Qt (List.map (pwT g) b)=RW at *;generalize Qt (List.replicate l.length 0)=RZ at *;generalize Qt ((List.replicate l.length (0:Int)).set a.length 1)=RZ1 at *;generalize (if a.length=0 then 0 else x0+4*a.length)=i1 at *;generalize (if a.length=0 then 0 else 1)=i2 at *;have x5l:=QJ x5;(have n3:x0+4*a.length+2 < L.length:=by omega);simp[-getElem?_pos,Ql,Q0,Y,p,s,q,C,hg,(QF v),(wr1 a.length (by omega)),y,E,q1,q2,hrf,hno,D,O,hB2,M,hBl,(f.symm),g3,g2,P,S,N,x4,X,x5,G];refine ih o J _ ?_ ?_ ?_ ?_ ?_ ?_ <;> simp[Y,h1,p,s,q]
end Go.Am
