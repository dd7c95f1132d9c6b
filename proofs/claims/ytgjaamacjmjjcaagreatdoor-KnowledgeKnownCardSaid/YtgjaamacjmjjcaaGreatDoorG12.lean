/-
  Ge26, Ge27, Ge28, Ge15, Rc1, Rc2, Rc3, Rc4, Rc5, Rc6, Rc7, Rc8.
-/
import Derived.Test.YtgjaamacjmjjcaaGreatDoorG11
set_option linter.all false
open Go.Am.F
namespace Go.Am
set_option maxRecDepth 20000
def J5 {c:Type} {l a b} {x:c} (h:l=a ++ x:: b) (d:l.length < 4611686018427387904):
  l[a.length]? =some x/\IntKind.i64.wrap ((a.length:Int)+1)=(a.length:Int)+1/\(a.length:Int) < (l.length:Int)/\x∈l:=by
 have e:l.length=a.length+ (b.length+1):=by grind
 exact⟨Qv h,QC (by omega) (by omega),by omega,by grind⟩
def ID {t:Tm} (h:t.mass < big):t.kids.length < 4611686018427387904:=by
 have:=QL t;unfold big at h;omega
def QaW {t x:Tm} (h:t.mass < big) (a:x∈t.kids):x.mass < big:=by
 have:=QR a;have:=QL t;omega
def Qfs (t c) (g:t.mass < big):call tb 56 [.agg (Qd t)] c=some (.int .i64 (RD t),c):=by
 rw[zcc 56 rfl rfl];have b:=AW t.name c (by have:=QL t;unfold big at g;omega);have a: ((8:Int) < t.kids.length)=(8 < t.kids.length):=by grind
 obtain⟨k,n,s,h⟩:=t;simp at b a;unfold RD;simp only[UI,S8,Yy,ZJ];by_cases e:k=1;subst e;simp[f56C,Qd,b,a];grind;by_cases d:k=2;subst d;simp[f56C,Qd,b,a];grind;by_cases f:k=3;subst f;simp[f56C,Qd,b,a];grind;simp[f56C,Qd,b,a,e,d,f]
def Qb0 (t c) (p:t.mass < big) (o: ∀x∈t.kids,∀c,call tb 55 [.agg (Qd x)] c=some (.int .i64 (Y6 x),c)):
  ∀a b g,t.kids=b ++ a->g 1= .bx (Qd t)->g 4= .int .i64 b.length->
  R tb (.loop f55l0) g c (Qh 0 (Qs tb f55r0 (QA f55 c)))=some (.int .i64 (Uq a),c):=by
 intro a;induction a with | nil=>intro b g e d h;rw[Qb f55l0.eq_1];simp at e;simp[d,h,<- e,f55r0,Uq] | cons x a n=>intro b g e d h;obtain⟨j,l,f,m⟩:=J5 e (ID p);have i:=o x m c;rw[Qb f55l0.eq_1];by_cases k:Y6 x=0;simp[d,h,j,l,f,i,k,Uq];rw[n (b ++ [x])] <;> simp[d,e];simp[d,h,j,l,f,i,k,Uq]
def Qcb: ∀t a,t.mass < big->call tb 55 [.agg (Qd t)] a=some (.int .i64 (Y6 t),a):=by
 refine Yp ?_;intro k n s b g a c;have h:=Qb0 (.mk k n s b) a c (fun x f a=>g x f a (QaW c f)) b [];have d:=Qfs (.mk k n s b) a c;rw[zcc 55 rfl rfl];by_cases e:RD (.mk k n s b)=0;simp[f55C,d,e,Y6];simp_all;simp[f55C,d,e,Y6]
def W3 (t a) (b:t.mass < big):call tb 54 [.agg (Qd t)] a=some (.int .i64 (QZ t),a):=by
 rw[zcc 54 rfl rfl];have d: (400 < (t.nodes:Int))=(400 < t.nodes):=by grind
 have c: (40 < (t.depth:Int))=(40 < t.depth):=by grind
 simp[f54C,(Qcb t a b),(Km t a b),(Qb9 t a b),d,c,QZ];grind
def K4 (a):call tb 129 [] a=some (.sl true 4 (V7 WX),a):=by
 rw[zcc 129 rfl rfl];simp[f129,f129C,WX,V7,UG]
def Qg0 (n j l) (r:l.length < 1000): ∀a b c,l=b ++ a->c 0= .str n->(∃o,c 3= .sl o 4 (V7 l))->c 4= .int .i64 b.length->
  R tb (.loop f128l0) c j (Qh 0 (Qs tb f128r0 (QA f128 j)))=some (.int .i64 (match YU n a with | some y=>y.k | none=>0),j):=by
 intro a;induction a with | nil=>intro b c d h ⟨o,g⟩ e;rw[Qb f128l0.eq_1];simp at d;rw[<- d]at e;simp[g,e,f128r0,YU] | cons x a q=>intro b c d h ⟨o,g⟩ e;have p:=Il d;obtain⟨_,k,f,_⟩:=J5 d (by omega);rw[Qb f128l0.eq_1];by_cases m:x.n=n;simp[h,g,e,p,k,f,UG,m,YU];(have i: (x.n == n)=false:=by grind);simp[h,g,e,p,k,f,UG,m,i,YU];rw[q (b ++ [x])] <;> simp[h,g,d]
def Ds (n a):call tb 128 [.str n] a=some (.int .i64 (match YU n WX with | some y=>y.k | none=>0),a):=by
 rw[zcc 128 rfl rfl];simp[f128C,K4];rw[Qg0 n a WX (by decide) WX []] <;> simp
def QiO (t i l) (r:l.length < 1000): ∀a b c,l=b ++ a->c 1= .bx (Qd t)->(∃o,c 3= .sl o 4 (V7 l))->c 4= .int .i64 b.length->
  R tb (.loop f130l0) c i (Qh 0 (Qs tb f130r0 (QA f130 i)))=
   some (.bool (match YU t.name a with | some y=>decide (y.l<=t.kids.length) && decide (t.kids.length<=y.m) | none=>false),i):=by
 intro a;induction a with | nil=>intro b c d h ⟨o,g⟩ e;rw[Qb f130l0.eq_1];simp at d;rw[<- d]at e;simp[g,e,f130r0,YU] | cons x a q=>intro b c d h ⟨o,g⟩ e;have n:=Il d;obtain⟨_,k,f,_⟩:=J5 d (by omega);rw[Qb f130l0.eq_1];by_cases m:x.n=t.name;by_cases p:x.l<=t.kids.length <;> simp[h,g,e,n,k,f,UG,m,YU,p];(have j: (x.n == t.name)=false:=by grind);simp[h,g,e,n,k,f,UG,m,j,YU];rw[q (b ++ [x])] <;> simp[h,g,d]
def Qil (t a):call tb 130 [.agg (Qd t)] a=
  some (.bool (match YU t.name WX with | some y=>decide (y.l<=t.kids.length) && decide (t.kids.length<=y.m) | none=>false),a):=by
 rw[zcc 130 rfl rfl];simp[f130C,K4];rw[QiO t a WX (by decide) WX []] <;> simp
def Qb4 (t h) (i:t.mass < big): ∀a b d,t.kids=b ++ a->d 1= .bx (Qd t)->d 3= .int .i64 b.length->
  R tb (.loop f131l0) d h (Qh 0 (Qs tb f131r0 (QA f131 h)))=some (.bool (!(a.any RE)),h):=by
 intro a;induction a with | nil=>intro b d c e g;rw[Qb f131l0.eq_1];simp at c;simp[e,g,<- c,f131r0] | cons x a k=>intro b d c e g;obtain⟨l,j,f,o⟩:=J5 c (ID i);rw[Qb f131l0.eq_1];by_cases m:x.kind=3 <;> by_cases n:x.sort=1 <;> simp[e,g,l,j,f,m,n,RE];rw[k (b ++ [x])] <;> simp[e,c]
def Qcc (t b) (e:t.mass < big) (g:t.name=[110,101,119]->t.kids≠[]):call tb 131 [.agg (Qd t)] b=
  some (.bool (if t.name=[110,101,119]then decide (t.kids.head?.map Tm.kind=some 2)else !(t.kids.any RE)),b):=by
 rw[zcc 131 rfl rfl];by_cases d:t.name=[110,101,119];rcases c:t.kids with _ | ⟨x,f⟩;grind;simp[f131C,d,c,ZN t,Qa];have a: (t.name == [110,101,119])=false:=by grind
 simp[f131C,d,a];rw[Qb4 t b e t.kids []] <;> simp
def Cm (t c) (p:t.mass < big) (o: ∀x∈t.kids,∀c,call tb 127 [.agg (Qd x)] c=some (.int .i64 (Wy x),c)):
  ∀a b g,t.kids=b ++ a->g 1= .bx (Qd t)->g 4= .int .i64 b.length->
  R tb (.loop f127l0) g c (Qh 0 (Qs tb f127r0 (QA f127 c)))=some (.int .i64 (PU a),c):=by
 intro a;induction a with | nil=>intro b g e d h;rw[Qb f127l0.eq_1];simp at e;simp[d,h,<- e,f127r0,PU] | cons x a n=>intro b g e d h;obtain⟨j,l,f,m⟩:=J5 e (ID p);have i:=o x m c;rw[Qb f127l0.eq_1];by_cases k:Wy x=0;simp[d,h,j,l,f,i,k,PU];rw[n (b ++ [x])] <;> simp[d,e];simp[d,h,j,l,f,i,k,PU]
def Qkp {y} (h:y∈WX): (y.k=2)=(y.n=[115,107]\/y.n=[115,104,107]\/y.n=[110,101,119]):=by
 have:WX.all (fun y=>decide ((y.k=2)=(y.n=[115,107]\/y.n=[115,104,107]\/y.n=[110,101,119])))=true:=by simp only[UT];decide
 grind
def Cr: ∀t i,t.mass < big->call tb 127 [.agg (Qd t)] i=some (.int .i64 (Wy t),i):=by
 refine Yp ?_;intro k n s f O i A;have G:=Cm (.mk k n s f) i A (fun x J i=>O x J i (QaW A J)) f [];have l:=Qil (.mk k n s f) i;have z:=Qcc (.mk k n s f) i A;have b:=Ds n i;simp only[Yy,ZJ]at l z;rw[zcc 127 rfl rfl];by_cases E:k=3;subst E;simp only[Qd]at l z G;rcases j:YU n WX with _ | y;rw[j]at b;simp[f127C,Qd,b,j,Wy];obtain⟨q,B⟩:=Kw j;obtain⟨o,L⟩:=Qko q;have K:=Qkp q;rw[j]at b l;simp only at b l;by_cases c:y.l<=f.length/\(f.length:Int)<=y.m;have v:=c.1;have w:=c.2;have r: ¬(f.length:Int) < y.l:=by omega
 have u: ¬y.m < (f.length:Int):=by omega
 have h:=z (fun e=>by grind);rw[B]at K;have N:=fun M=>G M rfl;by_cases C:n=[115,107];subst C;have g:y.k=2:=by grind
 simp at h;rcases Bool.eq_false_or_eq_true (f.any RE)with m | m <;> simp[f127C,Qd,b,g,l,v,w,r,u,h,Wy,j,m];simp_all;by_cases H:n=[115,104,107];subst H;have g:y.k=2:=by grind
 simp at h;rcases Bool.eq_false_or_eq_true (f.any RE)with m | m <;> simp[f127C,Qd,b,g,l,v,w,r,u,h,Wy,j,m];simp_all;by_cases I:n=[110,101,119];subst I;have g:y.k=2:=by grind
 simp at h;by_cases m: ∃a,f.head?=some a/\a.kind=2 <;> simp[f127C,Qd,b,g,l,v,w,r,u,h,Wy,j,m];simp_all;have g: ¬y.k=2:=by grind
 have D: (y.k == 2)=false:=by grind
 simp[f127C,Qd,b,g,o,l,v,w,r,u,Wy,j,C,H,I];simp_all;have d: (f.length:Int) < y.l\/y.m < f.length:=by omega
 have e: (decide (y.l<=f.length) && decide ((f.length:Int)<=y.m))=false:=by grind
 have p:call tb 130 [.agg [.int .i64 3,.str n,.int .i64 s,.sl false 4 (Qa f)]] i=some (.bool (decide (y.l<=(f.length:Int)) && decide ((f.length:Int)<=y.m)),i):=l;rw[e]at p;simp[f127C,Qd,b,j,o,p,d,Wy];simp[f127C,Qd,E,Wy]
def Mr (t a) (b:t.mass < big):call tb 126 [.agg (Qd t)] a=some (.int .i64 (thV t),a):=by
 have c:=W3 t a b;have d:=Cr t a b;rw[zcc 126 rfl rfl];rw[ZN]at *;by_cases h:QZ t=0;simp[f126C,c,d,h,thV];simp[f126C,c,h,thV]
def AK: ∀{a b},Vs a b=0->a=b:=by
 intro a b h;unfold Vs at h;split at h;simp at h;split at h;rename_i c;exact Tp.1 c;simp at h
mutual
theorem YP: ∀(t u:Tm),Qo t u=0->t=u
 | .mk k n s ks,.mk k' n' s' ks',h=>by
  rw[Oq,OC]at h;obtain⟨h1,h2⟩:=h;unfold hdT at h1;simp only[OC,MN,UI,Yy,S8,ZJ]at h1 h2;obtain⟨_,h3,h4,h5,h6⟩:=h1;have e1:=AK h4;have e2:=Qai ks ks' (by omega) h2;rw[h3,e1,h5,e2]
theorem Qai: ∀(ts us:List Tm),ts.length=us.length->WU ts us=0->ts=us
 | [],[],_,_=>rfl
 | [],_:: _,h,_=>by simp at h
 | _:: _,[],h,_=>by simp at h
 | t:: ts,u:: us,h,h2=>by
  rw[WU,OC]at h2;rw[YP t u h2.1,Qai ts us (by simpa using h) h2.2]
end
def Wz {t u}:Qo t u=0↔t=u:=⟨YP t u,fun h=>h▸Xd t⟩
def isB (t:Tm) (n:Yi):Bool:=decide (t.kind=3) && (t.name == n)
def Sf {t n}:isB t n=true↔t.kind=3/\t.name=n:=by simp[isB]
def R7 (t n a):call tb 71 [.agg (Qd t),.str n] a=some (.bool (isB t n),a):=by
 rw[zcc 71 rfl rfl];by_cases h:t.kind=3 <;> simp[f71,f71C,isB,h]
def Xw (t n a):call tb 132 [.agg (Qd t),.str n] a=some (.bool (isB t n),a):=by
 rw[zcc 132 rfl rfl];by_cases h:t.kind=3 <;> simp[f132,f132C,isB,h]
def R6 (n a o b) (d:a.length<=1000):call tb 120 [.str n,.sl o 4 (Qa a)] b=some (.agg (Qd (.mk 3 n 0 a)),b):=by
 rw[zcc 120 rfl rfl];have c:a.length*56<=140737488355328:=by omega
 simp[f120,f120C,SG,QX,c]
def K0 (a b):sgn b a= - sgn a b:=by unfold sgn;omega
def Qkh {a b}:sgn a b<=0↔a<=b:=by unfold sgn;omega
def Mj:=@List.cons.injEq
def H4: ∀a b:Yi,Op.bytesLess a b=true\/a=b\/Op.bytesLess b a=true
 | [],[]=> .inr (.inl rfl)
 | [],_:: _=> .inl rfl
 | _:: _,[]=> .inr (.inr rfl)
 | x:: c,y:: d=>by
  simp only[Op.bytesLess,Wo,QM,Qu,Tp,Mj];rcases JG x.toNat y.toNat with h | h | h;grind;have e:=UInt8.toNat_inj.1 h;subst e;have f: ¬x < x:=by simp
  rcases H4 c d with h | h | h;grind;grind;grind;grind
def KE: ∀a b c:Yi,Op.bytesLess a b=true->Op.bytesLess b c=true->Op.bytesLess a c=true
 | [],_,[],_,h=>by cases ‹Yi› <;> simp[Op.bytesLess]at h
 | [],_,_:: _,_,_=>rfl
 | _:: _,[],_,h,_=>by simp[Op.bytesLess]at h
 | _:: _,_:: _,[],_,h=>by simp[Op.bytesLess]at h
 | x:: g,y:: e,z:: d,i,f=>by
  have j:=KE g e d;simp only[Op.bytesLess,Wo,QM,Qu,Tp]at i f ⊢;grind
def FQ (a b) (h:Op.bytesLess a b=true):Op.bytesLess b a=false:=by
 cases c:Op.bytesLess b a;rfl;have:=KE a b a h c;rw[TI]at this;grind
def Ih (a b):Vs b a= - Vs a b:=by
 unfold Vs;rcases H4 a b with h | h | h;have c:=FQ a b h;grind;subst h;simp[TI];have c:=FQ b a h;grind
def Qpr {a b}:Vs a b<=0↔Op.bytesLess a b=true\/a=b:=by
 unfold Vs;grind
def QfC {a b c} (d:Vs a b<=0) (e:Vs b c<=0):Vs a c<=0:=by
 rw[Qpr]at *;rcases d with d | rfl;rcases e with e | rfl;exact .inl (KE _ _ _ d e);grind;omega
def Qaj {a b} (h:Vs a b=0):a=b:=by
 rcases H4 a b with c | c | c;simp[Vs,c]at h;omega;have:=Ih a b;rw[h]at this;simp[Vs,c]at this
def OB {a b c d} (f:c= -a) (e:d= -b):or0 c d= - or0 a b:=by
 subst f e;unfold or0;omega
def Pj {a b c f k j} (l:a<=0->b<=0->c<=0) (o:c=0->a<=0->b<=0->a=0/\b=0) (p:a=0->b=0->f<=0->k<=0->j<=0)
  (g:or0 a f<=0) (h:or0 b k<=0):or0 c j<=0:=by
 have i:a<=0:=by unfold or0 at g;omega
 have e:b<=0:=by unfold or0 at h;omega
 have q:=l i e;by_cases d:c=0;obtain⟨n,m⟩:=o d i e;rw[n,Rb]at g;rw[m,Rb]at h;rw[d,Rb];omega;rwa[MG d]
def Lf {a b c} (d:sgn a b<=0) (e:sgn b c<=0):sgn a c<=0:=by rw[Qkh]at *;omega
def Gn {a b c} (h:sgn a c=0) (d:sgn a b<=0) (e:sgn b c<=0):sgn a b=0/\sgn b c=0:=by
 rw[MN]at *;rw[Qkh]at d e;rw[MN];omega
def Qiq {a b c} (h:Vs a c=0) (d:Vs a b<=0) (f:Vs b c<=0):Vs a b=0/\Vs b c=0:=by
 have e:=Qaj h;subst e;have:=Ih a b;omega
def QaH (t u):hdT u t= - hdT t u:=by
 unfold hdT;exact OB (K0 _ _) (OB (K0 _ _) (OB (Ih _ _) (OB (K0 _ _) (K0 _ _))))
def H2 {t u}:hdT t u=0↔t.nodes=u.nodes/\t.kind=u.kind/\t.name=u.name/\t.sort=u.sort/\t.kids.length=u.kids.length:=by
 unfold hdT;rw[OC,OC,OC,OC,MN,MN,MN,MN];constructor;rintro⟨e,a,b,c,d⟩;exact⟨by omega,a,Qaj b,c,by omega⟩;rintro⟨e,a,b,c,d⟩;exact⟨by omega,a,by rw[b];exact Dy _,c,by omega⟩
def Qi0 {t u v} (c:hdT t u<=0) (d:hdT u v<=0):hdT t v<=0:=by
 unfold hdT at *;refine Pj Lf (fun h a b=>Gn h a b) (fun _ _=> ?_) c d;refine Pj Lf (fun h a b=>Gn h a b) (fun _ _=> ?_);refine Pj QfC (fun h a b=>Qiq h a b) (fun _ _=> ?_);exact Pj Lf (fun h a b=>Gn h a b) (fun _ _=>Lf)
def Ig: ∀a b,(∀x∈a,∀y,Qo y x= - Qo x y)->WU b a= - WU a b
 | [],[],_=>by simp[WU]
 | [],_:: _,_=>by simp[WU]
 | _:: _,[],_=>by simp[WU]
 | t:: a,u:: b,h=>by
  simp only[WU];exact OB (h t (by simp) u) (Ig a b fun x c=>h x (by grind))
def XU: ∀t u,Qo u t= - Qo t u:=by
 refine Yp ?_;intro k n s c a u;rw[Oq,Oq];exact OB (QaH _ _) (Ig _ _ fun x b y=>a x b y)
def K9: ∀d c f,d.length=c.length->c.length=f.length->(∀x∈d,∀y z,Qo x y<=0->Qo y z<=0->Qo x z<=0)->WU d c<=0->WU c f<=0->WU d f<=0
 | [],[],[],_,_,_,_,_=>by omega
 | t:: d,u:: c,v:: f,k,j,h,g,i=>by
  simp only[WU]at g i ⊢;refine Pj (h t (by simp) u v) (fun l a b=> ?_) (fun _ _=>K9 d c f (by grind) (by grind) fun x m=>h x (by grind)) g i;have e:=YP _ _ l;subst e;have:=XU t u;omega
 | [],_:: _,_,k,_,_,_,_=>by grind
 | _:: _,[],_,k,_,_,_,_=>by grind
 | [],[],_:: _,_,j,_,_,_=>by omega
 | _:: _,_:: _,[],_,j,_,_,_=>by grind
def Kp: ∀t u v,Qo t u<=0->Qo u v<=0->Qo t v<=0:=by
 refine Yp ?_;intro k n s d g u v h f;rw[Oq]at *;refine Pj Qi0 (fun j a b=> ?_) (fun e c=> ?_) h f;rw[H2]at j;have l:=H2 (t:= .mk k n s d) (u:=u);have c:hdT u v=hdT u (.mk k n s d):=by unfold hdT;grind
 rw[c]at b ⊢;have:=QaH (.mk k n s d) u;omega;rw[H2]at e c;exact K9 _ _ _ e.2.2.2.2 c.2.2.2.2 fun x i=>g x i
def XG {a b c} (d:Qo a b < 0) (f:Qo b c < 0):Qo a c < 0:=by
 have h:=Kp a b c (by omega) (by omega);rcases Int.lt_or_eq_of_le h with h | h;exact h;have e:=YP _ _ h;subst e;have:=XU a b;omega
def Rs (a): ¬Qo a a < 0:=by rw[Xd];omega
def FC {a b}:0 < Qo a b↔Qo b a < 0:=by have:=XU a b;omega
def HQ (a b):Qo a b < 0\/a=b\/Qo b a < 0:=by
 rcases Int.lt_trichotomy (Qo a b) 0 with h | h | h;omega;exact .inr (.inl (YP _ _ h));exact .inr (.inr (FC.1 h))
def Asc (l:Qj):Prop:=l.Pairwise fun a b=>Qo a b < 0
def Asc.nil:Asc []:=List.Pairwise.nil
def Ez (t):Asc [t]:=by simp[Asc]
def XX {x l}:Asc (x:: l)↔(∀y∈l,Qo x y < 0)/\Asc l:=Uy
def NW: ∀{a b},Asc a->Asc b->(∀x,x∈a↔x∈b)->a=b
 | [],[],_,_,_=>rfl
 | [],y:: l,_,_,h=>by have:=(h y).2 (by simp);grind
 | x:: k,[],_,_,h=>by have:=(h x).1 (by simp);grind
 | x:: k,y:: l,d,f,h=>by
  rw[XX]at d f;have i:x=y:=by rcases HQ x y with g | g | g;have:=(h x).1 (by simp);rcases Zl.1 this with e | e;exact e;have:=XG g (f.1 x e);exact absurd this (Rs x);omega;have:=(h y).2 (by simp);rcases Zl.1 this with e | e;grind;have:=XG g (d.1 y e);exact absurd this (Rs y)
  subst i;congr 1;refine NW d.2 f.2 fun z=> ?_;have j:=h z;simp only[Zl]at j;constructor;intro c;rcases j.1 (.inr c)with e | e;subst e;exact absurd (d.1 z c) (Rs z);exact e;intro c;rcases j.2 (.inr c)with e | e;subst e;exact absurd (f.1 z c) (Rs z);exact e
def QT (t:Tm):Qj->Qj
 | []=>[t]
 | x:: xs=>if Qo t x < 0 then t:: x:: xs else if Qo t x=0 then x:: xs else x:: QT t xs
def Wa {t y}: ∀{l},y∈QT t l↔y=t\/y∈l
 | []=>by simp[QT]
 | x:: a=>by
  simp only[QT];split;simp;split;rename_i h;have:=YP _ _ h;grind;simp only[Zl,Wa (l:=a)];grind
def Kj {t}: ∀{l},Asc l->Asc (QT t l)
 | [],_=>Ez t
 | x:: e,h=>by
  have c:=h;rw[XX]at h;simp only[QT];split;rename_i b;rw[XX];refine⟨fun y a=> ?_,c⟩;rcases Zl.1 a with rfl | a;omega;exact XG b (h.1 y a);split;omega;rename_i b d;rw[XX];refine⟨fun y a=> ?_,Kj h.2⟩;rcases Wa.1 a with rfl | a;exact FC.1 (by omega);grind
def Mo (t): ∀l:Qj,(QT t l).length<=l.length+1
 | []=>by simp[QT]
 | x:: a=>by
  simp only[QT];have:=Mo t a;grind
def Yo (acc:Qj) (l:Qj):Qj:=l.foldl (fun a x=>QT x a) acc
def Qq (l:Qj):Qj:=Yo [] l
def KL {y}: ∀{l acc},y∈Yo acc l↔y∈acc\/y∈l
 | [],acc=>by simp[Yo]
 | x:: a,acc=>by
  have:=KL (y:=y) (l:=a) (acc:=QT x acc);simp only[Yo,UX]at this ⊢;rw[this,Wa];grind
def Fe: ∀{l a},Asc a->Asc (Yo a l)
 | [],_,h=>h
 | x:: b,a,h=>Fe (l:=b) (Kj h)
def Z7 {y l}:y∈Qq l↔y∈l:=by unfold Qq;rw[KL];simp
def XY (l):Asc (Qq l):=Fe Asc.nil
def Qfh (c a b):Yo c (a ++ b)=Yo (Yo c a) b:=by simp[Yo]
def QcJ {l} (h:Asc l):Qq l=l:=NW (XY l) h fun x=>Z7
def Ki: ∀l a,(Yo a l).length<=a.length+l.length
 | [],a=>by simp[Yo]
 | x:: b,a=>by
  have c:=Ki b (QT x a);have d:=Mo x a;simp only[Yo,UX,Zu]at *;omega
def WF (l): (Qq l).length<=l.length:=by have:=Ki l [];simpa[Qq]using this
def KO {t y}: ∀{l},y∈RP t l↔y=t\/y∈l
 | []=>by simp[RP]
 | x:: a=>by
  simp only[RP];split;simp only[Zl,KO (l:=a)];grind;simp
def U3 {y}: ∀{l},y∈XL l↔y∈l
 | []=>by simp[XL]
 | x:: a=>by simp only[XL,KO,U3 (l:=a),Zl]
def QaM (t): ∀l:Qj,(RP t l).length=l.length+1
 | []=>rfl
 | x:: a=>by simp only[RP];split <;> simp[QaM t a]
def Vg: ∀l:Qj,(XL l).length=l.length
 | []=>rfl
 | x:: a=>by simp[XL,QaM,Vg a]
def Srt (l:Qj):Prop:=l.Pairwise fun a b=>Qo a b<=0
def QbP {t}: ∀{l},Srt l->Srt (RP t l)
 | [],_=>by simp[RP,Srt]
 | x:: e,h=>by
  have c:=h;unfold Srt at h;rw[Uy]at h;simp only[RP];split;rename_i d;unfold Srt;rw[Uy];refine⟨fun y a=> ?_,QbP h.2⟩;rcases KO.1 a with rfl | a;omega;grind;rename_i d;unfold Srt;rw[Uy];refine⟨fun y a=> ?_,c⟩;have b:Qo t x<=0:=by have:=XU x t;omega
  rcases Zl.1 a with rfl | a;omega;exact Kp _ _ _ b (h.1 y a)
def Cb: ∀l:Qj,Srt (XL l)
 | []=>List.Pairwise.nil
 | x:: a=>QbP (Cb a)
def W5:List Tm->List Tm
 | []=>[]
 | [x]=>[x]
 | x:: y:: r=>if Qo y x=0 then W5 (x:: r)else x:: W5 (y:: r)
termination_by l=>l.length
def M9: ∀n l y,l.length<=n->(y∈W5 l↔y∈l)
 | _,[],y,_=>by simp[W5]
 | _,[x],y,_=>by simp[W5]
 | n+1,x:: z:: r,y,h=>by
  rw[W5];split;rename_i e;have e:=YP _ _ e;subst e;rw[M9 n (z:: r) y (by grind)];simp;rw[Zl,M9 n (z:: r) y (by grind)];simp
 | 0,_:: _:: _,_,h=>by grind
def J1: ∀n l,l.length<=n->Srt l->Asc (W5 l)
 | _,[],_,_=>by simp[W5,Asc.nil]
 | _,[x],_,_=>by simp[W5,Ez]
 | n+1,x:: z:: r,h,a=>by
  have i:=a;unfold Srt at a;rw[Uy]at a;rw[W5];split;rename_i e;have e:=YP _ _ e;subst e;exact J1 n _ (by grind) a.2;rename_i e;rw[XX];refine⟨fun y b=> ?_,J1 n _ (by grind) a.2⟩;rw[M9 n _ y (by grind)]at b;have f:Qo x z < 0:=by have j:=a.1 z (by simp);have d:=XU x z;omega
  rcases Zl.1 b with rfl | b;omega;have d:Qo z y<=0:=by simp_all
  rcases Int.lt_or_eq_of_le (Kp x z y (by omega) d)with c | c;omega;have g:=YP _ _ c;subst g;have:=XU x z;omega
 | 0,_:: _:: _,h,_=>by grind
def ON (l):W5 (XL l)=Qq l:=
 NW (J1 _ _ (QY _) (Cb l)) (XY l) fun x=>by rw[M9 _ _ x (QY _),U3,Z7]
def Ls: ∀a b:QB,Q5 (a ++ b)=(Q5 a && Q5 b)
 | [],b=>by simp
 | x:: a,b=>by simp[Ls a b,Bool.and_assoc]
section
variable {α:Type} (f:α->List AV) (k:Nat)
def YZ (f:α->QB) (l:List α):QB:=(l.map f).flatten
def SP (x l):YZ f (x:: l)=f x ++ YZ f l:=by simp[YZ]
def Ve (a b):YZ f (a ++ b)=YZ f a ++ YZ f b:=by simp[YZ]
def OH (x):YZ f [x]=f x:=by simp[YZ]
variable {f k}
def ZZ (a: ∀x,(f x).length=k): ∀l:List α,(YZ f l).length=l.length*k
 | []=>by simp[YZ]
 | x:: l=>by rw[SP,Q6,a,ZZ a l,Zu,Tn];omega
def Z5 (a: ∀x,(f x).map AV.strip=f x): ∀l:List α,(YZ f l).map AV.strip=YZ f l
 | []=>rfl
 | x:: l=>by rw[SP,Xp,a,Z5 a l]
def Qbz (a: ∀x,Q5 (f x)=true): ∀l:List α,Q5 (YZ f l)=true
 | []=>rfl
 | x:: l=>by
  rw[SP,Ls,a x,Qbz a l];rfl
def PM:=@List.take_append_of_le_length
def Vo (a: ∀x,(f x).length=k) {l pre post x} (h:l=pre ++ x:: post) (t): ((YZ f l ++ t).drop (pre.length*k)).take k=f x:=by
 subst h;rw[Ve,SP,ZU,<- ZZ a pre,List.drop_left,ZU];have:=a x;rw[PM (by omega),Z2 (by omega)]
def JS:=@List.take_left
def SQ (a: ∀x,(f x).length=k) {l pre post} (h:l=pre ++ post) (t): (YZ f l ++ t).take (pre.length*k)=YZ f pre:=by
 subst h;rw[Ve,ZU,<- ZZ a pre,JS]
def MK (a: ∀x,(f x).length=k) {l pre post} (h:l=pre ++ post) (t): (YZ f l ++ t).drop (pre.length*k)=YZ f post ++ t:=by
 subst h;rw[Ve,ZU,<- ZZ a pre,List.drop_left]
def G8:=@Nat.one_mul
def OI (a: ∀x,(f x).length=k) {l pre post x} (y) (h:l=pre ++ x:: post) (t):
  (YZ f l ++ t).take (pre.length*k)++ (f y ++ (YZ f l ++ t).drop (pre.length*k+k))=YZ f (pre ++ y:: post)++ t:=by
 rw[SQ a h,Ve,SP];have b:l=(pre ++ [x])++ post:=by rw[h];simp
 have:=MK a b t;rw[Q6,Rn,Yg,G8]at this;rw[this];simp
def Jz:=@List.getElem_cons_drop
def X3 (e: ∀x,(f x).length=k) (g: ∀x,(f x).map AV.strip=f x) (l t):ZR (YZ f l ++ t) 0 k l.length=l.map f:=by
 apply Ss;intro i;rcases a: (ZR (YZ f l ++ t) 0 k l.length)[i]? with _ | y;rw[List.getElem?_eq_none_iff,VB]at a;rw[ZP (by simpa using a)];obtain⟨c,rfl⟩:=PW a;have d:l=l.take i ++ l[i]:: l.drop (i+1):=by rw[Jz,PA]
 have b:=Vo e d t;rw[Z9,JO (by omega)]at b;rw[ZV,b,g];simp[Za c]
end
def QE (x): (Qd x).length=4:=XA x
abbrev Qk (l:List Tm):List AV:=YZ Qd l
def TW (l):l.map Qd=Qa l:=(Zr l).symm
def Fi (x y a) (b:x.mass < big) (c:y.mass < big):call tb 171 [.agg (Qd x),.agg (Qd y)] a=some (.bool (decide (Qo x y=0)),a):=by
 rw[zcc 171 rfl rfl];simp[f171,f171C,Qc,(call_Compare x y a b c)]
def Z0 (prev:Tm):Qj->Qj
 | []=>[]
 | x:: r=>if Qo x prev=0 then Z0 x r else x:: Z0 x r
def PX (x): ∀r,W5 (x:: r)=x:: Z0 x r
 | []=>by simp[W5,Z0]
 | y:: r=>by
  rw[W5];simp only[Z0];split;rename_i h;have:=YP _ _ h;subst this;exact PX y r;rw[PX y r]
def QcP (B b n D c) (r:b < B.length) (p:c.length=n*4) (j:D.length<=n) (t:n < 100000000) (l:c.take (D.length*4)=Qk D)
  (e) (i:e 0= .gs b 0 4 n) (h:e 5= .int .i64 D.length):
  R tb f172r0 e (B.set b c) (Qh 1 (Qs tb f172r1 (Qs tb (.loop f172l1) (Qh 0 (Qs tb f172r2 (QA f172 B))))))=
   some (.gs b 0 4 D.length,B.set b (Qk D ++ List.replicate ((n - D.length)*4) .undef)):=by
 have q: (0:Int)<=(D.length:Int):=by omega
 have m: (D.length:Int)<=(n:Int):=by omega
 have a:c.take (D.length*4)++ (List.replicate ((n - D.length)*4) AV.undef ++ c.drop (D.length*4+ (n - D.length)*4))=Qk D ++ List.replicate ((n - D.length)*4) .undef:=by rw[l,PN (by rw[p,<- Yg];exact YE _ (by omega))];simp
 have d:D.length*4+ (n - D.length)*4<=n*4:=by rw[<- Yg];exact YE _ (by omega)
 by_cases o:n - D.length=0;have s:D.length=n:=by omega
 have g:c=Qk D:=by rw[<- l,Z2 (by omega)]
 simp[f172r0,i,h,q,m,j,o,g];simp[f172r0,i,h,q,m,j,o,r,p,d,a]
end Go.Am
namespace Go.Am
set_option maxRecDepth 20000
def LB (L:Qj) (B:Qr) (id:Nat) (r:Option (AV×Qr)):Prop:=∃t,r=some (.gs id 0 4 L.length,B.set id (Qk L ++ t))
def QnA (B z n o) (Y:z < B.length) (hn:n < 100000000): ∀g D i d (j:Nat) r,D.length+i.length+1+g.length=n->o+j=D.length+i.length+1->0 < j->
   (∀x∈d:: g,x.mass < big)->r 0= .gs z 0 4 n->r 1= .fn 171 []->r 5= .int .i64 D.length->r 6= .gs z (o*4) 4 (n - o)->r 7= .int .i64 j->
  LB (D ++ Z0 d g) B z (R tb (.loop f172l0) r (B.set z (Qk (D ++ i ++ d:: g)))
   (Qh 2 (Qs tb f172r0 (Qh 1 (Qs tb f172r1 (Qs tb (.loop f172l1) (Qh 0 (Qs tb f172r2 (QA f172 B))))))))):=by
 intro g;induction g with | nil=>intro D i d j r m hk T N u v C w S;(have p: (Qk (D ++ i ++ [d])).length=n*4:=by rw[ZZ QE];simp at m ⊢;omega);(have ht: (Qk (D ++ i ++ [d])).take (D.length*4)=Qk D:=by have:=SQ (f:=Qd) (k:=4) QE (l:=D ++ i ++ [d]) (pre:=D) (post:=i ++ [d]) (by simp) [];simpa using this);have hr:=fun r a b=>QcP B z n D (Qk (D ++ i ++ [d])) Y p (by omega) hn ht r a b;(have hl':D.length+i.length+1=n:=by simpa using m);(have X: ¬((j:Int) < ((n - o:Nat):Int)):=by omega);(have hnl2: ¬(j < n - o):=by omega);rw[Qb f172l0.eq_1];simp only[Z0,Qy];refine⟨List.replicate ((n - D.length)*4) .undef,?_⟩;simp[v,w,S,X];simp only[ZU]at hr;refine hr _ ?_ ?_ <;> simp[u,C] | cons x g IH=>intro D i d j r m hk T N u v C w S;(have p: (Qk (D ++ i ++ d:: x:: g)).length=n*4:=by rw[ZZ QE];simp at m ⊢;omega);have P: (Qk (D ++ i ++ d:: x:: g)).map AV.strip=Qk (D ++ i ++ d:: x:: g):=Z5 Zc _;(have r1: ((Qk (D ++ i ++ d:: x:: g)).drop (o*4+j*4)).take 4=Qd x:=by have:=Vo (f:=Qd) (k:=4) QE (l:=D ++ i ++ d:: x:: g) (pre:=D ++ i ++ [d]) (post:=g) (x:=x) (by simp) [];rw[<- Yg,hk];simpa[T5]using this);(have r2: ((Qk (D ++ i ++ d:: x:: g)).drop (o*4+ (j - 1)*4)).take 4=Qd d:=by have:=Vo (f:=Qd) (k:=4) QE (l:=D ++ i ++ d:: x:: g) (pre:=D ++ i) (post:=x:: g) (x:=d) (by simp) [];rw[<- Yg,show o+ (j - 1)=D.length+i.length by omega];simpa[T5]using this);(have K: (Qk (D ++ i ++ d:: x:: g)).take (D.length*4)++ (Qd x ++ (Qk (D ++ i ++ d:: x:: g)).drop (D.length*4+4))=Qk ((D ++ [x])++ (i ++ [d]).tail ++ x:: g):=by(obtain⟨y,W,t⟩: ∃y W,i ++ [d]=y:: W:=by cases i <;> simp);have:=OI (f:=Qd) (k:=4) QE (l:=D ++ i ++ d:: x:: g) (pre:=D) (post:=W ++ x:: g) (x:=y) x (by(have:D ++ i ++ d:: x:: g=D ++ (i ++ [d])++ x:: g:=by simp);rw[this,t];simp) [];rw[t];simpa using this);(have O:IntKind.i64.wrap ((j:Int) - 1)=((j - 1:Nat):Int):=by rw[QC (by omega) (by omega)];omega);(have A:IntKind.i64.wrap ((j:Int)+1)=((j+1:Nat):Int):=by rw[QC (by simp at m;omega) (by simp at m;omega)];omega);(have hw3:IntKind.i64.wrap ((D.length:Int)+1)=((D.length+1:Nat):Int):=by rw[QC (by simp at m;omega) (by simp at m;omega)];omega);(have L: (j:Int) < ((n - o:Nat):Int):=by simp at m;omega);(have hlt1:j < n - o:=by simp at m;omega);(have s: ((j - 1:Nat):Int) < ((n - o:Nat):Int):=by simp at m;omega);(have Z:j - 1 < n - o:=by simp at m;omega);(have H: (D.length:Int) < (n:Int):=by simp at m;omega);(have U:D.length < n:=by simp at m;omega);(have M:o*4+j*4+4<=n*4:=by simp at m;omega);(have J:o*4+ (j - 1)*4+4<=n*4:=by simp at m;omega);(have V:D.length*4+4<=n*4:=by simp at m;omega);(have E: (0:Int)<=((j - 1:Nat):Int):=by omega);have hc:=fun bs=>Fi x d bs (N x (by simp)) (N d (by simp));(have q: ((j - 1:Nat):Int).toNat=j - 1:=by omega);have I:=IH D (i ++ [d]) x (j+1);have G:=IH (D ++ [x]) (i ++ [d]).tail x (j+1);(have htl: ((i ++ [d]).tail).length=i.length:=by simp);rw[show D ++ (i ++ [d])++ x:: g=D ++ i ++ d:: x:: g by simp]at I;rw[Qb f172l0.eq_1];generalize Qk (D ++ i ++ d:: x:: g)=c at *;generalize hkm:j - 1=km at *;generalize n - o=nk at *;by_cases Q:Qo x d=0;(have e:Z0 d (x:: g)=Z0 x g:=by simp[Z0,Q]);rw[e];simp[u,v,C,w,S,L,s,E,O,A,M,J,Y,p,P,r1,r2,hc,Q,q];refine I _ (by simp at m ⊢;omega) (by simp;omega) (by omega) (fun y t=>N y (by simp at t ⊢;rcases t with h | h <;> simp[h])) ?_ ?_ ?_ ?_ ?_ <;> simp[u,v,C,w];(have e:D ++ Z0 d (x:: g)=D ++ x:: Z0 x g:=by simp[Z0,Q]);rw[e];simp only[ZU,Xb,Y4]at G;simp[u,v,C,w,S,L,s,H,E,O,A,hw3,M,J,V,Y,p,P,r1,r2,hc,Q,q,K];refine G _ (by simp at m ⊢;omega) (by simp;omega) (by omega) (fun y t=>N y (by simp at t ⊢;rcases t with h | h <;> simp[h])) ?_ ?_ ?_ ?_ ?_ <;> simp[u,v,w]
def QnB (B u n) (J:u < B.length) (P:n < 100000000): ∀d b a p,b.length+1+d.length=n->
   (∀x∈a:: d,x.mass < big)->p 0= .gs u 0 4 n->p 1= .fn 171 []->p 5= .int .i64 (b.length+1:Nat)->
  LB (b ++ a:: Z0 a d) B u (R tb (.loop f172l1) p (B.set u (Qk (b ++ a:: d)))
   (Qh 0 (Qs tb f172r2 (QA f172 B)))):=by
 intro d;induction d with | nil=>intro b a p L s m o z;(have E:b.length+1=n:=by simpa using L);(have Q: ¬((b.length:Int)+1 < (n:Int)):=by omega);rw[Qb f172l1.eq_1];refine⟨[],?_⟩;simp[m,o,z,Z0,f172r2,E] | cons x d S=>intro b a p L s m o z;(have E:b.length+1+ (d.length+1)=n:=by simpa using L);(have j: (Qk (b ++ a:: x:: d)).length=n*4:=by rw[ZZ QE];simp;omega);have q: (Qk (b ++ a:: x:: d)).map AV.strip=Qk (b ++ a:: x:: d):=Z5 Zc _;(have O: ((Qk (b ++ a:: x:: d)).drop ((b.length+1)*4)).take 4=Qd x:=by have:=Vo (f:=Qd) (k:=4) QE (l:=b ++ a:: x:: d) (pre:=b ++ [a]) (post:=d) (x:=x) (by simp) [];simpa using this);(have N: ((Qk (b ++ a:: x:: d)).drop (b.length*4)).take 4=Qd a:=by have:=Vo (f:=Qd) (k:=4) QE (l:=b ++ a:: x:: d) (pre:=b) (post:=x:: d) (x:=a) (by simp) [];simpa using this);have A:IntKind.i64.wrap (b.length:Int)=(b.length:Int):=QC (by omega) (by omega);have K:IntKind.i64.wrap ((b.length:Int)+1+1)=(b.length:Int)+1+1:=QC (by omega) (by omega);(have r: (b.length:Int)+1 < (n:Int):=by omega);(have i: (b.length:Int) < (n:Int):=by omega);(have C: (b.length+1)*4+4<=n*4:=by omega);(have D:b.length*4+4<=n*4:=by omega);(have t: (0:Int)<=(b.length:Int)+1:=by omega);(have H: (b.length:Int)+1<=(n:Int):=by omega);(have g: ((b.length:Int)+1).toNat=b.length+1:=by omega);have M:=fun T=>Fi x a T (s x (by simp)) (s a (by simp));have w:=S (b ++ [a]) x;have v:=QnA B u n (b.length+1) J P d (b ++ [a]) [] x 1;simp only[ZU,Xb,Y4]at w v;rw[Qb f172l1.eq_1];generalize Qk (b ++ a:: x:: d)=c at *;by_cases I:Qo x a=0;(have e:Z0 a (x:: d)=Z0 x d:=by simp[Z0,I]);rw[e];simp[m,o,z,r,i,t,H,A,C,D,J,j,q,O,N,M,I,g];refine v _ (by simp;omega) (by simp) (by omega) (fun y G=>s y (by simp at G ⊢;rcases G with h | h <;> simp[h])) ?_ ?_ ?_ ?_ ?_ <;> simp[m,o,z];(have e:b ++ a:: Z0 a (x:: d)=b ++ a:: x:: Z0 x d:=by simp[Z0,I]);rw[e];simp[m,o,z,r,i,t,H,A,K,C,D,J,j,q,O,N,M,I,g,f172r1];refine w _ (by simp;omega) (fun y G=>s y (by simp at G ⊢;rcases G with h | h <;> simp[h])) ?_ ?_ ?_ <;> simp[m,o]
def AR (L B c) (b:B[c]? =some (Qk L)) (j:L.length < 100000000) (e: ∀x∈L,x.mass < big):
  LB (W5 L) B c (call tb 172 [.gs c 0 4 L.length,.fn 171 []] B):=by
 have f:c < B.length:=by rcases ZI c B.length with h | h;exact h;rw[ZP h]at b;cases b
 have a:B.set c (Qk L)=B:=by apply Ss;intro i;rw[QG];split;rename_i h;subst h;rw[b];rfl
 match L with | []=>refine⟨[],?_⟩;rw[zcc 172 rfl rfl];simp[f172C,W5];simpa using a.symm | [x]=>refine⟨[],?_⟩;rw[zcc 172 rfl rfl];simp[f172C,W5];simpa using a.symm | x:: y:: r=>have h:=QnB B c (r.length+2) f (by simpa using j) (y:: r) [] x;rw[zcc 172 rfl rfl,PX];simp only[Y4,a]at h;(have d: ¬((r.length:Int)+1+1 < 2):=by omega);simp[f172C,d];refine h _ (by simp;omega) (fun z g=>e z g) ?_ ?_ ?_ <;> simp
end Go.Am
namespace Go.Am
set_option maxRecDepth 20000
def QbL {a:Type} {B:List a} {i x} (h:B[i]? =some x):B.set i x=B:=by
 apply Ss;intro j;rw[QG];split;rename_i e;subst e;split;exact h.symm;rename_i b;rw[ZP (by omega)];rfl
def QJ {c:Type} {B:List c} {i x} (h:B[i]? =some x):i < B.length:=by
 rcases ZI i B.length with a | a;exact a;rw[ZP a]at h;cases h
def Fs (l): (Qa l).flatten=Qk l:=by rw[Zr];rfl
def Ap:=@List.drop_length
def MY (L B g) (h:B[g]? =some (Qk L)) (l:L.length < 100000000) (i: ∀x∈L,x.mass < big):
  call tb 170 [.gs g 0 4 L.length,.fn 30 []] B=some (.tup [],B.set g (Qk (XL L))):=by
 rw[Y9 tb_170];have d: (Qk L).length=L.length*4:=ZZ QE L;have c:ZR (Qk L) 0 4 L.length=Qa L:=by have:=X3 (f:=Qd) (k:=4) QE Zc L [];rwa[Qy,TW]at this
 simp only[NT];by_cases e:L.length=0;have:L=[]:=Yf e;subst this;simp[XL];exact(QbL h).symm;have b: (Qk (XL L)).length=(Qk L).length:=by rw[ZZ QE,ZZ QE,Vg]
 have a:put (Qk L) 0 (Qa (XL L)).flatten=Qk (XL L):=by rw[Fs];simp only[put,List.take_zero,Y4,ZV];rw[b,Ap,Qy]
 rw[Qe e,Qg ⟨trivial,by omega⟩,h];simp only[QN];rw[Qg (by omega),c,HS];simp only[QN];rw[Qg (by rw[Wc];intro x j;simpa using i x j),a]
def SC:=@List.map_take
def PG:=@List.map_drop
def Qme (C t B g) (s:g < B.length) (E:C.length < 100000000) (q:C≠[]) (w: ∀x∈C,x.mass < big): ∀b a m,C=a ++ b->m 0= .gs g 0 4 C.length->m 9= .int .i64 C.length->m 10= .int .i64 a.length->
  R tb (.loop f169l0) m (B.set g (Qk C ++ t)) (Qh 0 (Qs tb f169r0 (QA f169 B)))=some (.sl true 4 (Qa C),B.set g []):=by
 have r:ZR (Qk C ++ t) 0 4 C.length=Qa C:=by have:=X3 (f:=Qd) (k:=4) QE Zc C t;rwa[TW]at this
 have j:=ZZ QE C;intro b;induction b with | nil=>intro a m h o p i;simp only[Qy]at h;rw[<- h]at i;have A: ¬C.length=0:=fun e=>q (Yf e);(have l:C.length*4<=(Qk C ++ t).length:=by rw[Q6,j];omega);have G:=ZL C;rw[Qb f169l0.eq_1];generalize Qk C ++ t=c at *;simp[o,p,i,f169r0,ZY,A,l,s,r,Z2] | cons x b z=>intro a m h o p i;have D:=QD h;have v:=Z5 Zc C;(have n: (((Qk C ++ t).drop (a.length*4)).take 4).map AV.strip=Qd x:=by rw[(Vo (f:=Qd) (k:=4) QE h t)];exact Zc x);have d:=OI (f:=Qd) (k:=4) QE x h t;rw[<- h]at d;(have u:a.length < C.length:=by omega);(have l:a.length*4+4<=(Qk C ++ t).length:=by rw[Q6,j];omega);rw[Qb f169l0.eq_1];rw[SC,PG]at n;change List.take (a.length*4) (Qk C ++ t)++ (Qd x ++ List.drop (a.length*4+4) (Qk C ++ t))=Qk C ++ t at d;generalize Qk C ++ t=c at *;simp[o,p,i,(QF h),(wr1 a.length (by omega)),s,l,n,(fun y=>NH x y (w x (by rw[h];simp))),d];rw[(z (a ++ [x]))] <;> simp[o,p,h]
def GG:=@List.exists_mem_of_ne_nil
def J7 (L B g) (h:B[g]? =some (Qk L)) (c:L≠[]) (i:L.length < 100000000) (b: ∀x∈L,x.mass < big):
  call tb 169 [.gs g 0 4 L.length] B=some (.sl true 4 (Qa (Qq L)),B.set g []):=by
 have f:=QJ h;obtain⟨t,d⟩:=AR (XL L) (B.set g (Qk (XL L))) g (by simp[f]) (by rwa[Vg]) (fun x a=>b x (U3.1 a));rw[ON,Vg,T6]at d;rw[zcc 169 rfl rfl];simp[f169C,(MY L B g h i b),d];refine(Qme (Qq L) t B g f (by have:=WF L;omega) (by obtain⟨x,a⟩:=GG L c;intro e;have:=Z7.2 a;rw[e]at this;simp at this) (fun x a=>b x (Z7.1 a)) (Qq L) []) _ rfl ?_ ?_ ?_ <;> simp
def K7 (B):call tb 169 [.gs 0 0 0 0] B=some (.sl true 4 [],B):=by
 rw[zcc 169 rfl rfl];have b:call tb 170 [.gs 0 0 0 0,.fn 30 []] B=some (.tup [],B):=by rw[Y9 tb_170];simp[NT]
 have a:call tb 172 [.gs 0 0 0 0,.fn 171 []] B=some (.gs 0 0 0 0,B):=by rw[zcc 172 rfl rfl];simp[f172C]
 simp[f169C,b,a];rw[Qb f169l0.eq_1];simp[f169r0,ZY]
end Go.Am
namespace Go.Am
set_option maxRecDepth 20000
def Wst (B0:Qr) (k:Int) (acc:Qj) (bs:Qr):Prop:=
 B0.length+2<=bs.length/\bs.take B0.length=B0/\bs[B0.length]? =some [.int .i64 k]/\
  ((acc=[]/\bs[B0.length+1]? =some [.gs 0 0 0 0])\/(acc≠[]/\∃g,B0.length+1 < g/\bs[B0.length+1]? =some [.gs g 0 4 acc.length]/\bs[g]? =some (Qk acc)))
def Oe {b:Type} {a c:List b} {n i y} (h:n<=a.length) (d:n<=i): ((a ++ c).set i y).take n=a.take n:=by
 apply Ss;intro j;rw[TF,TF];split;rw[Ti (by omega),Y8 (by omega)];rfl
def Ua:QB:=[.int .i64 0,.str [],.int .i64 0,.sl false 4 []]
def PE:=@List.set_append
def GP:=@List.take_set_of_le
def Qfx (f k a b x) (A:Wst f k a b) (N:a.length < 100000000):
  ∃n,call tb 167 [.agg (Qd x),.gp f.length 0,.gp (f.length+1) 0] b=some (.tup [],n)/\Wst f k (a ++ if x.kind=k then [x]else []) n:=by
 obtain⟨D,H,o,j⟩:=A;have G:=Qc x;by_cases d:x.kind=k;rcases j with⟨rfl,j⟩ | ⟨w,g,L,j,z⟩;have i: ¬b.length=f.length+1:=by omega
 refine⟨((b ++ [Qd x]).set (f.length+1) [.gs b.length 0 4 1]),?_,?_⟩;rw[zcc 167 rfl rfl];have u: (b ++ [Ua])[b.length]? =some Ua:=Yc;have q: (b ++ [Ua]).set b.length (Qd x)=b ++ [Qd x]:=by rw[PE];simp
 have r: (b ++ [Qd x])[f.length+1]? =some [.gs 0 0 0 0]:=by rwa[Y8 (by omega)]
 simp only[Ua]at u q;simp[f167,f167C,d,o,j,appM,Xt,i,r,XA];refine⟨by simp;omega,?_,?_,.inr ⟨by simp[d],b.length,by omega,?_,?_⟩⟩;rwa[Oe (by omega) (by omega)];rwa[Ti (by omega),Y8 (by omega)];rw[Py (by simp;omega)];simp[d];rw[Ti (by omega),Yc];simp[d,YZ];have i: ¬b.length=f.length+1:=by omega
 have E:=QJ z;have c: (Qk a).length=a.length*4:=ZZ QE a;have p: (Qk a).map AV.strip=Qk a:=Z5 Zc a;have t: (Qk a).take (a.length*4)=Qk a:=Z2 (by omega);have I: (a.length+1)*56<=140737488355328:=by omega
 have s: ¬(a.length+1)*4<=a.length*4:=by omega
 have h: (Qk a ++ Ua).take (a.length*4)++ (Qd x ++ (Qk a ++ Ua).drop (a.length*4+4))=Qk (a ++ [x]):=by rw[<- c,JS,PN (by simp[Ua])];simp[Qk,Ve,OH]
 have m: (Qk a ++ Ua).length=a.length*4+4:=by rw[Q6,c];rfl
 have l:Qk a≠[]:=fun e=>by rw[e]at c;rcases a with _ | ⟨y,J⟩;exact w rfl;simp at c
 have v: (a.length:Int) < (a.length:Int)+1:=by omega
 refine⟨((b.set g []++ [Qk (a ++ [x])]).set (f.length+1) [.gs b.length 0 4 (a.length+1)]),?_,?_⟩;rw[zcc 167 rfl rfl];have u: (b.set g []++ [Qk a ++ Ua])[b.length]? =some (Qk a ++ Ua):=by(have:b.length=(b.set g []).length:=by simp);rw[this];exact Yc
 have q: (b.set g []++ [Qk a ++ Ua]).set b.length (Qk (a ++ [x]))=b.set g []++ [Qk (a ++ [x])]:=by rw[PE];simp
 have r: (b.set g []++ [Qk (a ++ [x])])[f.length+1]? =some [.gs g 0 4 a.length]:=by rwa[Y8 (by simp;omega),Ti (by omega)]
 have B:Ua=[.int .i64 0,.str [],.int .i64 0,.sl false 4 []]:=rfl;rw[B]at u q h m;generalize Qk (a ++ [x])=K at *;generalize Qk a=C at *;simp[f167,f167C,d,o,j,z,appM,Xt,I,l,c,s,t,p,XA];generalize C ++ [AV.int IntKind.i64 0,AV.str [],AV.int IntKind.i64 0,AV.sl false 4 []]=M at *;simp[v,r,h,m,i,XA];refine⟨by simp;omega,?_,?_,.inr ⟨by simp[d],b.length,by omega,?_,?_⟩⟩;rwa[Oe (by simp;omega) (by omega),GP (by omega)];rwa[Ti (by omega),Y8 (by simp;omega),Ti (by omega)];rw[Py (by simp;omega)];simp[d];rw[Ti (by omega)];have:b.length=(b.set g []).length:=by simp
 rw[this,Yc];simp[d];refine⟨b,?_,by simpa[d]using⟨D,H,o,j⟩⟩;rw[zcc 167 rfl rfl];simp[f167,f167C,d,o]
end Go.Am
namespace Go.Am
set_option maxRecDepth 20000
mutual
def Zs:Tm->List Tm
 | .mk k n s ks=> .mk k n s ks:: Q3 ks
def Q3:List Tm->List Tm
 | []=>[]
 | t:: ts=>Zs t ++ Q3 ts
end
def Ew (t):Zs t=t:: Q3 t.kids:=by cases t;simp[Zs]
def AB (a b):Q3 (a ++ b)=Q3 a ++ Q3 b:=by
 induction a with | nil=>simp[Q3] | cons t d c=>simp[Q3,c]
mutual
theorem Tc: ∀t:Tm,(Zs t).length=t.nodes
 | .mk k n s ks=>by simp only[Zs,Zu,Tm.nodes,RG ks];omega
theorem RG: ∀ts:List Tm,(Q3 ts).length=Qp ts
 | []=>by simp[Q3,Qp]
 | t:: ts=>by simp only[Q3,Q6,Qp,Tc t,RG ts]
end
mutual
theorem VD: ∀(t x:Tm),x∈Zs t->x.mass<=t.mass
 | .mk k n s ks,x,h=>by
  simp only[Zs,Zl]at h;rcases h with rfl | h
  ·exact QY _
  ·have:=JY ks x h;simp only[Tm.mass];omega
theorem JY: ∀(ts:List Tm) (x:Tm),x∈Q3 ts->x.mass<=Qw ts
 | [],x,h=>by simp[Q3]at h
 | t:: ts,x,h=>by
  simp only[Q3,Zp]at h;simp only[Qw];rcases h with h | h
  ·have:=VD t x h;omega
  ·have:=JY ts x h;omega
end
def X6 (k:Int) (x:Tm):Bool:=decide (x.kind=k)
def WOk (B0:Qr) (k:Int) (acc:Qj) (r:Option (AV×Qr)):Prop:=∃bs',r=some (.tup [],bs')/\Wst B0 k acc bs'
def Ux:=@List.length_filter_le
def UW:=@List.filter_append
def Qkt (j k) (t:Tm) (B) (z:t.mass < 100000000)
  (r: ∀x∈t.kids,∀b h,Wst j k b h->b.length+x.nodes < 100000000->WOk j k (b ++ (Zs x).filter (X6 k)) (call tb 168 [.agg (Qd x),.fn 167 [.gp j.length 0,.gp (j.length+1) 0]] h)):
  ∀a c b h d,t.kids=c ++ a->Wst j k b h->b.length+Qp a < 100000000->d 1= .fn 167 [.gp j.length 0,.gp (j.length+1) 0]->d 10= .sl false 4 (Qa t.kids)->d 11= .int .i64 t.kids.length->d 12= .int .i64 c.length->
  WOk j k (b ++ (Q3 a).filter (X6 k)) (R tb (.loop f168l0) d h (Qh 0 (QA f168 B))):=by
 have u:=QL t;intro a;induction a with | nil=>intro c b h d i l p o e f g;simp only[Qy]at i;rw[<- i]at g;rw[Qb f168l0.eq_1];refine⟨h,?_,by simpa[Q3]using l⟩;simp[e,f,g] | cons x a s=>intro c b h d i l p o e f g;have y:=QD i;simp only[Qp]at p;obtain⟨m,v,n⟩:=r x (by rw[i];simp) b h l (by omega);(have w: ((Zs x).filter (X6 k)).length<=x.nodes:=by rw[<- Tc];exact Ux _ _);have q:=fun d=>s (c ++ [x]) _ m d (by rw[i];simp) n (by rw[Q6];omega);rw[ZU,<- UW,show Zs x ++ Q3 a=Q3 (x:: a) by simp[Q3]]at q;rw[Qb f168l0.eq_1];simp[o,e,f,g,(Qv i),(QF i),(wr1 c.length (by omega)),v];refine q _ ?_ ?_ ?_ ?_ <;> simp[o,e,f]
def GW:=@List.filter_cons
def Qim (e k): ∀t a d,t.mass < 100000000->Wst e k a d->a.length+t.nodes < 100000000->
  WOk e k (a ++ (Zs t).filter (X6 k)) (call tb 168 [.agg (Qd t),.fn 167 [.gp e.length 0,.gp (e.length+1) 0]] d):=by
 refine Yp ?_;intro c n s b v a d q f p;have i:=QL (.mk c n s b);have l:=WE (.mk c n s b);simp only[ZJ,Yy]at i l;obtain⟨j,u,g⟩:=Qfx e k a d (.mk c n s b) f (by omega);have o:=fun w=>Qkt e k (.mk c n s b) d q (fun x m a d f p=>v x m a d (by have:=QR m;simp at this;omega) f p) b [] _ j w rfl g (by rw[Q6];split <;> simp <;> omega);have r:a ++ (Zs (.mk c n s b)).filter (X6 k)=(a ++ if(Tm.mk c n s b).kind=k then [.mk c n s b]else [])++ (Q3 b).filter (X6 k):=by simp only[Zs,GW,X6,UI];by_cases h:c=k <;> simp[h]
 rw[r,zcc 168 rfl rfl];simp[f168C,u];simp only[UI,ZJ,ZU]at o;refine o _ ?_ ?_ ?_ ?_ <;> simp[ZN]
def Qce (t k B) (r:t.mass < 100000000):
  call tb 166 [.agg (Qd t),.int .i64 k] B=some (.sl true 4 (Qa (Qq ((Zs t).filter (X6 k)))),B):=by
 have w:=Yu t;have d:Wst B k [] (B ++ [[.int .i64 k],[.gs 0 0 0 0]]):=by refine⟨by simp,by simp,by simp,.inl ⟨rfl,?_⟩⟩;rw[Yv (by omega)];simp
 obtain⟨a,l,u,s,v,m⟩:=Qim B k t [] _ r d (by simp;omega);rw[zcc 166 rfl rfl];have e: (B ++ [[AV.int .i64 k]])++ [[AV.gs 0 0 0 0]]=B ++ [[.int .i64 k],[.gs 0 0 0 0]]:=by simp
 have i: (B ++ [[AV.int .i64 k]]).length=B.length+1:=by simp
 generalize j: (Zs t).filter (X6 k)=A at *;simp only[Y4]at m;rcases m with⟨c,n⟩ | ⟨c,g,n,o,f⟩;have b:=K7 a;subst c;simp[f166,f166C,Qc,e,i,l,n,b,s,Qq,Yo,Qa];have b:=J7 A a g f c (by rw[<- j];have:=Ux (X6 k) (Zs t);rw[Tc]at this;omega) (fun x h=>by rw[<- j]at h;have:=VD t x (VP.1 h).1;unfold big;omega);have p:=QJ f;have q: (a.set g []).take B.length=B:=by rwa[GP (by omega)]
 simp[f166,f166C,Qc,e,i,l,o,b,q,(ZL _)]
def U9 (t:Tm):Qj:=Qq ((Zs t).filter (X6 1))
def Qij (t B) (a:t.mass < 100000000):call tb 165 [.agg (Qd t)] B=some (.sl true 4 (Qa (U9 t)),B):=by
 rw[zcc 165 rfl rfl];have b:ZD (Qa (Qq ((Zs t).filter (X6 1))))=true:=ZL _;simp[f165,f165C,Qc,(Qce t 1 B a),U9]
end Go.Am
namespace Go.Am
set_option maxRecDepth 20000
def X7 {n} (h:n<=200000000):n*56<=140737488355328:=by omega
def Qky (t e) (u:t.mass < 100000000) (n: ∀x∈t.kids,∀e,call tb 237 [.agg (Qd x)] e=some (.sl false 4 (Qa (Zs x)),e)):
  ∀b a d,t.kids=a ++ b->d 1= .bx (Qd t)->d 3= .sl true 4 (Qa (t:: Q3 a))->d 4= .int .i64 a.length->
  R tb (.loop f237l0) d e (Qh 0 (Qs tb f237r0 (QA f237 e)))=some (.sl false 4 (Qa (Zs t)),e):=by
 have o:=QL t;have w:=Yu t;have q:=WE t;intro b;induction b with | nil=>intro a d c h f g;simp only[Qy]at c;rw[<- c]at f g;rw[<- Ew]at f;rw[Qb f237l0.eq_1];simp[h,f,g,f237r0] | cons x b s=>intro a d c h f g;have j:=Qv c;have v:=QD c;(have r:Qp t.kids=Qp a+ (x.nodes+Qp b):=by rw[c,ZK];simp[Qp]);(have p: ((Q3 a).length+1+ (Zs x).length)*56<=140737488355328:=by rw[RG,Tc];omega);(have m:t.kids[a.length]'(by omega)=x:=by have:=Za (l:=t.kids) (i:=a.length) (by omega);rw[j]at this;injection this with this;exact this.symm);have k:=s (a ++ [x]);rw[AB,show Q3 [x]=Zs x by simp[Q3]]at k;rw[Qb f237l0.eq_1];simp[h,f,g,j,(QF c),(wr1 a.length (by omega)),(n x (by rw[c];simp)),p,QQ];rw[k] <;> simp[h,c]
def HM: ∀t a,t.mass < 100000000->call tb 237 [.agg (Qd t)] a=some (.sl false 4 (Qa (Zs t)),a):=by
 refine Yp ?_;intro k n s b e a d;rw[zcc 237 rfl rfl];simp[f237C,Qc];refine(fun f=>Qky (.mk k n s b) a d (fun x c a=>e x c a (by have:=QR c;have:=QL (.mk k n s b);simp at *;omega)) b [] f rfl) _ ?_ ?_ ?_ <;> simp[Q3,Qa]
def Qkx (l t z) (G:l.length < 100000000) (E: ∀x∈l,x.mass < big) (C:t.mass < big):
  ∀a c b d n,l=c ++ a->b.length<=c.length+1->(d=false->b.length=c.length)->n 0= .sl false 4 (Qa l)->n 3= .bx (Qd t)->n 5= .sl true 4 (Qa b)->n 6= .bool d->n 7= .int .i64 c.length->
  R tb (.loop f239l0) n z (Qh 0 (Qs tb f239r0 (QA f239 z)))=some (.sl false 4 (Qa (b ++ if d then a else QT t a)),z):=by
 intro a;induction a with | nil=>intro c b d n i B u h j p q o;simp only[Qy]at i;rw[<- i]at o B u;(have f: (b.length+1)*56<=140737488355328:=by omega);rw[Qb f239l0.eq_1];cases d;simp[h,j,p,q,o,f239r0,f,QT,Qc,ZH,QQ];simp[h,j,p,q,o,f239r0,f] | cons x a s=>intro c b d n i B u h j p q o;have w:=Qv i;have D:=QD i;have m:=wr1 c.length (by omega);have k:=QF i;have f: (b.length+1)*56<=140737488355328:=X7 (by omega);have g: (b.length+1+1)*56<=140737488355328:=X7 (by clear f;omega);have y:=UH t x z C (E x (by rw[i];simp));rw[Qb f239l0.eq_1];cases d;have u:=u rfl;by_cases v:Qo t x < 0;(have r:Qo t x<=0:=by omega);(have e:b ++ (if false=true then x:: a else QT t (x:: a))=(b ++ [t]++ [x])++ (if true=true then a else QT t a):=by simp[QT,v]);rw[e];simp[h,j,p,q,o,w,k,m,y,v,r,f,g,Qc,ZH,QQ];clear f g;rw[s (c ++ [x]) (b ++ [t]++ [x]) true] <;> simp[h,j,i] <;> omega;by_cases A:Qo t x=0;(have e:b ++ (if false=true then x:: a else QT t (x:: a))=(b ++ [x])++ (if true=true then a else QT t a):=by simp[QT,A]);rw[e];simp[h,j,p,q,o,w,k,m,y,A,f,Qc,ZH,QQ];clear f g;rw[s (c ++ [x]) (b ++ [x]) true] <;> simp[h,j,i] <;> omega;(have r: ¬Qo t x<=0:=by omega);(have e:b ++ (if false=true then x:: a else QT t (x:: a))=(b ++ [x])++ (if false=true then a else QT t a):=by simp[QT,v,A]);rw[e];simp[h,j,p,q,o,w,k,m,y,v,r,f,Qc,ZH,QQ];clear f g;rw[s (c ++ [x]) (b ++ [x]) false] <;> simp[h,j,i] <;> omega;(have e:b ++ (if true=true then x:: a else QT t (x:: a))=(b ++ [x])++ (if true=true then a else QT t a):=by simp);rw[e];simp[h,j,p,q,o,w,k,m,y,f,Qc,ZH,QQ];clear f g;rw[s (c ++ [x]) (b ++ [x]) true] <;> simp[h,j,i] <;> omega
def RJ (l t o a) (c:l.length < 100000000) (b: ∀x∈l,x.mass < big) (d:t.mass < big):
  call tb 239 [.sl o 4 (Qa l),.agg (Qd t)] a=some (.sl false 4 (Qa (QT t l)),a):=by
 have h:=fun e=>Qkx l t a c b d l [] [] false e rfl (by simp) (fun _=>rfl);rw[zcc 239 rfl rfl];simp[f239C];simp at h;refine h _ ?_ ?_ ?_ ?_ ?_ <;> simp[Qa]
def QkN (l i) (t:l.length < 100000000) (r: ∀x∈l,x.mass < big):
  ∀b c a o f,l=c ++ b->a.length<=c.length->(∀x∈a,x.mass < big)->f 0= .sl false 4 (Qa l)->f 3= .sl o 4 (Qa a)->f 4= .int .i64 c.length->
  R tb (.loop f238l0) f i (Qh 0 (Qs tb f238r0 (QA f238 i)))=some (.sl false 4 (Qa (Yo a b)),i):=by
 intro b;induction b with | nil=>intro c a o f d n e h k g;simp only[Qy]at d;rw[<- d]at g;rw[Qb f238l0.eq_1];simp[h,k,g,f238r0,Yo] | cons x b p=>intro c a o f d n e h k g;have q:=QD d;have m:=r x (by rw[d];simp);have s:=Mo x a;rw[Qb f238l0.eq_1];simp[h,k,g,(Qv d),(QF d),(wr1 c.length (by omega)),(RJ a x false i (by omega) e m)];rw[p (c ++ [x]) (QT x a) false] <;> (try simp[h,d,Yo]);omega;intro y j;rcases Wa.1 j with rfl | j;exact m;exact e y j
def RK (l o a) (d:l.length < 100000000) (b: ∀x∈l,x.mass < big):
  call tb 238 [.sl o 4 (Qa l)] a=some (.sl false 4 (Qa (Qq l)),a):=by
 rw[zcc 238 rfl rfl];simp[f238C];refine(fun c=>QkN l a d b l [] [] true c rfl (by simp) (by simp)) _ ?_ ?_ ?_ <;> simp[Qa]
def Cn (l e) (t:l.length < 100000000) (u:Qw l < 100000000):
  ∀b a d,l=a ++ b->d 0= .sl false 4 (Qa l)->d 3= .sl true 4 (Qa (Q3 a))->d 4= .int .i64 a.length->
  R tb (.loop f265l0) d e (Qh 0 (Qs tb f265r0 (QA f265 e)))=some (.sl false 4 (Qa (Qq (Q3 l))),e):=by
 have n:=YN l;intro b;induction b with | nil=>intro a d c g h f;simp only[Qy]at c;rw[<- c]at f h;have j:=fun o=>RK (Q3 l) o e (by rw[RG];omega) (fun x p=>by have:=JY l x p;unfold big;omega);rw[Qb f265l0.eq_1];simp[g,h,f,f265r0,j] | cons x b m=>intro a d c g h f;have r:=QD c;(have i:x∈l:=by rw[c];simp);have j:=HM x e (by have:=QR i;omega);(have q:Qp l=Qp a+ (x.nodes+Qp b):=by rw[c,ZK];simp[Qp]);(have s: ((Q3 a).length+ (Zs x).length)*56<=140737488355328:=by rw[RG,Tc];omega);have k:=m (a ++ [x]);rw[AB,show Q3 [x]=Zs x by simp[Q3]]at k;rw[Qb f265l0.eq_1];simp[g,h,f,(Qv c),(QF c),(wr1 a.length (by omega)),j,s,QQ];rw[k] <;> simp[g,c]
def K6 (l o a) (d:l.length < 100000000) (b:Qw l < 100000000):
  call tb 265 [.sl o 4 (Qa l)] a=some (.sl false 4 (Qa (Qq (Q3 l))),a):=by
 rw[zcc 265 rfl rfl];simp[f265C];refine(fun c=>Cn l a d b l [] c rfl) _ ?_ ?_ ?_ <;> simp[Qa,Q3]
def Qi7 (t k m) (z:t.mass < 100000000):
  ∀b a o c,Zs t=a ++ b->c 1= .int .i64 k->c 5= .sl true 4 (Qa (a.filter (X6 k)))->c 6= .sl o 4 (Qa (Zs t))->c 7= .int .i64 a.length->
  R tb (.loop f236l0) c m (Qh 0 (Qs tb f236r0 (QA f236 m)))=some (.sl false 4 (Qa (Qq ((Zs t).filter (X6 k)))),m):=by
 have y:=Yu t;have v:=Tc t;intro b;induction b with | nil=>intro a o c d l e g i;simp only[Qy]at d;rw[<- d]at e i;have p:=Ux (X6 k) (Zs t);rw[Qb f236l0.eq_1];simp[e,g,i,f236r0,(fun o=>RK ((Zs t).filter (X6 k)) o m (by omega) (fun x f=>by have:=VD t x (VP.1 f).1;unfold big;omega))] | cons x b s=>intro a o c d l e g i;have r:=Qv d;(have w: (Zs t).length=a.length+ (b.length+1):=by rw[d];simp);have j:=wr1 a.length (by omega);(have h: (a.length:Int) < ((Zs t).length:Int):=by omega);have p:=Ux (X6 k) a;(have u: ((a.filter (X6 k)).length+1)*56<=140737488355328:=by omega);have n:=s (a ++ [x]) o;rw[Qb f236l0.eq_1];by_cases f:x.kind=k;(have q: (a ++ [x]).filter (X6 k)=a.filter (X6 k)++ [x]:=by simp[X6,f]);rw[q]at n;simp[l,e,g,i,r,h,j,f,u,Qc,ZH,QQ];rw[n] <;> simp[l,g,d];(have q: (a ++ [x]).filter (X6 k)=a.filter (X6 k):=by simp[X6,f]);rw[q]at n;simp[l,e,g,i,r,h,j,f];rw[n] <;> simp[l,e,g,d]
def Qfr (t k a) (b:t.mass < 100000000):call tb 236 [.agg (Qd t),.int .i64 k] a=some (.sl false 4 (Qa (Qq ((Zs t).filter (X6 k)))),a):=by
 rw[zcc 236 rfl rfl];simp[f236C,Qc,(HM t a b)];refine(fun o c=>Qi7 t k a b (Zs t) [] o c rfl) false _ ?_ ?_ ?_ ?_ <;> simp[Qa]
def Qfq (t a) (b:t.mass < 100000000):call tb 235 [.agg (Qd t)] a=some (.sl false 4 (Qa (U9 t)),a):=by
 rw[zcc 235 rfl rfl];simp[f235,f235C,Qc,(Qfr t 1 a b),U9]
def Qb7 (t a) (b:t.mass < 100000000):call tb 234 [.agg (Qd t)] a=some (.bool (decide ((U9 t)=[])),a):=by
 rw[zcc 234 rfl rfl];simp[f234,f234C,Qc,(Qfq t a b)]
end Go.Am
namespace Go.Am
set_option maxRecDepth 20000
def Qx (l:Qj) (t:Tm):Bool:=l.any fun x=>decide (Qo x t=0)
def Zz {l t}:Qx l t=true↔t∈l:=by
 simp only[Qx,UQ,QM];constructor;rintro⟨x,a,h⟩;rwa[<- YP _ _ h];intro h;exact⟨t,h,Xd t⟩
def WY (l:Qj) (t:Tm):Qj:=if Qx l t then l.filter (fun x=> !decide (Qo x t=0))else QT t l
def Yr (a b:Qj):Qj:=b.foldl WY a
def TH {l} (p) (h:Asc l):Asc (l.filter p):=GN _ h
def Qk0 {l} (t) (h:Asc l):Asc (WY l t):=by
 unfold WY;split;exact TH _ h;exact Kj h
def H7 {l t y}:y∈WY l t↔(y∈l/\y≠t)\/(y=t/\t ∉ l):=by
 unfold WY;split;rename_i h;rw[Zz]at h;simp only[VP,Sv,OL,Wz];grind;rename_i h;rw[Zz]at h;rw[Wa];grind
def R2: ∀b a,Asc a->Asc (Yr a b)
 | [],_,h=>h
 | x:: b,a,h=>R2 b _ (Qk0 x h)
def Nr {y}: ∀{b a},Asc b->(y∈Yr a b↔(y∈a/\y ∉ b)\/(y ∉ a/\y∈b))
 | [],a,_=>by simp[Yr]
 | x:: b,a,h=>by
  rw[XX]at h;have c:=Nr (y:=y) (b:=b) (a:=WY a x) h.2;have e:x ∉ b:=fun d=>Rs x (h.1 x d);simp only[Yr,UX]at c ⊢;rw[c,H7];grind
def U5: ∀b a,(Yr a b).length<=a.length+b.length
 | [],a=>by simp[Yr]
 | x:: b,a=>by
  have c:=U5 b (WY a x);have: (WY a x).length<=a.length+1:=by unfold WY;split;grind;exact Mo x a
  simp only[Yr,UX,Zu]at c ⊢;omega
def V9:List Tm->List Tm->List Tm
 | [],b=>b
 | a,[]=>a
 | x:: a,y:: b=>if Qo x y < 0 then x:: V9 a (y:: b)else if 0 < Qo x y then y:: V9 (x:: a) b else V9 a b
termination_by a b=>a.length+b.length
def IP (b):V9 [] b=b:=by rw[V9]
def KW (a):V9 a []=a:=by cases a <;> rw[V9];simp
def KV (x y a b):V9 (x:: a) (y:: b)=if Qo x y < 0 then x:: V9 a (y:: b)else if 0 < Qo x y then y:: V9 (x:: a) b else V9 a b:=by rw[V9]
def Pi {y}: ∀n a b,a.length+b.length<=n->Asc a->Asc b->(y∈V9 a b↔(y∈a/\y ∉ b)\/(y ∉ a/\y∈b))
 | _,[],b,_,_,_=>by rw[IP];simp
 | _,x:: a,[],_,_,_=>by rw[KW];simp
 | 0,x:: a,z:: b,h,_,_=>by grind
 | n+1,x:: a,z:: b,h,d,c=>by
  have f:=d;have i:=c;rw[XX]at d c;simp only[Zu]at h;rw[KV];split;rename_i g;rw[Zl,Pi n a (z:: b) (by grind) d.2 i];have k:x ∉ z:: b:=fun o=>by rcases Zl.1 o with e | e;subst e;exact Rs x g;exact Rs x (XG g (c.1 x e))
  grind;rename_i g;split;rename_i j;have m:=FC.1 j;rw[Zl,Pi n (x:: a) b (by grind) f c.2];grind;rename_i j;have l:=YP x z (by omega);subst l;rw[Pi n a b (by omega) d.2 c.2];grind
def MU: ∀n a b,a.length+b.length<=n->Asc a->Asc b->Asc (V9 a b)
 | _,[],b,_,_,f=>by rwa[IP]
 | _,x:: a,[],_,d,_=>by rwa[KW]
 | 0,x:: a,z:: b,h,_,_=>by grind
 | n+1,x:: a,z:: b,h,d,f=>by
  have g:=d;have i:=f;rw[XX]at d f;simp only[Zu]at h;rw[KV];split;rename_i k;rw[XX];refine⟨fun y c=> ?_,MU n a (z:: b) (by grind) d.2 i⟩;rw[Pi n a (z:: b) (by grind) d.2 i]at c;rcases c with⟨c,_⟩ | ⟨_,c⟩;grind;rcases Zl.1 c with e | e;grind;exact XG k (f.1 y e);rename_i k;split;rename_i l;have j:=FC.1 l;rw[XX];refine⟨fun y c=> ?_,MU n (x:: a) b (by grind) g f.2⟩;rw[Pi n (x:: a) b (by grind) g f.2]at c;rcases c with⟨c,_⟩ | ⟨_,c⟩;rcases Zl.1 c with e | e;grind;exact XG j (d.1 y e);grind;exact MU n a b (by omega) d.2 f.2
def Qbj {a b} (d:Asc a) (c:Asc b):V9 a b=Yr a b:=
 NW (MU _ a b (QY _) d c) (R2 b a d) fun x=>by rw[Pi _ a b (QY _) d c,Nr c]
def Yl:Yi:=[122,101,114,111]
def XOR:Yi:=[120,111,114]
mutual
def QI:Tm->List Tm
 | .mk k n s ks=>if k=3/\n=Yl/\ks=[]then []else if k=3/\n=XOR then Ym [] ks else [.mk k n s ks]
def Ym (acc:List Tm):List Tm->List Tm
 | []=>acc
 | t:: ts=>Ym (Yr acc (QI t)) ts
end
mutual
theorem Vr: ∀t:Tm,Asc (QI t)
 | .mk k n s ks=>by
  simp only[QI];split
  ·exact Asc.nil
  ·split
   ·exact HE ks [] Asc.nil
   ·exact Ez _
theorem HE: ∀(ts acc:List Tm),Asc acc->Asc (Ym acc ts)
 | [],_,h=>h
 | t:: ts,acc,h=>HE ts _ (R2 _ _ h)
end
def VI {y b a} (c:Asc b) (h:y∈Yr a b):y∈a\/y∈b:=by
 rw[Nr c]at h;grind
mutual
theorem RV: ∀(t y:Tm),y∈QI t->y∈Zs t
 | .mk k n s ks,y,h=>by
  simp only[QI]at h;simp only[Zs,Zl];split at h
  ·simp at h
  ·split at h
   ·rcases K2 ks [] y h with h | h
    ·simp at h
    ·exact .inr h
   ·simp at h;exact .inl h
theorem K2: ∀(ts acc:List Tm) (y:Tm),y∈Ym acc ts->y∈acc\/y∈Q3 ts
 | [],acc,y,h=> .inl h
 | t:: ts,acc,y,h=>by
  simp only[Q3,Zp];rcases K2 ts _ y h with h | h
  ·rcases VI (Vr t) h with h | h
   ·exact .inl h
   ·exact .inr (.inl (RV t y h))
  ·exact .inr (.inr h)
end
mutual
theorem WH: ∀t:Tm,(QI t).length<=t.nodes
 | .mk k n s ks=>by
  simp only[QI,Tm.nodes];split
  ·simp
  ·split
   ·have:=K1 ks [];simp at this;omega
   ·simp
theorem K1: ∀(ts acc:List Tm),(Ym acc ts).length<=acc.length+Qp ts
 | [],acc=>by simp[Ym,Qp]
 | t:: ts,acc=>by
  have h1:=K1 ts (Yr acc (QI t));have h2:=U5 (QI t) acc;have h3:=WH t;simp only[Ym,Qp]at *;omega
end
def Cq (l t k) (u:l.length < 100000000) (r: ∀x∈l,x.mass < big) (s:t.mass < big):
  ∀a b d,l=b ++ a->d 0= .sl false 4 (Qa l)->d 3= .bx (Qd t)->d 5= .int .i64 b.length->
  R tb (.loop f250l0) d k (Qh 0 (Qs tb f250r0 (QA f250 k)))=some (.bool (Qx a t),k):=by
 intro a;induction a with | nil=>intro b d c g j h;simp only[Qy]at c;rw[<- c]at h;rw[Qb f250l0.eq_1];simp[g,h,f250r0,Qx] | cons x a p=>intro b d c g j h;have o:=Qv c;have q:=QD c;have i:=wr1 b.length (by omega);have f:=QF c;have n:=W2 x t k (r x (by grind)) s;rw[Qb f250l0.eq_1];by_cases m:Qo x t=0;simp[g,j,h,o,f,i,n,m,Qc,Qx];(have e:Qx (x:: a) t=Qx a t:=by simp[Qx,m]);rw[e];simp[g,j,h,o,f,i,n,m,Qc];rw[p (b ++ [x])] <;> simp[g,j,c]
def Kk (l t o a) (c:l.length < 100000000) (b: ∀x∈l,x.mass < big) (d:t.mass < big):
  call tb 250 [.sl o 4 (Qa l),.agg (Qd t)] a=some (.bool (Qx l t),a):=by
 have h:=fun e=>Cq l t a c b d l [] e rfl;rw[zcc 250 rfl rfl];simp[f250C];simp_all
def Qm1 (l t k) (B:l.length < 100000000) (s: ∀x∈l,x.mass < big) (z:t.mass < big):
  ∀b a d,l=a ++ b->d 0= .sl false 4 (Qa l)->d 3= .bx (Qd t)->d 5= .sl true 4 (Qa (a.filter (fun x=> !decide (Qo x t=0))))->d 6= .int .i64 a.length->
  R tb (.loop f249l0) d k (Qh 0 (Qs tb f249r0 (QA f249 k)))=some (.sl false 4 (Qa (l.filter (fun x=> !decide (Qo x t=0)))),k):=by
 intro b;induction b with | nil=>intro a d c f j e g;simp only[Qy]at c;rw[<- c]at e g;rw[Qb f249l0.eq_1];simp[f,e,g,f249r0] | cons x b r=>intro a d c f j e g;have p:=Qv c;have v:=QD c;have h:=wr1 a.length (by omega);have i:=QF c;have y:=Ux (fun x=> !decide (Qo x t=0)) a;have u: ((a.filter (fun x=> !decide (Qo x t=0))).length+1)*56<=140737488355328:=X7 (by omega);have o:=W2 x t k (s x (by grind)) z;have m:=r (a ++ [x]);rw[Qb f249l0.eq_1];by_cases q:Qo x t=0;(have n: (a ++ [x]).filter (fun x=> !decide (Qo x t=0))=a.filter (fun x=> !decide (Qo x t=0)):=by grind);rw[n]at m;generalize a.filter (fun x=> !decide (Qo x t=0))=A at *;generalize l.filter (fun x=> !decide (Qo x t=0))=w at *;simp[f,j,e,g,p,i,h,o,q,Qc];rw[m] <;> simp[f,j,e,c];(have n: (a ++ [x]).filter (fun x=> !decide (Qo x t=0))=a.filter (fun x=> !decide (Qo x t=0))++ [x]:=by grind);rw[n]at m;generalize a.filter (fun x=> !decide (Qo x t=0))=A at *;generalize l.filter (fun x=> !decide (Qo x t=0))=w at *;simp[f,j,e,g,p,i,h,o,q,u,Qc,ZH,QQ];rw[m] <;> simp[f,j,c]
def Qcf (l t o a) (d:l.length < 100000000) (c: ∀x∈l,x.mass < big) (f:t.mass < big):
  call tb 249 [.sl o 4 (Qa l),.agg (Qd t)] a=some (.sl false 4 (Qa (WY l t)),a):=by
 have h:=fun i=>Qm1 l t a d c f l [] i rfl;have g:=Kk l t false a d c f;rw[zcc 249 rfl rfl];cases b:Qx l t;have e:WY l t=QT t l:=by simp[WY,b]
 rw[e];simp[f249C,Qc,g,b,(RJ l t false a d c f)];have e:WY l t=l.filter (fun x=> !decide (Qo x t=0)):=by simp[WY,b]
 rw[e];generalize l.filter (fun x=> !decide (Qo x t=0))=j at *;simp[f249C,Qc,g,b];refine h _ ?_ ?_ ?_ ?_ <;> simp[Qa]
def Qfa (b k) (v:b.length < 40000000) (u: ∀x∈b,x.mass < big):
  ∀c d a o e,b=d ++ c->a.length+c.length < 90000000->(∀x∈a,x.mass < big)->e 1= .sl false 4 (Qa b)->e 5= .sl o 4 (Qa a)->e 6= .int .i64 d.length->
  R tb (.loop f248l0) e k (Qh 0 (Qs tb f248r0 (QA f248 k)))=some (.sl false 4 (Qa (Yr a c)),k):=by
 intro c;induction c with | nil=>intro d a o e f t g i m j;simp only[Qy]at f;rw[<- f]at j;rw[Qb f248l0.eq_1];simp[i,m,j,f248r0,Yr] | cons x c r=>intro d a o e f t g i m j;have n:=QD f;(have p:a.length+ (c.length+1) < 90000000:=by omega);(have s: (WY a x).length<=a.length+1:=by have:=U5 [x] a;simpa[Yr]using this);(have l: ∀y∈WY a x,y.mass < big:=fun y q=>by rcases H7.1 q with h | h;grind;grind);rw[Qb f248l0.eq_1];simp[i,m,j,(Qv f),(QF f),(wr1 d.length (by omega)),(Qcf a x false k (by omega) g (u x (by grind)))];rw[show Yr a (x:: c)=Yr (WY a x) c from rfl];refine(fun e=>r (d ++ [x]) (WY a x) false e (by grind) (by omega) l) _ ?_ ?_ ?_ <;> simp[i]
def Kl (a b o i f) (k:a.length < 40000000) (g:b.length < 40000000) (d: ∀x∈a,x.mass < big) (e: ∀x∈b,x.mass < big):
  call tb 248 [.sl o 4 (Qa a),.sl i 4 (Qa b)] f=some (.sl false 4 (Qa (Yr a b)),f):=by
 have h:=fun o j=>Qfa b f g e b [] a o j rfl (by omega) d;have c:a.length*56<=140737488355328:=X7 (by omega);rw[zcc 248 rfl rfl];simp[f248C,c];simp_all
def Qh1 (t e) (G:t.mass < 30000000) (u: ∀x∈t.kids,∀e,∃o,call tb 247 [.agg (Qd x)] e=some (.sl o 4 (Qa (QI x)),e)):
  ∀b c a o d,t.kids=c ++ b->a.length+Qp b < 30000000->(∀x∈a,x.mass < big)->d 1= .bx (Qd t)->d 3= .sl o 4 (Qa a)->d 4= .int .i64 c.length->
  R tb (.loop f247l0) d e (Qh 0 (Qs tb f247r0 (QA f247 e)))=some (.sl false 4 (Qa (Ym a b)),e):=by
 have v:=QL t;intro b;induction b with | nil=>intro c a o d f r i k p j;simp only[Qy]at f;rw[<- f]at j;rw[Qb f247l0.eq_1];simp[k,p,j,f247r0,Ym] | cons x b D=>intro c a o d f r i k p j;have w:=QD f;(have z:t.kids[c.length]'(by omega)=x:=by grind);(have g:x∈t.kids:=by grind);have A:=QR g;have B:=Yu x;have s:=WH x;simp only[Qp]at r;obtain⟨E,l⟩:=u x g e;(have q: ∀y∈QI x,y.mass < big:=fun y n=>by have:=VD x y (RV x y n);unfold big;omega);have C:=U5 (QI x) a;(have m: ∀y∈Yr a (QI x),y.mass < big:=fun y n=>by rcases VI (Vr x) n with h | h;grind;grind);rw[Qb f247l0.eq_1];simp[k,p,j,(Qv f),(QF f),(wr1 c.length (by omega)),l,(Kl a (QI x) false false e (by omega) (by omega) i q),Ym];refine(fun d=>D (c ++ [x]) (Yr a (QI x)) false d (by grind) (by omega) m) _ ?_ ?_ ?_ <;> simp[k]
def On: ∀t f,t.mass < 30000000->∃o,call tb 247 [.agg (Qd t)] f=some (.sl o 4 (Qa (QI t)),f):=by
 refine Yp ?_;intro k n s a p f u;have h:=QL (.mk k n s a);have l:=YN a;simp only[ZJ,Yy]at h;rw[zcc 247 rfl rfl];by_cases c:k=3;by_cases d:n=Yl;rcases a with _ | ⟨x,q⟩;refine⟨true,?_⟩;simp[f247C,Qd,Qa,QI,c,d,Yl];refine⟨true,?_⟩;simp only[Yl]at d;have: ¬((q.length:Int)+1=0):=by omega
 simp[f247C,Qd,QI,c,d,Yl,XOR,this,Qa];by_cases b:n=XOR;refine⟨false,?_⟩;have e:QI (.mk k n s a)=Ym [] a:=by simp[QI,c,b,Yl,XOR]
 rw[e];have g: (n == [122,101,114,111])=false:=by simpa[Yl]using d
 simp only[XOR]at b;simp[f247C,Qd,c,b];refine(fun j=>Qh1 (.mk k n s a) f u (fun x b f=>p x b f (by have:=QR b;simp at this;omega)) a [] [] true j rfl (by grind) (by simp)) _ ?_ ?_ ?_ <;> simp[Qd,Qa,c,b];refine⟨true,?_⟩;have e:QI (.mk k n s a)=[.mk k n s a]:=by simp[QI,c,b,d]
 rw[e];have g: (n == [122,101,114,111])=false:=by simpa[Yl]using d
 have i: (n == [120,111,114])=false:=by simpa[XOR]using b
 have m: (n != [120,111,114])=true:=by grind
 simp[f247C,Qd,c,g,i,Qa];refine⟨true,?_⟩;have e:QI (.mk k n s a)=[.mk k n s a]:=by simp[QI,c]
 rw[e];have r: (k != 3)=true:=by grind
 simp[f247C,Qd,c,r,Qa]
end Go.Am
