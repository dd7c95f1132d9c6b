/-
  Rc1, Rc2, Rc3, Rc4, Rc5, Rc6, Rc7, Rc8, Rc9, Rc10.
-/
import Derived.Test.YthlnfdbbneaelaaGreatDoorG11
set_option linter.all false
open Go.Am.F
namespace Go.Am
def KR (a b):sgn b a= - sgn a b:=by unfold sgn;omega
def Qj6 {a b}:sgn a b<=0↔a<=b:=by unfold sgn;omega
def HE: ∀a b:Zq,Op.bytesLess a b=true\/a=b\/Op.bytesLess b a=true
 | [],[]=> .inr (.inl rfl)
 | [],_:: _=> .inl rfl
 | _:: _,[]=> .inr (.inr rfl)
 | x:: c,y:: d=>by
  simp only[Op.bytesLess,WI,QM,Qr,UG,List.cons.injEq];rcases LA x.toNat y.toNat with h | h | h;grind;have e:=UInt8.toNat_inj.1 h;subst e;have f: ¬x < x:=by simp
  rcases HE c d with h | h | h;grind;grind;grind;grind
def Ks: ∀a b c:Zq,Op.bytesLess a b=true->Op.bytesLess b c=true->Op.bytesLess a c=true
 | [],_,[],_,h=>by cases ‹Zq› <;> simp[Op.bytesLess]at h
 | [],_,_:: _,_,_=>rfl
 | _:: _,[],_,h,_=>by simp[Op.bytesLess]at h
 | _:: _,_:: _,[],_,h=>by simp[Op.bytesLess]at h
 | x:: g,y:: e,z:: d,i,f=>by
  have j:=Ks g e d;simp only[Op.bytesLess,WI,QM,Qr,UG]at i f ⊢;grind
def Fv (a b) (h:Op.bytesLess a b=true):Op.bytesLess b a=false:=by
 cases c:Op.bytesLess b a;rfl;have:=Ks a b a h c;rw[Tq]at this;grind
def JX (a b):Vl b a= - Vl a b:=by
 unfold Vl;rcases HE a b with h | h | h;have c:=Fv a b h;grind;subst h;simp[Tq];have c:=Fv b a h;grind
def Qpj {a b}:Vl a b<=0↔Op.bytesLess a b=true\/a=b:=by
 unfold Vl;grind
def Qfj {a b c} (d:Vl a b<=0) (e:Vl b c<=0):Vl a c<=0:=by
 rw[Qpj]at *;rcases d with d | rfl;rcases e with e | rfl;exact .inl (Ks _ _ _ d e);grind;omega
def Az {a b} (h:Vl a b=0):a=b:=by
 rcases HE a b with c | c | c;simp[Vl,c]at h;omega;have:=JX a b;rw[h]at this;simp[Vl,c]at this
def On {a b c d} (f:c= -a) (e:d= -b):or0 c d= - or0 a b:=by
 subst f e;unfold or0;omega
def RY {a b c f k j} (l:a<=0->b<=0->c<=0) (o:c=0->a<=0->b<=0->a=0/\b=0) (p:a=0->b=0->f<=0->k<=0->j<=0)
  (g:or0 a f<=0) (h:or0 b k<=0):or0 c j<=0:=by
 have i:a<=0:=by unfold or0 at g;omega
 have e:b<=0:=by unfold or0 at h;omega
 have q:=l i e;by_cases d:c=0;obtain⟨n,m⟩:=o d i e;rw[n,SQ]at g;rw[m,SQ]at h;rw[d,SQ];omega;rwa[My d]
def M6 {a b c} (d:sgn a b<=0) (e:sgn b c<=0):sgn a c<=0:=by rw[Qj6]at *;omega
def HS {a b c} (h:sgn a c=0) (d:sgn a b<=0) (e:sgn b c<=0):sgn a b=0/\sgn b c=0:=by
 rw[MC]at *;rw[Qj6]at d e;rw[MC];omega
def Qif {a b c} (h:Vl a c=0) (d:Vl a b<=0) (f:Vl b c<=0):Vl a b=0/\Vl b c=0:=by
 have e:=Az h;subst e;have:=JX a b;omega
def A9 (t u):hdT u t= - hdT t u:=by
 unfold hdT;exact On (KR _ _) (On (KR _ _) (On (JX _ _) (On (KR _ _) (KR _ _))))
def HC {t u}:hdT t u=0↔t.nodes=u.nodes/\t.kind=u.kind/\t.name=u.name/\t.sort=u.sort/\t.kids.length=u.kids.length:=by
 unfold hdT;rw[Oo,Oo,Oo,Oo,MC,MC,MC,MC];constructor;rintro⟨e,a,b,c,d⟩;exact⟨by omega,a,Az b,c,by omega⟩;rintro⟨e,a,b,c,d⟩;exact⟨by omega,a,by rw[b];exact EZ _,c,by omega⟩
def QiV {t u v} (c:hdT t u<=0) (d:hdT u v<=0):hdT t v<=0:=by
 unfold hdT at *;refine RY M6 (fun h a b=>HS h a b) (fun _ _=> ?_) c d;refine RY M6 (fun h a b=>HS h a b) (fun _ _=> ?_);refine RY Qfj (fun h a b=>Qif h a b) (fun _ _=> ?_);exact RY M6 (fun h a b=>HS h a b) (fun _ _=>M6)
def JW: ∀a b,(∀x∈a,∀y,Qm y x= - Qm x y)->WO b a= - WO a b
 | [],[],_=>by simp[WO]
 | [],_:: _,_=>by simp[WO]
 | _:: _,[],_=>by simp[WO]
 | t:: a,u:: b,h=>by
  simp only[WO];exact On (h t (by simp) u) (JW a b fun x c=>h x (by grind))
def Xh: ∀t u,Qm u t= - Qm t u:=by
 refine YC ?_;intro k n s c a u;rw[Ob,Ob];exact On (A9 _ _) (JW _ _ fun x b y=>a x b y)
def K2: ∀d c f,d.length=c.length->c.length=f.length->(∀x∈d,∀y z,Qm x y<=0->Qm y z<=0->Qm x z<=0)->WO d c<=0->WO c f<=0->WO d f<=0
 | [],[],[],_,_,_,_,_=>by omega
 | t:: d,u:: c,v:: f,k,j,h,g,i=>by
  simp only[WO]at g i ⊢;refine RY (h t (by simp) u v) (fun l a b=> ?_) (fun _ _=>K2 d c f (by grind) (by grind) fun x m=>h x (by grind)) g i;have e:=Z4 _ _ l;subst e;have:=Xh t u;omega
 | [],_:: _,_,k,_,_,_,_=>by grind
 | _:: _,[],_,k,_,_,_,_=>by grind
 | [],[],_:: _,_,j,_,_,_=>by omega
 | _:: _,_:: _,[],_,j,_,_,_=>by grind
def SF: ∀t u v,Qm t u<=0->Qm u v<=0->Qm t v<=0:=by
 refine YC ?_;intro k n s d g u v h f;rw[Ob]at *;refine RY QiV (fun j a b=> ?_) (fun e c=> ?_) h f;rw[HC]at j;have l:=HC (t:= .mk k n s d) (u:=u);have c:hdT u v=hdT u (.mk k n s d):=by unfold hdT;grind
 rw[c]at b ⊢;have:=A9 (.mk k n s d) u;omega;rw[HC]at e c;exact K2 _ _ _ e.2.2.2.2 c.2.2.2.2 fun x i=>g x i
def XE {a b c} (d:Qm a b < 0) (f:Qm b c < 0):Qm a c < 0:=by
 have h:=SF a b c (by omega) (by omega);rcases Int.lt_or_eq_of_le h with h | h;exact h;have e:=Z4 _ _ h;subst e;have:=Xh a b;omega
def PD (a): ¬Qm a a < 0:=by rw[Xc];omega
def Fe {a b}:0 < Qm a b↔Qm b a < 0:=by have:=Xh a b;omega
def Kb (a b):Qm a b < 0\/a=b\/Qm b a < 0:=by
 rcases Int.lt_trichotomy (Qm a b) 0 with h | h | h;omega;exact .inr (.inl (Z4 _ _ h));exact .inr (.inr (Fe.1 h))
def Asc (l:Qj):Prop:=l.Pairwise fun a b=>Qm a b < 0
def Asc.nil:Asc []:=List.Pairwise.nil
def Iy (t):Asc [t]:=by simp[Asc]
def YQ {x l}:Asc (x:: l)↔(∀y∈l,Qm x y < 0)/\Asc l:=Uo
def PY: ∀{a b},Asc a->Asc b->(∀x,x∈a↔x∈b)->a=b
 | [],[],_,_,_=>rfl
 | [],y:: l,_,_,h=>by have:=(h y).2 (by simp);grind
 | x:: k,[],_,_,h=>by have:=(h x).1 (by simp);grind
 | x:: k,y:: l,d,f,h=>by
  rw[YQ]at d f;have i:x=y:=by rcases Kb x y with g | g | g;have:=(h x).1 (by simp);rcases Zf.1 this with e | e;exact e;have:=XE g (f.1 x e);exact absurd this (PD x);omega;have:=(h y).2 (by simp);rcases Zf.1 this with e | e;grind;have:=XE g (d.1 y e);exact absurd this (PD y)
  subst i;congr 1;refine PY d.2 f.2 fun z=> ?_;have j:=h z;simp only[Zf]at j;constructor;intro c;rcases j.1 (.inr c)with e | e;subst e;exact absurd (d.1 z c) (PD z);exact e;intro c;rcases j.2 (.inr c)with e | e;subst e;exact absurd (f.1 z c) (PD z);exact e
def ZA (t:Tm):Qj->Qj
 | []=>[t]
 | x:: xs=>if Qm t x < 0 then t:: x:: xs else if Qm t x=0 then x:: xs else x:: ZA t xs
def Uk {t y}: ∀{l},y∈ZA t l↔y=t\/y∈l
 | []=>by simp[ZA]
 | x:: a=>by
  simp only[ZA];split;simp;split;rename_i h;have:=Z4 _ _ h;grind;simp only[Zf,Uk (l:=a)];grind
def Mj {t}: ∀{l},Asc l->Asc (ZA t l)
 | [],_=>Iy t
 | x:: e,h=>by
  have c:=h;rw[YQ]at h;simp only[ZA];split;rename_i b;rw[YQ];refine⟨fun y a=> ?_,c⟩;rcases Zf.1 a with rfl | a;omega;exact XE b (h.1 y a);split;omega;rename_i b d;rw[YQ];refine⟨fun y a=> ?_,Mj h.2⟩;rcases Uk.1 a with rfl | a;exact Fe.1 (by omega);grind
def Mg (t): ∀l:Qj,(ZA t l).length<=l.length+1
 | []=>by simp[ZA]
 | x:: a=>by
  simp only[ZA];have:=Mg t a;grind
def Xd (acc:Qj) (l:Qj):Qj:=l.foldl (fun a x=>ZA x a) acc
def QL (l:Qj):Qj:=Xd [] l
def Ku {y}: ∀{l acc},y∈Xd acc l↔y∈acc\/y∈l
 | [],acc=>by simp[Xd]
 | x:: a,acc=>by
  have:=Ku (y:=y) (l:=a) (acc:=ZA x acc);simp only[Xd,O3]at this ⊢;rw[this,Uk];grind
def GT: ∀{l a},Asc a->Asc (Xd a l)
 | [],_,h=>h
 | x:: b,a,h=>GT (l:=b) (Mj h)
def ZO {y l}:y∈QL l↔y∈l:=by unfold QL;rw[Ku];simp
def XW (l):Asc (QL l):=GT Asc.nil
def Qe0 (c a b):Xd c (a ++ b)=Xd (Xd c a) b:=by simp[Xd]
def Qco {l} (h:Asc l):QL l=l:=PY (XW l) h fun x=>ZO
def L7: ∀l a,(Xd a l).length<=a.length+l.length
 | [],a=>by simp[Xd]
 | x:: b,a=>by
  have c:=L7 b (ZA x a);have d:=Mg x a;simp only[Xd,O3,ZH]at *;omega
def U1 (l): (QL l).length<=l.length:=by have:=L7 l [];simpa[QL]using this
def Kv {t y}: ∀{l},y∈Rr t l↔y=t\/y∈l
 | []=>by simp[Rr]
 | x:: a=>by
  simp only[Rr];split;simp only[Zf,Kv (l:=a)];grind;simp
def UP {y}: ∀{l},y∈XK l↔y∈l
 | []=>by simp[XK]
 | x:: a=>by simp only[XK,Kv,UP (l:=a),Zf]
def Qaf (t): ∀l:Qj,(Rr t l).length=l.length+1
 | []=>rfl
 | x:: a=>by simp only[Rr];split <;> simp[Qaf t a]
def Va: ∀l:Qj,(XK l).length=l.length
 | []=>rfl
 | x:: a=>by simp[XK,Qaf,Va a]
def Srt (l:Qj):Prop:=l.Pairwise fun a b=>Qm a b<=0
def Qbr {t}: ∀{l},Srt l->Srt (Rr t l)
 | [],_=>by simp[Rr,Srt]
 | x:: e,h=>by
  have c:=h;unfold Srt at h;rw[Uo]at h;simp only[Rr];split;rename_i d;unfold Srt;rw[Uo];refine⟨fun y a=> ?_,Qbr h.2⟩;rcases Kv.1 a with rfl | a;omega;grind;rename_i d;unfold Srt;rw[Uo];refine⟨fun y a=> ?_,c⟩;have b:Qm t x<=0:=by have:=Xh x t;omega
  rcases Zf.1 a with rfl | a;omega;exact SF _ _ _ b (h.1 y a)
def Dy: ∀l:Qj,Srt (XK l)
 | []=>List.Pairwise.nil
 | x:: a=>Qbr (Dy a)
def WX:List Tm->List Tm
 | []=>[]
 | [x]=>[x]
 | x:: y:: r=>if Qm y x=0 then WX (x:: r)else x:: WX (y:: r)
termination_by l=>l.length
def M1: ∀n l y,l.length<=n->(y∈WX l↔y∈l)
 | _,[],y,_=>by simp[WX]
 | _,[x],y,_=>by simp[WX]
 | n+1,x:: z:: r,y,h=>by
  rw[WX];split;rename_i e;have e:=Z4 _ _ e;subst e;rw[M1 n (z:: r) y (by grind)];simp;rw[Zf,M1 n (z:: r) y (by grind)];simp
 | 0,_:: _:: _,_,h=>by grind
def JL: ∀n l,l.length<=n->Srt l->Asc (WX l)
 | _,[],_,_=>by simp[WX,Asc.nil]
 | _,[x],_,_=>by simp[WX,Iy]
 | n+1,x:: z:: r,h,a=>by
  have i:=a;unfold Srt at a;rw[Uo]at a;rw[WX];split;rename_i e;have e:=Z4 _ _ e;subst e;exact JL n _ (by grind) a.2;rename_i e;rw[YQ];refine⟨fun y b=> ?_,JL n _ (by grind) a.2⟩;rw[M1 n _ y (by grind)]at b;have f:Qm x z < 0:=by have j:=a.1 z (by simp);have d:=Xh x z;omega
  rcases Zf.1 b with rfl | b;omega;have d:Qm z y<=0:=by simp_all
  rcases Int.lt_or_eq_of_le (SF x z y (by omega) d)with c | c;omega;have g:=Z4 _ _ c;subst g;have:=Xh x z;omega
 | 0,_:: _:: _,h,_=>by grind
def OB (l):WX (XK l)=QL l:=
 PY (JL _ _ (QX _) (Dy l)) (XW l) fun x=>by rw[M1 _ _ x (QX _),UP,ZO]
set_option maxRecDepth 20000
def Lj: ∀a b:Qx,Q3 (a ++ b)=(Q3 a && Q3 b)
 | [],b=>by simp
 | x:: a,b=>by simp[Lj a b,Bool.and_assoc]
section
variable {α:Type} (f:α->List AV) (k:Nat)
def Y4 (f:α->Qx) (l:List α):Qx:=(l.map f).flatten
def So (x l):Y4 f (x:: l)=f x ++ Y4 f l:=by simp[Y4]
def Vp (a b):Y4 f (a ++ b)=Y4 f a ++ Y4 f b:=by simp[Y4]
def Ov (x):Y4 f [x]=f x:=by simp[Y4]
variable {f k}
def Yl (a: ∀x,(f x).length=k): ∀l:List α,(Y4 f l).length=l.length*k
 | []=>by simp[Y4]
 | x:: l=>by rw[So,Zl,a,Yl a l,ZH,U6];omega
def Yn (a: ∀x,(f x).map AV.strip=f x): ∀l:List α,(Y4 f l).map AV.strip=Y4 f l
 | []=>rfl
 | x:: l=>by rw[So,Xt,a,Yn a l]
def Qbb (a: ∀x,Q3 (f x)=true): ∀l:List α,Q3 (Y4 f l)=true
 | []=>rfl
 | x:: l=>by
  rw[So,Lj,a x,Qbb a l];rfl
def Pq:=@List.take_append_of_le_length
def Vj (a: ∀x,(f x).length=k) {l pre post x} (h:l=pre ++ x:: post) (t): ((Y4 f l ++ t).drop (pre.length*k)).take k=f x:=by
 subst h;rw[Vp,So,ZX,<- Yl a pre,List.drop_left,ZX];have:=a x;rw[Pq (by omega),Z7 (by omega)]
def GD:=@List.take_left
def Rv (a: ∀x,(f x).length=k) {l pre post} (h:l=pre ++ post) (t): (Y4 f l ++ t).take (pre.length*k)=Y4 f pre:=by
 subst h;rw[Vp,ZX,<- Yl a pre,GD]
def KP (a: ∀x,(f x).length=k) {l pre post} (h:l=pre ++ post) (t): (Y4 f l ++ t).drop (pre.length*k)=Y4 f post ++ t:=by
 subst h;rw[Vp,ZX,<- Yl a pre,List.drop_left]
def O6:=@Nat.one_mul
def Ow (a: ∀x,(f x).length=k) {l pre post x} (y) (h:l=pre ++ x:: post) (t):
  (Y4 f l ++ t).take (pre.length*k)++ (f y ++ (Y4 f l ++ t).drop (pre.length*k+k))=Y4 f (pre ++ y:: post)++ t:=by
 rw[Rv a h,Vp,So];have b:l=(pre ++ [x])++ post:=by rw[h];simp
 have:=KP a b t;rw[Zl,Pg,Yk,O6]at this;rw[this];simp
def Bo:=@List.getElem_cons_drop
def Wd (e: ∀x,(f x).length=k) (g: ∀x,(f x).map AV.strip=f x) (l t):ZW (Y4 f l ++ t) 0 k l.length=l.map f:=by
 apply U4;intro i;rcases a: (ZW (Y4 f l ++ t) 0 k l.length)[i]? with _ | y;rw[List.getElem?_eq_none_iff,Vu]at a;rw[ZF (by simpa using a)];obtain⟨c,rfl⟩:=Pu a;have d:l=l.take i ++ l[i]:: l.drop (i+1):=by rw[Bo,N8]
 have b:=Vj e d t;rw[Ye,JD (by omega)]at b;rw[Z1,b,g];simp[Q0 c]
end
def QG (x): (Qd x).length=4:=Xz x
abbrev Ql (l:List Tm):List AV:=Y4 Qd l
def Sn (l):l.map Qd=Qa l:=(ZM l).symm
def GX (x y a) (b:x.mass < big) (c:y.mass < big):call tb 171 [.agg (Qd x),.agg (Qd y)] a=some (.bool (decide (Qm x y=0)),a):=by
 rw[zcc 171 rfl rfl];simp[f171,f171C,Qf,(call_Compare x y a b c)]
def ZY (prev:Tm):Qj->Qj
 | []=>[]
 | x:: r=>if Qm x prev=0 then ZY x r else x:: ZY x r
def Pv (x): ∀r,WX (x:: r)=x:: ZY x r
 | []=>by simp[WX,ZY]
 | y:: r=>by
  rw[WX];simp only[ZY];split;rename_i h;have:=Z4 _ _ h;subst this;exact Pv y r;rw[Pv y r]
def Qcu (B b n D c) (r:b < B.length) (p:c.length=n*4) (j:D.length<=n) (t:n < 100000000) (l:c.take (D.length*4)=Ql D)
  (e) (i:e 0= .gs b 0 4 n) (h:e 5= .int .i64 D.length):
  R tb f172r0 e (B.set b c) (Qi 1 (Qu tb f172r1 (Qu tb (.loop f172l1) (Qi 0 (Qu tb f172r2 (Qz f172 B))))))=
   some (.gs b 0 4 D.length,B.set b (Ql D ++ List.replicate ((n - D.length)*4) .undef)):=by
 have q: (0:Int)<=(D.length:Int):=by omega
 have m: (D.length:Int)<=(n:Int):=by omega
 have a:c.take (D.length*4)++ (List.replicate ((n - D.length)*4) AV.undef ++ c.drop (D.length*4+ (n - D.length)*4))=Ql D ++ List.replicate ((n - D.length)*4) .undef:=by rw[l,Pr (by rw[p,<- Yk];exact Yy _ (by omega))];simp
 have d:D.length*4+ (n - D.length)*4<=n*4:=by rw[<- Yk];exact Yy _ (by omega)
 by_cases o:n - D.length=0;have s:D.length=n:=by omega
 have g:c=Ql D:=by rw[<- l,Z7 (by omega)]
 simp[f172r0,i,h,q,m,j,o,g];simp[f172r0,i,h,q,m,j,o,r,p,d,a]
end Go.Am
namespace Go.Am
set_option maxRecDepth 20000
def Lp (L:Qj) (B:Qp) (id:Nat) (r:Option (AV×Qp)):Prop:=∃t,r=some (.gs id 0 4 L.length,B.set id (Ql L ++ t))
def QnH (B z n o) (Y:z < B.length) (hn:n < 100000000): ∀g D i d (j:Nat) r,D.length+i.length+1+g.length=n->o+j=D.length+i.length+1->0 < j->
   (∀x∈d:: g,x.mass < big)->r 0= .gs z 0 4 n->r 1= .fn 171 []->r 5= .int .i64 D.length->r 6= .gs z (o*4) 4 (n - o)->r 7= .int .i64 j->
  Lp (D ++ ZY d g) B z (R tb (.loop f172l0) r (B.set z (Ql (D ++ i ++ d:: g)))
   (Qi 2 (Qu tb f172r0 (Qi 1 (Qu tb f172r1 (Qu tb (.loop f172l1) (Qi 0 (Qu tb f172r2 (Qz f172 B))))))))):=by
 intro g;induction g with | nil=>intro D i d j r m hk T N u v C w S;(have p: (Ql (D ++ i ++ [d])).length=n*4:=by rw[Yl QG];simp at m ⊢;omega);(have ht: (Ql (D ++ i ++ [d])).take (D.length*4)=Ql D:=by have:=Rv (f:=Qd) (k:=4) QG (l:=D ++ i ++ [d]) (pre:=D) (post:=i ++ [d]) (by simp) [];simpa using this);have hr:=fun r a b=>Qcu B z n D (Ql (D ++ i ++ [d])) Y p (by omega) hn ht r a b;(have hl':D.length+i.length+1=n:=by simpa using m);(have X: ¬((j:Int) < ((n - o:Nat):Int)):=by omega);(have hnl2: ¬(j < n - o):=by omega);rw[Qc f172l0.eq_1];simp only[ZY,QH];refine⟨List.replicate ((n - D.length)*4) .undef,?_⟩;simp[v,w,S,X];simp only[ZX]at hr;refine hr _ ?_ ?_ <;> simp[u,C] | cons x g IH=>intro D i d j r m hk T N u v C w S;(have p: (Ql (D ++ i ++ d:: x:: g)).length=n*4:=by rw[Yl QG];simp at m ⊢;omega);have P: (Ql (D ++ i ++ d:: x:: g)).map AV.strip=Ql (D ++ i ++ d:: x:: g):=Yn Zi _;(have r1: ((Ql (D ++ i ++ d:: x:: g)).drop (o*4+j*4)).take 4=Qd x:=by have:=Vj (f:=Qd) (k:=4) QG (l:=D ++ i ++ d:: x:: g) (pre:=D ++ i ++ [d]) (post:=g) (x:=x) (by simp) [];rw[<- Yk,hk];simpa[TI]using this);(have r2: ((Ql (D ++ i ++ d:: x:: g)).drop (o*4+ (j - 1)*4)).take 4=Qd d:=by have:=Vj (f:=Qd) (k:=4) QG (l:=D ++ i ++ d:: x:: g) (pre:=D ++ i) (post:=x:: g) (x:=d) (by simp) [];rw[<- Yk,show o+ (j - 1)=D.length+i.length by omega];simpa[TI]using this);(have K: (Ql (D ++ i ++ d:: x:: g)).take (D.length*4)++ (Qd x ++ (Ql (D ++ i ++ d:: x:: g)).drop (D.length*4+4))=Ql ((D ++ [x])++ (i ++ [d]).tail ++ x:: g):=by(obtain⟨y,W,t⟩: ∃y W,i ++ [d]=y:: W:=by cases i <;> simp);have:=Ow (f:=Qd) (k:=4) QG (l:=D ++ i ++ d:: x:: g) (pre:=D) (post:=W ++ x:: g) (x:=y) x (by(have:D ++ i ++ d:: x:: g=D ++ (i ++ [d])++ x:: g:=by simp);rw[this,t];simp) [];rw[t];simpa using this);(have O:IntKind.i64.wrap ((j:Int) - 1)=((j - 1:Nat):Int):=by rw[QC (by omega) (by omega)];omega);(have A:IntKind.i64.wrap ((j:Int)+1)=((j+1:Nat):Int):=by rw[QC (by simp at m;omega) (by simp at m;omega)];omega);(have hw3:IntKind.i64.wrap ((D.length:Int)+1)=((D.length+1:Nat):Int):=by rw[QC (by simp at m;omega) (by simp at m;omega)];omega);(have L: (j:Int) < ((n - o:Nat):Int):=by simp at m;omega);(have hlt1:j < n - o:=by simp at m;omega);(have s: ((j - 1:Nat):Int) < ((n - o:Nat):Int):=by simp at m;omega);(have Z:j - 1 < n - o:=by simp at m;omega);(have H: (D.length:Int) < (n:Int):=by simp at m;omega);(have U:D.length < n:=by simp at m;omega);(have M:o*4+j*4+4<=n*4:=by simp at m;omega);(have J:o*4+ (j - 1)*4+4<=n*4:=by simp at m;omega);(have V:D.length*4+4<=n*4:=by simp at m;omega);(have E: (0:Int)<=((j - 1:Nat):Int):=by omega);have hc:=fun bs=>GX x d bs (N x (by simp)) (N d (by simp));(have q: ((j - 1:Nat):Int).toNat=j - 1:=by omega);have I:=IH D (i ++ [d]) x (j+1);have G:=IH (D ++ [x]) (i ++ [d]).tail x (j+1);(have htl: ((i ++ [d]).tail).length=i.length:=by simp);rw[show D ++ (i ++ [d])++ x:: g=D ++ i ++ d:: x:: g by simp]at I;rw[Qc f172l0.eq_1];generalize Ql (D ++ i ++ d:: x:: g)=c at *;generalize hkm:j - 1=km at *;generalize n - o=nk at *;by_cases Q:Qm x d=0;(have e:ZY d (x:: g)=ZY x g:=by simp[ZY,Q]);rw[e];simp[u,v,C,w,S,L,s,E,O,A,M,J,Y,p,P,r1,r2,hc,Q,q];refine I _ (by simp at m ⊢;omega) (by simp;omega) (by omega) (fun y t=>N y (by simp at t ⊢;rcases t with h | h <;> simp[h])) ?_ ?_ ?_ ?_ ?_ <;> simp[u,v,C,w];(have e:D ++ ZY d (x:: g)=D ++ x:: ZY x g:=by simp[ZY,Q]);rw[e];simp only[ZX,XQ,Xg]at G;simp[u,v,C,w,S,L,s,H,E,O,A,hw3,M,J,V,Y,p,P,r1,r2,hc,Q,q,K];refine G _ (by simp at m ⊢;omega) (by simp;omega) (by omega) (fun y t=>N y (by simp at t ⊢;rcases t with h | h <;> simp[h])) ?_ ?_ ?_ ?_ ?_ <;> simp[u,v,w]
def QnI (B u n) (J:u < B.length) (P:n < 100000000): ∀d b a p,b.length+1+d.length=n->
   (∀x∈a:: d,x.mass < big)->p 0= .gs u 0 4 n->p 1= .fn 171 []->p 5= .int .i64 (b.length+1:Nat)->
  Lp (b ++ a:: ZY a d) B u (R tb (.loop f172l1) p (B.set u (Ql (b ++ a:: d)))
   (Qi 0 (Qu tb f172r2 (Qz f172 B)))):=by
 intro d;induction d with | nil=>intro b a p L s m o z;(have E:b.length+1=n:=by simpa using L);(have Q: ¬((b.length:Int)+1 < (n:Int)):=by omega);rw[Qc f172l1.eq_1];refine⟨[],?_⟩;simp[m,o,z,ZY,f172r2,E] | cons x d S=>intro b a p L s m o z;(have E:b.length+1+ (d.length+1)=n:=by simpa using L);(have j: (Ql (b ++ a:: x:: d)).length=n*4:=by rw[Yl QG];simp;omega);have q: (Ql (b ++ a:: x:: d)).map AV.strip=Ql (b ++ a:: x:: d):=Yn Zi _;(have O: ((Ql (b ++ a:: x:: d)).drop ((b.length+1)*4)).take 4=Qd x:=by have:=Vj (f:=Qd) (k:=4) QG (l:=b ++ a:: x:: d) (pre:=b ++ [a]) (post:=d) (x:=x) (by simp) [];simpa using this);(have N: ((Ql (b ++ a:: x:: d)).drop (b.length*4)).take 4=Qd a:=by have:=Vj (f:=Qd) (k:=4) QG (l:=b ++ a:: x:: d) (pre:=b) (post:=x:: d) (x:=a) (by simp) [];simpa using this);have A:IntKind.i64.wrap (b.length:Int)=(b.length:Int):=QC (by omega) (by omega);have K:IntKind.i64.wrap ((b.length:Int)+1+1)=(b.length:Int)+1+1:=QC (by omega) (by omega);(have r: (b.length:Int)+1 < (n:Int):=by omega);(have i: (b.length:Int) < (n:Int):=by omega);(have C: (b.length+1)*4+4<=n*4:=by omega);(have D:b.length*4+4<=n*4:=by omega);(have t: (0:Int)<=(b.length:Int)+1:=by omega);(have H: (b.length:Int)+1<=(n:Int):=by omega);(have g: ((b.length:Int)+1).toNat=b.length+1:=by omega);have M:=fun T=>GX x a T (s x (by simp)) (s a (by simp));have w:=S (b ++ [a]) x;have v:=QnH B u n (b.length+1) J P d (b ++ [a]) [] x 1;simp only[ZX,XQ,Xg]at w v;rw[Qc f172l1.eq_1];generalize Ql (b ++ a:: x:: d)=c at *;by_cases I:Qm x a=0;(have e:ZY a (x:: d)=ZY x d:=by simp[ZY,I]);rw[e];simp[m,o,z,r,i,t,H,A,C,D,J,j,q,O,N,M,I,g];refine v _ (by simp;omega) (by simp) (by omega) (fun y G=>s y (by simp at G ⊢;rcases G with h | h <;> simp[h])) ?_ ?_ ?_ ?_ ?_ <;> simp[m,o,z];(have e:b ++ a:: ZY a (x:: d)=b ++ a:: x:: ZY x d:=by simp[ZY,I]);rw[e];simp[m,o,z,r,i,t,H,A,K,C,D,J,j,q,O,N,M,I,g,f172r1];refine w _ (by simp;omega) (fun y G=>s y (by simp at G ⊢;rcases G with h | h <;> simp[h])) ?_ ?_ ?_ <;> simp[m,o]
def Ad (L B c) (b:B[c]? =some (Ql L)) (j:L.length < 100000000) (e: ∀x∈L,x.mass < big):
  Lp (WX L) B c (call tb 172 [.gs c 0 4 L.length,.fn 171 []] B):=by
 have f:c < B.length:=by rcases Zt c B.length with h | h;exact h;rw[ZF h]at b;cases b
 have a:B.set c (Ql L)=B:=by apply U4;intro i;rw[Qy];split;rename_i h;subst h;rw[b];rfl
 match L with | []=>refine⟨[],?_⟩;rw[zcc 172 rfl rfl];simp[f172C,WX];simpa using a.symm | [x]=>refine⟨[],?_⟩;rw[zcc 172 rfl rfl];simp[f172C,WX];simpa using a.symm | x:: y:: r=>have h:=QnI B c (r.length+2) f (by simpa using j) (y:: r) [] x;rw[zcc 172 rfl rfl,Pv];simp only[Xg,a]at h;(have d: ¬((r.length:Int)+1+1 < 2):=by omega);simp[f172C,d];refine h _ (by simp;omega) (fun z g=>e z g) ?_ ?_ ?_ <;> simp
end Go.Am
namespace Go.Am
set_option maxRecDepth 20000
def Qbn {a:Type} {B:List a} {i x} (h:B[i]? =some x):B.set i x=B:=by
 apply U4;intro j;rw[Qy];split;rename_i e;subst e;split;exact h.symm;rename_i b;rw[ZF (by omega)];rfl
def QF {c:Type} {B:List c} {i x} (h:B[i]? =some x):i < B.length:=by
 rcases Zt i B.length with a | a;exact a;rw[ZF a]at h;cases h
def G7 (l): (Qa l).flatten=Ql l:=by rw[ZM];rfl
def BJ:=@List.drop_length
def MN (L B g) (h:B[g]? =some (Ql L)) (l:L.length < 100000000) (i: ∀x∈L,x.mass < big):
  call tb 170 [.gs g 0 4 L.length,.fn 30 []] B=some (.tup [],B.set g (Ql (XK L))):=by
 rw[Xv tb_170];have d: (Ql L).length=L.length*4:=Yl QG L;have c:ZW (Ql L) 0 4 L.length=Qa L:=by have:=Wd (f:=Qd) (k:=4) QG Zi L [];rwa[QH,Sn]at this
 simp only[NG];by_cases e:L.length=0;have:L=[]:=Yu e;subst this;simp[XK];exact(Qbn h).symm;have b: (Ql (XK L)).length=(Ql L).length:=by rw[Yl QG,Yl QG,Va]
 have a:put (Ql L) 0 (Qa (XK L)).flatten=Ql (XK L):=by rw[G7];simp only[put,List.take_zero,Xg,Z1];rw[b,BJ,QH]
 rw[Qb e,Qe ⟨trivial,by omega⟩,h];simp only[QO];rw[Qe (by omega),c,Ht];simp only[QO];rw[Qe (by rw[X0];intro x j;simpa using i x j),a]
def S7:=@List.map_take
def O5:=@List.map_drop
def Qmd (C t B g) (s:g < B.length) (E:C.length < 100000000) (q:C≠[]) (w: ∀x∈C,x.mass < big): ∀b a m,C=a ++ b->m 0= .gs g 0 4 C.length->m 9= .int .i64 C.length->m 10= .int .i64 a.length->
  R tb (.loop f169l0) m (B.set g (Ql C ++ t)) (Qi 0 (Qu tb f169r0 (Qz f169 B)))=some (.sl true 4 (Qa C),B.set g []):=by
 have r:ZW (Ql C ++ t) 0 4 C.length=Qa C:=by have:=Wd (f:=Qd) (k:=4) QG Zi C t;rwa[Sn]at this
 have j:=Yl QG C;intro b;induction b with | nil=>intro a m h o p i;simp only[QH]at h;rw[<- h]at i;have A: ¬C.length=0:=fun e=>q (Yu e);(have l:C.length*4<=(Ql C ++ t).length:=by rw[Zl,j];omega);have G:=YG C;rw[Qc f169l0.eq_1];generalize Ql C ++ t=c at *;simp[o,p,i,f169r0,Z8,A,l,s,r,Z7] | cons x b z=>intro a m h o p i;have D:=QJ h;have v:=Yn Zi C;(have n: (((Ql C ++ t).drop (a.length*4)).take 4).map AV.strip=Qd x:=by rw[(Vj (f:=Qd) (k:=4) QG h t)];exact Zi x);have d:=Ow (f:=Qd) (k:=4) QG x h t;rw[<- h]at d;(have u:a.length < C.length:=by omega);(have l:a.length*4+4<=(Ql C ++ t).length:=by rw[Zl,j];omega);rw[Qc f169l0.eq_1];rw[S7,O5]at n;change List.take (a.length*4) (Ql C ++ t)++ (Qd x ++ List.drop (a.length*4+4) (Ql C ++ t))=Ql C ++ t at d;generalize Ql C ++ t=c at *;simp[o,p,i,(QN h),(wr1 a.length (by omega)),s,l,n,(fun y=>Nu x y (w x (by rw[h];simp))),d];rw[(z (a ++ [x]))] <;> simp[o,p,h]
def Gf:=@List.exists_mem_of_ne_nil
def JP (L B g) (h:B[g]? =some (Ql L)) (c:L≠[]) (i:L.length < 100000000) (b: ∀x∈L,x.mass < big):
  call tb 169 [.gs g 0 4 L.length] B=some (.sl true 4 (Qa (QL L)),B.set g []):=by
 have f:=QF h;obtain⟨t,d⟩:=Ad (XK L) (B.set g (Ql (XK L))) g (by simp[f]) (by rwa[Va]) (fun x a=>b x (UP.1 a));rw[OB,Va,TJ]at d;rw[zcc 169 rfl rfl];simp[f169C,(MN L B g h i b),d];refine(Qmd (QL L) t B g f (by have:=U1 L;omega) (by obtain⟨x,a⟩:=Gf L c;intro e;have:=ZO.2 a;rw[e]at this;simp at this) (fun x a=>b x (ZO.1 a)) (QL L) []) _ rfl ?_ ?_ ?_ <;> simp
def K0 (B):call tb 169 [.gs 0 0 0 0] B=some (.sl true 4 [],B):=by
 rw[zcc 169 rfl rfl];have b:call tb 170 [.gs 0 0 0 0,.fn 30 []] B=some (.tup [],B):=by rw[Xv tb_170];simp[NG]
 have a:call tb 172 [.gs 0 0 0 0,.fn 171 []] B=some (.gs 0 0 0 0,B):=by rw[zcc 172 rfl rfl];simp[f172C]
 simp[f169C,b,a];rw[Qc f169l0.eq_1];simp[f169r0,Z8]
end Go.Am
namespace Go.Am
set_option maxRecDepth 20000
def Wst (B0:Qp) (k:Int) (acc:Qj) (bs:Qp):Prop:=
 B0.length+2<=bs.length/\bs.take B0.length=B0/\bs[B0.length]? =some [.int .i64 k]/\
  ((acc=[]/\bs[B0.length+1]? =some [.gs 0 0 0 0])\/(acc≠[]/\∃g,B0.length+1 < g/\bs[B0.length+1]? =some [.gs g 0 4 acc.length]/\bs[g]? =some (Ql acc)))
def PR {b:Type} {a c:List b} {n i y} (h:n<=a.length) (d:n<=i): ((a ++ c).set i y).take n=a.take n:=by
 apply U4;intro j;rw[Tn,Tn];split;rw[Un (by omega),Y3 (by omega)];rfl
def V2:Qx:=[.int .i64 0,.str [],.int .i64 0,.sl false 4 []]
def Pk:=@List.set_append
def Gq:=@List.take_set_of_le
def Qfe (f k a b x) (A:Wst f k a b) (N:a.length < 100000000):
  ∃n,call tb 167 [.agg (Qd x),.gp f.length 0,.gp (f.length+1) 0] b=some (.tup [],n)/\Wst f k (a ++ if x.kind=k then [x]else []) n:=by
 obtain⟨D,H,o,j⟩:=A;have G:=Qf x;by_cases d:x.kind=k;rcases j with⟨rfl,j⟩ | ⟨w,g,L,j,z⟩;have i: ¬b.length=f.length+1:=by omega
 refine⟨((b ++ [Qd x]).set (f.length+1) [.gs b.length 0 4 1]),?_,?_⟩;rw[zcc 167 rfl rfl];have u: (b ++ [V2])[b.length]? =some V2:=Yv;have q: (b ++ [V2]).set b.length (Qd x)=b ++ [Qd x]:=by rw[Pk];simp
 have r: (b ++ [Qd x])[f.length+1]? =some [.gs 0 0 0 0]:=by rwa[Y3 (by omega)]
 simp only[V2]at u q;simp[f167,f167C,d,o,j,appM,XR,i,r,Xz];refine⟨by simp;omega,?_,?_,.inr ⟨by simp[d],b.length,by omega,?_,?_⟩⟩;rwa[PR (by omega) (by omega)];rwa[Un (by omega),Y3 (by omega)];rw[Pe (by simp;omega)];simp[d];rw[Un (by omega),Yv];simp[d,Y4];have i: ¬b.length=f.length+1:=by omega
 have E:=QF z;have c: (Ql a).length=a.length*4:=Yl QG a;have p: (Ql a).map AV.strip=Ql a:=Yn Zi a;have t: (Ql a).take (a.length*4)=Ql a:=Z7 (by omega);have I: (a.length+1)*56<=140737488355328:=by omega
 have s: ¬(a.length+1)*4<=a.length*4:=by omega
 have h: (Ql a ++ V2).take (a.length*4)++ (Qd x ++ (Ql a ++ V2).drop (a.length*4+4))=Ql (a ++ [x]):=by rw[<- c,GD,Pr (by simp[V2])];simp[Ql,Vp,Ov]
 have m: (Ql a ++ V2).length=a.length*4+4:=by rw[Zl,c];rfl
 have l:Ql a≠[]:=fun e=>by rw[e]at c;rcases a with _ | ⟨y,J⟩;exact w rfl;simp at c
 have v: (a.length:Int) < (a.length:Int)+1:=by omega
 refine⟨((b.set g []++ [Ql (a ++ [x])]).set (f.length+1) [.gs b.length 0 4 (a.length+1)]),?_,?_⟩;rw[zcc 167 rfl rfl];have u: (b.set g []++ [Ql a ++ V2])[b.length]? =some (Ql a ++ V2):=by(have:b.length=(b.set g []).length:=by simp);rw[this];exact Yv
 have q: (b.set g []++ [Ql a ++ V2]).set b.length (Ql (a ++ [x]))=b.set g []++ [Ql (a ++ [x])]:=by rw[Pk];simp
 have r: (b.set g []++ [Ql (a ++ [x])])[f.length+1]? =some [.gs g 0 4 a.length]:=by rwa[Y3 (by simp;omega),Un (by omega)]
 have B:V2=[.int .i64 0,.str [],.int .i64 0,.sl false 4 []]:=rfl;rw[B]at u q h m;generalize Ql (a ++ [x])=K at *;generalize Ql a=C at *;simp[f167,f167C,d,o,j,z,appM,XR,I,l,c,s,t,p,Xz];generalize C ++ [AV.int IntKind.i64 0,AV.str [],AV.int IntKind.i64 0,AV.sl false 4 []]=M at *;simp[v,r,h,m,i,Xz];refine⟨by simp;omega,?_,?_,.inr ⟨by simp[d],b.length,by omega,?_,?_⟩⟩;rwa[PR (by simp;omega) (by omega),Gq (by omega)];rwa[Un (by omega),Y3 (by simp;omega),Un (by omega)];rw[Pe (by simp;omega)];simp[d];rw[Un (by omega)];have:b.length=(b.set g []).length:=by simp
 rw[this,Yv];simp[d];refine⟨b,?_,by simpa[d]using⟨D,H,o,j⟩⟩;rw[zcc 167 rfl rfl];simp[f167,f167C,d,o]
end Go.Am
namespace Go.Am
set_option maxRecDepth 20000
mutual
def Zu:Tm->List Tm
 | .mk k n s ks=> .mk k n s ks:: Zk ks
def Zk:List Tm->List Tm
 | []=>[]
 | t:: ts=>Zu t ++ Zk ts
end
def Ix (t):Zu t=t:: Zk t.kids:=by cases t;simp[Zu]
def QkM (a b):Zk (a ++ b)=Zk a ++ Zk b:=by
 induction a with | nil=>simp[Zk] | cons t d c=>simp[Zk,c]
mutual
theorem Se: ∀t:Tm,(Zu t).length=t.nodes
 | .mk k n s ks=>by simp only[Zu,ZH,Tm.nodes,Mh ks];omega
theorem Mh: ∀ts:List Tm,(Zk ts).length=Qs ts
 | []=>by simp[Zk,Qs]
 | t:: ts=>by simp only[Zk,Zl,Qs,Se t,Mh ts]
end
mutual
theorem V5: ∀(t x:Tm),x∈Zu t->x.mass<=t.mass
 | .mk k n s ks,x,h=>by
  simp only[Zu,Zf]at h;rcases h with rfl | h
  ·exact QX _
  ·have:=EP ks x h;simp only[Tm.mass];omega
theorem EP: ∀(ts:List Tm) (x:Tm),x∈Zk ts->x.mass<=Qv ts
 | [],x,h=>by simp[Zk]at h
 | t:: ts,x,h=>by
  simp only[Zk,Ze]at h;simp only[Qv];rcases h with h | h
  ·have:=V5 t x h;omega
  ·have:=EP ts x h;omega
end
def UO (k:Int) (x:Tm):Bool:=decide (x.kind=k)
def WOk (B0:Qp) (k:Int) (acc:Qj) (r:Option (AV×Qp)):Prop:=∃bs',r=some (.tup [],bs')/\Wst B0 k acc bs'
def Sz:=@List.length_filter_le
def SD:=@List.filter_append
def Qkk (j k) (t:Tm) (B) (z:t.mass < 100000000)
  (r: ∀x∈t.kids,∀b h,Wst j k b h->b.length+x.nodes < 100000000->WOk j k (b ++ (Zu x).filter (UO k)) (call tb 168 [.agg (Qd x),.fn 167 [.gp j.length 0,.gp (j.length+1) 0]] h)):
  ∀a c b h d,t.kids=c ++ a->Wst j k b h->b.length+Qs a < 100000000->d 1= .fn 167 [.gp j.length 0,.gp (j.length+1) 0]->d 10= .sl false 4 (Qa t.kids)->d 11= .int .i64 t.kids.length->d 12= .int .i64 c.length->
  WOk j k (b ++ (Zk a).filter (UO k)) (R tb (.loop f168l0) d h (Qi 0 (Qz f168 B))):=by
 have u:=QI t;intro a;induction a with | nil=>intro c b h d i l p o e f g;simp only[QH]at i;rw[<- i]at g;rw[Qc f168l0.eq_1];refine⟨h,?_,by simpa[Zk]using l⟩;simp[e,f,g] | cons x a s=>intro c b h d i l p o e f g;have y:=QJ i;simp only[Qs]at p;obtain⟨m,v,n⟩:=r x (by rw[i];simp) b h l (by omega);(have w: ((Zu x).filter (UO k)).length<=x.nodes:=by rw[<- Se];exact Sz _ _);have q:=fun d=>s (c ++ [x]) _ m d (by rw[i];simp) n (by rw[Zl];omega);rw[ZX,<- SD,show Zu x ++ Zk a=Zk (x:: a) by simp[Zk]]at q;rw[Qc f168l0.eq_1];simp[o,e,f,g,(QB i),(QN i),(wr1 c.length (by omega)),v];refine q _ ?_ ?_ ?_ ?_ <;> simp[o,e,f]
def Jy:=@List.filter_cons
def Qia (e k): ∀t a d,t.mass < 100000000->Wst e k a d->a.length+t.nodes < 100000000->
  WOk e k (a ++ (Zu t).filter (UO k)) (call tb 168 [.agg (Qd t),.fn 167 [.gp e.length 0,.gp (e.length+1) 0]] d):=by
 refine YC ?_;intro c n s b v a d q f p;have i:=QI (.mk c n s b);have l:=W2 (.mk c n s b);simp only[ZP,Y5]at i l;obtain⟨j,u,g⟩:=Qfe e k a d (.mk c n s b) f (by omega);have o:=fun w=>Qkk e k (.mk c n s b) d q (fun x m a d f p=>v x m a d (by have:=QY m;simp at this;omega) f p) b [] _ j w rfl g (by rw[Zl];split <;> simp <;> omega);have r:a ++ (Zu (.mk c n s b)).filter (UO k)=(a ++ if(Tm.mk c n s b).kind=k then [.mk c n s b]else [])++ (Zk b).filter (UO k):=by simp only[Zu,Jy,UO,Ux];by_cases h:c=k <;> simp[h]
 rw[r,zcc 168 rfl rfl];simp[f168C,u];simp only[Ux,ZP,ZX]at o;refine o _ ?_ ?_ ?_ ?_ <;> simp[Ya]
def QbS (t k B) (r:t.mass < 100000000):
  call tb 166 [.agg (Qd t),.int .i64 k] B=some (.sl true 4 (Qa (QL ((Zu t).filter (UO k)))),B):=by
 have w:=YU t;have d:Wst B k [] (B ++ [[.int .i64 k],[.gs 0 0 0 0]]):=by refine⟨by simp,by simp,by simp,.inl ⟨rfl,?_⟩⟩;rw[Yq (by omega)];simp
 obtain⟨a,l,u,s,v,m⟩:=Qia B k t [] _ r d (by simp;omega);rw[zcc 166 rfl rfl];have e: (B ++ [[AV.int .i64 k]])++ [[AV.gs 0 0 0 0]]=B ++ [[.int .i64 k],[.gs 0 0 0 0]]:=by simp
 have i: (B ++ [[AV.int .i64 k]]).length=B.length+1:=by simp
 generalize j: (Zu t).filter (UO k)=A at *;simp only[Xg]at m;rcases m with⟨c,n⟩ | ⟨c,g,n,o,f⟩;have b:=K0 a;subst c;simp[f166,f166C,Qf,e,i,l,n,b,s,QL,Xd,Qa];have b:=JP A a g f c (by rw[<- j];have:=Sz (UO k) (Zu t);rw[Se]at this;omega) (fun x h=>by rw[<- j]at h;have:=V5 t x (X1.1 h).1;unfold big;omega);have p:=QF f;have q: (a.set g []).take B.length=B:=by rwa[Gq (by omega)]
 simp[f166,f166C,Qf,e,i,l,o,b,q,(YG _)]
def U3 (t:Tm):Qj:=QL ((Zu t).filter (UO 1))
def Qh7 (t B) (a:t.mass < 100000000):call tb 165 [.agg (Qd t)] B=some (.sl true 4 (Qa (U3 t)),B):=by
 rw[zcc 165 rfl rfl];have b:ZL (Qa (QL ((Zu t).filter (UO 1))))=true:=YG _;simp[f165,f165C,Qf,(QbS t 1 B a),U3]
end Go.Am
namespace Go.Am
set_option maxRecDepth 20000
def Wb {n} (h:n<=200000000):n*56<=140737488355328:=by omega
def Qkp (t e) (u:t.mass < 100000000) (n: ∀x∈t.kids,∀e,call tb 237 [.agg (Qd x)] e=some (.sl false 4 (Qa (Zu x)),e)):
  ∀b a d,t.kids=a ++ b->d 1= .bx (Qd t)->d 3= .sl true 4 (Qa (t:: Zk a))->d 4= .int .i64 a.length->
  R tb (.loop f237l0) d e (Qi 0 (Qu tb f237r0 (Qz f237 e)))=some (.sl false 4 (Qa (Zu t)),e):=by
 have o:=QI t;have w:=YU t;have q:=W2 t;intro b;induction b with | nil=>intro a d c h f g;simp only[QH]at c;rw[<- c]at f g;rw[<- Ix]at f;rw[Qc f237l0.eq_1];simp[h,f,g,f237r0] | cons x b s=>intro a d c h f g;have j:=QB c;have v:=QJ c;(have r:Qs t.kids=Qs a+ (x.nodes+Qs b):=by rw[c,YT];simp[Qs]);(have p: ((Zk a).length+1+ (Zu x).length)*56<=140737488355328:=by rw[Mh,Se];omega);(have m:t.kids[a.length]'(by omega)=x:=by have:=Q0 (l:=t.kids) (i:=a.length) (by omega);rw[j]at this;injection this with this;exact this.symm);have k:=s (a ++ [x]);rw[QkM,show Zk [x]=Zu x by simp[Zk]]at k;rw[Qc f237l0.eq_1];simp[h,f,g,j,(QN c),(wr1 a.length (by omega)),(n x (by rw[c];simp)),p,Q7];rw[k] <;> simp[h,c]
def Qk4: ∀t a,t.mass < 100000000->call tb 237 [.agg (Qd t)] a=some (.sl false 4 (Qa (Zu t)),a):=by
 refine YC ?_;intro k n s b e a d;rw[zcc 237 rfl rfl];simp[f237C,Qf];refine(fun f=>Qkp (.mk k n s b) a d (fun x c a=>e x c a (by have:=QY c;have:=QI (.mk k n s b);simp at *;omega)) b [] f rfl) _ ?_ ?_ ?_ <;> simp[Zk,Qa]
def Qko (l t z) (G:l.length < 100000000) (E: ∀x∈l,x.mass < big) (C:t.mass < big):
  ∀a c b d n,l=c ++ a->b.length<=c.length+1->(d=false->b.length=c.length)->n 0= .sl false 4 (Qa l)->n 3= .bx (Qd t)->n 5= .sl true 4 (Qa b)->n 6= .bool d->n 7= .int .i64 c.length->
  R tb (.loop f239l0) n z (Qi 0 (Qu tb f239r0 (Qz f239 z)))=some (.sl false 4 (Qa (b ++ if d then a else ZA t a)),z):=by
 intro a;induction a with | nil=>intro c b d n i B u h j p q o;simp only[QH]at i;rw[<- i]at o B u;(have f: (b.length+1)*56<=140737488355328:=by omega);rw[Qc f239l0.eq_1];cases d;simp[h,j,p,q,o,f239r0,f,ZA,Qf,ZN,Q7];simp[h,j,p,q,o,f239r0,f] | cons x a s=>intro c b d n i B u h j p q o;have w:=QB i;have D:=QJ i;have m:=wr1 c.length (by omega);have k:=QN i;have f: (b.length+1)*56<=140737488355328:=Wb (by omega);have g: (b.length+1+1)*56<=140737488355328:=Wb (by clear f;omega);have y:=Uw t x z C (E x (by rw[i];simp));rw[Qc f239l0.eq_1];cases d;have u:=u rfl;by_cases v:Qm t x < 0;(have r:Qm t x<=0:=by omega);(have e:b ++ (if false=true then x:: a else ZA t (x:: a))=(b ++ [t]++ [x])++ (if true=true then a else ZA t a):=by simp[ZA,v]);rw[e];simp[h,j,p,q,o,w,k,m,y,v,r,f,g,Qf,ZN,Q7];clear f g;rw[s (c ++ [x]) (b ++ [t]++ [x]) true] <;> simp[h,j,i] <;> omega;by_cases A:Qm t x=0;(have e:b ++ (if false=true then x:: a else ZA t (x:: a))=(b ++ [x])++ (if true=true then a else ZA t a):=by simp[ZA,A]);rw[e];simp[h,j,p,q,o,w,k,m,y,A,f,Qf,ZN,Q7];clear f g;rw[s (c ++ [x]) (b ++ [x]) true] <;> simp[h,j,i] <;> omega;(have r: ¬Qm t x<=0:=by omega);(have e:b ++ (if false=true then x:: a else ZA t (x:: a))=(b ++ [x])++ (if false=true then a else ZA t a):=by simp[ZA,v,A]);rw[e];simp[h,j,p,q,o,w,k,m,y,v,r,f,Qf,ZN,Q7];clear f g;rw[s (c ++ [x]) (b ++ [x]) false] <;> simp[h,j,i] <;> omega;(have e:b ++ (if true=true then x:: a else ZA t (x:: a))=(b ++ [x])++ (if true=true then a else ZA t a):=by simp);rw[e];simp[h,j,p,q,o,w,k,m,y,f,Qf,ZN,Q7];clear f g;rw[s (c ++ [x]) (b ++ [x]) true] <;> simp[h,j,i] <;> omega
def Ac (l t o a) (c:l.length < 100000000) (b: ∀x∈l,x.mass < big) (d:t.mass < big):
  call tb 239 [.sl o 4 (Qa l),.agg (Qd t)] a=some (.sl false 4 (Qa (ZA t l)),a):=by
 have h:=fun e=>Qko l t a c b d l [] [] false e rfl (by simp) (fun _=>rfl);rw[zcc 239 rfl rfl];simp[f239C];simp at h;refine h _ ?_ ?_ ?_ ?_ ?_ <;> simp[Qa]
end Go.Am
namespace Go.Am
set_option maxRecDepth 20000
def QA (l:Qj) (t:Tm):Bool:=l.any fun x=>decide (Qm x t=0)
def Yj {l t}:QA l t=true↔t∈l:=by
 simp only[QA,T9,QM];constructor;rintro⟨x,a,h⟩;rwa[<- Z4 _ _ h];intro h;exact⟨t,h,Xc t⟩
def WS (l:Qj) (t:Tm):Qj:=if QA l t then l.filter (fun x=> !decide (Qm x t=0))else ZA t l
def Yz (a b:Qj):Qj:=b.foldl WS a
def Vr {l} (p) (h:Asc l):Asc (l.filter p):=Gm _ h
def QkQ {l} (t) (h:Asc l):Asc (WS l t):=by
 unfold WS;split;exact Vr _ h;exact Mj h
def HH {l t y}:y∈WS l t↔(y∈l/\y≠t)\/(y=t/\t ∉ l):=by
 unfold WS;split;rename_i h;rw[Yj]at h;simp only[X1,Tp,Oz,Vm];grind;rename_i h;rw[Yj]at h;rw[Uk];grind
def RC: ∀b a,Asc a->Asc (Yz a b)
 | [],_,h=>h
 | x:: b,a,h=>RC b _ (QkQ x h)
def Nb {y}: ∀{b a},Asc b->(y∈Yz a b↔(y∈a/\y ∉ b)\/(y ∉ a/\y∈b))
 | [],a,_=>by simp[Yz]
 | x:: b,a,h=>by
  rw[YQ]at h;have c:=Nb (y:=y) (b:=b) (a:=WS a x) h.2;have e:x ∉ b:=fun d=>PD x (h.1 x d);simp only[Yz,O3]at c ⊢;rw[c,HH];grind
def UR: ∀b a,(Yz a b).length<=a.length+b.length
 | [],a=>by simp[Yz]
 | x:: b,a=>by
  have c:=UR b (WS a x);have: (WS a x).length<=a.length+1:=by unfold WS;split;grind;exact Mg x a
  simp only[Yz,O3,ZH]at c ⊢;omega
def VZ:List Tm->List Tm->List Tm
 | [],b=>b
 | a,[]=>a
 | x:: a,y:: b=>if Qm x y < 0 then x:: VZ a (y:: b)else if 0 < Qm x y then y:: VZ (x:: a) b else VZ a b
termination_by a b=>a.length+b.length
def Ip (b):VZ [] b=b:=by rw[VZ]
def KH (a):VZ a []=a:=by cases a <;> rw[VZ];simp
def KF (x y a b):VZ (x:: a) (y:: b)=if Qm x y < 0 then x:: VZ a (y:: b)else if 0 < Qm x y then y:: VZ (x:: a) b else VZ a b:=by rw[VZ]
def RV {y}: ∀n a b,a.length+b.length<=n->Asc a->Asc b->(y∈VZ a b↔(y∈a/\y ∉ b)\/(y ∉ a/\y∈b))
 | _,[],b,_,_,_=>by rw[Ip];simp
 | _,x:: a,[],_,_,_=>by rw[KH];simp
 | 0,x:: a,z:: b,h,_,_=>by grind
 | n+1,x:: a,z:: b,h,d,c=>by
  have f:=d;have i:=c;rw[YQ]at d c;simp only[ZH]at h;rw[KF];split;rename_i g;rw[Zf,RV n a (z:: b) (by grind) d.2 i];have k:x ∉ z:: b:=fun o=>by rcases Zf.1 o with e | e;subst e;exact PD x g;exact PD x (XE g (c.1 x e))
  grind;rename_i g;split;rename_i j;have m:=Fe.1 j;rw[Zf,RV n (x:: a) b (by grind) f c.2];grind;rename_i j;have l:=Z4 x z (by omega);subst l;rw[RV n a b (by omega) d.2 c.2];grind
def MK: ∀n a b,a.length+b.length<=n->Asc a->Asc b->Asc (VZ a b)
 | _,[],b,_,_,f=>by rwa[Ip]
 | _,x:: a,[],_,d,_=>by rwa[KH]
 | 0,x:: a,z:: b,h,_,_=>by grind
 | n+1,x:: a,z:: b,h,d,f=>by
  have g:=d;have i:=f;rw[YQ]at d f;simp only[ZH]at h;rw[KF];split;rename_i k;rw[YQ];refine⟨fun y c=> ?_,MK n a (z:: b) (by grind) d.2 i⟩;rw[RV n a (z:: b) (by grind) d.2 i]at c;rcases c with⟨c,_⟩ | ⟨_,c⟩;grind;rcases Zf.1 c with e | e;grind;exact XE k (f.1 y e);rename_i k;split;rename_i l;have j:=Fe.1 l;rw[YQ];refine⟨fun y c=> ?_,MK n (x:: a) b (by grind) g f.2⟩;rw[RV n (x:: a) b (by grind) g f.2]at c;rcases c with⟨c,_⟩ | ⟨_,c⟩;rcases Zf.1 c with e | e;grind;exact XE j (d.1 y e);grind;exact MK n a b (by omega) d.2 f.2
def QaO {a b} (d:Asc a) (c:Asc b):VZ a b=Yz a b:=
 PY (MK _ a b (QX _) d c) (RC b a d) fun x=>by rw[RV _ a b (QX _) d c,Nb c]
def Ys:Zq:=[122,101,114,111]
def XOR:Zq:=[120,111,114]
mutual
def QD:Tm->List Tm
 | .mk k n s ks=>if k=3/\n=Ys/\ks=[]then []else if k=3/\n=XOR then Z0 [] ks else [.mk k n s ks]
def Z0 (acc:List Tm):List Tm->List Tm
 | []=>acc
 | t:: ts=>Z0 (Yz acc (QD t)) ts
end
mutual
theorem WV: ∀t:Tm,Asc (QD t)
 | .mk k n s ks=>by
  simp only[QD];split
  ·exact Asc.nil
  ·split
   ·exact Mk ks [] Asc.nil
   ·exact Iy _
theorem Mk: ∀(ts acc:List Tm),Asc acc->Asc (Z0 acc ts)
 | [],_,h=>h
 | t:: ts,acc,h=>Mk ts _ (RC _ _ h)
end
def W0 {y b a} (c:Asc b) (h:y∈Yz a b):y∈a\/y∈b:=by
 rw[Nb c]at h;grind
mutual
theorem Rx: ∀(t y:Tm),y∈QD t->y∈Zu t
 | .mk k n s ks,y,h=>by
  simp only[QD]at h;simp only[Zu,Zf];split at h
  ·simp at h
  ·split at h
   ·rcases Ox ks [] y h with h | h
    ·simp at h
    ·exact .inr h
   ·simp at h;exact .inl h
theorem Ox: ∀(ts acc:List Tm) (y:Tm),y∈Z0 acc ts->y∈acc\/y∈Zk ts
 | [],acc,y,h=> .inl h
 | t:: ts,acc,y,h=>by
  simp only[Zk,Ze];rcases Ox ts _ y h with h | h
  ·rcases W0 (WV t) h with h | h
   ·exact .inl h
   ·exact .inr (.inl (Rx t y h))
  ·exact .inr (.inr h)
end
mutual
theorem WC: ∀t:Tm,(QD t).length<=t.nodes
 | .mk k n s ks=>by
  simp only[QD,Tm.nodes];split
  ·simp
  ·split
   ·have:=KT ks [];simp at this;omega
   ·simp
theorem KT: ∀(ts acc:List Tm),(Z0 acc ts).length<=acc.length+Qs ts
 | [],acc=>by simp[Z0,Qs]
 | t:: ts,acc=>by
  have h1:=KT ts (Yz acc (QD t));have h2:=UR (QD t) acc;have h3:=WC t;simp only[Z0,Qs]at *;omega
end
def DN (l t k) (u:l.length < 100000000) (r: ∀x∈l,x.mass < big) (s:t.mass < big):
  ∀a b d,l=b ++ a->d 0= .sl false 4 (Qa l)->d 3= .bx (Qd t)->d 5= .int .i64 b.length->
  R tb (.loop f250l0) d k (Qi 0 (Qu tb f250r0 (Qz f250 k)))=some (.bool (QA a t),k):=by
 intro a;induction a with | nil=>intro b d c g j h;simp only[QH]at c;rw[<- c]at h;rw[Qc f250l0.eq_1];simp[g,h,f250r0,QA] | cons x a p=>intro b d c g j h;have o:=QB c;have q:=QJ c;have i:=wr1 b.length (by omega);have f:=QN c;have n:=Vs x t k (r x (by grind)) s;rw[Qc f250l0.eq_1];by_cases m:Qm x t=0;simp[g,j,h,o,f,i,n,m,Qf,QA];(have e:QA (x:: a) t=QA a t:=by simp[QA,m]);rw[e];simp[g,j,h,o,f,i,n,m,Qf];rw[p (b ++ [x])] <;> simp[g,j,c]
def P8 (l t o a) (c:l.length < 100000000) (b: ∀x∈l,x.mass < big) (d:t.mass < big):
  call tb 250 [.sl o 4 (Qa l),.agg (Qd t)] a=some (.bool (QA l t),a):=by
 have h:=fun e=>DN l t a c b d l [] e rfl;rw[zcc 250 rfl rfl];simp[f250C];simp_all
def Qm1 (l t k) (B:l.length < 100000000) (s: ∀x∈l,x.mass < big) (z:t.mass < big):
  ∀b a d,l=a ++ b->d 0= .sl false 4 (Qa l)->d 3= .bx (Qd t)->d 5= .sl true 4 (Qa (a.filter (fun x=> !decide (Qm x t=0))))->d 6= .int .i64 a.length->
  R tb (.loop f249l0) d k (Qi 0 (Qu tb f249r0 (Qz f249 k)))=some (.sl false 4 (Qa (l.filter (fun x=> !decide (Qm x t=0)))),k):=by
 intro b;induction b with | nil=>intro a d c f j e g;simp only[QH]at c;rw[<- c]at e g;rw[Qc f249l0.eq_1];simp[f,e,g,f249r0] | cons x b r=>intro a d c f j e g;have p:=QB c;have v:=QJ c;have h:=wr1 a.length (by omega);have i:=QN c;have y:=Sz (fun x=> !decide (Qm x t=0)) a;have u: ((a.filter (fun x=> !decide (Qm x t=0))).length+1)*56<=140737488355328:=Wb (by omega);have o:=Vs x t k (s x (by grind)) z;have m:=r (a ++ [x]);rw[Qc f249l0.eq_1];by_cases q:Qm x t=0;(have n: (a ++ [x]).filter (fun x=> !decide (Qm x t=0))=a.filter (fun x=> !decide (Qm x t=0)):=by grind);rw[n]at m;generalize a.filter (fun x=> !decide (Qm x t=0))=A at *;generalize l.filter (fun x=> !decide (Qm x t=0))=w at *;simp[f,j,e,g,p,i,h,o,q,Qf];rw[m] <;> simp[f,j,e,c];(have n: (a ++ [x]).filter (fun x=> !decide (Qm x t=0))=a.filter (fun x=> !decide (Qm x t=0))++ [x]:=by grind);rw[n]at m;generalize a.filter (fun x=> !decide (Qm x t=0))=A at *;generalize l.filter (fun x=> !decide (Qm x t=0))=w at *;simp[f,j,e,g,p,i,h,o,q,u,Qf,ZN,Q7];rw[m] <;> simp[f,j,c]
def QbT (l t o a) (d:l.length < 100000000) (c: ∀x∈l,x.mass < big) (f:t.mass < big):
  call tb 249 [.sl o 4 (Qa l),.agg (Qd t)] a=some (.sl false 4 (Qa (WS l t)),a):=by
 have h:=fun i=>Qm1 l t a d c f l [] i rfl;have g:=P8 l t false a d c f;rw[zcc 249 rfl rfl];cases b:QA l t;have e:WS l t=ZA t l:=by simp[WS,b]
 rw[e];simp[f249C,Qf,g,b,(Ac l t false a d c f)];have e:WS l t=l.filter (fun x=> !decide (Qm x t=0)):=by simp[WS,b]
 rw[e];generalize l.filter (fun x=> !decide (Qm x t=0))=j at *;simp[f249C,Qf,g,b];refine h _ ?_ ?_ ?_ ?_ <;> simp[Qa]
def QeU (b k) (v:b.length < 40000000) (u: ∀x∈b,x.mass < big):
  ∀c d a o e,b=d ++ c->a.length+c.length < 90000000->(∀x∈a,x.mass < big)->e 1= .sl false 4 (Qa b)->e 5= .sl o 4 (Qa a)->e 6= .int .i64 d.length->
  R tb (.loop f248l0) e k (Qi 0 (Qu tb f248r0 (Qz f248 k)))=some (.sl false 4 (Qa (Yz a c)),k):=by
 intro c;induction c with | nil=>intro d a o e f t g i m j;simp only[QH]at f;rw[<- f]at j;rw[Qc f248l0.eq_1];simp[i,m,j,f248r0,Yz] | cons x c r=>intro d a o e f t g i m j;have n:=QJ f;(have p:a.length+ (c.length+1) < 90000000:=by omega);(have s: (WS a x).length<=a.length+1:=by have:=UR [x] a;simpa[Yz]using this);(have l: ∀y∈WS a x,y.mass < big:=fun y q=>by rcases HH.1 q with h | h;grind;grind);rw[Qc f248l0.eq_1];simp[i,m,j,(QB f),(QN f),(wr1 d.length (by omega)),(QbT a x false k (by omega) g (u x (by grind)))];rw[show Yz a (x:: c)=Yz (WS a x) c from rfl];refine(fun e=>r (d ++ [x]) (WS a x) false e (by grind) (by omega) l) _ ?_ ?_ ?_ <;> simp[i]
def L8 (a b o i f) (k:a.length < 40000000) (g:b.length < 40000000) (d: ∀x∈a,x.mass < big) (e: ∀x∈b,x.mass < big):
  call tb 248 [.sl o 4 (Qa a),.sl i 4 (Qa b)] f=some (.sl false 4 (Qa (Yz a b)),f):=by
 have h:=fun o j=>QeU b f g e b [] a o j rfl (by omega) d;have c:a.length*56<=140737488355328:=Wb (by omega);rw[zcc 248 rfl rfl];simp[f248C,c];simp_all
def QhJ (t e) (G:t.mass < 30000000) (u: ∀x∈t.kids,∀e,∃o,call tb 247 [.agg (Qd x)] e=some (.sl o 4 (Qa (QD x)),e)):
  ∀b c a o d,t.kids=c ++ b->a.length+Qs b < 30000000->(∀x∈a,x.mass < big)->d 1= .bx (Qd t)->d 3= .sl o 4 (Qa a)->d 4= .int .i64 c.length->
  R tb (.loop f247l0) d e (Qi 0 (Qu tb f247r0 (Qz f247 e)))=some (.sl false 4 (Qa (Z0 a b)),e):=by
 have v:=QI t;intro b;induction b with | nil=>intro c a o d f r i k p j;simp only[QH]at f;rw[<- f]at j;rw[Qc f247l0.eq_1];simp[k,p,j,f247r0,Z0] | cons x b D=>intro c a o d f r i k p j;have w:=QJ f;(have z:t.kids[c.length]'(by omega)=x:=by grind);(have g:x∈t.kids:=by grind);have A:=QY g;have B:=YU x;have s:=WC x;simp only[Qs]at r;obtain⟨E,l⟩:=u x g e;(have q: ∀y∈QD x,y.mass < big:=fun y n=>by have:=V5 x y (Rx x y n);unfold big;omega);have C:=UR (QD x) a;(have m: ∀y∈Yz a (QD x),y.mass < big:=fun y n=>by rcases W0 (WV x) n with h | h;grind;grind);rw[Qc f247l0.eq_1];simp[k,p,j,(QB f),(QN f),(wr1 c.length (by omega)),l,(L8 a (QD x) false false e (by omega) (by omega) i q),Z0];refine(fun d=>D (c ++ [x]) (Yz a (QD x)) false d (by grind) (by omega) m) _ ?_ ?_ ?_ <;> simp[k]
def P9: ∀t f,t.mass < 30000000->∃o,call tb 247 [.agg (Qd t)] f=some (.sl o 4 (Qa (QD t)),f):=by
 refine YC ?_;intro k n s a p f u;have h:=QI (.mk k n s a);have l:=Y6 a;simp only[ZP,Y5]at h;rw[zcc 247 rfl rfl];by_cases c:k=3;by_cases d:n=Ys;rcases a with _ | ⟨x,q⟩;refine⟨true,?_⟩;simp[f247C,Qd,Qa,QD,c,d,Ys];refine⟨true,?_⟩;simp only[Ys]at d;have: ¬((q.length:Int)+1=0):=by omega
 simp[f247C,Qd,QD,c,d,Ys,XOR,this,Qa];by_cases b:n=XOR;refine⟨false,?_⟩;have e:QD (.mk k n s a)=Z0 [] a:=by simp[QD,c,b,Ys,XOR]
 rw[e];have g: (n == [122,101,114,111])=false:=by simpa[Ys]using d
 simp only[XOR]at b;simp[f247C,Qd,c,b];refine(fun j=>QhJ (.mk k n s a) f u (fun x b f=>p x b f (by have:=QY b;simp at this;omega)) a [] [] true j rfl (by grind) (by simp)) _ ?_ ?_ ?_ <;> simp[Qd,Qa,c,b];refine⟨true,?_⟩;have e:QD (.mk k n s a)=[.mk k n s a]:=by simp[QD,c,b,d]
 rw[e];have g: (n == [122,101,114,111])=false:=by simpa[Ys]using d
 have i: (n == [120,111,114])=false:=by simpa[XOR]using b
 have m: (n != [120,111,114])=true:=by grind
 simp[f247C,Qd,c,g,i,Qa];refine⟨true,?_⟩;have e:QD (.mk k n s a)=[.mk k n s a]:=by simp[QD,c]
 rw[e];have r: (k != 3)=true:=by grind
 simp[f247C,Qd,c,r,Qa]
end Go.Am
namespace Go.Am
set_option maxRecDepth 20000
@[simp] def Qxf (x a) (h:0 < (Qa (x:: a)).length): (Qa (x:: a))[0]=Qd x:=by simp[Qa]
def TH (l:Qj) (bs:Qp) (r:Option (AV×Qp)):Prop:=∃o,r=some (.sl o 4 (Qa l),bs)
def Jz:=@List.take_length
def Qjk (r): ∀n a b c m l d,a.length+b.length<=n->c.length+a.length+b.length < 100000000->(∀x∈a,x.mass < big)->(∀x∈b,x.mass < big)->
   d 0= .sl m 4 (Qa a)->d 1= .sl l 4 (Qa b)->d 5= .sl true 4 (Qa c)->
  TH (c ++ VZ a b) r (R tb (.loop f183l0) d r (Qi 0 (Qu tb f183r0 (Qz f183 r)))):=by
 have k: ∀(a b c:Qj) (m l:Bool) (d:Yd),(a=[]\/b=[])->c.length+a.length+b.length < 100000000->d 0= .sl m 4 (Qa a)->d 1= .sl l 4 (Qa b)->d 5= .sl true 4 (Qa c)->TH (c ++ VZ a b) r (R tb f183r0 d r (Qz f183 r)):=by intro a b c m l d D t g h o;(have e:VZ a b=a ++ b:=by rcases D with rfl | rfl;rw[Ip];simp;rw[KH];simp);have v: (c.length+a.length)*56<=140737488355328:=Wb (by omega);have C: (c.length+ (a.length+b.length))*56<=140737488355328:=Wb (by clear v;omega);rw[e];refine⟨true,?_⟩;simp[g,h,o,v,C,f183r0,Q7,TI]
 intro n;induction n with | zero=>intro a b c m l d G t j i g h o;have L:a=[]:=Yu (by omega);subst L;have w:=fun d=>k [] b c m l d (.inl rfl) t;rw[Qc f183l0.eq_1];simp[g,Qa];refine w _ ?_ ?_ ?_ <;> simp[g,h,o] | succ n H=>intro a b c m l d G t j i g h o;match a,b with | [],b=>have w:=fun d=>k [] b c m l d (.inl rfl) t;rw[Qc f183l0.eq_1];simp[g,Qa];refine w _ ?_ ?_ ?_ <;> simp[g,h,o] | x:: a,[]=>have w:=fun d=>k (x:: a) [] c m l d (.inr rfl) t;(have u: (0:Int) < (a.length:Int)+1:=by omega);rw[Qc f183l0.eq_1];simp[g,h,u];refine w _ ?_ ?_ ?_ <;> simp[g,h,o] | x:: a,y:: b=>simp only[ZH]at G t;(have u: (0:Int) < (a.length:Int)+1:=by omega);(have q: (0:Int) < (b.length:Int)+1:=by omega);(have B: (1:Int)<=(a.length:Int)+1:=by omega);(have A: (1:Int)<=(b.length:Int)+1:=by omega);have E:=call_Compare x y r (j x (by simp)) (i y (by simp));have K: (c.length+1)*56<=140737488355328:=Wb (by omega);have N: (Qa (x:: a)).take ((Qa (x:: a)).length)=Qa (x:: a):=Jz;have J:=fun d=>H a (y:: b) (c ++ [x]) false l d (by simp;omega) (by simp;omega) (fun z s=>j z (by simp[s])) i;have I:=fun d=>H (x:: a) b (c ++ [y]) m false d (by simp;omega) (by simp;omega) j (fun z s=>i z (by simp[s]));have M:=fun d=>H a b c false false d (by omega) (by omega) (fun z s=>j z (by simp[s])) (fun z s=>i z (by simp[s]));rw[Qc f183l0.eq_1,KF];clear G;by_cases f:Qm x y < 0;simp only[f,QT];simp only[ZX,XQ,Xg]at J;simp[g,h,o,u,q,B,E,f,K,ZN,Q7,Kh,Px];refine J _ ?_ ?_ ?_ <;> simp[h];by_cases p:0 < Qm x y;simp only[f,p,QT,ZT];simp only[ZX,XQ,Xg]at I;simp[g,h,o,u,q,A,E,f,p,K,ZN,Q7,Kh,Px];refine I _ ?_ ?_ ?_ <;> simp[g];simp only[f,p,ZT];simp[g,h,o,u,q,B,A,E,f,p,Kh,Px];refine M _ ?_ ?_ ?_ <;> simp[o]
def EU (a b g f e) (j:a.length+b.length < 100000000) (c: ∀x∈a,x.mass < big) (d: ∀x∈b,x.mass < big):
  TH (VZ a b) e (call tb 183 [.sl g 4 (Qa a),.sl f 4 (Qa b)] e):=by
 have h:=fun i=>Qjk e _ a b [] false false i (QX _) (by simp;omega) c d;simp only[Xg]at h;rw[zcc 183 rfl rfl];simp[f183C];refine h _ ?_ ?_ ?_ <;> simp[Qa]
def QmU (t:Tm) (i) (J:t.mass < 30000000) (E: ∀x∈t.kids,∀i,TH (QD x) i (call tb 182 [.agg (Qd x)] i)):
  ∀b c a o f,t.kids=c ++ b->a.length+Qs b < 30000000->Asc a->(∀x∈a,x.mass < big)->f 3= .sl o 4 (Qa a)->f 31= .sl false 4 (Qa t.kids)->f 32= .int .i64 t.kids.length->f 33= .int .i64 c.length->
  R tb (.loop f182l0) f i (Qi 1 (Qu tb f182r0 (Qi 0 (Qu tb f182r1 (Qz f182 i)))))=some (.sl false 4 (Qa (Z0 a b)),i):=by
 have C:=QI t;intro b;induction b with | nil=>intro c a o f j v l k u d e g;simp only[QH]at j;rw[<- j]at g;rw[Qc f182l0.eq_1];simp[u,d,e,g,f182r0,Z0] | cons x b H=>intro c a o f j v l k u d e g;have G:=QJ j;(have p:x∈t.kids:=by rw[j];simp);have z:=QY p;have A:=YU x;have w:=WC x;simp only[Qs]at v;obtain⟨I,q⟩:=E x p i;(have m: ∀y∈QD x,y.mass < big:=fun y r=>by have:=V5 x y (Rx x y r);unfold big;omega);obtain⟨B,n⟩:=EU a (QD x) false false i (by omega) k m;rw[QaO l (WV x)]at n;have D:=UR (QD x) a;(have s: ∀y∈Yz a (QD x),y.mass < big:=fun y r=>by rcases W0 (WV x) r with h | h;exact k y h;exact m y h);rw[Qc f182l0.eq_1];simp[u,d,e,g,(QB j),(QN j),(wr1 c.length (by omega)),Qf,q,n,Z0];refine(fun f=>H (c ++ [x]) (Yz a (QD x)) B f (by rw[j];simp) (by omega) (RC _ _ l) s) _ ?_ ?_ ?_ ?_ <;> simp[d,e]
def Rg: ∀t d,t.mass < 30000000->TH (QD t) d (call tb 182 [.agg (Qd t)] d):=by
 refine YC ?_;intro k n s a q d o;have h:=QI (.mk k n s a);have m:=Y6 a;simp only[ZP,Y5]at h;have l:=fun r=>QmU (.mk k n s a) d o (fun x c d=>q x c d (by have:=QY c;simp at this;omega)) a [] [] true r rfl (by simp;omega) Asc.nil (by simp);simp only[ZP]at l;rw[zcc 182 rfl rfl];by_cases b:k=3;by_cases f:n=Ys;rcases a with _ | ⟨x,p⟩;refine⟨true,?_⟩;simp[f182C,Qd,Qa,QD,b,f,Ys];refine⟨true,?_⟩;simp only[Ys]at f;have: ¬((p.length:Int)+1=0):=by omega
 simp[f182C,Qd,QD,b,f,Ys,XOR,this,Qa,f182r1];by_cases c:n=XOR;refine⟨false,?_⟩;have e:QD (.mk k n s a)=Z0 [] a:=by simp[QD,b,c,Ys,XOR]
 rw[e];simp only[XOR]at c;simp[f182C,Qd,b,c];refine l _ ?_ ?_ ?_ ?_ <;> simp[Qa];refine⟨true,?_⟩;have e:QD (.mk k n s a)=[.mk k n s a]:=by simp[QD,b,c,f]
 rw[e];have j: (n == [122,101,114,111])=false:=by simpa[Ys]using f
 have i: (n == [120,111,114])=false:=by simpa[XOR]using c
 simp[f182C,Qd,b,j,i,Qa,f182r1];refine⟨true,?_⟩;have e:QD (.mk k n s a)=[.mk k n s a]:=by simp[QD,b]
 rw[e];simp[f182C,Qd,b,Qa,f182r1]
def KZ (t u o a) (c:t.mass < big) (d:u.mass < big):call tb 185 [.agg (Qd t),.sl o 1 [],.agg (Qd u)] a=some (.tup [.agg (Qd u),.int .i64 0],a):=by
 rw[zcc 185 rfl rfl];have b: ∀x y:Qx,(a ++ [x]).set a.length y=a ++ [y]:=fun x y=>by rw[Pk];simp
 simp[f185C,(fun a=>Nu t a c),Qf,b,put];rw[Qc f185l0.eq_1];simp[f185r0,(fun a=>Nu u a d),Qf,b,put]
end Go.Am
namespace Go.Am
set_option maxRecDepth 20000
def SJ (ls:List Qj):Qp:=ls.map fun l=>[AV.sl false 4 (Qa l)]
def E5 {c b a x} (h:c=b ++ x:: a): (SJ c)[b.length]? =some [AV.sl false 4 (Qa x)]:=by subst h;simp[SJ]
def E6 (a): (SJ a).length=a.length:=by simp[SJ]
def Qh6 (n:Nat) (a) (b:n < 100000000):call tb 181 [.gs 0 0 0 0,.int .i64 n] a=some (.sl true 4 [],a):=by
 rw[Xv tb_181];simp only[II];rw[Qe];refine⟨by omega,?_,by omega⟩;simp;exact Wb (by omega)
def QgF (i k) (r:i.length < 1000) (q:i.flatten.length < 100000000):
  ∀b a h,i=a ++ b->h 6= .sl true 4 (Qa a.flatten)->h 25= .sl false 1 (SJ i)->h 26= .int .i64 i.length->h 27= .int .i64 a.length->
  R tb (.loop f180l1) h k (Qi 2 (Qu tb f180r0 (Qz f180 k)))=some (.sl false 4 (Qa i.flatten),k):=by
 intro b;induction b with | nil=>intro a h g j c f d;simp only[QH]at g;rw[<- g]at d j;rw[Qc f180l1.eq_1];simp[j,c,f,d,f180r0] | cons x b o=>intro a h g j c f d;have p:=QJ g;(have m:i.flatten.length=a.flatten.length+ (x.length+b.flatten.length):=by rw[g];simp);have n: (a.flatten.length+x.length)*56<=140737488355328:=Wb (by omega);have l:=o (a ++ [x]);(have e: (a ++ [x]).flatten=a.flatten ++ x:=by simp);rw[e]at l;generalize a.flatten=s at *;rw[Qc f180l1.eq_1];simp[j,c,f,d,(E5 g),(QN g),(wr1 a.length (by omega)),n,Q7];rw[l] <;> simp[c,f,g]
def QgE (c i) (r:c.length < 1000) (o:c.flatten.length < 100000000):
  ∀b a d,c=a ++ b->d 0= .sl false 1 (SJ c)->d 3= .int .i64 a.flatten.length->d 9= .sl false 1 (SJ c)->d 10= .int .i64 c.length->d 11= .int .i64 a.length->
  R tb (.loop f180l0) d i (Qi 0 (Qu tb f180r1 (Qz f180 i)))=some (.sl false 4 (Qa c.flatten),i):=by
 intro b;induction b with | nil=>intro a d h m j k g f;simp only[QH]at h;rw[<- h]at f j;have u:=Qh6 c.flatten.length i o;have q:=fun d=>QgF c i r o c [] d rfl;generalize c.flatten=y at *;rw[Qc f180l0.eq_1];simp[m,j,k,g,f,f180r1,u];refine q _ ?_ ?_ ?_ ?_ <;> simp[Qa,E6] | cons x b v=>intro a d h m j k g f;have t:=QJ h;(have s:c.flatten.length=a.flatten.length+ (x.length+b.flatten.length):=by rw[h];simp);have n:IntKind.i64.wrap ((a.flatten.length:Int)+ (x.length:Int))=(a.flatten.length:Int)+ (x.length:Int):=QC (by omega) (by omega);(have l: ¬((a.flatten.length:Int)+ (x.length:Int) < 0):=by omega);have p:=v (a ++ [x]);(have e: ((a ++ [x]).flatten.length:Int)=(a.flatten.length:Int)+ (x.length:Int):=by simp);rw[e]at p;generalize (a.flatten.length:Int)=w at *;rw[Qc f180l0.eq_1];simp[j,k,g,f,(E5 h),(QN h),(wr1 a.length (by omega)),n,l];rw[p] <;> simp[m,k,g,h]
def S9 (a o b) (c:a.length < 1000) (d:a.flatten.length < 100000000):
  call tb 180 [.sl o 1 (SJ a)] b=some (.sl false 4 (Qa a.flatten),b):=by
 rw[zcc 180 rfl rfl];simp[f180C];refine(fun e=>QgE a b c d a [] e rfl) _ ?_ ?_ ?_ ?_ ?_ <;> simp[E6]
def Wa:Qj->Int
 | []=>0
 | t:: ts=>if QR t≠0 then QR t else Wa ts
def FK (l j) (r:l.length < 100000000) (o: ∀x∈l,x.mass < big): ∀a b g,l=b ++ a->g 14= .sl false 4 (Qa l)->g 15= .int .i64 l.length->g 16= .int .i64 b.length->
  R tb (.loop f179l0) g j (Qi 0 (Qu tb f179r0 (Qz f179 j)))=some (.int .i64 (Wa a),j):=by
 intro a;induction a with | nil=>intro b g f d e c;simp only[QH]at f;rw[<- f]at c;rw[Qc f179l0.eq_1];simp[d,e,c,f179r0,Wa] | cons x a p=>intro b g f d e c;have n:=QB f;have q:=QJ f;have h:=wr1 b.length (by omega);have i:=QN f;have k:=Tr x j (o x (by rw[f];simp));rw[Qc f179l0.eq_1];by_cases m:QR x=0;simp[d,e,c,n,i,h,Qf,k,m,Wa];rw[p (b ++ [x])] <;> simp[d,e,f];simp[d,e,c,n,i,h,Qf,k,m,Wa]
def VU (l:Qj):Int:=if 200 < l.length then 3 else Wa l
def Gv:=@List.flatten_nil
def Qfd (l o h b) (c:l.length < 100000000) (f: ∀x∈l,x.mass < big):call tb 179 [.sl o 4 (Qa l),.sl h 4 []] b=some (.int .i64 (VU l),b):=by
 have e:=S9 [l,[]] false b (by simp) (by simpa using c);simp only[SJ,ZI,Vv,To,Gv,QH,Qa]at e;rw[zcc 179 rfl rfl];by_cases d:200 < l.length;have a: (200:Int) < (l.length:Int):=by omega
 simp[f179C,a,d,VU];have a: ¬(200:Int) < (l.length:Int):=by omega
 simp[f179C,a,d,VU,e];refine(fun g=>FK l b c f l [] g rfl) _ ?_ ?_ ?_ <;> simp
end Go.Am
