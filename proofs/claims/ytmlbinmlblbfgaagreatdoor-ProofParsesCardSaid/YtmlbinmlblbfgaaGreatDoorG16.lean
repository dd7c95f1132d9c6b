/-
  Rc1, Rc2, Rc3, Rc4, Rc5, Rc6, Rc7, Rc8, Rc9, Rc10, Rc11, Rc12, Rc13, Rc14, Rc15, Rc16, Rc17, Rc18, Rc19, Rc20, Rc21, Rc22, Rc23, Rc24, Rc25, Rc26, Rc27, Rc28, Rc29, Rc30, Rc31, Rc32, Rc33, Rc34, Rc35, Rc36, Rc37, Rc38, Rc39, Rc40, Rc41, Rc42, En1, En2, En3, En4, En5, En6, En7, En8, En9, En10, En11, En12, En13, En14, En15, En16, En17, En18, En19, En20, En21, En22, En23, En24, En25, En26, En30, En31, En32, En33, En34, En35, En36, En37, En38, En39, En40, En41, En42, En43, En44, En45, En46, En47, En48, Kn1, Kn2, Kn3, Kn4, Kn22, Kn23, Kn24, Kn8, Kn5, Kn6, Kn7, Kn9, Kn10, Kn11, Kn12, Kn13, Kn14, Kn15, Kn16, Kn17, Kn18, Kn20, Kn25, Kn26, Kn27, Kn28.
-/
import Derived.Test.YtmlbinmlblbfgaaGreatDoorG15
set_option linter.all false
open Go.Am.F
namespace Go.Am
def RE (a b:Int):sgn b a= - sgn a b:=by unfold sgn;split <;> (try split) <;> (try split) <;> omega
def BW {a b:Int}:sgn a b<=0↔a<=b:=by unfold sgn;split <;> (try split) <;> omega
def OM: ∀a b:Qb,Op.bytesLess a b=true\/a=b\/Op.bytesLess b a=true
 | [],[]=> .inr (.inl rfl)
 | [],_:: _=> .inl rfl
 | _:: _,[]=> .inr (.inr rfl)
 | x:: xs,y:: ys=>by
  simp only[Op.bytesLess,XQ,Qm,Qi,XL,List.cons.injEq];rcases Nat.lt_trichotomy x.toNat y.toNat with h | h | h
  ·have:x < y:=by rw[TU];exact h
   simp[this]
  ·have e:x=y:=Pe.1 h;subst e;have hi: ¬x < x:=by rw[TU];omega
   rcases OM xs ys with h | h | h
   ·simp[hi,h]
   ·simp[hi,h]
   ·simp[hi,h]
  ·have:y < x:=by rw[TU];exact h
   have h2: ¬x < y:=by rw[TU];omega
   simp[this,h2]
def Ry: ∀a b c:Qb,Op.bytesLess a b=true->Op.bytesLess b c=true->Op.bytesLess a c=true
 | [],_,[],_,h=>by cases ‹Qb› <;> simp[Op.bytesLess]at h
 | [],_,_:: _,_,_=>rfl
 | _:: _,[],_,h,_=>by simp[Op.bytesLess]at h
 | _:: _,_:: _,[],_,h=>by simp[Op.bytesLess]at h
 | x:: xs,y:: ys,z:: zs,h1,h2=>by
  have ih:=Ry xs ys zs;simp only[Op.bytesLess,XQ,Qm,Qi,XL]at h1 h2 ⊢;rcases h1 with h1 | ⟨rfl,h1⟩
  ·rcases h2 with h2 | ⟨rfl,h2⟩
   ·left;rw[TU]at *;omega
   ·exact .inl h1
  ·rcases h2 with h2 | ⟨rfl,h2⟩
   ·exact .inl h2
   ·exact .inr ⟨rfl,ih h1 h2⟩
def NN (a b:Qb) (h:Op.bytesLess a b=true):Op.bytesLess b a=false:=by
 cases hb:Op.bytesLess b a
 ·rfl
 ·have:=Ry a b a h hb;rw[YZ]at this;cases this
def Pt (a b:Qb):Y0 b a= - Y0 a b:=by
 unfold Y0;rcases OM a b with h | h | h
 ·have h2:=NN a b h;have hne: (b == a)=false:=by
   rw[JB];intro e;subst e;rw[YZ]at h;cases h
  simp[h,h2,hne]
 ·subst h;simp[YZ]
 ·have h2:=NN b a h;have hne: (a == b)=false:=by
   rw[JB];intro e;subst e;rw[YZ]at h;cases h
  simp[h,h2,hne]
def Qcn {a b:Qb}:Y0 a b<=0↔Op.bytesLess a b=true\/a=b:=by
 unfold Y0;split
 ·rename_i h;simp[h]
 ·rename_i h;split
  ·rename_i h2;simp at h2;simp[h2]
  ·rename_i h2;simp at h2;simp[h,h2]
def Fv {a b c:Qb} (h1:Y0 a b<=0) (h2:Y0 b c<=0):Y0 a c<=0:=by
 rw[Qcn]at *;rcases h1 with h1 | rfl
 ·rcases h2 with h2 | rfl
  ·exact .inl (Ry _ _ _ h1 h2)
  ·exact .inl h1
 ·exact h2
def J7 {a b:Qb} (h:Y0 a b=0):a=b:=by
 rcases OM a b with h2 | h2 | h2
 ·simp[Y0,h2]at h
 ·exact h2
 ·have:=Pt a b;rw[h]at this;simp[Y0,h2]at this
def US {a b a' b':Int} (h1:a'= -a) (h2:b'= -b):or0 a' b'= - or0 a b:=by
 subst h1 h2;unfold or0;split <;> split <;> omega
def V0 {a1 a2 a3 b1 b2 b3:Int} (ha:a1<=0->a2<=0->a3<=0) (hz:a3=0->a1<=0->a2<=0->a1=0/\a2=0) (hb:a1=0->a2=0->b1<=0->b2<=0->b3<=0)
  (h1:or0 a1 b1<=0) (h2:or0 a2 b2<=0):or0 a3 b3<=0:=by
 have g1:a1<=0:=by unfold or0 at h1;split at h1 <;> omega
 have g2:a2<=0:=by unfold or0 at h2;split at h2 <;> omega
 have g3:=ha g1 g2;by_cases hc:a3=0
 ·obtain⟨z1,z2⟩:=hz hc g1 g2;rw[z1,Vt]at h1;rw[z2,Vt]at h2;rw[hc,Vt];exact hb z1 z2 h1 h2
 ·rw[Un hc];exact g3
def Sw {a b c:Int} (h1:sgn a b<=0) (h2:sgn b c<=0):sgn a c<=0:=by rw[BW]at *;omega
def OR {a b c:Int} (h:sgn a c=0) (h1:sgn a b<=0) (h2:sgn b c<=0):sgn a b=0/\sgn b c=0:=by
 rw[Sd]at *;rw[BW]at h1 h2;rw[Sd];omega
def CB {a b c:Qb} (h:Y0 a c=0) (h1:Y0 a b<=0) (h2:Y0 b c<=0):Y0 a b=0/\Y0 b c=0:=by
 have e:=J7 h;subst e;have:=Pt a b;constructor <;> omega
def Iu (t u:Tm):hdT u t= - hdT t u:=by
 unfold hdT;exact US (RE _ _) (US (RE _ _) (US (Pt _ _) (US (RE _ _) (RE _ _))))
def OJ {t u:Tm}:hdT t u=0↔t.nodes=u.nodes/\t.kind=u.kind/\t.name=u.name/\t.sort=u.sort/\t.kids.length=u.kids.length:=by
 unfold hdT;rw[UT,UT,UT,UT,Sd,Sd,Sd,Sd];constructor
 ·rintro⟨h1,h2,h3,h4,h5⟩
  exact⟨by omega,h2,J7 h3,h4,by omega⟩
 ·rintro⟨h1,h2,h3,h4,h5⟩
  exact⟨by omega,h2,by rw[h3];exact MR _,h4,by omega⟩
def CV {t u v:Tm} (h1:hdT t u<=0) (h2:hdT u v<=0):hdT t v<=0:=by
 unfold hdT at *;refine V0 Sw (fun h a b=>OR h a b) (fun _ _=> ?_) h1 h2;refine V0 Sw (fun h a b=>OR h a b) (fun _ _=> ?_);refine V0 Fv (fun h a b=>CB h a b) (fun _ _=> ?_);exact V0 Sw (fun h a b=>OR h a b) (fun _ _=>Sw)
def Ps: ∀(ts us:Qp),(∀x∈ts,∀y,Zq y x= - Zq x y)->Yl us ts= - Yl ts us
 | [],[],_=>by simp[Yl]
 | [],_:: _,_=>by simp[Yl]
 | _:: _,[],_=>by simp[Yl]
 | t:: ts,u:: us,h=>by
  simp only[Yl];exact US (h t (by simp) u) (Ps ts us fun x hx=>h x (by simp[hx]))
def Ti: ∀(t u:Tm),Zq u t= - Zq t u:=by
 refine Xg ?_;intro k n s ks ih u;rw[UF,UF];exact US (Iu _ _) (Ps _ _ fun x hx y=>ih x hx y)
def RG: ∀(ts us vs:Qp),ts.length=us.length->us.length=vs.length->(∀x∈ts,∀y z,Zq x y<=0->Zq y z<=0->Zq x z<=0)->Yl ts us<=0->Yl us vs<=0->Yl ts vs<=0
 | [],[],[],_,_,_,_,_=>by simp[Yl]
 | t:: ts,u:: us,v:: vs,h1,h2,h,g1,g2=>by
  simp only[Yl]at g1 g2 ⊢;refine V0 (h t (by simp) u v) (fun h0 a b=> ?_) (fun _ _=>RG ts us vs (by simpa using h1) (by simpa using h2) fun x hx=>h x (by simp[hx])) g1 g2;have e:=T4 _ _ h0;subst e;have:=Ti t u;constructor <;> omega
 | [],_:: _,_,h1,_,_,_,_=>by simp at h1
 | _:: _,[],_,h1,_,_,_,_=>by simp at h1
 | [],[],_:: _,_,h2,_,_,_=>by simp at h2
 | _:: _,_:: _,[],_,h2,_,_,_=>by simp at h2
def Fw: ∀(t u v:Tm),Zq t u<=0->Zq u v<=0->Zq t v<=0:=by
 refine Xg ?_;intro k n s ks ih u v h1 h2;rw[UF]at *;refine V0 CV (fun h0 a b=> ?_) (fun e1 e2=> ?_) h1 h2
 ·rw[OJ]at h0;have z1:=OJ (t:= .mk k n s ks) (u:=u);have e2:hdT u v=hdT u (.mk k n s ks):=by unfold hdT;rw[h0.1,h0.2.1,h0.2.2.1,h0.2.2.2.1,h0.2.2.2.2]
  rw[e2]at b ⊢;have:=Iu (.mk k n s ks) u;constructor <;> omega
 ·rw[OJ]at e1 e2;exact RG _ _ _ e1.2.2.2.2 e2.2.2.2.2 fun x hx=>ih x hx
def Sq {a b c:Tm} (h1:Zq a b < 0) (h2:Zq b c < 0):Zq a c < 0:=by
 have h:=Fw a b c (by omega) (by omega);rcases Int.lt_or_eq_of_le h with h | h
 ·exact h
 ·have e:=T4 _ _ h;subst e;have:=Ti a b;omega
def QhM {a b:Tm}:0 < Zq a b↔Zq b a < 0:=by have:=Ti a b;omega
def J8 (a b:Tm):Zq a b < 0\/a=b\/Zq b a < 0:=by
 rcases Int.lt_trichotomy (Zq a b) 0 with h | h | h
 ·exact .inl h
 ·exact .inr (.inl (T4 _ _ h))
 ·exact .inr (.inr (QhM.1 h))
def Asc (l:Qp):Prop:=l.Pairwise fun a b=>Zq a b < 0
def Asc.nil:Asc []:=List.Pairwise.nil
def Rg {x:Tm} {l:Qp}:Asc (x:: l)↔(∀y∈l,Zq x y < 0)/\Asc l:=Va
def Ak (t:Tm):Qp->Qp
 | []=>[t]
 | x:: xs=>if Zq t x < 0 then t:: x:: xs else if Zq t x=0 then x:: xs else x:: Ak t xs
def QgS (acc:Qp) (l:Qp):Qp:=l.foldl (fun a x=>Ak x a) acc
def Qkv (l:Qp):Qp:=QgS [] l
def II {t y:Tm}: ∀{l:Qp},y∈Tq t l↔y=t\/y∈l
 | []=>by simp[Tq]
 | x:: xs=>by
  simp only[Tq];split
  ·simp only[Yd,II (l:=xs)];constructor
   ·rintro(h | h | h) <;> simp[h]
   ·rintro(h | h | h) <;> simp[h]
  ·simp
def Iw (t:Tm): ∀l:Qp,(Tq t l).length=l.length+1
 | []=>rfl
 | x:: xs=>by simp only[Tq];split <;> simp[Iw t xs]
def Lj: ∀l:Qp,(Uu l).length=l.length
 | []=>rfl
 | x:: xs=>by simp[Uu,Iw,Lj xs]
set_option maxRecDepth 20000
section
variable {α:Type} (f:α->List AV) (k:Nat)
def Qjg (f:α->Qf) (l:List α):Qf:=(l.map f).flatten
variable {f k}
end
abbrev Qh7 (l:List Tm):List AV:=Qjg Ql l
end Go.Am
namespace Go.Am
set_option maxRecDepth 20000
end Go.Am
namespace Go.Am
set_option maxRecDepth 20000
def Qa0 {α:Type} {B:List α} {i:Nat} {x:α} (h:B[i]? =some x):B.set i x=B:=by
 apply TW;intro j;rw[YE];split
 ·rename_i e;subst e;split
  ·exact h.symm
  ·rename_i hl;rw[QT (by omega)]
 ·rfl
def Uk {α:Type} {B:List α} {i:Nat} {x:α} (h:B[i]? =some x):i < B.length:=by
 rcases QL i B.length with h1 | h1
 ·exact h1
 ·rw[QT h1]at h;cases h
end Go.Am
namespace Go.Am
set_option maxRecDepth 20000
end Go.Am
namespace Go.Am
set_option maxRecDepth 20000
mutual
def QgU:Tm->List Tm
 | .mk k n s ks=> .mk k n s ks:: QgT ks
def QgT:List Tm->List Tm
 | []=>[]
 | t:: ts=>QgU t ++ QgT ts
end
def Qi6 (k:Int) (x:Tm):Bool:=decide (x.kind=k)
def Qjq (t:Tm):Qp:=Qkv ((QgU t).filter (Qi6 1))
end Go.Am
namespace Go.Am
set_option maxRecDepth 20000
end Go.Am
namespace Go.Am
set_option maxRecDepth 20000
def QhN (l:Qp) (t:Tm):Bool:=l.any fun x=>decide (Zq x t=0)
def QkE (l:Qp) (t:Tm):Qp:=if QhN l t then l.filter (fun x=> !decide (Zq x t=0))else Ak t l
def Qjd (a b:Qp):Qp:=b.foldl QkE a
def QgQ:Qb:=[122,101,114,111]
def XOR:Qb:=[120,111,114]
mutual
def Hj:Tm->List Tm
 | .mk k n s ks=>if k=3/\n=QgQ/\ks=[]then []else if k=3/\n=XOR then Ev [] ks else [.mk k n s ks]
def Ev (acc:List Tm):List Tm->List Tm
 | []=>acc
 | t:: ts=>Ev (Qjd acc (Hj t)) ts
end
end Go.Am
namespace Go.Am
set_option maxRecDepth 20000
@[simp] def Qj2 (x:Tm) (a:Qp) (h:0 < (Qz (x:: a)).length): (Qz (x:: a))[0]=Ql x:=by simp[Qz]
end Go.Am
namespace Go.Am
set_option maxRecDepth 20000
def NC:Qp->Int
 | []=>0
 | t:: ts=>if QZ t≠0 then QZ t else NC ts
def Bq (l:Qp):Int:=if 200 < l.length then 3 else NC l
end Go.Am
namespace Go.Am
set_option maxRecDepth 20000
end Go.Am
namespace Go.Am
set_option maxRecDepth 20000
def Xq:Tm:= .mk 0 [] 0 []
def tmX:Qp->Tm
 | []=> .mk 3 QgQ 0 []
 | [p]=>p
 | p:: q:: r=> .mk 3 XOR 0 (p:: q:: r)
def Qky (l:Qp):Tm×Int:=if Bq l≠0 then(Xq,Bq l)else if QZ (tmX (Ev [] l))≠0 then(Xq,3)else(tmX (Ev [] l),0)
end Go.Am
namespace Go.Am
set_option maxRecDepth 20000
abbrev Pw:=Tm×Int
abbrev ZY:=List Pw
def Uo (l:ZY):Qp:=l.map (·.1)
end Go.Am
namespace Go.Am
set_option maxRecDepth 20000
@[simp] def QiU (t:Tm): (Ql t).drop 5=[]:=by simp[Qx]
def UD:ZY->Tm->Int->ZY
 | [],t,n=>[(t,n)]
 | p:: r,t,n=>if Zq p.1 t < 0 then p:: UD r t n else if Zq p.1 t=0 then(if p.2+n=0 then r else(p.1,p.2+n):: r)else(t,n):: p:: r
def QaZ {B0 M:Qd} {id:Nat} (h:B0.length<=id) (x:Qf): (B0 ++ M).set id x=B0 ++ M.set (id - B0.length) x:=by rw[List.set_append,Qe (by omega)]
end Go.Am
namespace Go.Am
set_option maxRecDepth 20000
def MUL:Qb:=[109,117,108]
def INV:Qb:=[105,110,118]
def ONE:Qb:=[111,110,101]
def Hk (t:Tm):Bool:=decide (t.kind=3) && (t.name == MUL || t.name == INV || t.name == ONE)
def QjC (t:Tm):Bool:= !((t.name == MUL && decide (t.kids.length < 2)) || (t.name == INV && !decide (t.kids.length=1)) || (t.name == ONE && !decide (t.kids.length=0)))
mutual
def arB:Tm->Bool
 | .mk k n s ks=> !Hk (.mk k n s ks) || (QjC (.mk k n s ks) && arL ks)
def arL:List Tm->Bool
 | []=>true
 | t:: ts=>arB t && arL ts
end
mutual
def AA:List Pw->Tm->Int->List Pw
 | l,.mk k n s ks,m=>if Hk (.mk k n s ks)then Qg9 l ks (if n == INV then -m else m)else UD l (.mk k n s ks) m
def Qg9:List Pw->List Tm->Int->List Pw
 | l,[],_=>l
 | l,t:: ts,m=>Qg9 (AA l t m) ts m
end
def NZ (l:ZY):Prop:=∀q∈l,q.2≠0
end Go.Am
namespace Go.Am
set_option maxRecDepth 20000
def JN: ∀(l:ZY) (t:Tm) (n:Int),(UD l t n).length<=l.length+1
 | [],_,_=>by simp[UD]
 | p:: l,t,n=>by
  have:=JN l t n;simp only[UD];split
  ·simp;omega
  ·split
   ·split <;> simp <;> omega
   ·simp
def Re: ∀{l:ZY} {t:Tm} {n:Int} {q:Pw},q∈UD l t n->q∈l\/q=(t,n)\/∃m,(t,m)∈l/\q=(t,m+n)/\m+n≠0
 | [],t,n,q,h=>by simp[UD]at h;exact .inr (.inl h)
 | p:: l,t,n,q,h=>by
  simp only[UD]at h;split at h
  ·rcases Yd.1 h with h | h
   ·exact .inl (by simp[h])
   ·rcases Re h with h | h | ⟨m,h1,h2⟩
    ·exact .inl (by simp[h])
    ·exact .inr (.inl h)
    ·exact .inr (.inr ⟨m,by simp[h1],h2⟩)
  ·split at h
   ·rename_i hc;have he:=T4 _ _ hc;split at h
    ·exact .inl (by simp[h])
    ·rename_i hz;rcases Yd.1 h with h | h
     ·exact .inr (.inr ⟨p.2,by rw[<- he];simp,by rw[<- he];exact h,hz⟩)
     ·exact .inl (by simp[h])
   ·rcases Yd.1 h with h | h
    ·exact .inr (.inl h)
    ·exact .inl h
def JR: ∀{l:ZY} {t:Tm} {n:Int},Asc (Uo l)->Asc (Uo (UD l t n))
 | [],t,n,_=>by simp[UD,Uo,Asc]
 | p:: l,t,n,h=>by
  have h':=h;simp only[Uo,ZP]at h';obtain⟨h1,h2⟩:=Rg.1 h';simp only[UD];split
  ·rename_i c;simp only[Uo,ZP];refine Rg.2 ⟨fun y hy=> ?_,JR h2⟩;obtain⟨q,hq,rfl⟩:=Td.1 hy;rcases Re hq with hq | rfl | ⟨m,hm,rfl,_⟩
   ·exact h1 _ (List.mem_map_of_mem hq)
   ·exact c
   ·exact c
  ·split
   ·split
    ·exact h2
    ·simp only[Uo,ZP];exact h'
   ·rename_i c1 c2;simp only[Uo,ZP];have c3:Zq t p.1 < 0:=by have:=Ti t p.1;omega
    refine Rg.2 ⟨fun y hy=> ?_,h'⟩;rcases Yd.1 hy with rfl | hy
    ·exact c3
    ·exact Sq c3 (h1 y hy)
structure Ox (l:List Pw) (b:Nat):Prop where
 asc:Asc (Uo l)
 nz:NZ l
 len:l.length<=b
 bd: ∀q∈l,q.1.mass < big/\ -(b:Int)<=q.2/\q.2<=b
def Ox.mono {l:ZY} {b c:Nat} (h:Ox l b) (hbc:b<=c):Ox l c:=⟨h.asc,h.nz,Vb h.len hbc,fun q hq=>by obtain⟨h1,h2,h3⟩:=h.bd q hq;exact⟨h1,by omega,by omega⟩⟩
def Ox.add {l:ZY} {b c:Nat} {t:Tm} {n:Int} (h:Ox l b) (ht:t.mass < big) (hn:n≠0) (h1: -(c:Int)<=n) (h2:n<=c):Ox (UD l t n) (b+c):=by
 refine⟨JR h.asc,?_,?_,?_⟩
 ·intro q hq;rcases Re hq with hq | rfl | ⟨m,hm,rfl,hz⟩
  ·exact h.nz q hq
  ·exact hn
  ·exact hz
 ·have:=JN l t n;have:=h.len;omega
 ·intro q hq;rcases Re hq with hq | rfl | ⟨m,hm,rfl,hz⟩
  ·obtain⟨a1,a2,a3⟩:=h.bd q hq;exact⟨a1,by omega,by omega⟩
  ·exact⟨ht,by simp;omega,by simp;omega⟩
  ·obtain⟨a1,a2,a3⟩:=h.bd _ hm;simp at a2 a3;exact⟨ht,by simp;omega,by simp;omega⟩
def uno (m:Int):Prop:=m=1\/m= -1
def uno.neg {m:Int} (h:uno m):uno (-m):=by rcases h with rfl | rfl <;> simp[uno]
def ofE (t:Tm):Int:=if QZ t≠0 then QZ t else if arB t then(if 200 < (AA [] t 1).length then 3 else 0)else 6
def ofP (t:Tm):ZY:=if ofE t=0 then AA [] t 1 else []
end Go.Am
namespace Go.Am
set_option maxRecDepth 20000
def gtO (prev:Option Tm) (t:Tm):Bool:=match prev with
 | none=>true
 | some q=>decide (Zq q t < 0)
def Qam (n:Int):Bool:=decide (n < -1000) || decide (1000 < n)
def vPL:Option Tm->ZY->Int
 | _,[]=>0
 | prev,p:: r=>if QZ p.1≠0 then QZ p.1 else if Hk p.1 then 1 else if p.2=0\/Qam p.2=true then 7 else if gtO prev p.1 then vPL (some p.1) r else 5
def VI (l:ZY):Int:=if 200 < l.length then 3 else vPL none l
def N1: ∀(l:ZY) (prev:Option Tm),vPL prev l=0->(∀q∈l,QZ q.1=0/\Hk q.1=false/\q.2≠0/\ -1000<=q.2/\q.2<=1000)/\Asc (Uo l)/\(∀a,prev=some a->∀q∈l,Zq a q.1 < 0)
 | [],prev,_=>⟨fun q h=>by simp at h,Asc.nil,fun a _ q h=>by simp at h⟩
 | p:: r,prev,h=>by
  simp only[vPL]at h;split at h
  ·rename_i c;exact absurd h c
  rename_i c1;split at h
  ·cases h
  rename_i c2;split at h
  ·cases h
  rename_i c3;split at h
  ·rename_i c4;obtain⟨h1,h2,h3⟩:=N1 r (some p.1) h;have hpr:=h3 p.1 rfl;refine⟨fun q hq=> ?_,?_,?_⟩
   ·rcases Yd.1 hq with rfl | hq
    ·simp[Qam]at c3;exact⟨by simpa using c1,by simpa using c2,c3.1,c3.2.1,c3.2.2⟩
    ·exact h1 q hq
   ·simp only[Uo,ZP];refine Rg.2 ⟨fun y hy=> ?_,h2⟩;obtain⟨q,hq,rfl⟩:=Td.1 hy;exact hpr q hq
   ·intro a ha q hq;subst ha;have c5:Zq a p.1 < 0:=by simpa[gtO]using c4
    rcases Yd.1 hq with rfl | hq
    ·exact c5
    ·exact Sq c5 (hpr q hq)
  ·cases h
def N2 {l:ZY} (h:VI l=0) (hm: ∀q∈l,q.1.mass < big):Ox l 1000/\l.length<=200/\∀q∈l,QZ q.1=0/\Hk q.1=false:=by
 unfold VI at h;split at h
 ·cases h
 ·obtain⟨h1,h2,_⟩:=N1 l none h;exact⟨⟨h2,fun q hq=>(h1 q hq).2.2.1,by omega,fun q hq=>⟨hm q hq,(h1 q hq).2.2.2.1,(h1 q hq).2.2.2.2⟩⟩,by omega,fun q hq=>⟨(h1 q hq).1,(h1 q hq).2.1⟩⟩
end Go.Am
namespace Go.Am
set_option maxRecDepth 20000
def Qkc (t:Tm):Tm:= .mk 3 INV 0 [t]
def Qkj (l:ZY):Qp:=(l.map fun p=>List.replicate p.2.toNat p.1).flatten
def Qkf (l:ZY):Qp:=(l.map fun p=>List.replicate (-p.2).toNat (Qkc p.1)).flatten
def FX (l:ZY):Qp:=Qkj l ++ Qkf l
def F3:Qp->Tm
 | []=> .mk 3 ONE 0 []
 | [p]=>p
 | p:: q:: r=> .mk 3 MUL 0 (p:: q:: r)
def LP (l:ZY):Tm×Int:=
 if VI l≠0 then(Xq,VI l)else if 8 < (FX l).length then(Xq,3)else if QZ (F3 (FX l))≠0 then(Xq,QZ (F3 (FX l)))else(F3 (FX l),0)
end Go.Am
namespace Go.Am
set_option maxRecDepth 20000
end Go.Am
namespace Go.Am
set_option maxRecDepth 20000
def N6 (a:ZY):ZY->ZY
 | []=>a
 | q:: b=>N6 (UD a q.1 q.2) b
def Qh3 (l:ZY):Int:=if l.any (fun q=>Qam q.2)then 7 else if 200 < l.length then 3 else 0
def Qah (a b:ZY):Int:=if VI a≠0 then VI a else if VI b≠0 then VI b else Qh3 (N6 a b)
def Qke (a b:ZY):ZY:=if Qah a b=0 then N6 a b else []
def Qd2 (b:Bool) (B:Qd) (r:Out):Prop:=∃i:Int,r=some (.int .i64 i,B)/\(0<=i↔b=true)
end Go.Am
namespace Go.Am
set_option maxRecDepth 20000
@[simp] def Qj3 (x y:Tm) (a:Qp) (h:1 < (Qz (x:: y:: a)).length): (Qz (x:: y:: a))[1]=Ql y:=by simp[Qz]
def Qd6:Qb:=[112,97,105,114]
def ENC:Qb:=[101,110,99]
def Qju:Qb:=[97,101,110,99]
def PK:Qb:=[112,107]
def QgP:Qb:=[115,105,103,110]
def EXP:Qb:=[101,120,112]
def FST:Qb:=[102,115,116]
def SND:Qb:=[115,110,100]
def DEC:Qb:=[100,101,99]
def QdX:Qb:=[97,100,101,99]
def Qd4:Qb:=[111,112,101,110]
def READ:Qb:=[114,101,97,100]
def kid (t:Tm) (i:Nat):Tm:=t.kids.getD i Xq
def pkT (t:Tm):Tm:= .mk 3 PK 0 [t]
def QiS (n:Qb) (us:Qp):Tm:=
 let a:=us.getD 0 Xq
 let key:=us.getD 1 Xq
 let out:Tm:= .mk 3 n 0 us
 if n=FST then(if isB a Qd6 then kid a 0 else out)
 else if n=SND then(if isB a Qd6 then kid a 1 else out)
 else if n=DEC then(if isB a ENC && decide (Zq (kid a 1) key=0)then kid a 0 else out)
 else if n=QdX then(if isB a Qju && decide (Zq (kid a 1) (pkT key)=0)then kid a 0 else out)
 else if n=Qd4 then(if isB a QgP && decide (Zq key (pkT (kid a 1))=0)then kid a 0 else out)
 else if n=READ then(if isB a QgP then kid a 0 else out)
 else out
def Qbt (n:Qb):Bool:=n == FST || n == SND || n == DEC || n == QdX || n == Qd4 || n == READ
end Go.Am
namespace Go.Am
set_option maxRecDepth 20000
end Go.Am
namespace Go.Am
set_option maxRecDepth 20000
def QhK (b:Tm) (p:ZY):Tm×Int:=if p=[]then(b,0)else if(LP p).2≠0 then(Xq,(LP p).2)else(.mk 3 EXP 0 [b,(LP p).1],0)
def Qkk (b e:Tm):Tm×Int:=
 if ofE e≠0 then(Xq,ofE e)
 else if isB b EXP then
  if ofE (kid b 1)≠0 then(Xq,ofE (kid b 1))else if Qah (ofP (kid b 1)) (ofP e)≠0 then(Xq,Qah (ofP (kid b 1)) (ofP e))else QhK (kid b 0) (Qke (ofP (kid b 1)) (ofP e))
 else QhK b (ofP e)
def Qav (t:Tm):Tm×Int:=if ofE t≠0 then(Xq,ofE t)else LP (ofP t)
end Go.Am
namespace Go.Am
set_option maxRecDepth 20000
end Go.Am
namespace Go.Am
set_option maxRecDepth 20000
def VF {n:Qb} (h:Q4 n=true):n.length<=24:=by
 cases n with
 | nil=>simp
 | cons c r=>
  simp only[Q4,Qi,Qm]at h;simp only[QO];omega
def Qaj {t:Tm} (h:Vq t=0):t.name.length<=24/\t.kids.length<=8/\(t.kind=3->t.sort=0)/\(t.kind≠3->t.kids=[]):=by
 unfold Vq at h;split at h
 ·rename_i hk;split at h
  ·cases h
  ·rename_i h1;split at h
   ·cases h
   ·rename_i h2;have h3:t.kids.length=0:=by omega
    exact⟨VF (by simpa using h2),by omega,fun e=>by omega,fun _=>VK h3⟩
 ·split at h
  ·rename_i hk;split at h
   ·cases h
   ·rename_i h1;split at h
    ·cases h
    ·rename_i h2;split at h
     ·cases h
     ·exact⟨VF (by simpa using h2),by omega,fun _=>by simpa using h1,fun e=>absurd hk e⟩
  ·cases h
mutual
theorem M3: ∀t:Tm,Yh t=0->t.mass<=33*t.nodes
 | .mk k n s ks,h=>by
  simp only[Yh]at h;split at h
  ·rename_i h1;exact absurd h h1
  ·rename_i h1;obtain⟨a,b,_⟩:=Qaj (t:= .mk k n s ks) (by simpa using h1);have:=MZ ks h;simp only[Wh,Xr]at a b;simp only[Tm.mass,Tm.nodes];omega
theorem MZ: ∀ts:List Tm,Xd ts=0->Zs ts<=33*QK ts
 | [],_=>by simp[Zs,QK]
 | t:: ts,h=>by
  simp only[Xd]at h;split at h
  ·rename_i h1;exact absurd h h1
  ·rename_i h1;have a:=M3 t (by simpa using h1);have b:=MZ ts h;simp only[Zs,QK];omega
end
def Ey {t:Tm} (h:QZ t=0):Yh t=0/\t.nodes<=400/\t.mass<=13200:=by
 unfold QZ at h;split at h
 ·rename_i h1;exact absurd h h1
 ·rename_i h1;split at h
  ·cases h
  ·have:=M3 t (by simpa using h1);exact⟨by simpa using h1,by omega,by omega⟩
def Qi5 (n:Qb) (us:Qp):Tm×Int:=
 if Qbt n then(QiS n us,0)else if n=XOR then Qky us else if n=MUL\/n=INV\/n=ONE then Qav (.mk 3 n 0 us)
 else if n=EXP then Qkk (us.getD 0 Xq) (us.getD 1 Xq)else(.mk 3 n 0 us,0)
mutual
def Ss:Tm->Tm×Int
 | .mk k n s ks=>if k=3 then(if(P7 ks).2=0 then Qi5 n (P7 ks).1 else(Xq,(P7 ks).2))else(.mk k n s ks,0)
def P7:List Tm->List Tm×Int
 | []=>([],0)
 | t:: ts=>if(Ss t).2=0 then(if(P7 ts).2=0 then((Ss t).1:: (P7 ts).1,0)else([],(P7 ts).2))else([],(Ss t).2)
end
end Go.Am
namespace Go.Am
set_option maxRecDepth 20000
end Go.Am
namespace Go.Am
set_option maxRecDepth 20000
end Go.Am
namespace Go.Am
set_option maxRecDepth 20000
def Qby (t:Tm):Tm×Int:=if thV t≠0 then(Xq,thV t)else if(Ss t).2≠0 then(Xq,(Ss t).2)else if QZ (Ss t).1≠0 then(Xq,QZ (Ss t).1)else((Ss t).1,0)
def ndN (t:Tm):Bool:= !(decide (t.kind=3) && Qbt t.name)
mutual
def evT:Tm->Bool
 | .mk k n s ks=>ndN (.mk k n s ks) && evL ks
def evL:List Tm->Bool
 | []=>true
 | t:: ts=>evT t && evL ts
end
def QhZ (t:Tm):Bool:=decide ((Qby t).2=0) && decide (Zq (Qby t).1 t=0) && evT t
end Go.Am
namespace Go.Am
set_option maxRecDepth 20000
end Go.Am
namespace Go.Am
set_option maxRecDepth 20000
end Go.Am
namespace Go.Am
set_option maxRecDepth 20000
def GM (x:Tm):Int:=if thV x≠0 then thV x else if Qjq x≠[]then 13 else if QhZ x then 0 else 10
end Go.Am
namespace Go.Am
set_option maxRecDepth 20000
end Go.Am
namespace Go.Am
set_option maxRecDepth 20000
end Go.Am
namespace Go.Am
set_option maxRecDepth 20000
end Go.Am
namespace Go.Am
set_option maxRecDepth 20000
end Go.Am
namespace Go.Am
set_option maxRecDepth 20000
end Go.Am
namespace Go.Am
set_option maxRecDepth 20000
end Go.Am
namespace Go.Am
set_option maxRecDepth 20000
def Qkb (i:Nat):Tm:= .mk 1 (119:: Yt i) 0 []
end Go.Am
namespace Go.Am
set_option maxRecDepth 20000
end Go.Am
namespace Go.Am
set_option maxRecDepth 20000
def hbs:Nat->Qp->Qd
 | _,[]=>[]
 | k,t:: ts=>(Ql (Qkb k)++ Ql t):: hbs (k+1) ts
end Go.Am
namespace Go.Am
set_option maxRecDepth 20000
end Go.Am
namespace Go.Am
set_option maxRecDepth 20000
end Go.Am
namespace Go.Am
set_option maxRecDepth 20000
def Ch (B1 B:Qd):Prop:=B1.length<=B.length/\∀(i:Nat) (x y:Qf),B1[i]? =some x->B[i]? =some y->x=y\/QV y=true
def Ch.refl (B:Qd):Ch B B:=⟨Za _,fun i x y h1 h2=> .inl (by rw[h1]at h2;injection h2)⟩
def Ch.trans {B1 B2 B3:Qd} (h:Ch B1 B2) (k:Ch B2 B3):Ch B1 B3:=⟨Vb h.1 k.1,fun i x z h1 h3=>by
 have hlt:i < B1.length:=by
  rcases QL i B1.length with g | g
  ·exact g
  ·rw[QT g]at h1;cases h1
 have hlt2:i < B2.length:=TV hlt h.1;obtain⟨y,hy⟩: ∃y,B2[i]? =some y:=⟨_,Zr hlt2⟩;rcases k.2 i y z hy h3 with e | e
 ·subst e;exact h.2 i x y h1 hy
 ·exact .inr e⟩
def Ch.set {B1 B:Qd} (h:Ch B1 B) {c:Qf} (hc:QV c=true) (id:Nat):Ch B1 (B.set id c):=⟨by rw[Pc];exact h.1,fun i x y h1 h2=>by
 rw[YE]at h2;split at h2
 ·split at h2
  ·injection h2 with h2;subst h2;exact .inr hc
  ·cases h2
 ·exact h.2 i x y h1 h2⟩
def Ch.app {B1 B:Qd} (h:Ch B1 B) (M:Qd):Ch B1 (B ++ M):=⟨by rw[Zf];have:=h.1;omega,fun i x y h1 h2=>by
 have hlt:i < B1.length:=by
  rcases QL i B1.length with g | g
  ·exact g
  ·rw[QT g]at h1;cases h1
 rw[ZO (TV hlt h.1)]at h2;exact h.2 i x y h1 h2⟩
def Ch.take {B1 B:Qd} (h:Ch B1 B):Yc B1 (B.take B1.length)=true:=Mj (by rw[YO];have:=h.1;omega) fun i x y h1 h2=>by
 have hlt:i < B1.length:=by
  rcases QL i B1.length with g | g
  ·exact g
  ·rw[QT g]at h1;cases h1
 rw[XC hlt]at h2;exact h.2 i x y h1 h2
end Go.Am
namespace Go.Am
set_option maxRecDepth 20000
abbrev Nm:=List UInt8
def UY (l:List Nm):Qd:=l.map fun s=>[AV.str s]
def CF (l:List Nm): (UY l).length=l.length:=by simp[UY]
def CE {l:List Nm} {i:Nat} {s:Nm} (h:l[i]? =some s): (UY l)[i]? =some [AV.str s]:=by simp[UY,h]
def ixF (l:List Nm) (x:Nm):Int:=if l.contains x then(l.idxOf x:Int)else -1
def CW {x:Nm} {post:List Nm}: ∀{pre:List Nm},x ∉ pre->(pre ++ x:: post).idxOf x=pre.length
 | [],_=>by simp[List.idxOf_cons]
 | a:: pre,h=>by
  have h1: (a == x)=false:=by simpa using fun e=>h (by simp[e])
  have h2:=CW (x:=x) (post:=post) (pre:=pre) fun e=>h (by simp[e]);rw[X9,List.idxOf_cons,h1,h2];simp
def QhP {l pre post:List Nm} {x:Nm} (h:l=pre ++ x:: post) (hp:pre.contains x=false):ixF l x=pre.length:=by
 have hn:x ∉ pre:=by simpa using hp
 subst h;have: (pre ++ x:: post).contains x=true:=by simp
 rw[ixF,Qh this,CW hn]
def QhQ {l:List Nm} {x:Nm} (hp:l.contains x=false):ixF l x= -1:=by rw[ixF,hp];simp
def Qh0 {pre:List Nm} {x a:Nm} (hp:pre.contains x=false) (ho: ¬x=a): (pre ++ [a]).contains x=false:=by
 simp only[List.contains_eq_mem,Wr,Wd,XO]at hp ⊢;exact fun h=>h.elim hp ho
def FP (l:List Nm) (x:Nm) (bs:Qd) (hl:l.length < 1000000):
  ∀(post pre:List Nm) (o:Bool) (ρ:Qq),l=pre ++ post->pre.contains x=false->ρ 0= .sl o 1 (UY l)->ρ 1= .str x->ρ 7= .int .i64 l.length->ρ 8= .int .i64 pre.length->
  R tb (.loop f162l0) ρ bs (Q1 0 (ZE tb f162r0 (Zn f162 bs)))=some (.int .i64 (ixF l x),bs):=by
 intro post
 induction post with
 | nil=>
  intro pre o ρ hk hpp h0 h1 h7 h8;simp only[Ya]at hk;rw[<- hk]at h8 hpp;rw[Qo f162l0.eq_1,QhQ hpp];simp[h0,h1,h7,h8,f162r0]
 | cons a post IH=>
  intro pre o ρ hk hpp h0 h1 h7 h8;have hgt:=CE (ZM hk);have hll:=XA hk;have hw1:=wr1 pre.length (by omega);have hlt:=XX hk;have ih:=fun ρ hpp=>IH (pre ++ [a]) o ρ (by rw[hk];simp) hpp;rw[Qo f162l0.eq_1];by_cases ho:x=a
  ·rw[QhP (by rw[hk,ho]) hpp];simp[h0,h1,h7,h8,hlt,hgt,<- ho]
  ·have hb: (x == a)=false:=by simpa using ho
   have ih2:=fun ρ=>ih ρ (Qh0 hpp ho);simp[h0,h1,h7,h8,hlt,hgt,hw1,hb,-List.contains_eq_mem];apply ih2 <;> simp[h0,h1,h7]
def As (l:List Nm) (x:Nm) (o:Bool) (bs:Qd) (hl:l.length < 1000000):call tb 162 [.sl o 1 (UY l),.str x] bs=some (.int .i64 (ixF l x),bs):=by
 have h1:=fun ρ=>FP l x bs hl l [] false ρ rfl rfl;rw[zcc 162 rfl rfl];simp[f162C,-List.contains_eq_mem];apply h1 <;> simp[CF]
end Go.Am
namespace Go.Am
set_option maxRecDepth 20000
end Go.Am
namespace Go.Am
set_option maxRecDepth 20000
end Go.Am
namespace Go.Am
set_option maxRecDepth 20000
end Go.Am
namespace Go.Am
set_option maxRecDepth 20000
end Go.Am
namespace Go.Am
set_option maxRecDepth 20000
end Go.Am
namespace Go.Am
set_option maxRecDepth 20000
end Go.Am
namespace Go.Am
set_option maxRecDepth 20000
end Go.Am
namespace Go.Am
set_option maxRecDepth 20000
end Go.Am
namespace Go.Am
set_option maxRecDepth 20000
end Go.Am
namespace Go.Am
set_option maxRecDepth 20000
end Go.Am
namespace Go.Am
set_option maxRecDepth 20000
end Go.Am
namespace Go.Am
set_option maxRecDepth 20000
end Go.Am
namespace Go.Am
set_option maxRecDepth 20000
end Go.Am
namespace Go.Am
set_option maxRecDepth 20000
end Go.Am
namespace Go.Am
set_option maxRecDepth 20000
end Go.Am
namespace Go.Am
set_option maxRecDepth 20000
end Go.Am
namespace Go.Am
set_option maxRecDepth 20000
end Go.Am
namespace Go.Am
set_option maxRecDepth 20000
end Go.Am
namespace Go.Am
set_option maxRecDepth 20000
end Go.Am
namespace Go.Am
set_option maxRecDepth 20000
end Go.Am
namespace Go.Am
set_option maxRecDepth 20000
end Go.Am
namespace Go.Am
set_option maxRecDepth 20000
end Go.Am
namespace Go.Am
set_option maxRecDepth 20000
end Go.Am
namespace Go.Am
set_option maxRecDepth 20000
end Go.Am
namespace Go.Am
set_option maxRecDepth 20000
structure Ded where
 r:Int
 n:Int
 a:List Int
 c:List Int
 t:Tm
def ZD (l:QH):Qd:=l.map fun i=>[AV.int .i64 i]
@[simp] def Qj1 (l:QH): (ZD l).length=l.length:=by simp[ZD]
@[simp] def Ih (l:QH) (i:Nat): (ZD l)[i]? =(l[i]?).map fun i=>[AV.int .i64 i]:=by simp[ZD]
@[simp] def Qct: ∀l:QH,Yr (ZD l)=true
 | []=>rfl
 | i:: l=>by
  have:=Qct l;simp only[ZD]at this ⊢;simp[Yr,QV,AV.gpfree,this]
def Zi (d:Ded):Qf:=[.int .i64 d.r,.int .i64 d.n,.sl false 1 (ZD d.a),.sl false 1 (ZD d.c)]++ Ql d.t
def Zu (d:Ded):Zi d=[.int .i64 d.r,.int .i64 d.n,.sl false 1 (ZD d.a),.sl false 1 (ZD d.c),.int .i64 d.t.kind,.str d.t.name,.int .i64 d.t.sort,.sl false 4 (Qz d.t.kids)]:=by
 simp[Zi,Qx]
@[simp] def CC (d:Ded): (Zi d).length=8:=by simp[Zu]
@[simp] def Qif (d:Ded): (Zi d).map AV.strip=Zi d:=by simp[Zu]
@[simp] def Qig (d:Ded): (Zi d).take 8=Zi d:=VM (by simp)
@[simp] def Oh (d:Ded): (Zi d).drop 4=Ql d.t:=by simp[Zi]
@[simp] def Qie (d:Ded): (Zi d).drop 8=[]:=by simp[Zu]
@[simp] def Qcp (d:Ded): (Zi d)[0]? =some (.int .i64 d.r):=by simp[Zu]
@[simp] def Qcq (d:Ded): (Zi d)[1]? =some (.int .i64 d.n):=by simp[Zu]
@[simp] def Qcr (d:Ded): (Zi d)[2]? =some (.sl false 1 (ZD d.a)):=by simp[Zu]
@[simp] def Qcs (d:Ded): (Zi d)[3]? =some (.sl false 1 (ZD d.c)):=by simp[Zu]
@[simp] def QjW (d:Ded) (h:0 < (Zi d).length): (Zi d)[0]= .int .i64 d.r:=by simp[Zu]
@[simp] def QjX (d:Ded) (h:1 < (Zi d).length): (Zi d)[1]= .int .i64 d.n:=by simp[Zu]
@[simp] def QjY (d:Ded) (h:2 < (Zi d).length): (Zi d)[2]= .sl false 1 (ZD d.a):=by simp[Zu]
@[simp] def QjZ (d:Ded) (h:3 < (Zi d).length): (Zi d)[3]= .sl false 1 (ZD d.c):=by simp[Zu]
@[simp] def Qj0 (d:Ded):QV (Zi d)=true:=by simp[Zi,QV,AV.gpfree,P2]
abbrev QS:=List Ded
def Zh (l:QS):Qd:=l.map Zi
@[simp] def QiT (l:QS): (Zh l).length=l.length:=by simp[Zh]
@[simp] def Rr (l:QS) (i:Nat): (Zh l)[i]? =(l[i]?).map Zi:=by simp[Zh]
@[simp] def CD: ∀l:QS,Yr (Zh l)=true
 | []=>rfl
 | p:: l=>by
  have:=CD l;simp only[Zh]at this ⊢;simp[Yr,this]
end Go.Am
namespace Go.Am
set_option maxRecDepth 20000
def TB:List (Qb×Int):=[([],0),([103,105,118,101,110],0),([112,117,98,108,105,99],0),([112,97,105,114],2),([102,105,114,115,116],1),([115,101,99,111,110,100],1),([101,110,99],2),([100,101,99],2),([97,101,110,99],2),([97,100,101,99],2),([112,107],1),([115,105,103,110],2),([114,101,97,100],1),([104,97,115,104],1),([115,117,109],-1),([112,111,119,101,114],-2),([112,114,111,100,117,99,116],-1)]
def rOk (r:Int):Bool:=decide (1<=r) && decide (r<=16)
def Zx (r:Int):Qb:=if rOk r then(TB[r.toNat]?.getD ([],0)).1 else []
def Yg (r:Int):Int:=if rOk r then(TB[r.toNat]?.getD ([],0)).2 else 0
def Tj {r:Int} (h:rOk r=true):r=1\/r=2\/r=3\/r=4\/r=5\/r=6\/r=7\/r=8\/r=9\/r=10\/r=11\/r=12\/r=13\/r=14\/r=15\/r=16:=by
 simp[rOk]at h;omega
def Md (r:Int) (bs:Qd):call tb 353 [.int .i64 r] bs=some (.tup [.agg [.str (Zx r),.int .i64 (Yg r)],.bool (rOk r)],bs):=by
 cases h:rOk r
 ·rw[zcc 353 rfl rfl];have h2:r < 1\/17<=r:=by
   simp[rOk]at h;omega
  have ew:Zx r=[]:=by simp[Zx,h]
  have ea:Yg r=0:=by simp[Yg,h]
  rw[ew,ea];by_cases c:r < 1
  ·simp[f353C,c]
  ·have c2: (17:Int)<=r:=by omega
   simp[f353C,c,c2]
 ·rcases Tj h with rfl | rfl | rfl | rfl | rfl | rfl | rfl | rfl | rfl | rfl | rfl | rfl | rfl | rfl | rfl | rfl <;>
   (rw[zcc 353 rfl rfl];simp[f353C,Zx,Yg,rOk,TB])
def Me (r:Int) (bs:Qd):call tb 386 [.int .i64 r] bs=some (.tup [.str (Zx r),.int .i64 (Yg r)],bs):=by
 cases h:rOk r
 ·rw[zcc 386 rfl rfl];have h2:r < 1\/17<=r:=by
   simp[rOk]at h;omega
  have ew:Zx r=[]:=by simp[Zx,h]
  have ea:Yg r=0:=by simp[Yg,h]
  rw[ew,ea];by_cases c:r < 1
  ·simp[f386C,c]
  ·have c2: (16:Int) < r:=by omega
   simp[f386C,c,c2]
 ·rcases Tj h with rfl | rfl | rfl | rfl | rfl | rfl | rfl | rfl | rfl | rfl | rfl | rfl | rfl | rfl | rfl | rfl <;>
   (rw[zcc 386 rfl rfl];simp[f386C,Zx,Yg,rOk,TB,show IntKind.i64.wrap 0=0 from rfl,show IntKind.i64.wrap 1=1 from rfl,show IntKind.i64.wrap 2=2 from rfl,show IntKind.i64.wrap 3=3 from rfl,show IntKind.i64.wrap 4=4 from rfl,show IntKind.i64.wrap 5=5 from rfl,show IntKind.i64.wrap 6=6 from rfl,show IntKind.i64.wrap 7=7 from rfl,show IntKind.i64.wrap 8=8 from rfl,show IntKind.i64.wrap 9=9 from rfl,show IntKind.i64.wrap 10=10 from rfl,show IntKind.i64.wrap 11=11 from rfl,show IntKind.i64.wrap 12=12 from rfl,show IntKind.i64.wrap 13=13 from rfl,show IntKind.i64.wrap 14=14 from rfl,show IntKind.i64.wrap 15=15 from rfl])
def W2 (d:Ded):Int:=if d.r=15 then(d.a.length:Int) - 1 else if d.r=16 then d.a.length else 0
def QbU (d:Ded) (bs:Qd) (hl:d.a.length < 1000000):call tb 354 [.agg (Zi d)] bs=some (.int .i64 (W2 d),bs):=by
 have hw:IntKind.i64.wrap ((d.a.length:Int) - 1)=(d.a.length:Int) - 1:=Q2 (by omega) (by omega);rw[zcc 354 rfl rfl];unfold W2;by_cases c:d.r=15
 ·simp[f354C,c,hw]
 ·by_cases c2:d.r=16
  ·simp[f354C,c2]
  ·simp[f354C,c,c2]
def QbY (d:Ded) (bs:Qd) (hl:d.a.length < 1000000):call tb 387 [.agg (Zi d)] bs=some (.int .i64 (W2 d),bs):=by
 have hw:IntKind.i64.wrap ((d.a.length:Int) - 1)=(d.a.length:Int) - 1:=Q2 (by omega) (by omega);rw[zcc 387 rfl rfl];unfold W2;by_cases c:d.r=15
 ·simp[f387C,c,hw]
 ·by_cases c2:d.r=16
  ·simp[f387C,c2]
  ·simp[f387C,c,c2]
def Qac (f:Nat) (cs:Qf) (p:Int->Bool) (l:QH) (bs:Qd) (hc: ∀x∈l,call tb f (.int .i64 x:: cs) bs=some (.bool (p x),bs)) (hl:l.length < 1000000) (hok: ∀x∈cs,x.ok=true):
  ∀(post pre:QH) (o:Bool) (ρ:Qq),l=pre ++ post->pre.any p=false->ρ 0= .sl o 1 (ZD l)->ρ 1= .fn f cs->ρ 7= .int .i64 l.length->ρ 8= .int .i64 pre.length->
  Qd2 (l.any p) bs (R tb (.loop f357l0) ρ bs (Q1 0 (ZE tb f357r0 (Zn f357 bs)))):=by
 intro post
 induction post with
 | nil=>
  intro pre o ρ hk hp h0 h1 h7 h8;simp only[Ya]at hk;rw[<- hk]at h8 hp;rw[Qo f357l0.eq_1];refine⟨-1,?_,by rw[hp];simp⟩;simp[h0,h1,h7,h8,f357r0]
 | cons x post IH=>
  intro pre o ρ hk hp h0 h1 h7 h8;have hgt:=ZM hk;have hll:=XA hk;have hw1:=wr1 pre.length (by omega);have hlt:=XX hk;have hcall:=hc x (by rw[hk];simp);have ih:=fun ρ hpp=>IH (pre ++ [x]) o ρ (by rw[hk];simp) hpp;rw[Qo f357l0.eq_1];cases ho:p x
  ·rw[ho]at hcall;have ih2:=fun ρ=>ih ρ (by rw[List.any_append,hp];simp[ho]);simp[h0,h1,h7,h8,hlt,hgt,hw1,hcall,eq_true hok,-List.any_eq_false,-List.any_eq_true];apply ih2 <;> simp[h0,h1,h7]
  ·rw[ho]at hcall;have hany:l.any p=true:=JH.2 ⟨x,by rw[hk];simp,ho⟩;refine⟨pre.length,?_,by rw[hany];simp⟩;simp[h0,h1,h7,h8,hlt,hgt,hcall,eq_true hok]
def H5 (f:Nat) (cs:Qf) (p:Int->Bool) (l:QH) (o:Bool) (bs:Qd) (hc: ∀x∈l,call tb f (.int .i64 x:: cs) bs=some (.bool (p x),bs)) (hl:l.length < 1000000) (hok: ∀x∈cs,x.ok=true):
  call tb 356 [.sl o 1 (ZD l),.fn f cs] bs=some (.bool (l.any p),bs):=by
 have h1:=fun ρ=>Qac f cs p l bs hc hl hok l [] false ρ rfl rfl;have h2:Qd2 (l.any p) bs (call tb 357 [.sl false 1 (ZD l),.fn f cs] bs):=by
  rw[zcc 357 rfl rfl];simp[f357C,eq_true hok,-List.any_eq_false,-List.any_eq_true];apply h1 <;> simp
 obtain⟨i,hi,hb⟩:=h2;rw[zcc 356 rfl rfl];simp[f356C,eq_true hok,hi,-List.any_eq_false,-List.any_eq_true];cases hx:l.any p
 ·rw[hx]at hb;simp at hb;simpa using hb
 ·rw[hx]at hb;simp at hb;simpa using hb
def XB (c:Int):Bool:=decide (c < -35184372088832) || decide (35184372088832 < c)
def QbW (c:Int) (bs:Qd):call tb 358 [.int .i64 c] bs=some (.bool (XB c),bs):=by
 rw[zcc 358 rfl rfl];unfold XB;by_cases h:c < -35184372088832
 ·simp[f358C,h]
 ·simp[f358C,h]
def WB (i a:Int):Bool:=decide (a < 0) || decide (i<=a)
def QbV (a i:Int) (g:Nat) (bs:Qd) (hg:bs[g]? =some [.int .i64 i]):call tb 355 [.int .i64 a,.gp g 0] bs=some (.bool (WB i a),bs):=by
 rw[zcc 355 rfl rfl];unfold WB;by_cases h:a < 0
 ·simp[-getElem?_pos,Hd,Qr,f355C,h,hg]
 ·simp[-getElem?_pos,Hd,Qr,f355C,h,hg]
end Go.Am
namespace Go.Am
set_option maxRecDepth 20000
set_option maxHeartbeats 1000000
def f6B (d:Ded):Bool:=(decide (0<=Yg d.r) && !decide ((d.a.length:Int)=Yg d.r)) || (decide (Yg d.r= -2) && decide (d.a.length=0)) || !decide ((d.c.length:Int)=W2 d)
def fNB (d:Ded):Bool:=decide (d.n < 0) || decide (1000000 < d.n) || (!decide (d.n=0) && !decide (d.r=1))
def Wc (d:Ded) (i:Int):Int:=if rOk d.r=false then 1 else if f6B d then 6 else if d.a.any (WB i)then 7 else if fNB d then 7 else if d.c.any XB then 7 else 0
def QbT (d:Ded) (i:Int) (bs:Qd) (ha:d.a.length < 1000000) (hc:d.c.length < 1000000):call tb 352 [.agg (Zi d),.int .i64 i] bs=some (.int .i64 (Wc d i),bs):=by
 have c353:=fun b=>Md d.r b;have c354:=fun b=>QbU d b ha;have hg: (bs ++ [[AV.int .i64 i]])[bs.length]? =some [.int .i64 i]:=Wq;have c356:=H5 355 [.gp bs.length 0] (WB i) d.a false (bs ++ [[.int .i64 i]]) (fun a _=>QbV a i bs.length _ hg) ha (by simp[AV.ok]);have c356b:=H5 358 [] XB d.c false (bs ++ [[.int .i64 i]]) (fun c _=>QbW c _) hc (by simp);rw[zcc 352 rfl rfl];unfold Wc f6B fNB;cases h1:rOk d.r
 ·rw[h1]at c353;simp[f352C,c353]
 ·rw[h1]at c353;generalize hA:d.a.any (WB i)=A at *;generalize hC:d.c.any XB=C at *;have lz: (d.a.length:Int)=0↔d.a.length=0:=by omega
  by_cases c1:0<=Yg d.r
  ·have c3: ¬Yg d.r= -2:=by omega
   by_cases c2: (d.a.length:Int)=Yg d.r
   ·by_cases c5: (d.c.length:Int)=W2 d
    ·cases A
     ·by_cases n1:d.n < 0
      ·simp[f352C,c353,c354,c356,c356b,c1,c2,c3,c5,n1]
      ·by_cases n2:1000000 < d.n
       ·simp[f352C,c353,c354,c356,c356b,c1,c2,c3,c5,n1,n2]
       ·by_cases n3:d.n=0
        ·cases C <;> simp[f352C,c353,c354,c356,c356b,c1,c2,c3,c5,n3]
        ·by_cases n4:d.r=1
         ·simp only[n4]at c353 c1 c2 c3 c5 ⊢;cases C <;> simp[f352C,c353,c354,c356,c356b,c1,c2,c3,c5,n1,n2,n3,n4]
         ·simp[f352C,c353,c354,c356,c356b,c1,c2,c3,c5,n1,n2,n3,n4]
     ·simp[f352C,c353,c354,c356,c356b,c1,c2,c3,c5]
    ·simp[f352C,c353,c354,c356,c356b,c1,c2,c3,c5]
   ·simp[f352C,c353,c354,c356,c356b,c1,c2,c3]
  ·by_cases c4:Yg d.r= -2/\d.a.length=0
   ·obtain⟨c3,c4⟩:=c4;simp[f352C,c353,c354,c356,c356b,c1,c3,c4,lz]
   ·by_cases c5: (d.c.length:Int)=W2 d
    ·cases A
     ·by_cases c3:Yg d.r= -2
      ·have c4': ¬d.a.length=0:=fun e=>c4 ⟨c3,e⟩;by_cases n1:d.n < 0
       ·simp[f352C,c353,c354,c356,c356b,c1,c3,c4',lz,c5,n1]
       ·by_cases n2:1000000 < d.n
        ·simp[f352C,c353,c354,c356,c356b,c1,c3,c4',lz,c5,n1,n2]
        ·by_cases n3:d.n=0
         ·cases C <;> simp[f352C,c353,c354,c356,c356b,c1,c3,c4',lz,c5,n3]
         ·by_cases n4:d.r=1
          ·simp only[n4]at c353 c1 c3 c5 ⊢;cases C <;> simp[f352C,c353,c354,c356,c356b,c1,c3,c4',lz,c5,n1,n2,n3,n4]
          ·simp[f352C,c353,c354,c356,c356b,c1,c3,c4',lz,c5,n1,n2,n3,n4]
      ·by_cases n1:d.n < 0
       ·simp[f352C,c353,c354,c356,c356b,c1,c3,c5,n1]
       ·by_cases n2:1000000 < d.n
        ·simp[f352C,c353,c354,c356,c356b,c1,c3,c5,n1,n2]
        ·by_cases n3:d.n=0
         ·cases C <;> simp[f352C,c353,c354,c356,c356b,c1,c3,c5,n3]
         ·by_cases n4:d.r=1
          ·simp only[n4]at c353 c1 c3 c5 ⊢;cases C <;> simp[f352C,c353,c354,c356,c356b,c1,c3,c5,n1,n2,n3,n4]
          ·simp[f352C,c353,c354,c356,c356b,c1,c3,c5,n1,n2,n3,n4]
     ·by_cases c3:Yg d.r= -2
      ·have c4': ¬d.a.length=0:=fun e=>c4 ⟨c3,e⟩;simp[f352C,c353,c354,c356,c356b,c1,c3,c4',lz,c5]
      ·simp[f352C,c353,c354,c356,c356b,c1,c3,c5]
    ·by_cases c3:Yg d.r= -2
     ·have c4': ¬d.a.length=0:=fun e=>c4 ⟨c3,e⟩;simp[f352C,c353,c354,c356,c356b,c1,c3,c4',lz,c5]
     ·simp[f352C,c353,c354,c356,c356b,c1,c3,c5]
end Go.Am
namespace Go.Am
set_option maxRecDepth 20000
def Qi2 (d:Ded) (bs:Qd) (hc:d.c.length < 1000000):
  ∀(post pre:QH) (ρ:Qq),d.c=pre ++ post->ρ 2= .bx (Zi d)->ρ 8= .int .i64 pre.length->
  R tb (.loop f385l1) ρ bs (Q1 2 (ZE tb f385r0 (Zn f385 bs)))=some (.int .i64 (if post.any XB then 7 else 0),bs):=by
 intro post
 induction post with
 | nil=>
  intro pre ρ hk h2 h8;simp only[Ya]at hk;rw[<- hk]at h8;rw[Qo f385l1.eq_1];simp[h2,h8,f385r0]
 | cons x post IH=>
  intro pre ρ hk h2 h8;have hgt:=ZM hk;have hll:=XA hk;have hw1:=wr1 pre.length (by omega);have hlt:=XX hk;have ih:=fun ρ=>IH (pre ++ [x]) ρ (by rw[hk];simp);rw[Qo f385l1.eq_1];by_cases c1:x < -35184372088832
  ·have e: (x:: post).any XB=true:=by simp[XB,c1]
   rw[e];simp[h2,h8,hlt,hgt,c1]
  ·by_cases c2:35184372088832 < x
   ·have e: (x:: post).any XB=true:=by simp[XB,c2]
    rw[e];simp[h2,h8,hlt,hgt,c1,c2]
   ·have e: (x:: post).any XB=post.any XB:=by simp[XB,c1,c2]
    rw[e];generalize post.any XB=X at *;simp[h2,h8,hlt,hgt,c1,c2,hw1];apply ih <;> simp[h2]
def Qi3 (d:Ded) (bs:Qd) (hc:d.c.length < 1000000) (ρ:Qq) (h2:ρ 2= .bx (Zi d)):
  R tb f385r1 ρ bs (Zn f385 bs)=some (.int .i64 (if fNB d then 7 else if d.c.any XB then 7 else 0),bs):=by
 have h:=fun ρ=>Qi2 d bs hc d.c [] ρ rfl;unfold fNB;generalize d.c.any XB=X at *;by_cases n1:d.n < 0
 ·simp[f385r1,h2,n1]
 ·by_cases n2:1000000 < d.n
  ·simp[f385r1,h2,n1,n2]
  ·by_cases n3:d.n=0
   ·simp[f385r1,h2,n3];apply h <;> simp[h2]
   ·by_cases n4:d.r=1
    ·simp[f385r1,h2,n1,n2,n3,n4];apply h <;> simp[h2]
    ·simp[f385r1,h2,n1,n2,n3,n4]
def Qi1 (d:Ded) (i:Int) (bs:Qd) (ha:d.a.length < 1000000) (hc:d.c.length < 1000000):
  ∀(post pre:QH) (ρ:Qq),d.a=pre ++ post->ρ 1= .int .i64 i->ρ 2= .bx (Zi d)->ρ 7= .int .i64 pre.length->
  R tb (.loop f385l0) ρ bs (Q1 0 (ZE tb f385r1 (Zn f385 bs)))=some (.int .i64 (if post.any (WB i)then 7 else if fNB d then 7 else if d.c.any XB then 7 else 0),bs):=by
 intro post
 induction post with
 | nil=>
  intro pre ρ hk h1 h2 h7;simp only[Ya]at hk;rw[<- hk]at h7;have h:=fun ρ h2=>Qi3 d bs hc ρ h2;rw[Qo f385l0.eq_1];simp[h1,h2,h7];rw[h] <;> simp[h2]
 | cons x post IH=>
  intro pre ρ hk h1 h2 h7;have hgt:=ZM hk;have hll:=XA hk;have hw1:=wr1 pre.length (by omega);have hlt:=XX hk;have ih:=fun ρ=>IH (pre ++ [x]) ρ (by rw[hk];simp);rw[Qo f385l0.eq_1];by_cases c1:x < 0
  ·have e: (x:: post).any (WB i)=true:=by simp[WB,c1]
   rw[e];simp[h1,h2,h7,hlt,hgt,c1]
  ·by_cases c2:i<=x
   ·have e: (x:: post).any (WB i)=true:=by simp[WB,c2]
    rw[e];simp[h1,h2,h7,hlt,hgt,c1,c2]
   ·have e: (x:: post).any (WB i)=post.any (WB i):=by simp[WB,c1,c2]
    rw[e];generalize post.any (WB i)=X at *;generalize d.c.any XB=Y at *;simp[h1,h2,h7,hlt,hgt,c1,c2,hw1];apply ih <;> simp[h1,h2]
def Lo (r:Int):Zx r=[]↔rOk r=false:=by
 cases h:rOk r
 ·simp[Zx,h]
 ·rcases Tj h with rfl | rfl | rfl | rfl | rfl | rfl | rfl | rfl | rfl | rfl | rfl | rfl | rfl | rfl | rfl | rfl <;> simp[Zx,rOk,TB]
def QbX (d:Ded) (i:Int) (bs:Qd) (ha:d.a.length < 1000000) (hc:d.c.length < 1000000):call tb 385 [.agg (Zi d),.int .i64 i] bs=some (.int .i64 (Wc d i),bs):=by
 have c386:=Me d.r bs;have c387:=QbY d bs ha;have h:=fun ρ=>Qi1 d i bs ha hc d.a [] ρ rfl;rw[zcc 385 rfl rfl];unfold Wc f6B;cases h1:rOk d.r
 ·have ew:=(Lo d.r).2 h1;rw[ew]at c386;simp[f385C,c386]
 ·have ew: ¬Zx d.r=[]:=fun e=>by rw[(Lo d.r).1 e]at h1;cases h1
  have ewe: (Zx d.r).isEmpty=false:=by
   cases h:Zx d.r with
   | nil=>exact absurd h ew
   | cons a b=>rfl
  generalize Zx d.r=w at *;generalize d.a.any (WB i)=A at *;generalize d.c.any XB=C at *;have lz: (d.a.length:Int)=0↔d.a.length=0:=by omega
  by_cases c1:0<=Yg d.r
  ·have c3: ¬Yg d.r= -2:=by omega
   by_cases c2: (d.a.length:Int)=Yg d.r
   ·by_cases c5: (d.c.length:Int)=W2 d
    ·simp[f385C,c386,c387,ewe,c1,c2,c3,c5];apply h <;> simp
    ·simp[f385C,c386,c387,ewe,c1,c2,c3,c5]
   ·simp[f385C,c386,c387,ewe,c1,c2,c3]
  ·by_cases c3:Yg d.r= -2
   ·by_cases c4:d.a.length=0
    ·simp[f385C,c386,c387,ewe,c1,c3,c4,lz]
    ·by_cases c5: (d.c.length:Int)=W2 d
     ·simp[f385C,c386,c387,ewe,c1,c3,c4,lz,c5];apply h <;> simp
     ·simp[f385C,c386,c387,ewe,c1,c3,c4,lz,c5]
   ·by_cases c5: (d.c.length:Int)=W2 d
    ·simp[f385C,c386,c387,ewe,c1,c3,c5];apply h <;> simp
    ·simp[f385C,c386,c387,ewe,c1,c3,c5]
end Go.Am
namespace Go.Am
set_option maxRecDepth 20000
def SmP (g:ZY):Prop:=g.length < 1000000/\∀q∈g,q.1.mass < 1000000
def SmP.big {g:ZY} (h:SmP g): ∀q∈g,q.1.mass < big:=fun q hq=>by have:=h.2 q hq;unfold Go.Am.big;omega
end Go.Am
namespace Go.Am
set_option maxRecDepth 20000
end Go.Am
namespace Go.Am
set_option maxRecDepth 20000
def Wj (l:QH):Qf:=l.map fun i=>AV.int .i64 i
@[simp] def QaC (l:QH): (Wj l).length=l.length:=by simp[Wj]
@[simp] def Qkm (l:QH) (i:Nat): (Wj l)[i]? =(l[i]?).map fun i=>AV.int .i64 i:=by simp[Wj]
@[simp] def Qjf (l:QH): (Wj l).map AV.strip=Wj l:=by
 simp only[Wj,List.map_map];exact JD fun i _=>rfl
end Go.Am
namespace Go.Am
set_option maxRecDepth 20000
def nz (i:Int):Bool:= !decide (i=0)
def okG (g:ZY):Prop:=VI g=0/\SmP g
def okG.asc {g:ZY} (h:okG g):Asc (Uo g):=(N2 h.1 h.2.big).1.asc
def okG.bd {g:ZY} (h:okG g): ∀q∈g,-1000<=q.2/\q.2<=1000:=fun q hq=>by
 have h1:=h.1;unfold VI at h1;split at h1
 ·cases h1
 ·exact⟨((N1 g none h1).1 q hq).2.2.2.1,((N1 g none h1).1 q hq).2.2.2.2⟩
def okG.len {g:ZY} (h:okG g):g.length<=200:=(N2 h.1 h.2.big).2.1
end Go.Am
namespace Go.Am
set_option maxRecDepth 20000
end Go.Am
namespace Go.Am
set_option maxRecDepth 20000
end Go.Am
namespace Go.Am
set_option maxRecDepth 20000
end Go.Am
namespace Go.Am
set_option maxRecDepth 20000
end Go.Am
namespace Go.Am
set_option maxRecDepth 20000
end Go.Am
namespace Go.Am
set_option maxRecDepth 20000
end Go.Am
namespace Go.Am
set_option maxRecDepth 20000
structure AOk (d:Ded) (a:List Tm):Prop where
 ok:rOk d.r=true
 n0:0<=d.n
 n1:d.n<=1000000
 len:0<=Yg d.r->(a.length:Int)=Yg d.r
 p15:d.r=15->a≠[]
 al:a.length < 10000
 ml:Zs a < 20000000
 good: ∀x∈a,GM x=0
 td:GM d.t=0
 cl:d.c.length < 1000000
def AOk.one {d:Ded} {a:Qp} (h:AOk d a) (hr:Yg d.r=1): ∃x,a=[x]:=by
 have:=h.len (by omega);rw[hr]at this;cases a with
 | nil=>simp at this
 | cons x r=>cases r with
  | nil=>exact⟨x,rfl⟩
  | cons y r2=>simp at this;omega
def AOk.two {d:Ded} {a:Qp} (h:AOk d a) (hr:Yg d.r=2): ∃x y,a=[x,y]:=by
 have:=h.len (by omega);rw[hr]at this;cases a with
 | nil=>simp at this
 | cons x r=>cases r with
  | nil=>simp at this
  | cons y r2=>cases r2 with
   | nil=>exact⟨x,y,rfl⟩
   | cons z r3=>simp at this;omega
end Go.Am
namespace Go.Am
set_option maxRecDepth 20000
end Go.Am
namespace Go.Am
set_option maxRecDepth 20000
end Go.Am
namespace Go.Am
set_option maxRecDepth 20000
end Go.Am
namespace Go.Am
set_option maxRecDepth 20000
end Go.Am
namespace Go.Am
section
variable {α:Type}
def xv (a b:α->Bool):α->Bool:=fun t=>a t ^^ b t
def zv0:α->Bool:=fun _=>false
def QdW (a:α->Bool):xv a zv0=a:=by funext t;simp[xv,zv0]
def GY (a:α->Bool):xv zv0 a=a:=by funext t;simp[xv,zv0]
def QdV (a:α->Bool):xv a a=zv0:=by funext t;simp[xv,zv0]
def QdU (a b:α->Bool):xv a b=xv b a:=by funext t;simp[xv,Bool.xor_comm]
def RF (a b c:α->Bool):xv (xv a b) c=xv a (xv b c):=by funext t;simp[xv]
def Aa (a b:α->Bool):xv a (xv a b)=b:=by rw[<- RF,QdV,GY]
inductive Sp (L:List (α->Bool)): (α->Bool)->Prop
 | zero:Sp L zv0
 | add {v w:α->Bool}:v∈L->Sp L w->Sp L (xv v w)
def Sp.mem {L:List (α->Bool)} {v:α->Bool} (h:v∈L):Sp L v:=by
 have:=Sp.add h Sp.zero;rwa[QdW]at this
def Sp.sum {L:List (α->Bool)} {v w:α->Bool} (h:Sp L v) (h2:Sp L w):Sp L (xv v w):=by
 induction h with
 | zero=>rwa[GY]
 | add hm _ ih=>rw[RF];exact .add hm ih
def Sp.sub {L M:List (α->Bool)} {v:α->Bool} (h: ∀x∈L,Sp M x) (hv:Sp L v):Sp M v:=by
 induction hv with
 | zero=>exact .zero
 | add hm _ ih=>exact(h _ hm).sum ih
def Sp.mono {L M:List (α->Bool)} {v:α->Bool} (h: ∀x∈L,x∈M) (hv:Sp L v):Sp M v:=hv.sub fun x hx=> .mem (h x hx)
def Sp.cons {r:α->Bool} {L:List (α->Bool)} {v:α->Bool} (h:Sp (r:: L) v):Sp L v\/Sp L (xv r v):=by
 induction h with
 | zero=>exact .inl .zero
 | @add x w hm _ ih=>
  rcases Yd.1 hm with rfl | hm
  ·rcases ih with ih | ih
   ·exact .inr (by rwa[Aa])
   ·exact .inl ih
  ·rcases ih with ih | ih
   ·exact .inl (.add hm ih)
   ·exact .inr (by
     have:=Sp.add hm ih;rwa[<- RF,QdU x r,RF]at this)
end
end Go.Am
namespace Go.Am
set_option maxRecDepth 20000
end Go.Am
namespace Go.Am
set_option maxRecDepth 20000
end Go.Am
namespace Go.Am
set_option maxRecDepth 20000
end Go.Am
namespace Go.Am
abbrev YJ:=List (List Int)
def rwE (rs:YJ) (i:Nat):QH:=rs.getD i []
def ceE (rs:YJ) (i c:Nat):Int:=(rwE rs i).getD c 0
abbrev Y3:=List Bool
def acE (rs:YJ) (us:Y3) (c i:Nat):Bool:= !(us.getD i true) && !decide (ceE rs i c=0)
def Qkx (a p:QH) (q:Int):QH:=List.zipWith (fun x y=>x - q*y) a p
def okE (a:QH):Bool:=a.all fun x=>decide (x.natAbs<=1099511627776)
def scE (rs:YJ) (us:Y3) (c:Nat):Nat->ZU×Nat
 | 0=>(none,0)
 | k+1=>if acE rs us c k then(match (scE rs us c k).1 with
   | none=>(some k,(scE rs us c k).2+1)
   | some j=>(if(ceE rs k c).natAbs < (ceE rs j c).natAbs then some k else some j,(scE rs us c k).2+1))else scE rs us c k
def nwE (rs:YJ) (c b k:Nat):QH:=Qkx (rwE rs k) (rwE rs b) ((ceE rs k c).tdiv (ceE rs b c))
def rnE (rs:YJ) (us:Y3) (c b:Nat):Nat->YJ
 | 0=>rs
 | k+1=>if !decide (k=b) && acE rs us c k then(rnE rs us c b k).set k (nwE rs c b k)else rnE rs us c b k
def orE (rs:YJ) (us:Y3) (c b:Nat):Nat->Bool
 | 0=>true
 | k+1=>orE rs us c b k && (!(!decide (k=b) && acE rs us c k) || okE (nwE rs c b k))
def coE (c:Nat):Nat->YJ->Y3->Option (YJ×Y3×Int)
 | 0,_,_=>none
 | f+1,rs,us=>match scE rs us c rs.length with
  | (none,_)=>some (rs,us,-1)
  | (some b,n)=>if n=1 then some (rs,us.set b true,(b:Int))else if orE rs us c b rs.length then coE c f (rnE rs us c b rs.length) us else none
def msE (rs:YJ) (us:Y3) (c:Nat):Q9
 | 0=>0
 | k+1=>msE rs us c k+if acE rs us c k then(ceE rs k c).natAbs else 0
def elE (rs:YJ):Nat->Option (YJ×Y3×QH)
 | 0=>some (rs,List.replicate rs.length false,[])
 | c+1=>(elE rs c).bind fun s=>(coE c (msE s.1 s.2.1 c s.1.length+1) s.1 s.2.1).map fun x=>(x.1,x.2.1,s.2.2 ++ [x.2.2])
def S5 (rs:YJ) (us:Y3) (c b:Nat): ∀k,(rnE rs us c b k).length=rs.length
 | 0=>rfl
 | k+1=>by
  simp only[rnE];split
  ·rw[Pc,S5 rs us c b k]
  ·exact S5 rs us c b k
def Qdy (rs:YJ) (k j:Nat) (x:QH) (hk:k < rs.length):rwE (rs.set k x) j=if j=k then x else rwE rs j:=by
 simp only[rwE,WV,YE];by_cases h:k=j
 ·subst h;simp[hk]
 ·have: ¬j=k:=fun e=>h e.symm;simp[h,this]
def GN (rs:YJ) (us:Y3) (c b:Nat): ∀k,k<=rs.length->∀j,rwE (rnE rs us c b k) j=if j < k/\j≠b/\acE rs us c j=true then nwE rs c b j else rwE rs j
 | 0,_,j=>by simp[rnE]
 | k+1,hk,j=>by
  have ih:=GN rs us c b k (by omega);simp only[rnE];by_cases h: (!decide (k=b) && acE rs us c k)=true
  ·rw[Qh h,Qdy _ _ _ _ (by rw[S5];omega)];simp only[Qi,Tc,Wr]at h;by_cases hj:j=k
   ·subst hj;rw[Qh rfl,Qh ⟨by omega,h.1,h.2⟩]
   ·rw[Qe hj,ih j];by_cases h2:j < k
    ·have:j < k+1:=by omega
     simp[h2,this]
    ·have: ¬j < k+1:=by omega
     simp[h2,this]
  ·rw[Qe h,ih j];simp only[Qi,Tc,Wr]at h;by_cases hj:j=k
   ·subst hj;have h2: ¬(j < j+1/\j≠b/\acE rs us c j=true):=fun⟨_,x,y⟩=>h ⟨x,y⟩;rw[Qe h2,Qe (by omega)]
   ·by_cases h2:j < k
    ·have:j < k+1:=by omega
     simp[h2,this]
    ·have: ¬j < k+1:=by omega
     simp[h2,this]
structure ScI (rs:List (List Int)) (us:List Bool) (c k:Nat):Prop where
 nn: (scE rs us c k).1=none->(scE rs us c k).2=0/\∀j,j < k->acE rs us c j=false
 sm: ∀b,(scE rs us c k).1=some b->b < k/\acE rs us c b=true/\0 < (scE rs us c k).2/\∀j,j < k->acE rs us c j=true->(ceE rs b c).natAbs<=(ceE rs j c).natAbs
 tw: ∀b,(scE rs us c k).1=some b->2<=(scE rs us c k).2->∃j,j < k/\j≠b/\acE rs us c j=true
 on: ∀b,(scE rs us c k).1=some b->(scE rs us c k).2=1->∀j,j < k->acE rs us c j=true->j=b
def TS:=@Nat.lt_succ_iff_lt_or_eq
def scI (rs:YJ) (us:Y3) (c:Nat): ∀k,ScI rs us c k
 | 0=>⟨fun _=>⟨rfl,fun j hj=>by omega⟩,fun b hb=>by simp[scE]at hb,fun b hb=>by simp[scE]at hb,fun b hb=>by simp[scE]at hb⟩
 | k+1=>by
  have ih:=scI rs us c k;cases ha:acE rs us c k
  ·have e:scE rs us c (k+1)=scE rs us c k:=by simp[scE,ha]
   refine⟨?_,?_,?_,?_⟩ <;> rw[e]
   ·intro h;refine⟨(ih.nn h).1,fun j hj=> ?_⟩;rcases TS.1 hj with h2 | h2
    ·exact(ih.nn h).2 j h2
    ·subst h2;exact ha
   ·intro b hb;obtain⟨h1,h2,h3,h4⟩:=ih.sm b hb;refine⟨by omega,h2,h3,fun j hj haj=> ?_⟩;rcases TS.1 hj with h5 | h5
    ·exact h4 j h5 haj
    ·subst h5;rw[ha]at haj;cases haj
   ·intro b hb hn;obtain⟨j,h1,h2,h3⟩:=ih.tw b hb hn;exact⟨j,by omega,h2,h3⟩
   ·intro b hb hn j hj haj;rcases TS.1 hj with h5 | h5
    ·exact ih.on b hb hn j h5 haj
    ·subst h5;rw[ha]at haj;cases haj
  ·cases hs: (scE rs us c k).1 with
   | none=>
    obtain⟨h0,hno⟩:=ih.nn hs;have e:scE rs us c (k+1)=(.some k,1):=by simp[scE,ha,hs,h0]
    refine⟨?_,?_,?_,?_⟩ <;> rw[e]
    ·intro h;cases h
    ·intro b hb;injection hb with hb
     subst hb;refine⟨by omega,ha,by simp,fun j hj haj=> ?_⟩;rcases TS.1 hj with h5 | h5
     ·rw[hno j h5]at haj;cases haj
     ·subst h5;exact Za _
    ·intro b hb hn;simp at hn
    ·intro b hb hn j hj haj;injection hb with hb
     rcases TS.1 hj with h5 | h5
     ·rw[hno j h5]at haj;cases haj
     ·omega
   | some d=>
    obtain⟨h1,h2,h3,h4⟩:=ih.sm d hs;by_cases hlt: (ceE rs k c).natAbs < (ceE rs d c).natAbs
    ·have e:scE rs us c (k+1)=(.some k,(scE rs us c k).2+1):=by simp[scE,ha,hs,hlt]
     refine⟨?_,?_,?_,?_⟩ <;> rw[e]
     ·intro h;cases h
     ·intro b hb;injection hb with hb
      subst hb;refine⟨by omega,ha,by simp,fun j hj haj=> ?_⟩;rcases TS.1 hj with h5 | h5
      ·have:=h4 j h5 haj;omega
      ·subst h5;exact Za _
     ·intro b hb hn;injection hb with hb
      subst hb;exact⟨d,by omega,by omega,h2⟩
     ·intro b hb hn;simp only at hn;omega
    ·have e:scE rs us c (k+1)=(.some d,(scE rs us c k).2+1):=by simp[scE,ha,hs,hlt]
     refine⟨?_,?_,?_,?_⟩ <;> rw[e]
     ·intro h;cases h
     ·intro b hb;injection hb with hb
      subst hb;refine⟨by omega,h2,by simp,fun j hj haj=> ?_⟩;rcases TS.1 hj with h5 | h5
      ·exact h4 j h5 haj
      ·subst h5;omega
     ·intro b hb hn;injection hb with hb
      subst hb;exact⟨k,by omega,by omega,ha⟩
     ·intro b hb hn;simp only at hn;omega
end Go.Am
namespace Go.Am
set_option maxRecDepth 20000
end Go.Am
namespace Go.Am
set_option maxRecDepth 20000
end Go.Am
namespace Go.Am
set_option maxRecDepth 20000
end Go.Am
namespace Go.Am
set_option maxRecDepth 20000
abbrev W64:=BitVec 64
def Qj4 (w:W64):AV:= .int .u64 w.toNat
def Qbu (l:List W64):Qd:=l.map fun w=>[Qj4 w]
def Fu (B:Qd) (id:Nat) (x:Qf) (h:QV x=true):Yc B (B.set id x)=true:=by
 induction B generalizing id with
 | nil=>simp[Yc]
 | cons y B ih=>
  cases id with
  | zero=>
   simp only[List.set_cons_zero,Yc,h,Bool.or_true,We];have: ∀(B:Qd),Yc B B=true:=by
    intro B
    induction B with
    | nil=>rfl
    | cons y B ih=>simp only[Yc,Z5,SO,We,ih]
   exact this B
  | succ id=>simp only[List.set_cons_succ,Yc,Z5,SO,We];exact ih id
end Go.Am
namespace Go.Am
set_option maxRecDepth 20000
def TSg (B:Qd) (v:AV) (l:Qp):Prop:=∃id sz,v= .gs id 0 sz l.length/\∃c,l≠[]->sz=4/\B[id]? =some (Qh7 l ++ c)
end Go.Am
namespace Go.Am
set_option maxRecDepth 20000
def YS {α:Type} {B:List α} {i:Nat} {x:α} (h:B[i]? =some x) (M:List α): (B ++ M)[i]? =some x:=by
 rw[ZO (Uk h)];exact h
def Qc3 {α:Type} (B:List α) (x:α) (M:List α): (B ++ x:: M)[B.length]? =some x:=by simp
def TSg.app {B:Qd} {v:AV} {l:Qp} (h:TSg B v l) (M:Qd):TSg (B ++ M) v l:=by
 obtain⟨id,sz,e,c,hc⟩:=h;exact⟨id,sz,e,c,fun hn=>⟨(hc hn).1,YS (hc hn).2 M⟩⟩
end Go.Am
namespace Go.Am
set_option maxRecDepth 20000
abbrev Fj:=Nat×List W64×List W64
def Qj6 (x:Fj):AV:= .agg [.int .i64 (x.1:Int),.sl false 1 (Qbu x.2.1)]
def Qj5 (x:Fj):AV:= .agg [.int .i64 (x.1:Int),.sl false 1 (Qbu x.2.2)]
def SY (B:Qd) (b0:Nat) (C:Qp) (n:Nat) (RS:List Fj):Prop:=∃(idC szC:Nat) (c:Qf) (vb:AV),
 B[b0+2]? =some [.gs idC 0 szC C.length,.int .i64 (n:Int),.mp b0,.mp (b0+1),vb]/\B[b0]? =some (.undef:: RS.map Qj6)/\B[b0+1]? =some (.undef:: RS.map Qj5)/\
 (C≠[]->szC=4/\b0+2 < idC/\B[idC]? =some (Qh7 C ++ c))/\
 (vb= .gs 0 0 0 0\/∃(idb:Nat) (ks:Qf),vb= .gs idb 0 1 ks.length/\ks≠[]/\b0+2 < idb/\(C≠[]->idC < idb)/\B[idb]? =some ks/\ks.length<=RS.length)
def SY.app {B:Qd} {b0:Nat} {C:Qp} {n:Nat} {RS:List Fj} (h:SY B b0 C n RS) (M:Qd):SY (B ++ M) b0 C n RS:=by
 obtain⟨idC,szC,c,vb,h1,h2,h3,h4,h5⟩:=h;refine⟨idC,szC,c,vb,YS h1 M,YS h2 M,YS h3 M,fun hn=>⟨(h4 hn).1,(h4 hn).2.1,YS (h4 hn).2.2 M⟩,?_⟩;rcases h5 with h5 | ⟨idb,ks,q1,q2,q3,q4,q5,q6⟩
 ·exact .inl h5
 ·exact .inr ⟨idb,ks,q1,q2,q3,q4,YS q5 M,q6⟩
end Go.Am
namespace Go.Am
set_option maxRecDepth 20000
def QgY:Qp->Qp
 | []=>[]
 | x:: r=>Hj x ++ QgY r
end Go.Am
namespace Go.Am
set_option maxRecDepth 20000
def Qcl (f:Qf) (hf:f.map AV.strip=f):Yi f 0 1 f.length=f.map fun x=>[x]:=by
 unfold Yi;apply TW;intro i;rcases QL i f.length with h | h
 ·have h2:f[i].strip=f[i]:=by
   have:=Xb (fun l=>l[i]?) hf;simp only[Xm,Zr h,QA]at this;injection this
  have h3: (f.drop i).take 1=[f[i]]:=by rw[O1 h];rfl
  simp[h,hf,h3]
 ·simp[h]
def W7 (B0 B:Qd):Prop:=∃M,B=B0 ++ M
def W7.app {B0 B:Qd} (h:W7 B0 B) (M:Qd):W7 B0 (B ++ M):=by
 obtain⟨M0,rfl⟩:=h;exact⟨M0 ++ M,by simp⟩
def W7.set {B0 B:Qd} (h:W7 B0 B) {i:Nat} (hi:B0.length<=i) (x:Qf):W7 B0 (B.set i x):=by
 obtain⟨M0,rfl⟩:=h;exact⟨_,QaZ hi x⟩
end Go.Am
namespace Go.Am
set_option maxRecDepth 20000
end Go.Am
namespace Go.Am
set_option maxRecDepth 20000
end Go.Am
namespace Go.Am
set_option maxRecDepth 20000
end Go.Am
namespace Go.Am
set_option maxRecDepth 20000
def Bp (l:Qp) (t:Tm):Int:=if 200 < l.length then 3 else NC (l ++ [t])
end Go.Am
namespace Go.Am
set_option maxRecDepth 20000
def JQ {N:Nat}: ∀(l:QH) (a:Int),l.Pairwise (· < ·)->(∀x∈l,a<=x/\x < a+N)->l.length<=N
 | [],_,_,_=>by simp
 | x:: xs,a,h,hb=>by
  obtain⟨h1,h2⟩:=Va.1 h;obtain⟨b1,b2⟩:=hb x (by simp);have hN: (0:Int) < N:=by omega
  have ih:=JQ (N:=N - 1) xs (a+1) h2 (fun y hy=>by
   have c1:=h1 y hy;have c2:=hb y (by simp[hy]);omega)
  simp only[QO];omega
end Go.Am
namespace Go.Am
set_option maxRecDepth 20000
def IV (N:Nat) (l:QH):Prop:=l.Pairwise (· < ·)/\∀x∈l,(0:Int)<=x/\x < N
def IV.len {N:Nat} {l:QH} (h:IV N l):l.length<=N:=JQ l 0 h.1 (by simpa using h.2)
end Go.Am
namespace Go.Am
set_option maxRecDepth 20000
end Go.Am
namespace Go.Am
set_option maxRecDepth 20000
def Qkd (s:Qp) (u:Tm):Qp:=Hj u ++ QgY (s.filter fun t=>isB t XOR)
def Qkl (m:Qp) (t:Tm):Bool:=isB t XOR || QhN m t
def Qh6 (s:Qp) (u:Tm):Qp:=s.filter (Qkl (Qkd s u))
structure SH (s:List Tm) (u:Tm):Prop where
 len:s.length<=200
 nod:QK s+u.nodes < 90000
 mass: ∀x∈s,x.mass < 1000000
 um:u.mass < 1000000
 v: ∀x∈s,QZ x=0
 uv:QZ u=0
 ne: ∀x∈s,isB x XOR=true->Hj x≠[]
 une:Hj u≠[]
def Ij: ∀{l:Qp},(∀x∈l,QZ x=0)->NC l=0
 | [],_=>rfl
 | x:: r,h=>by simp only[NC,h x (by simp),ne_eq,Pa,QC];exact Ij fun y hy=>h y (by simp[hy])
def SH.right {s:Qp} {u:Tm} (h:SH s u):Bp (Qh6 s u) u=0:=by
 have hl: (Qh6 s u).length<=s.length:=List.length_filter_le _ _;have:=h.len;rw[Bp,Qe (by omega)];refine Ij fun x hx=> ?_;rcases Wd.1 hx with hx | hx
 ·exact h.v x (List.mem_filter.1 hx).1
 ·simp at hx;subst hx;exact h.uv
end Go.Am
namespace Go.Am
set_option maxRecDepth 20000
def bs2 (B:Qd) (ia1 ia2 x0:Nat) (c0 c1 c2:AV) (A1 A2:QH) (lg:Bool):Qd:=((B.set ia1 (Wj A1)).set ia2 (Wj A2)).set x0 [c0,c1,c2,.bool lg]
end Go.Am
namespace Go.Am
set_option maxRecDepth 20000
structure ES (B:List (List AV)) (x0 n:Nat) (cols:AV) (rs:List (List Int)) (us:List Bool) (piv:List Int) (lg:Bool):Prop where
 x:B[x0]? =some [cols,.gs (if rs.length=0 then 0 else x0+4*rs.length) 0 (if rs.length=0 then 0 else 1) rs.length,.gs (if n=0 then 0 else x0+4*rs.length+n) 0 (if n=0 then 0 else 1) n,.bool lg]
 rl:rs.length≠0->B[x0+4*rs.length]? =some ((List.range rs.length).map fun i=> .gp (x0+4*i+3) 0)
 pl:n≠0->B[x0+4*rs.length+n]? =some (Wj piv)
 pn:piv.length=n
 row: ∀i,i < rs.length->B[x0+4*i+3]? =some [.gs (x0+4*i+1) 0 1 n,.gs (x0+4*i+2) 0 1 rs.length,.bool (us.getD i true)]/\B[x0+4*i+1]? =some (Wj ((rwE rs i).take n))/\B[x0+4*i+2]? =some (Wj ((rwE rs i).drop n))
 ul:us.length=rs.length
 wl: ∀i,i < rs.length->(rwE rs i).length=n+rs.length
 bd:lg=false->∀i,i < rs.length->okE (rwE rs i)=true
end Go.Am
namespace Go.Am
set_option maxRecDepth 20000
end Go.Am
namespace Go.Am
set_option maxRecDepth 20000
def Iq {us:Y3} {b j:Nat} {v:Bool} (hb:b < us.length): (us.set b v).getD j true=if j=b then v else us.getD j true:=by
 simp only[WV,YE];by_cases h:b=j
 ·subst h;simp[hb]
 ·have: ¬j=b:=fun e=>h e.symm;simp[h,this]
end Go.Am
