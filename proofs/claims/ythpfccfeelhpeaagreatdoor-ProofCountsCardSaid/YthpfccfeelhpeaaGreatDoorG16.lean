/-
  En44, En45, En46, En47, En48, Kn1, Kn2, Kn3, Kn4, Kn22, Kn23, Kn24, Kn8, Kn5, Kn6, Kn7, Kn9, Kn10, Kn11, Kn12, Kn13, Kn14, Kn15, Kn16, Kn17, Kn18, Kn20, Kn25, Kn26, Kn27, Kn28, Kn29, Kn30, Kn31, Kn32, Kn33, Kn34, Kn35, Kn50, Kn51, Pf1.
-/
import Derived.Test.YthpfccfeelhpeaaGreatDoorG15
set_option linter.all false
open Go.Am.F
namespace Go.Am
set_option maxRecDepth 20000
structure AOk (d:Ded) (a:List Tm):Prop where
 ok:rOk d.r=true
 n0:0<=d.n
 n1:d.n<=1000000
 len:0<=K7 d.r->(a.length:Int)=K7 d.r
 p15:d.r=15->a≠[]
 al:a.length < 10000
 ml:Wy a < 20000000
 good: ∀x∈a,KH x=0
 td:KH d.t=0
 cl:d.c.length < 1000000
def AOk.one {d:Ded} {a:Qx} (h:AOk d a) (hr:K7 d.r=1): ∃x,a=[x]:=by
 have:=h.len (by omega);rw[hr]at this;cases a with
 | nil=>simp at this
 | cons x r=>cases r with
  | nil=>exact⟨x,rfl⟩
  | cons y r2=>simp at this;omega
section
variable {α:Type}
def xv (a b:α->Bool):α->Bool:=fun t=>a t ^^ b t
def zv0:α->Bool:=fun _=>false
def C3 (a:α->Bool):xv a zv0=a:=by funext t;simp[xv,zv0]
def KP (a:α->Bool):xv zv0 a=a:=by funext t;simp[xv,zv0]
def C2 (a:α->Bool):xv a a=zv0:=by funext t;simp[xv,zv0]
def C1 (a b:α->Bool):xv a b=xv b a:=by funext t;simp[xv,Bool.xor_comm]
def TS (a b c:α->Bool):xv (xv a b) c=xv a (xv b c):=by funext t;simp[xv]
def Fk (a b:α->Bool):xv a (xv a b)=b:=by rw[<- TS,C2,KP]
inductive Sp (L:List (α->Bool)): (α->Bool)->Prop
 | zero:Sp L zv0
 | add {v w:α->Bool}:v∈L->Sp L w->Sp L (xv v w)
def Sp.mem {L:List (α->Bool)} {v:α->Bool} (h:v∈L):Sp L v:=by
 have:=Sp.add h Sp.zero;rwa[C3]at this
def Sp.sum {L:List (α->Bool)} {v w:α->Bool} (h:Sp L v) (h2:Sp L w):Sp L (xv v w):=by
 induction h with
 | zero=>rwa[KP]
 | add hm _ ih=>rw[TS];exact .add hm ih
def Sp.sub {L M:List (α->Bool)} {v:α->Bool} (h: ∀x∈L,Sp M x) (hv:Sp L v):Sp M v:=by
 induction hv with
 | zero=>exact .zero
 | add hm _ ih=>exact(h _ hm).sum ih
def Sp.mono {L M:List (α->Bool)} {v:α->Bool} (h: ∀x∈L,x∈M) (hv:Sp L v):Sp M v:=hv.sub fun x hx=> .mem (h x hx)
def Sp.cons {r:α->Bool} {L:List (α->Bool)} {v:α->Bool} (h:Sp (r:: L) v):Sp L v\/Sp L (xv r v):=by
 induction h with
 | zero=>exact .inl .zero
 | @add x w hm _ ih=>
  rcases ZK.1 hm with rfl | hm
  ·rcases ih with ih | ih
   ·exact .inr (by rwa[Fk])
   ·exact .inl ih
  ·rcases ih with ih | ih
   ·exact .inl (.add hm ih)
   ·exact .inr (by
     have:=Sp.add hm ih;rwa[<- TS,C1 x r,TS]at this)
end
end Go.Am
namespace Go.Am
set_option maxRecDepth 20000
end Go.Am
namespace Go.Am
set_option maxRecDepth 20000
end Go.Am
namespace Go.Am
set_option maxRecDepth 20000
end Go.Am
namespace Go.Am
abbrev Ys:=List (List Int)
def rwE (rs:Ys) (i:Nat):Qv:=rs.getD i []
def ceE (rs:Ys) (i c:Nat):Int:=(rwE rs i).getD c 0
abbrev Y0:=List Bool
def acE (rs:Ys) (us:Y0) (c i:Nat):Bool:= !(us.getD i true) && !decide (ceE rs i c=0)
def QeD (a p:Qv) (q:Int):Qv:=List.zipWith (fun x y=>x - q*y) a p
def okE (a:Qv):Bool:=a.all fun x=>decide (x.natAbs<=1099511627776)
def scE (rs:Ys) (us:Y0) (c:Nat):Nat->Zs×Nat
 | 0=>(none,0)
 | k+1=>if acE rs us c k then(match (scE rs us c k).1 with
   | none=>(some k,(scE rs us c k).2+1)
   | some j=>(if(ceE rs k c).natAbs < (ceE rs j c).natAbs then some k else some j,(scE rs us c k).2+1))else scE rs us c k
def nwE (rs:Ys) (c b k:Nat):Qv:=QeD (rwE rs k) (rwE rs b) ((ceE rs k c).tdiv (ceE rs b c))
def rnE (rs:Ys) (us:Y0) (c b:Nat):Nat->Ys
 | 0=>rs
 | k+1=>if !decide (k=b) && acE rs us c k then(rnE rs us c b k).set k (nwE rs c b k)else rnE rs us c b k
def orE (rs:Ys) (us:Y0) (c b:Nat):Nat->Bool
 | 0=>true
 | k+1=>orE rs us c b k && (!(!decide (k=b) && acE rs us c k) || okE (nwE rs c b k))
def coE (c:Nat):Nat->Ys->Y0->Option (Ys×Y0×Int)
 | 0,_,_=>none
 | f+1,rs,us=>match scE rs us c rs.length with
  | (none,_)=>some (rs,us,-1)
  | (some b,n)=>if n=1 then some (rs,us.set b true,(b:Int))else if orE rs us c b rs.length then coE c f (rnE rs us c b rs.length) us else none
def msE (rs:Ys) (us:Y0) (c:Nat):QX
 | 0=>0
 | k+1=>msE rs us c k+if acE rs us c k then(ceE rs k c).natAbs else 0
def elE (rs:Ys):Nat->Option (Ys×Y0×Qv)
 | 0=>some (rs,List.replicate rs.length false,[])
 | c+1=>(elE rs c).bind fun s=>(coE c (msE s.1 s.2.1 c s.1.length+1) s.1 s.2.1).map fun x=>(x.1,x.2.1,s.2.2 ++ [x.2.2])
def Ti (rs:Ys) (us:Y0) (c b:Nat): ∀k,(rnE rs us c b k).length=rs.length
 | 0=>rfl
 | k+1=>by
  simp only[rnE];split
  ·rw[Sn,Ti rs us c b k]
  ·exact Ti rs us c b k
def CG (rs:Ys) (k j:Nat) (x:Qv) (hk:k < rs.length):rwE (rs.set k x) j=if j=k then x else rwE rs j:=by
 simp only[rwE,Tq,YM];by_cases h:k=j
 ·subst h;simp[hk]
 ·have: ¬j=k:=fun e=>h e.symm;simp[h,this]
def KI (rs:Ys) (us:Y0) (c b:Nat): ∀k,k<=rs.length->∀j,rwE (rnE rs us c b k) j=if j < k/\j≠b/\acE rs us c j=true then nwE rs c b j else rwE rs j
 | 0,_,j=>by simp[rnE]
 | k+1,hk,j=>by
  have ih:=KI rs us c b k (by omega);simp only[rnE];by_cases h: (!decide (k=b) && acE rs us c k)=true
  ·rw[Qj h,CG _ _ _ _ (by rw[Ti];omega)];simp only[Qh,Ui,S3]at h;by_cases hj:j=k
   ·subst hj;rw[Qj rfl,Qj ⟨by omega,h.1,h.2⟩]
   ·rw[Qi hj,ih j];by_cases h2:j < k
    ·have:j < k+1:=by omega
     simp[h2,this]
    ·have: ¬j < k+1:=by omega
     simp[h2,this]
  ·rw[Qi h,ih j];simp only[Qh,Ui,S3]at h;by_cases hj:j=k
   ·subst hj;have h2: ¬(j < j+1/\j≠b/\acE rs us c j=true):=fun⟨_,x,y⟩=>h ⟨x,y⟩;rw[Qi h2,Qi (by omega)]
   ·by_cases h2:j < k
    ·have:j < k+1:=by omega
     simp[h2,this]
    ·have: ¬j < k+1:=by omega
     simp[h2,this]
structure ScI (rs:List (List Int)) (us:List Bool) (c k:Nat):Prop where
 nn: (scE rs us c k).1=none->(scE rs us c k).2=0/\∀j,j < k->acE rs us c j=false
 sm: ∀b,(scE rs us c k).1=some b->b < k/\acE rs us c b=true/\0 < (scE rs us c k).2/\∀j,j < k->acE rs us c j=true->(ceE rs b c).natAbs<=(ceE rs j c).natAbs
 tw: ∀b,(scE rs us c k).1=some b->2<=(scE rs us c k).2->∃j,j < k/\j≠b/\acE rs us c j=true
 on: ∀b,(scE rs us c k).1=some b->(scE rs us c k).2=1->∀j,j < k->acE rs us c j=true->j=b
def Tr:=@Nat.lt_succ_iff_lt_or_eq
def scI (rs:Ys) (us:Y0) (c:Nat): ∀k,ScI rs us c k
 | 0=>⟨fun _=>⟨rfl,fun j hj=>by omega⟩,fun b hb=>by simp[scE]at hb,fun b hb=>by simp[scE]at hb,fun b hb=>by simp[scE]at hb⟩
 | k+1=>by
  have ih:=scI rs us c k;cases ha:acE rs us c k
  ·have e:scE rs us c (k+1)=scE rs us c k:=by simp[scE,ha]
   refine⟨?_,?_,?_,?_⟩ <;> rw[e]
   ·intro h;refine⟨(ih.nn h).1,fun j hj=> ?_⟩;rcases Tr.1 hj with h2 | h2
    ·exact(ih.nn h).2 j h2
    ·subst h2;exact ha
   ·intro b hb;obtain⟨h1,h2,h3,h4⟩:=ih.sm b hb;refine⟨by omega,h2,h3,fun j hj haj=> ?_⟩;rcases Tr.1 hj with h5 | h5
    ·exact h4 j h5 haj
    ·subst h5;rw[ha]at haj;cases haj
   ·intro b hb hn;obtain⟨j,h1,h2,h3⟩:=ih.tw b hb hn;exact⟨j,by omega,h2,h3⟩
   ·intro b hb hn j hj haj;rcases Tr.1 hj with h5 | h5
    ·exact ih.on b hb hn j h5 haj
    ·subst h5;rw[ha]at haj;cases haj
  ·cases hs: (scE rs us c k).1 with
   | none=>
    obtain⟨h0,hno⟩:=ih.nn hs;have e:scE rs us c (k+1)=(.some k,1):=by simp[scE,ha,hs,h0]
    refine⟨?_,?_,?_,?_⟩ <;> rw[e]
    ·intro h;cases h
    ·intro b hb;injection hb with hb
     subst hb;refine⟨by omega,ha,by simp,fun j hj haj=> ?_⟩;rcases Tr.1 hj with h5 | h5
     ·rw[hno j h5]at haj;cases haj
     ·subst h5;exact Zd _
    ·intro b hb hn;simp at hn
    ·intro b hb hn j hj haj;injection hb with hb
     rcases Tr.1 hj with h5 | h5
     ·rw[hno j h5]at haj;cases haj
     ·omega
   | some d=>
    obtain⟨h1,h2,h3,h4⟩:=ih.sm d hs;by_cases hlt: (ceE rs k c).natAbs < (ceE rs d c).natAbs
    ·have e:scE rs us c (k+1)=(.some k,(scE rs us c k).2+1):=by simp[scE,ha,hs,hlt]
     refine⟨?_,?_,?_,?_⟩ <;> rw[e]
     ·intro h;cases h
     ·intro b hb;injection hb with hb
      subst hb;refine⟨by omega,ha,by simp,fun j hj haj=> ?_⟩;rcases Tr.1 hj with h5 | h5
      ·have:=h4 j h5 haj;omega
      ·subst h5;exact Zd _
     ·intro b hb hn;injection hb with hb
      subst hb;exact⟨d,by omega,by omega,h2⟩
     ·intro b hb hn;simp only at hn;omega
    ·have e:scE rs us c (k+1)=(.some d,(scE rs us c k).2+1):=by simp[scE,ha,hs,hlt]
     refine⟨?_,?_,?_,?_⟩ <;> rw[e]
     ·intro h;cases h
     ·intro b hb;injection hb with hb
      subst hb;refine⟨by omega,h2,by simp,fun j hj haj=> ?_⟩;rcases Tr.1 hj with h5 | h5
      ·exact h4 j h5 haj
      ·subst h5;omega
     ·intro b hb hn;injection hb with hb
      subst hb;exact⟨k,by omega,by omega,ha⟩
     ·intro b hb hn;simp only at hn;omega
end Go.Am
namespace Go.Am
set_option maxRecDepth 20000
end Go.Am
namespace Go.Am
set_option maxRecDepth 20000
end Go.Am
namespace Go.Am
set_option maxRecDepth 20000
end Go.Am
namespace Go.Am
set_option maxRecDepth 20000
abbrev W64:=BitVec 64
def Qeb (w:W64):AV:= .int .u64 w.toNat
def De (l:List W64):Qe:=l.map fun w=>[Qeb w]
end Go.Am
namespace Go.Am
set_option maxRecDepth 20000
def TSg (B:Qe) (v:AV) (l:Qx):Prop:=∃id sz,v= .gs id 0 sz l.length/\∃c,l≠[]->sz=4/\B[id]? =some (Qcj l ++ c)
end Go.Am
namespace Go.Am
set_option maxRecDepth 20000
def Y6 {α:Type} {B:List α} {i:Nat} {x:α} (h:B[i]? =some x) (M:List α): (B ++ M)[i]? =some x:=by
 rw[Zt (Tf h)];exact h
def TSg.app {B:Qe} {v:AV} {l:Qx} (h:TSg B v l) (M:Qe):TSg (B ++ M) v l:=by
 obtain⟨id,sz,e,c,hc⟩:=h;exact⟨id,sz,e,c,fun hn=>⟨(hc hn).1,Y6 (hc hn).2 M⟩⟩
end Go.Am
namespace Go.Am
set_option maxRecDepth 20000
abbrev K6:=Nat×List W64×List W64
def Qed (x:K6):AV:= .agg [.int .i64 (x.1:Int),.sl false 1 (De x.2.1)]
def Qec (x:K6):AV:= .agg [.int .i64 (x.1:Int),.sl false 1 (De x.2.2)]
def SY (B:Qe) (b0:Nat) (C:Qx) (n:Nat) (RS:List K6):Prop:=∃(idC szC:Nat) (c:Qd) (vb:AV),
 B[b0+2]? =some [.gs idC 0 szC C.length,.int .i64 (n:Int),.mp b0,.mp (b0+1),vb]/\B[b0]? =some (.undef:: RS.map Qed)/\B[b0+1]? =some (.undef:: RS.map Qec)/\
 (C≠[]->szC=4/\b0+2 < idC/\B[idC]? =some (Qcj C ++ c))/\
 (vb= .gs 0 0 0 0\/∃(idb:Nat) (ks:Qd),vb= .gs idb 0 1 ks.length/\ks≠[]/\b0+2 < idb/\(C≠[]->idC < idb)/\B[idb]? =some ks/\ks.length<=RS.length)
def SY.app {B:Qe} {b0:Nat} {C:Qx} {n:Nat} {RS:List K6} (h:SY B b0 C n RS) (M:Qe):SY (B ++ M) b0 C n RS:=by
 obtain⟨idC,szC,c,vb,h1,h2,h3,h4,h5⟩:=h;refine⟨idC,szC,c,vb,Y6 h1 M,Y6 h2 M,Y6 h3 M,fun hn=>⟨(h4 hn).1,(h4 hn).2.1,Y6 (h4 hn).2.2 M⟩,?_⟩;rcases h5 with h5 | ⟨idb,ks,q1,q2,q3,q4,q5,q6⟩
 ·exact .inl h5
 ·exact .inr ⟨idb,ks,q1,q2,q3,q4,Y6 q5 M,q6⟩
end Go.Am
namespace Go.Am
set_option maxRecDepth 20000
def Qbi:Qx->Qx
 | []=>[]
 | x:: r=>LJ x ++ Qbi r
end Go.Am
namespace Go.Am
set_option maxRecDepth 20000
def T6 (B0 B:Qe):Prop:=∃M,B=B0 ++ M
def T6.app {B0 B:Qe} (h:T6 B0 B) (M:Qe):T6 B0 (B ++ M):=by
 obtain⟨M0,rfl⟩:=h;exact⟨M0 ++ M,by simp⟩
def T6.set {B0 B:Qe} (h:T6 B0 B) {i:Nat} (hi:B0.length<=i) (x:Qd):T6 B0 (B.set i x):=by
 obtain⟨M0,rfl⟩:=h;exact⟨_,EL hi x⟩
end Go.Am
namespace Go.Am
set_option maxRecDepth 20000
end Go.Am
namespace Go.Am
set_option maxRecDepth 20000
end Go.Am
namespace Go.Am
set_option maxRecDepth 20000
end Go.Am
namespace Go.Am
set_option maxRecDepth 20000
def GJ (l:Qx) (t:Tm):Int:=if 200 < l.length then 3 else Pc (l ++ [t])
end Go.Am
namespace Go.Am
set_option maxRecDepth 20000
def MP {N:Nat}: ∀(l:Qv) (a:Int),l.Pairwise (· < ·)->(∀x∈l,a<=x/\x < a+N)->l.length<=N
 | [],_,_,_=>by simp
 | x:: xs,a,h,hb=>by
  obtain⟨h1,h2⟩:=Yo.1 h;obtain⟨b1,b2⟩:=hb x (by simp);have hN: (0:Int) < N:=by omega
  have ih:=MP (N:=N - 1) xs (a+1) h2 (fun y hy=>by
   have c1:=h1 y hy;have c2:=hb y (by simp[hy]);omega)
  simp only[Xp];omega
end Go.Am
namespace Go.Am
set_option maxRecDepth 20000
def IV (N:Nat) (l:Qv):Prop:=l.Pairwise (· < ·)/\∀x∈l,(0:Int)<=x/\x < N
def IV.len {N:Nat} {l:Qv} (h:IV N l):l.length<=N:=MP l 0 h.1 (by simpa using h.2)
end Go.Am
namespace Go.Am
set_option maxRecDepth 20000
end Go.Am
namespace Go.Am
set_option maxRecDepth 20000
def Qek (s:Qx) (u:Tm):Qx:=LJ u ++ Qbi (s.filter fun t=>isB t XOR)
def Qer (m:Qx) (t:Tm):Bool:=isB t XOR || Qb8 m t
def Qci (s:Qx) (u:Tm):Qx:=s.filter (Qer (Qek s u))
structure SH (s:List Tm) (u:Tm):Prop where
 len:s.length<=200
 nod:Za s+u.nodes < 90000
 mass: ∀x∈s,x.mass < 1000000
 um:u.mass < 1000000
 v: ∀x∈s,Yr x=0
 uv:Yr u=0
 ne: ∀x∈s,isB x XOR=true->LJ x≠[]
 une:LJ u≠[]
def M1: ∀{l:Qx},(∀x∈l,Yr x=0)->Pc l=0
 | [],_=>rfl
 | x:: r,h=>by simp only[Pc,h x (by simp),ne_eq,not_true_eq_false,Zz];exact M1 fun y hy=>h y (by simp[hy])
def SH.right {s:Qx} {u:Tm} (h:SH s u):GJ (Qci s u) u=0:=by
 have hl: (Qci s u).length<=s.length:=List.length_filter_le _ _;have:=h.len;rw[GJ,Qi (by omega)];refine M1 fun x hx=> ?_;rcases WR.1 hx with hx | hx
 ·exact h.v x (List.mem_filter.1 hx).1
 ·simp at hx;subst hx;exact h.uv
end Go.Am
namespace Go.Am
set_option maxRecDepth 20000
def bs2 (B:Qe) (ia1 ia2 x0:Nat) (c0 c1 c2:AV) (A1 A2:Qv) (lg:Bool):Qe:=((B.set ia1 (QK A1)).set ia2 (QK A2)).set x0 [c0,c1,c2,.bool lg]
end Go.Am
namespace Go.Am
set_option maxRecDepth 20000
structure ES (B:List (List AV)) (x0 n:Nat) (cols:AV) (rs:List (List Int)) (us:List Bool) (piv:List Int) (lg:Bool):Prop where
 x:B[x0]? =some [cols,.gs (if rs.length=0 then 0 else x0+4*rs.length) 0 (if rs.length=0 then 0 else 1) rs.length,.gs (if n=0 then 0 else x0+4*rs.length+n) 0 (if n=0 then 0 else 1) n,.bool lg]
 rl:rs.length≠0->B[x0+4*rs.length]? =some ((List.range rs.length).map fun i=> .gp (x0+4*i+3) 0)
 pl:n≠0->B[x0+4*rs.length+n]? =some (QK piv)
 pn:piv.length=n
 row: ∀i,i < rs.length->B[x0+4*i+3]? =some [.gs (x0+4*i+1) 0 1 n,.gs (x0+4*i+2) 0 1 rs.length,.bool (us.getD i true)]/\B[x0+4*i+1]? =some (QK ((rwE rs i).take n))/\B[x0+4*i+2]? =some (QK ((rwE rs i).drop n))
 ul:us.length=rs.length
 wl: ∀i,i < rs.length->(rwE rs i).length=n+rs.length
 bd:lg=false->∀i,i < rs.length->okE (rwE rs i)=true
end Go.Am
namespace Go.Am
set_option maxRecDepth 20000
end Go.Am
namespace Go.Am
set_option maxRecDepth 20000
def M7 {us:Y0} {b j:Nat} {v:Bool} (hb:b < us.length): (us.set b v).getD j true=if j=b then v else us.getD j true:=by
 simp only[Tq,YM];by_cases h:b=j
 ·subst h;simp[hb]
 ·have: ¬j=b:=fun e=>h e.symm;simp[h,this]
end Go.Am
namespace Go.Am
def Kq (c:Nat): ∀(f:Nat) (rs:Ys) (us:Y0) (rs':Ys) (us':Y0) (p:Int),us.length=rs.length->coE c f rs us=some (rs',us',p)->
  rs'.length=rs.length/\us'.length=us.length/\(∀j,us.getD j true=true->rwE rs' j=rwE rs j/\us'.getD j true=true)/\(p= -1\/∃b:Nat,p=(b:Int)/\b < rs.length/\us'.getD b true=true/\ceE rs' b c≠0)
 | 0,_,_,_,_,_,_,h=>by simp[coE]at h
 | f+1,rs,us,rs',us',p,hul,h=>by
  have sc:=scI rs us c rs.length;cases hs: (scE rs us c rs.length).1 with
  | none=>
   have he:scE rs us c rs.length=(none,(scE rs us c rs.length).2):=by rw[<- hs]
   rw[coE,he]at h;simp only[Qm,Qu]at h;obtain⟨rfl,rfl,rfl⟩:=h;exact⟨rfl,rfl,fun j hj=>⟨rfl,hj⟩,.inl rfl⟩
  | some b=>
   obtain⟨s1,s2,s3,s4⟩:=sc.sm b hs;have he:scE rs us c rs.length=(some b,(scE rs us c rs.length).2):=by rw[<- hs]
   rw[coE,he]at h;simp only at h;have hbn:ceE rs b c≠0:=by
    intro e;simp[acE,e]at s2
   by_cases hone: (scE rs us c rs.length).2=1
   ·rw[Qj hone]at h;simp only[Qm,Qu]at h;obtain⟨rfl,rfl,rfl⟩:=h;refine⟨rfl,by simp,fun j hj=>⟨rfl,?_⟩,.inr ⟨b,rfl,s1,?_,hbn⟩⟩
    ·rw[M7 (by omega)];split
     ·rfl
     ·exact hj
    ·rw[M7 (by omega),Qj rfl]
   ·rw[Qi hone]at h;split at h
    ·obtain⟨i1,i2,i3,i4⟩:=Kq c f _ us rs' us' p (by rw[Ti];exact hul) h;rw[Ti]at i1 i4;refine⟨i1,i2,fun j hj=> ?_,i4⟩;obtain⟨k1,k2⟩:=i3 j hj;refine⟨?_,k2⟩;rw[k1];rw[KI _ _ _ _ _ (Zd _)];have:acE rs us c j=false:=by simp only[acE,hj];rfl
     simp[this]
    ·cases h
def PvI (rs:Ys) (us:Y0) (pv:Qv):Prop:=∀c,c < pv.length->pv.getD c (-1)= -1\/∃b:Nat,pv.getD c (-1)=(b:Int)/\b < rs.length/\us.getD b true=true/\ceE rs b c≠0
def Kr {rs:Ys}: ∀(c:Nat) (s:Ys×Y0×Qv),elE rs c=some s->s.1.length=rs.length/\s.2.1.length=rs.length/\s.2.2.length=c/\PvI s.1 s.2.1 s.2.2
 | 0,s,h=>by
  simp only[elE,Qm]at h;subst h;exact⟨rfl,by simp,rfl,fun c hc=>by simp at hc⟩
 | c+1,s,h=>by
  simp only[elE]at h;cases hs:elE rs c with
  | none=>rw[hs]at h;simp at h
  | some s0=>
   rw[hs]at h;simp only[Qn]at h;obtain⟨h1,h2,h3,h4⟩:=Kr c s0 hs;cases hc:coE c (msE s0.1 s0.2.1 c s0.1.length+1) s0.1 s0.2.1 with
   | none=>rw[hc]at h;simp at h
   | some x=>
    rw[hc]at h;simp only[Qt,Qm]at h;subst h;obtain⟨i1,i2,i3,i4⟩:=Kq c _ s0.1 s0.2.1 x.1 x.2.1 x.2.2 (by omega) hc;refine⟨by simp only;omega,by simp only;omega,by simp[h3],?_⟩;intro d hd;simp only[YF,RV]at hd;simp only;by_cases hdc:d=c
    ·subst hdc;have e: (s0.2.2 ++ [x.2.2]).getD d (-1)=x.2.2:=by
      rw[Tq,ZV (by omega),h3];simp
     rw[e];rcases i4 with i4 | ⟨b,b1,b2,b3,b4⟩
     ·exact .inl i4
     ·exact .inr ⟨b,b1,by omega,b3,b4⟩
    ·have e: (s0.2.2 ++ [x.2.2]).getD d (-1)=s0.2.2.getD d (-1):=by
      rw[Tq,Tq,Zt (by omega)]
     rw[e];rcases h4 d (by omega)with h4 | ⟨b,b1,b2,b3,b4⟩
     ·exact .inl h4
     ·obtain⟨k1,k2⟩:=i3 b b3;refine .inr ⟨b,b1,by omega,k2,?_⟩;unfold ceE at *;rw[k1];exact b4
end Go.Am
namespace Go.Am
set_option maxRecDepth 20000
def Ft (x:AV) (hx:x.strip=x) (o:Bool) (B:Qe):appM 8 1 (.gs 0 0 0 0) (.sl o 1 [[x]]) B=some (.gs B.length 0 1 1,B ++ [[x]]):=by
 simp[appM,XF,hx]
def H1 (x:AV) (hx:x.strip=x) (o:Bool) {B:Qe} {id:Nat} {ks:Qd} (hb:B[id]? =some ks) (hne:ks≠[]) (hs:ks.map AV.strip=ks) (hl:ks.length < 1000000):
  appM 8 1 (.gs id 0 1 ks.length) (.sl o 1 [[x]]) B=some (.gs B.length 0 1 (ks.length+1),B.set id []++ [ks ++ [x]]):=by
 have h0: ¬ks.length=0:=fun e=>hne (VW e);have hsr:XF 1 (.sl o 1 [[x]]) B=some (1,[x]):=by simp[XF,hx]
 simp only[appM,hsr,Qn];rw[Qj ⟨by omega,by omega⟩,Qi (by omega),Qi (by omega),Qj ⟨trivial,trivial⟩,hb];simp only[Qn];rw[Qj ⟨hne,by omega⟩,Qi (by omega),VK,XS (Zd _),hs]
end Go.Am
namespace Go.Am
set_option maxRecDepth 20000
end Go.Am
namespace Go.Am
set_option maxRecDepth 20000
def Tk (B:Qe) (x0 n:Nat) (cols:AV) (rs:Ys) (c:Nat):Prop:=match elE rs c with
 | some s=>ES B x0 n cols s.1 s.2.1 (s.2.2 ++ List.replicate (n - c) (-1)) false
 | none=>∃rs' us' pv',rs'.length=rs.length/\ES B x0 n cols rs' us' pv' true
end Go.Am
namespace Go.Am
set_option maxRecDepth 20000
def ES.app {B:Qe} {x0 n:Nat} {cols:AV} {rs:Ys} {us:Y0} {piv:Qv} {lg:Bool} (h:ES B x0 n cols rs us piv lg) (M:Qe):ES (B ++ M) x0 n cols rs us piv lg:=
 ⟨Y6 h.x M,fun hz=>Y6 (h.rl hz) M,fun hz=>Y6 (h.pl hz) M,h.pn,fun i hi=>⟨Y6 (h.row i hi).1 M,Y6 (h.row i hi).2.1 M,Y6 (h.row i hi).2.2 M⟩,h.ul,h.wl,h.bd⟩
def ES.lt {B:Qe} {x0 n:Nat} {cols:AV} {rs:Ys} {us:Y0} {piv:Qv} {lg:Bool} (h:ES B x0 n cols rs us piv lg):x0+4*rs.length+n < B.length:=by
 by_cases hn:n=0
 ·by_cases hm:rs.length=0
  ·have:=Tf h.x;omega
  ·have:=Tf (h.rl hm);omega
 ·have:=Tf (h.pl hn);omega
def Tk.app {B:Qe} {x0 n:Nat} {cols:AV} {rs:Ys} {c:Nat} (h:Tk B x0 n cols rs c) (M:Qe):Tk (B ++ M) x0 n cols rs c:=by
 unfold Tk at *;cases he:elE rs c with
 | some s=>rw[he]at h;exact ES.app h M
 | none=>
  rw[he]at h;obtain⟨rs',us',pv',e1,e2⟩:=h;exact⟨rs',us',pv',e1,e2.app M⟩
def Tk.lt {B:Qe} {x0 n:Nat} {cols:AV} {rs:Ys} {c:Nat} (h:Tk B x0 n cols rs c):x0+4*rs.length+n < B.length:=by
 unfold Tk at h;cases he:elE rs c with
 | some s=>
  rw[he]at h;have:=ES.lt h;rw[(Kr c s he).1]at this;exact this
 | none=>
  rw[he]at h;obtain⟨rs',us',pv',e1,e2⟩:=h;have:=e2.lt;rw[e1]at this;exact this
end Go.Am
namespace Go.Am
set_option maxRecDepth 20000
end Go.Am
namespace Go.Am
set_option maxRecDepth 20000
end Go.Am
namespace Go.Am
set_option maxRecDepth 20000
end Go.Am
namespace Go.Am
set_option maxRecDepth 20000
def IS (B0 B:Qe) (v:AV) (xs:Qv):Prop:=T6 B0 B/\((xs=[]/\v= .gs 0 0 0 0)\/∃id,v= .gs id 0 1 xs.length/\xs≠[]/\B0.length<=id/\B[id]? =some (QK xs))
def Jy {B0 B:Qe} {v:AV} {xs:Qv} (h:IS B0 B v xs): ∃id sz,v= .gs id 0 sz xs.length:=by
 rcases h.2 with⟨h1,h2⟩ | ⟨id,h1,_⟩
 ·exact⟨0,0,by rw[h2,h1];rfl⟩
 ·exact⟨id,1,h1⟩
def Qca {B0 B:Qe} {v:AV} {xs:Qv} (h:IS B0 B v xs) (x:Int) (o:Bool) (hl:xs.length < 1000000): ∃v' B',appM 8 1 v (.sl o 1 [[.int .i64 x]]) B=some (v',B')/\IS B0 B' v' (xs ++ [x]):=by
 obtain⟨hP,h⟩:=h;rcases h with⟨rfl,rfl⟩ | ⟨id,rfl,h2,h3,h4⟩
 ·refine⟨_,_,Ft (.int .i64 x) rfl o B,hP.app _,.inr ⟨B.length,by simp,by simp,?_,by rw[Vr];rfl⟩⟩;obtain⟨M,rfl⟩:=hP;simp
 ·have hne:QK xs≠[]:=fun e=>by
   have: (QK xs).length=xs.length:=ZP xs;rw[e]at this;exact h2 (VW this.symm)
  have:=H1 (.int .i64 x) rfl o h4 hne (by simp) (by rw[ZP];exact hl);rw[ZP]at this;refine⟨_,_,this,(hP.set h3 _).app _,.inr ⟨B.length,by simp,by simp,?_,?_⟩⟩
  ·obtain⟨M,rfl⟩:=hP;simp
  ·have e:B.length=(B.set id []).length:=by simp
   rw[e,Vr];simp[QK]
end Go.Am
namespace Go.Am
set_option maxRecDepth 20000
def PF (n:Int):ZL->Int
 | []=>n
 | d:: l=>PF (IntKind.i64.wrap (IntKind.i64.wrap (n+d.a.length)+d.c.length)) l
def M2 (l:ZL):Bool:=decide (PF 0 l<=1000) && few (l.map Ded.t) 410 3000
def Cl (l:ZL) (o:Bool) (bs:Qe) (hl:l.length<=1172812402961):
  ∀(post pre:ZL) (n:Int) (ρ:QA),l=pre ++ post->ρ 0= .sl o 8 (Zo l)->ρ 3= .int .i64 n->ρ 4= .sl true 4 (Q6 (pre.map Ded.t))->ρ 5= .int .i64 pre.length->
  R tb (.loop f696l0) ρ bs (ZJ 0 (Ym tb f696r0 (Xz f696 bs)))=some (.bool (decide (PF n post<=1000) && few (l.map Ded.t) 410 3000),bs):=by
 intro post
 induction post with
 | nil=>
  intro pre n ρ hk h0 h3 h4 h5;simp only[XT]at hk;subst hk;rw[Q3 f696l0.eq_1];have hf:call tb 101 [.sl false 4 (Q6 (l.map Ded.t)),.int .i64 410,.int .i64 3000] bs=some (.bool (few (l.map Ded.t) 410 3000),bs):=FB (l.map Ded.t) false 410 3000 bs (by omega) (by omega) (by omega);by_cases c:n<=1000
  ·simp[h0,h3,h4,h5,f696r0,PF,c,hf]
  ·simp[h0,h3,h4,h5,f696r0,PF,c,hf]
 | cons d post IH=>
  intro pre n ρ hk h0 h3 h4 h5;have hg: (Zo l)[pre.length]? =some (Zl d):=by rw[Yh,Yw hk];rfl
  have hll:=XH hk;have hw1:=wr1 pre.length (by omega);have hlt:=X5 hk;have hcap: (pre.length+1)*56<=140737488355328:=by omega
  have hd:=LU d;have hm:Q6 (pre.map Ded.t)++ [QU d.t]=Q6 ((pre ++ [d]).map Ded.t):=by simp[VO]
  rw[Q3 f696l0.eq_1];simp[h0,h3,h4,h5,hg,hw1,hlt,hcap];rw[IH (pre ++ [d])] <;> first | rfl | (simp[h0,hk,PF,VO];done)
def Dx (l:ZL) (o:Bool) (bs:Qe) (hl:l.length<=1172812402961):call tb 696 [.sl o 8 (Zo l)] bs=some (.bool (M2 l),bs):=by
 rw[zcc 696 rfl rfl];simp[f696C];rw[Cl l false bs hl l []] <;> first | rfl | (simp[M2,Q6];done)
def Cm {l:ZL} (h:M2 l=true):l.length<=410:=by
 simp only[M2,few,Qh,Ql]at h;have:=h.2.1;simpa using this
def Va (l:ZL):Nat:=(l.filter fun d=> !decide (d.r=1) && !decide (d.r=2)).length
def Rt (d:Ded) (l:ZL):Va (d:: l)=(if !decide (d.r=1) && !decide (d.r=2)then 1 else 0)+Va l:=by
 unfold Va;rw[List.filter_cons];split <;> simp;omega
def ET (l:ZL) (o:Bool) (bs:Qe) (hl:l.length<=410):
  ∀(post pre:ZL) (n:Nat) (ρ:QA),l=pre ++ post->n<=pre.length->ρ 3= .int .i64 n->ρ 6= .sl o 8 (Zo l)->ρ 7= .int .i64 l.length->ρ 8= .int .i64 pre.length->
  R tb (.loop f672l0) ρ bs (ZJ 0 (Ym tb f672r0 (Xz f672 bs)))=some (.int .i64 ((n+Va post:Nat):Int),bs):=by
 intro post
 induction post with
 | nil=>
  intro pre n ρ hk hn h3 h6 h7 h8;simp only[XT]at hk;subst hk;rw[Q3 f672l0.eq_1];simp[h3,h6,h7,h8,f672r0,Va]
 | cons d post IH=>
  intro pre n ρ hk hn h3 h6 h7 h8;have hg: (Zo l)[pre.length]? =some (Zl d):=by rw[Yh,Yw hk];rfl
  have hll:=XH hk;have hw1:=wr1 pre.length (by omega);have hw2:IntKind.i64.wrap ((n:Int)+1)=(n:Int)+1:=X9 (by omega) (by omega);have hlt:=X5 hk;rw[Rt];rw[Q3 f672l0.eq_1];by_cases c1:d.r=1
  ·simp[h3,h6,h7,h8,hg,hw1,hlt,c1];rw[IH (pre ++ [d]) n] <;> first | omega | (simp[h3,h6,h7,hk];done) | (simp;omega)
  ·by_cases c2:d.r=2
   ·simp[h3,h6,h7,h8,hg,hw1,hlt,c1,c2];rw[IH (pre ++ [d]) n] <;> first | omega | (simp[h3,h6,h7,hk];done) | (simp;omega)
   ·simp[h3,h6,h7,h8,hg,hw1,hw2,hlt,c1,c2];rw[IH (pre ++ [d]) (n+1)] <;> first | omega | (simp[h3,h6,h7,hk];done) | (simp;omega)
def Dv (l:ZL) (o:Bool) (bs:Qe) (hl:l.length<=410):call tb 672 [.sl o 8 (Zo l)] bs=some (.int .i64 (Va l),bs):=by
 rw[zcc 672 rfl rfl];simp[f672C];rw[ET l false bs hl l [] 0] <;> simp
def GO (l:ZL) (o:Bool) (bs:Qe) (hl:l.length<=410):
  ∀(post pre:ZL) (n:Nat) (ρ:QA),l=pre ++ post->n<=pre.length->ρ 0= .sl o 8 (Zo l)->ρ 3= .int .i64 n->ρ 4= .int .i64 pre.length->
  R tb (.loop f697l0) ρ bs (ZJ 0 (Ym tb f697r0 (Xz f697 bs)))=some (.int .i64 ((n+Va post:Nat):Int),bs):=by
 intro post
 induction post with
 | nil=>
  intro pre n ρ hk hn h0 h3 h4;simp only[XT]at hk;subst hk;rw[Q3 f697l0.eq_1];simp[h3,h0,h4,f697r0,Va]
 | cons d post IH=>
  intro pre n ρ hk hn h0 h3 h4;have hg: (Zo l)[pre.length]? =some (Zl d):=by rw[Yh,Yw hk];rfl
  have hll:=XH hk;have hw1:=wr1 pre.length (by omega);have hw2:IntKind.i64.wrap ((n:Int)+1)=(n:Int)+1:=X9 (by omega) (by omega);have hlt:=X5 hk;rw[Rt];rw[Q3 f697l0.eq_1];by_cases c1:d.r=1
  ·simp[h3,h0,h4,hg,hw1,hlt,c1];rw[IH (pre ++ [d]) n] <;> first | omega | (simp[h3,h0,hk];done) | (simp;omega)
  ·by_cases c2:d.r=2
   ·simp[h3,h0,h4,hg,hw1,hlt,c1,c2];rw[IH (pre ++ [d]) n] <;> first | omega | (simp[h3,h0,hk];done) | (simp;omega)
   ·simp[h3,h0,h4,hg,hw1,hw2,hlt,c1,c2];rw[IH (pre ++ [d]) (n+1)] <;> first | omega | (simp[h3,h0,hk];done) | (simp;omega)
def Dy (l:ZL) (o:Bool) (bs:Qe) (hl:l.length<=410):call tb 697 [.sl o 8 (Zo l)] bs=some (.int .i64 (Va l),bs):=by
 rw[zcc 697 rfl rfl];simp[f697C];rw[GO l false bs hl l [] 0] <;> simp
end Go.Am
