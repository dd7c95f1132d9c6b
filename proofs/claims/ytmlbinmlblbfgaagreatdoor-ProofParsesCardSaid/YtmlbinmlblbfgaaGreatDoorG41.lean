/-
  AmS, AmSort, AmSort2, AmSort3, AmSort4, AmSort5, AmGrow, AmIdx.
-/
import Derived.Test.YtmlbinmlblbfgaaGreatDoorG15
import Derived.Test.YtmlbinmlblbfgaaGreatDoorG09
import Derived.Shelf.SlSortCmp.WholeK
import Derived.Shelf.SlSortCmp.NoneTotal
import Derived.Test.YtmlbinmlblbfgaaGreatDoorG16
import Derived.Test.YtmlbinmlblbfgaaGreatDoorG12
import Derived.Shelf.Spec.SlicesGrow
set_option linter.all false
namespace Go.Am
set_option maxRecDepth 20000
namespace S
def tb:Nat->Option AFn:=fun n=>if n=30 then some (.code F.f30)else if n=31 then some (.code F.f31)else if n=32 then some (.code F.f32)else if n=33 then some (.orc (ZG OD))else none
def tb_30:tb 30=some (.code F.f30):=rfl
def tb_31:tb 31=some (.code F.f31):=rfl
def tb_32:tb 32=some (.code F.f32):=rfl
def tb_33:tb 33=some (.orc (ZG OD)):=rfl
def Pm (a b:Int) (bs:List (List AV)):call S.tb 32 [.int .i64 a,.int .i64 b] bs=some (.int .i64 (if a < b then -1 else if a > b then 1 else 0),bs):=by
 rw[Si S.tb_32 _ _ rfl];simp[F.f32,F.f32C]
def R0 (t:Tm) (bs:List (List AV)) (hm:t.mass < big) (ih: ∀x∈t.kids,∀bs,call S.tb 31 [.agg (Ql x)] bs=some (.int .i64 x.nodes,bs)):
  ∀(post pre:List Tm) (ρ:Nat->AV),t.kids=pre ++ post->ρ 7= .sl false 4 (Qz t.kids)->ρ 8= .int .i64 t.kids.length->ρ 9= .int .i64 pre.length->ρ 3= .int .i64 (1+QK pre:Nat)->
  R S.tb (.loop F.f31l0) ρ bs (Q1 0 (ZE S.tb F.f31r0 (Zn F.f31 bs)))=some (.int .i64 t.nodes,bs):=by
 have hm2:=Z7 t;have hn:=Y2 t.kids;unfold big at hm;intro post
 induction post with
 | nil=>
  intro pre ρ hk h7 h8 h9 h3;rw[Qo F.f31l0.eq_1];simp at hk;simp[h3,h8,h9,<- hk,F.f31r0,UQ]
 | cons x post IH=>
  intro pre ρ hk h7 h8 h9 h3;have hg:=ZM hk;have hl:=XA hk;have hnn:QK t.kids=QK pre+ (x.nodes+QK post):=by rw[hk,XH];simp[QK]
  have hw1:=wr1 pre.length (by omega);have hw2:IntKind.i64.wrap (1+ (QK pre:Int)+ (x.nodes:Int))=1+ (QK pre:Int)+ (x.nodes:Int):=Q2 (by omega) (by omega);have hlt:=XX hk;rw[Qo F.f31l0.eq_1];simp[h3,h7,h8,h9,hg,hw1,hw2,hlt,ih x (by rw[hk];simp)];rw[IH (pre ++ [x])] <;> simp[h3,h7,h8,h9,hk,XH,QK];omega
def Tf: ∀(t:Tm) (bs:List (List AV)),t.mass < big->call S.tb 31 [.agg (Ql t)] bs=some (.int .i64 t.nodes,bs):=by
 refine Xg ?_;intro k n s ks ih bs hm;rw[Si S.tb_31 _ _ rfl];simp[F.f31C];refine R0 (.mk k n s ks) bs hm (fun x hx bs=>ih x hx bs ?_) ks [] _ ?_ ?_ ?_ ?_ ?_ <;> (try simp[QK]);have:=Yp hx;have:=Z7 (.mk k n s ks);simp at *;omega
def Ri (a b:Int) (bs:List (List AV)):call S.tb 32 [.int .i64 a,.int .i64 b] bs=some (.int .i64 (sgn a b),bs):=Pm a b bs
def OC (a b:List UInt8) (bs:List (List AV)):call S.tb 33 [.str a,.str b] bs=some (.int .i64 (Y0 a b),bs):=by
 rw[Wu S.tb_33];rfl
def TO (t u:Tm) (bs:List (List AV)) (hm:t.mass < big) (hu:u.mass < big)
  (ih: ∀x∈t.kids,∀y bs,y.mass < big->call S.tb 30 [.agg (Ql x),.agg (Ql y)] bs=some (.int .i64 (Zq x y),bs)):
  ∀(xs ys pre pre':List Tm) (c:Int) (ρ:Nat->AV),t.kids=pre ++ xs->u.kids=pre' ++ ys->pre.length=pre'.length->(c=0->xs.length=ys.length)->
   ρ 2= .bx (Ql t)->ρ 3= .bx (Ql u)->ρ 5= .int .i64 c->ρ 6= .int .i64 pre.length->
  R S.tb (.loop F.f30l0) ρ bs (Q1 0 (ZE S.tb F.f30r0 (Zn F.f30 bs)))=some (.int .i64 (or0 c (Yl xs ys)),bs):=by
 have hm2:=Z7 t;have hu2:=Z7 u;intro xs
 induction xs with
 | nil=>
  intro ys pre pre' c ρ hk hk' hp hc h2 h3 h5 h6;rw[Qo F.f30l0.eq_1];simp at hk;by_cases h0:c=0
  ·simp[h2,h3,h5,h6,h0,F.f30r0,hk,Yl,LL]
  ·simp[h2,h3,h5,h6,h0,F.f30r0,Yl,LL]
 | cons x xs IH=>
  intro ys pre pre' c ρ hk hk' hp hc h2 h3 h5 h6;rw[Qo F.f30l0.eq_1];by_cases h0:c=0
  ·obtain⟨y,ys',rfl⟩: ∃y ys',ys=y:: ys':=by
    have:=hc h0;cases ys with
    | nil=>simp at this
    | cons y ys'=>exact⟨y,ys',rfl⟩
   have hg:=ZM hk;have hg':=ZM hk';rw[<- hp]at hg';have hl:t.kids.length=pre.length+ (xs.length+1):=by rw[hk];simp
   have hlt: (pre.length:Int) < (t.kids.length:Int):=by omega
   have hym:y.mass < big:=by have:=Yp (x:=y) (ks:=u.kids) (by rw[hk'];simp);omega
   unfold big at hm hu;have hw1:=wr1 pre.length (by omega);simp[h2,h3,h5,h6,h0,hlt,hg,hg',hw1,ih x (by rw[hk];simp) y bs hym];rw[IH ys' (pre ++ [x]) (pre' ++ [y]) (Zq x y)] <;> first | omega | (simp[hk,hk',hp,h2,h3,Yl,Vt];done) | (intro _;have:=hc h0;simp at this;omega)
  ·simp[h2,h3,h5,h6,h0,F.f30r0,Yl,Un]
def call_Compare: ∀(t u:Tm) (bs:List (List AV)),t.mass < big->u.mass < big->call S.tb 30 [.agg (Ql t),.agg (Ql u)] bs=some (.int .i64 (Zq t u),bs):=by
 refine Xg ?_;intro k n s ks ih u bs hm hu;have hloop:=TO (.mk k n s ks) u bs hm hu (fun x hx y bs hy=>ih x hx y bs (by have:=Yp hx;have:=Z7 (.mk k n s ks);simp at *;omega) hy) ks u.kids [] [] (hdT (.mk k n s ks) u);rw[Si S.tb_30 _ _ rfl,UF];have hsz:=Tf (.mk k n s ks) bs hm;have hsz':=Tf u bs hu;simp[F.f30C,hsz,hsz',Ri,OC];by_cases c1:sgn (Tm.mk k n s ks).nodes u.nodes=0 <;> by_cases c2:sgn k u.kind=0 <;> by_cases c3:Y0 n u.name=0 <;> by_cases c4:sgn s u.sort=0 <;>
  simp[c1,c2,c3,c4,Y7] <;> rw[hloop] <;> first | (simp[hdT,c1,c2,c3,c4,Vt,Un];done) | (simp[hdT,c1,c2,c3,c4,Sd,Vt,Un];omega) | skip
end S
open Go.Shelf Go.RowKit Go.Lib Go.Proofs Go.Sort
set_option maxRecDepth 20000
@[reducible] def drT:Dr:=⟨True⟩
def B5 {X:Nat->Prop} {w w':World} {m m':Q9} (h: @Zm drT X w m w' m') (hX: ∀b,b < w.heap.size->¬X b): ∃q os',w'=grow (w.drewN q) os':=by
 letI:=drT
 refine⟨w'.drawn - w.drawn,w'.heap.extract w.heap.size w'.heap.size,?_⟩;have h1:=h.os;have h2:=h.tape;have h3:=h.output;have h4:=h.drawn trivial;have h5:=h.size;have h6:w'.heap=w.heap ++ w'.heap.extract w.heap.size w'.heap.size:=by
  apply R5;intro i;rw[Array.getElem?_append];split
  ·rename_i hi;exact(h.same i hi (hX i hi)).1
  ·rename_i hi;rw[Array.getElem?_extract];split
   ·congr 1;omega
   ·rw[XN (by omega)]
 cases w;cases w'
 simp only[grow,World.drewN]at *;subst h1 h2 h3;congr 1;omega
def Hl (o:ZU) (w:World) (m:Q9):Prop:=∀g,o=some g->∃u,w.cell? ⟨g,0,none⟩=some u/\u.oneCell'=true/\∀num,Qa num [] w m (SE 0) u
def N4 (P:Program) (num:Z3) (o:ZU) (g:Nat):Prop:=∀(w:World) (m:Q9) (β:Ym) (x y:QW) (t u:Tm),Hl o w m->t.mass < big->u.mass < big->
 Qa num β w m (.agg (Ql t)) (.agg x)->Qa num β w m (.agg (Ql u)) (.agg y)->
 Calls P g #[.agg x,.agg y] w fun e w'=>e= .returned (.int .i64 (Zq t u))/\∃q os',w'=grow (w.drewN q) os'
def LI (o:ZU): @Z1 drT:=
 letI:=drT
 {G:=Hl o
  Gb:=match o with | some g=>g+1 | none=>0
  nm:=fun k g=>k=0/\o=some g
  tab:=fun w m k g num hG hk=>by
   obtain⟨rfl,h⟩:=hk;obtain⟨u,h1,h2,h3⟩:=hG g h;exact⟨u,h1,h2,h3 num⟩
  step:=fun X w m w' m' hS hX hb hG g h=>by
   subst h;obtain⟨u,h1,h2,h3⟩:=hG g rfl;refine⟨u,?_,h2,fun num=>QU (Ge.refl _) hS.le _ _ (h3 num)⟩;rw[<- h1];unfold World.cell?;have hb':g+1<=w.heap.size:=hb;rw[(hS.same g (by omega) (fun hx=>by have:g+1<=g:=hX g hx;omega)).1]}
def QdO {o:ZU} {w:World} {m:Q9} (h:Hl o w m): @Z1.Gb drT (LI o)<=w.heap.size:=by
 cases o with
 | none=>exact Te _
 | some g=>
  obtain⟨u,h1,_,_⟩:=h g rfl
  show g+1<=_;rcases QL g w.heap.size with h2 | h2
  ·exact h2
  ·unfold World.cell? at h1;rw[XN h2]at h1;cases h1
def Qcm {P:Program} {num:Z3} {g:Nat} (hn:num 30=some g) {o:ZU} (hF: @N5 drT P num (LI o) S.tb):N4 P num o g:=by
 intro w m β x y t u hQ ht hu hx hy;have hc:=S.call_Compare t u (List.replicate β.length []) ht hu;obtain⟨n,hn2⟩:=Vd.1 hc;have hK:= @SA P num S.tb drT (LI o) hF n;have h:=hK.2 30 g [.agg (Ql t),.agg (Ql u)] (List.replicate β.length []) _ _ hn hn2 rfl w m β (fun _=>none) #[.agg x,.agg y] hQ (QdO hQ) rfl (by
  intro i c hi
  match i with
  | 0=>simp at hi;subst hi;exact⟨_,rfl,hx⟩
  | 1=>simp at hi;subst hi;exact⟨_,rfl,hy⟩
  | i+2=>simp at hi) ⟨by simp,fun i cs k h1 h2 h3=>by
   rw[Jt]at h1;split at h1
   ·injection h1 with h1;exact absurd h1.symm h3
   ·cases h1⟩ (fun b p h=>by cases h)
 refine h.mono fun e w' he=> ?_;obtain⟨v,m',β',ν',rfl,_,hS,_,_,hR,_,_⟩:=he;simp only[Qa]at hR;subst hR;refine⟨rfl,B5 hS fun b _ hb=> ?_⟩;obtain⟨p,hp⟩:=hb;cases hp
end Go.Am
namespace Go.Am
open Go.RowKit
set_option maxRecDepth 20000
def leT (a b:Tm):Prop:=¬Zq b a < 0
def La {a b c:Tm} (h1:leT a b) (h2:leT b c):leT a c:=by
 intro h;rcases J8 a b with h3 | h3 | h3
 ·exact h2 (Sq h h3)
 ·subst h3;exact h2 h
 ·exact h1 h3
def IC {a b:Tm} (h1:leT a b) (h2:leT b a):a=b:=by
 rcases J8 a b with h | h | h
 ·exact absurd h h2
 ·exact h
 ·exact absurd h h1
def JM:=@List.Perm.refl
def M8 (t:Tm): ∀l:Qp,(Tq t l).Perm (t:: l)
 | []=>JM _
 | x:: xs=>by
  simp only[Tq];split
  ·exact((M8 t xs).cons x).trans (List.Perm.swap t x xs)
  ·exact JM _
def NY: ∀l:Qp,(Uu l).Perm l
 | []=>JM _
 | t:: ts=>(M8 t (Uu ts)).trans ((NY ts).cons t)
def Oo {t:Tm}: ∀{l:Qp},l.Pairwise leT->(Tq t l).Pairwise leT
 | [],_=>by simp[Tq]
 | x:: xs,h=>by
  obtain⟨h1,h2⟩:=Va.1 h;simp only[Tq];split
  ·rename_i c;refine Va.2 ⟨fun y hy=> ?_,Oo h2⟩;rcases II.1 hy with rfl | hy
   ·intro h;have:=Ti y x;omega
   ·exact h1 y hy
  ·rename_i c;refine Va.2 ⟨fun y hy=> ?_,h⟩;rcases Yd.1 hy with rfl | hy
   ·exact c
   ·exact La c (h1 y hy)
def PR: ∀l:Qp,(Uu l).Pairwise leT
 | []=>List.Pairwise.nil
 | t:: ts=>Oo (PR ts)
def HX {l ts:Qp} (h1:l.Perm ts) (h2:l.Pairwise leT):l=Uu ts:=
 List.Perm.eq_of_pairwise (le:=leT) (fun a b _ _ h h'=>IC h h') h2 (PR ts) (h1.trans (NY ts).symm)
section
variable {num:Nat->Option Nat} {β:List Blk} {w:World} {m:Nat->Nat}
def AF {x:AV} {ks:Qp} (h:Fz x=some ks): ∃o xs,x= .sl o 4 xs/\VA xs=some ks:=by
 unfold Fz at h;split at h
 ·exact⟨_,_,rfl,h⟩
 ·cases h
def AD {cs:Qf} {t:Tm} (h:Mn cs=some t): ∃k n s x ks,cs=[.int .i64 k,.str n,.int .i64 s,x]/\Fz x=some ks/\t= .mk k n s ks:=by
 unfold Mn at h;split at h
 ·rename_i k n s x;simp only[TT]at h;obtain⟨ks,h1,rfl⟩:=h;exact⟨k,n,s,x,ks,rfl,h1,rfl⟩
 ·cases h
def OE {x:Qf} {xs:Qd} {ts:Qp} (h:VA (x:: xs)=some ts): ∃t ts',Mn x=some t/\VA xs=some ts'/\ts=t:: ts':=by
 unfold VA at h;split at h
 ·rename_i t ts' h1 h2;injection h with h
  exact⟨t,ts',h1,h2,h.symm⟩
 ·cases h
def Rm: ∀{xs:Qd} {ts:Qp},VA xs=some ts->ts.length=xs.length
 | [],ts,h=>by simp only[VA]at h;injection h with h;subst h;rfl
 | x:: xs,ts,h=>by
  obtain⟨t,ts',_,h2,rfl⟩:=OE h;simp[Rm h2]
def AE: ∀(t:Tm) (cs:Qf) (g:TR) (o:Nat),Mn cs=some t->Z2 num β w m cs g o->Z2 num β w m (Ql t) g o:=by
 refine Xg ?_;intro k n s ks ih cs g o h hr;have hE: ∀(xs:Qd) (ts:Qp),(∀t∈ts,t∈ks)->VA xs=some ts->∀(g:TR) (o:Nat),Z9 num β w m xs g o 4->Z9 num β w m (Qz ts) g o 4:=by
  intro xs
  induction xs with
  | nil=>intro ts _ h g o hr;simp only[VA]at h;injection h with h;subst h;simp only[Qz,Z9]
  | cons x xs IH=>
   intro ts hm h g o hr;obtain⟨t,ts',h1,h2,rfl⟩:=OE h;simp only[Z9]at hr;simp only[Qz,Z9];exact⟨X6 t,ih t (hm t (by simp)) x g o h1 hr.2.1,IH ts' (fun t ht=>hm t (by simp[ht])) h2 g (o+4) hr.2.2⟩
 obtain⟨k',n',s',x,ks',rfl,h1,h2⟩:=AD h;injection h2 with e1 e2 e3 e4
 subst e1 e2 e3 e4;obtain⟨o1,xs,rfl,h3⟩:=AF h1;simp only[Ql,Z2]at hr ⊢;obtain⟨a1,a2,a3,⟨u,a4,a5,a6⟩,_⟩:=hr;refine⟨a1,a2,a3,⟨u,a4,a5,?_⟩,trivial⟩;simp only[Qa]at a6 ⊢;obtain⟨a,len,cap,b1,b2,b3,b4,b5⟩:=a6;have hl:=Rm h3;refine⟨a,len,cap,b1,by rw[T5];omega,b3,b4,?_⟩;rcases b5 with rfl | ⟨b,o2,b6,b7⟩
 ·left;simp only[VA]at h3;injection h3 with h3;subst h3;simp[Qz]
 ·exact .inr ⟨b,o2,b6,hE xs ks (fun t ht=>ht) h3 _ _ b7⟩
end
end Go.Am
namespace Go.Am
open Go.Shelf Go.RowKit Go.Lib Go.Proofs Go.Sort
set_option maxRecDepth 20000
structure El (num:Nat->Option Nat) (β:List Blk) (w:World) (m:Nat->Nat) where
 v:List Value
 t:Tm
 len:v.length=4
 one: ∀u∈v,u.oneCell'=true
 rep:Qa num β w m (.agg (Ql t)) (.agg v.toArray)
 mass:t.mass < big
section
variable {num:Nat->Option Nat} {β:List Blk} {w:World} {m:Nat->Nat}
def ME {α:Type} [Inhabited α] (enc:α->Q8) (k:Nat) (w:World) (blk off q:Nat) (dk:Array α) (os:Array Obj) (b:Nat) (hb:b < w.heap.size):
  (sortWorldK enc k w blk off q dk os).heap[b]? =if b=blk then(w.heap[b]?).map (onCells (putCells id off (flatK enc k dk)))else w.heap[b]? :=by
 unfold sortWorldK putRowK putRow;rw[heap_grow_old _ _ (by simpa[mapBlock]using hb)];simp only[mapBlock,heap_ahead,VO];by_cases h:b=blk
 ·subst h;simp
 ·have: ¬blk=b:=fun e=>h e.symm;simp[h,this]
def QdM {α:Type} [Inhabited α] (enc:α->Q8) (k:Nat) (w:World) (blk off q:Nat) (dk:Array α) (os:Array Obj):w.heap.size<=(sortWorldK enc k w blk off q dk os).heap.size:=by
 unfold sortWorldK putRowK putRow;simp[mapBlock]
def LO {α:Type} [Inhabited α] (enc:α->Q8) (k:Nat) {blk off q:Nat} (dk:Array α) (os:Array Obj) (hm:m blk=0):Le w m (sortWorldK enc k w blk off q dk os) m:=by
 intro b i u hu;unfold hg at hu ⊢;split at hu
 ·rename_i hi;rw[Qh hi];have hb:b < w.heap.size:=by
   rcases QL b w.heap.size with h1 | h1
   ·exact h1
   ·exfalso;unfold World.cell? at hu;rw[XN h1]at hu;cases hu
  have hne: ¬b=blk:=by intro e;subst e;omega
  unfold World.cell? at hu ⊢;rw[ME enc k w blk off q dk os b hb,Qe hne];exact hu
 ·cases hu
def QdN:SWO (ltOf fun x y:El num β w m=>Zq x.t y.t) where
 irrefl:=fun x=>by simp[ltOf,Pu]
 trans:=fun x y z h1 h2=>by simp only[ltOf,Qm]at *;exact Sq h1 h2
 ntrans:=fun x y z h1 h2=>by
  simp only[ltOf,Wr]at *;exact La (a:=z.t) (b:=y.t) (c:=x.t) h2 h1
def Az [Inhabited (El num β w m)] {P:Program} {g blk off size:Nat} {o:ZU} (hC:N4 P num o g) (hQ:Hl o w m) (ho: ∀g,o=some g->g < w.heap.size/\g≠blk) (hm:m blk=0):CmpLays P g #[] (El.v (num:=num) (β:=β) (w:=w) (m:=m)) 4 (fun x y=>Zq x.t y.t) blk off size w:=by
 intro q os dk hdk x y;have h:=hC (sortWorldK El.v 4 w blk off q dk os) m β x.v.toArray y.v.toArray x.t y.t (fun g hg=>by
  obtain⟨u,h1,h2,h3⟩:=hQ g hg;obtain⟨h4,h5⟩:=ho g hg;refine⟨u,?_,h2,fun num=>QU (Ge.refl _) (LO El.v 4 dk os hm) _ _ (h3 num)⟩;rw[<- h1];unfold World.cell?;rw[ME El.v 4 w blk off q dk os g h4,Qe h5]) x.mass y.mass (QU (Ge.refl β) (LO El.v 4 dk os hm) _ _ x.rep) (QU (Ge.refl β) (LO El.v 4 dk os hm) _ _ y.rep)
 exact h
end
end Go.Am
namespace Go.Am
open Go.Shelf Go.RowKit Go.Lib Go.Proofs Go.Sort
set_option maxRecDepth 20000
def Ie: ∀{xs:Qd} {ts:Qp} {j:Nat} {t:Tm},VA xs=some ts->ts[j]? =some t->∃x,xs[j]? =some x/\Mn x=some t
 | [],ts,j,t,h,hj=>by simp only[VA]at h;injection h with h;subst h;simp at hj
 | x:: xs,ts,j,t,h,hj=>by
  obtain⟨t0,ts',h1,h2,rfl⟩:=OE h;cases j with
  | zero=>simp at hj;subst hj;exact⟨x,rfl,h1⟩
  | succ j=>simp at hj;obtain⟨y,h3,h4⟩:=Ie h2 hj;exact⟨y,by simpa using h3,h4⟩
section
variable {num:Nat->Option Nat} {β:List Blk} {w:World} {m:Nat->Nat} {ν:Own}
def Qdx {cur:QW} {cs:Qf} {o n:Nat} {ts:Qp} (hcs:o+n*4<=cs.length)
  (hc: ∀(i:Nat) (c:AV),cs[i]? =some c->∃u,cur[i]? =some u/\u.oneCell'=true/\Qa num β w m c u) (hd:VA (Yi cs o 4 n)=some ts) (hm: ∀t∈ts,t.mass < big):
  ∃d:List (El num β w m),d.length=n/\d.map (·.t)=ts/\∀(j:Nat) (e:El num β w m) (c:Nat),d[j]? =some e->c < 4->cur[o+j*4+c]? =e.v[c]? :=by
 have hlen:ts.length=n:=by rw[Rm hd,Xn]
 have hex: ∀(j:Nat) (hj:j < n),∃e:El num β w m,some e.t=ts[j]? /\∀(c:Nat),c < 4->cur[o+j*4+c]? =e.v[c]? :=by
  intro j hj;obtain⟨t,ht⟩: ∃t,ts[j]? =some t:=⟨_,Zr (by omega)⟩;obtain⟨x,hx,hdx⟩:=Ie hd ht;obtain⟨_,rfl⟩:=Tw hx;have hu: ∀(c:Nat),c < 4->∃u,cur[o+j*4+c]? =some u/\u.oneCell'=true/\∀(cc:AV),cs[o+j*4+c]? =some cc->Qa num β w m cc u:=by
   intro c hc4;have hlt:o+j*4+c < cs.length:=by omega
   obtain⟨u,h1,h2,h3⟩:=hc _ _ (Zr hlt);exact⟨u,h1,h2,fun cc hcc=>by rw[Zr hlt]at hcc;injection hcc with hcc;subst hcc;exact h3⟩
  obtain⟨u0,a0,b0,c0⟩:=hu 0 (by omega);obtain⟨u1,a1,b1,c1⟩:=hu 1 (by omega);obtain⟨u2,a2,b2,c2⟩:=hu 2 (by omega);obtain⟨u3,a3,b3,c3⟩:=hu 3 (by omega);have hrep:Z2 num β w m (((cs.drop (o+j*4)).take 4).map AV.strip) (fun i=>[u0,u1,u2,u3][i]?) 0:=by
   rw[Zp];intro i c hi;obtain⟨c',hc',rfl⟩:=Q0 hi;have hi4:i < 4:=by
    rcases QL i 4 with h | h
    ·exact h
    ·rw[QT (by rw[YO];omega)]at hc';cases hc'
   rw[XC hi4,YM]at hc'
   match i,hi4,hc' with
   | 0,_,hc'=>exact⟨u0,rfl,b0,(QE _ _).2 (c0 _ hc')⟩
   | 1,_,hc'=>exact⟨u1,rfl,b1,(QE _ _).2 (c1 _ hc')⟩
   | 2,_,hc'=>exact⟨u2,rfl,b2,(QE _ _).2 (c2 _ hc')⟩
   | 3,_,hc'=>exact⟨u3,rfl,b3,(QE _ _).2 (c3 _ hc')⟩
  refine⟨⟨[u0,u1,u2,u3],t,rfl,by simp[b0,b1,b2,b3],?_,hm t (WW ht)⟩,ht.symm,?_⟩
  ·simp only[Qa];exact⟨_,rfl,by simp,W8 (Ge.refl β) (Le.refl w m) _ _ _ 0 (fun i u h=>by simpa using h) (AE t _ _ 0 hdx hrep)⟩
  ·intro c hc4
   match c,hc4 with
   | 0,_=>simpa using a0
   | 1,_=>simpa using a1
   | 2,_=>simpa using a2
   | 3,_=>simpa using a3
 refine⟨List.ofFn fun j:Fin n=>Classical.choose (hex j.1 j.2),by simp,?_,?_⟩
 ·apply TW;intro j;rw[Xm,List.getElem?_ofFn];split
  ·rename_i hj;rw[QA];exact(Classical.choose_spec (hex j hj)).1
  ·rename_i hj;rw[QT (by omega)];rfl
 ·intro j e c hj hc4;rw[List.getElem?_ofFn]at hj;split at hj
  ·rename_i hjn;injection hj with hj
   subst hj;exact(Classical.choose_spec (hex j hjn)).2 c hc4
  ·cases hj
end
end Go.Am
namespace Go.Am
open Go.Shelf Go.RowKit Go.Lib Go.Proofs Go.Sort
set_option maxRecDepth 20000
def Im: ∀{l:Qp} {r:Nat} {c:AV},(Qz l).flatten[r]? =some c->∃t,l[r / 4]? =some t/\(Ql t)[r % 4]? =some c
 | [],r,c,h=>by simp[Qz]at h
 | x:: l,r,c,h=>by
  simp only[Qz,R7]at h;by_cases hr:r < 4
  ·rw[ZO (by rw[X6];exact hr)]at h;exact⟨x,by rw[Nat.div_eq_of_lt hr];rfl,by rw[JJ hr];exact h⟩
  ·rw[Yn (by rw[X6];omega),X6]at h;obtain⟨t,h1,h2⟩:=Im h;refine⟨t,?_,?_⟩
   ·rw[show r / 4=(r - 4) / 4+1 by omega];simpa using h1
   ·rw[show r % 4=(r - 4) % 4 by omega];exact h2
def Qa5 [Dr] (hD: ¬Dr.d) {P:Program} {num:Z3} {Γ:Z1} {id:Nat} {ρ:Ren} (L:SlLaysF0.n6 P ρ) (hid:ρ.f 6=id) (aE: ∀w,(isAgg (ρ.t 24)).run P w= .ok true w) (zE: ∀w,(Go.sizeOf (ρ.t 24)).run P w= .ok 4 w)
  {o:ZU} (hGQ: ∀w m,Γ.G w m->Hl o w m) (hGo: ∀g,o=some g->g < Γ.Gb)
  (hgC: ∀g,num 30=some g->N4 P num o g/\∀args w,(callFunc g args).run P w= .ok (.enter g args) w):XI P num Γ LN id:=by
 intro args bs r bs' hc hok w m β ν vs hG hGb hvs hrep hbox hlt;subst hid;unfold LN at hc;split at hc
 ·rename_i i o sz n;obtain⟨u0,hu0,hr0⟩:=hrep 0 _ rfl;obtain⟨u1,hu1,hr1⟩:=hrep 1 _ rfl;have hvs':=N8 hvs hu0 hu1;subst hvs';simp only[Qa]at hr0 hr1;obtain⟨a,cap,rfl,hcap1,hcap2,hcase⟩:=hr0;obtain⟨g,us,hg1,rfl,hus,_⟩:=hr1;have hus0:us= #[]:=Cr (by simpa using hus);subst hus0;obtain⟨hC,eg⟩:=hgC g hg1;have hν: ∀b p,ν b=some p->b < w.heap.size/\(w.heap.size<=b\/∃q,ν b=some q)/\(p.isG=true\/p= .f):=fun b p h=>⟨(hlt b p h).1,.inr ⟨p,h⟩,.inl (hlt b p h).2.2⟩;by_cases hn:n=0
  ·subst hn;rw[Qh rfl]at hc;injection hc with hc
   injection hc with e1 e2
   subst e1 e2;refine(AnyF.slices_SortFunc_none L a cap _ w).mono ?_
   rintro e w' ⟨rfl,rfl⟩
   exact⟨.tuple #[],m,β,ν,rfl,Ge.refl β,Zm.refl _ _ _,hbox,rfl,by simp only[Qa];exact⟨_,rfl,rfl,trivial⟩,trivial,hν⟩
  ·rw[Qe hn]at hc;split at hc
   ·rename_i hc1;obtain⟨rfl,hn62⟩:=hc1;cases hbs:bs[i]? with
    | none=>rw[hbs]at hc;cases hc
    | some cs=>
     rw[hbs]at hc;simp only[Qt]at hc;split at hc
     ·rename_i hle;cases hdec:VA (Yi cs o 4 n)with
      | none=>rw[hdec]at hc;cases hc
      | some ts=>
       rw[hdec]at hc;simp only[Qt]at hc;split at hc
       ·rename_i hall;injection hc with hc
        injection hc with e1 e2
        subst e1 e2;rcases hcase with⟨h0,_⟩ | ⟨k,⟨hk,hkm⟩,rfl,hz,_⟩
        ·exact absurd h0 hn
        have hne:cs≠[]:=by intro e;subst e;simp at hle;omega
        obtain⟨cur,et,hcur,⟨hcs1,hcs2⟩,hm0,hnu,hcells⟩:=(hbox.2 i cs k hbs hk hne).1 hkm;obtain⟨curT,hcurT⟩:=(hbox.2 i cs k hbs hk hne).2.2 hkm;have het:et=k.ty:=by
         have:=hcur.symm.trans hcurT;simp only[Qs,Obj.cells.injEq]at this;exact this.2.1
        have hmass: ∀t∈ts,t.mass < big:=fun t ht=>by simpa using YF.1 hall t ht
        obtain⟨d,hdl,hdt,hdv⟩:=Qdx (cur:=cur) hle (fun j c hj=>by obtain⟨u,a1,a2,a3,_⟩:=hcells j c hj;exact⟨u,a1,a2,a3⟩) hdec hmass;have hd0:0 < d.length:=by omega
        letI:Inhabited (El num β w m):=⟨d[0]⟩
        have hblk:k.b < w.heap.size:=(hlt _ _ hnu).1;have hsz:d.toArray.size=n:=by simp[hdl]
        have hH:HoldsK (El.v (num:=num) (β:=β) (w:=w) (m:=m)) 4 w k.b o d.toArray:=by
         intro j hj;rw[size_flatK,hsz]at hj;have hj4:j / 4 < n:=by omega
         have he:d[j / 4]? =some d[j / 4]:=Zr (by omega);have h1:=hdv (j / 4) _ (j % 4) he (by omega);have h2:o+j / 4*4+j % 4=o+j:=by omega
         rw[h2]at h1;rw[get_flatK _ _ _ _ (by rw[hsz];exact hj)];have h3:d.toArray[j / 4]! =d[j / 4]:=by rw[Xw _ _ (by rw[hsz];exact hj4)];simp
         rw[h3];have h4:d[j / 4].v[j % 4]? =some d[j / 4].v[j % 4]! :=by
          rw[Xw _ _ (by rw[El.len];omega)];exact Zr _
         rw[h4]at h1;refine⟨?_,?_⟩
         ·unfold World.cell?;rw[hcur];simpa using h1
         ·unfold World.frozen?;rw[hcur];simp
        have hcall:=AnyQ.slices_SortFunc L 4 aE zE El.v El.len El.one (fun x y=>Zq x.t y.t) QdN g #[] k.b o cap d.toArray w eg (Az hC (hGQ w m hG) (fun g hg=>⟨by have:=hGo g hg;omega,fun e=>by have:=hGo g hg;have:=(hlt _ _ hnu).2.1;omega⟩) hm0) hH hblk (by rw[hsz];exact hn62);rw[hsz]at hcall;refine hcall.mono ?_
        rintro e w' ⟨rfl,d',q,os,hP,hS,rfl⟩
        have hd't: (d'.toList.map (·.t))=Uu ts:=by
         refine HX ?_ ?_
         ·rw[<- hdt];have hp:=hP.2.2;have e1:d'.extract 0 n=d':=by rw[<- hsz,<- hP.1];exact Array.extract_size
          have e2:d.toArray.extract 0 n=d.toArray:=by rw[<- hsz];exact Array.extract_size
          rw[e1,e2]at hp;exact hp.map _
         ·rw[List.pairwise_iff_getElem];intro x y hx hy hxy;have hd's:d'.size=n:=by rw[hP.1,hsz]
          simp at hx hy;have:=hS x y (Te _) hxy (by omega);rw[Xw d' y (by omega),Xw d' x (by omega)]at this;simp only[ltOf,Wr]at this;simp only[List.getElem_map,Array.getElem_toList];exact this
        have hle':=LO (w:=w) (m:=m) (El.v (num:=num) (β:=β) (w:=w) (m:=m)) 4 (q:=q) (off:=o) d' os hm0;have hsz':=QdM (El.v (num:=num) (β:=β) (w:=w) (m:=m)) 4 w k.b o q d' os;have hheap:=ME (El.v (num:=num) (β:=β) (w:=w) (m:=m)) 4 w k.b o q d' os;have hd's:d'.size=n:=by rw[hP.1,hsz]
        generalize hW:sortWorldK (El.v (num:=num) (β:=β) (w:=w) (m:=m)) 4 w k.b o q d' os=w' at *;have hoth: ∀b,b < w.heap.size->b≠k.b->w'.heap[b]? =w.heap[b]? :=fun b hb hbk=>by rw[hheap b hb,Qe hbk]
        have keep: ∀p,p≠ .g i->TP w m ν w' m ν id p:=fun p hp b hb=>by
         refine⟨hoth b (hlt b p hb).1 fun e=> ?_,rfl,hb⟩;subst e;rw[hnu]at hb;injection hb with hb;exact hp hb.symm
        refine⟨.tuple #[],m,β,ν,rfl,Ge.refl β,⟨?_,?_,?_,hsz',fun b hb hx=>⟨hoth b hb fun e=>hx ⟨.g i,by rw[e];exact hnu⟩,rfl⟩,hle',fun hd=>absurd hd hD⟩,⟨?_,?_⟩,rfl,by simp only[Qa];exact⟨_,rfl,rfl,trivial⟩,trivial,fun b p h=>⟨TV (hlt b p h).1 hsz',.inr ⟨p,h⟩,.inl (hlt b p h).2.2⟩⟩
        ·rw[<- hW];rfl
        ·rw[<- hW];rfl
        ·rw[<- hW];rfl
        ·rw[Pc];exact hbox.1
        ·intro i2 cs2 k2 h1 h2 h3;by_cases hi:i2=i
         ·subst hi;have hk2:k2=k:=by rw[hk]at h2;injection h2 with h2;exact h2.symm
          subst hk2;have hil:i2 < bs.length:=by
           rcases QL i2 bs.length with h | h
           ·exact h
           ·rw[QT h]at hbs;cases hbs
          rw[YE,Qh rfl,Qh hil]at h1;injection h1 with h1
          subst h1;refine⟨fun _=> ?_,fun e=>(by rw[hkm]at e;cases e),fun _=>⟨putCells id o (flatK El.v 4 d') cur,by rw[<- het,hheap _ hblk,Qh rfl,hcur];rfl⟩⟩;have hfl: (Qz (Uu ts)).flatten.length=n*4:=by
           have: ∀l:Qp,(Qz l).flatten.length=l.length*4:=by
            intro l
            induction l with
            | nil=>simp[Qz]
            | cons x l ih=>simp only[Qz,R7,Zf,X6,ih,QO];omega
           rw[this,Lj,Rm hdec,Xn]
          refine⟨putCells id o (flatK El.v 4 d') cur,et,?_,⟨?_,?_⟩,hm0,hnu,?_⟩
          ·rw[hheap _ hblk,Qh rfl,hcur];rfl
          ·simp[putCells,hcs1]
          ·simp only[put,Zf,YO,YN,hfl];omega
          ·intro j c hj;have hFs: (flatK (El.v (num:=num) (β:=β) (w:=w) (m:=m)) 4 d').size=n*4:=by rw[size_flatK,hd's]
           have hpc: ∀x:Value,cur[j]? =some x->(putCells id o (flatK (El.v (num:=num) (β:=β) (w:=w) (m:=m)) 4 d') cur)[j]? =some (if o<=j/\j < o+n*4 then(flatK (El.v (num:=num) (β:=β) (w:=w) (m:=m)) 4 d')[j - o]! else x):=by
            intro x hx;simp only[putCells,Array.getElem?_mapIdx,hx,QA,hFs,id]
           have hto: (cs.take o).length=o:=by rw[YO];omega
           by_cases hin:o<=j/\j < o+n*4
           ·obtain⟨rr,rfl⟩: ∃rr,j=o+rr:=⟨j - o,by omega⟩;have hr:rr < n*4:=by omega
            have hjc: (Qz (Uu ts)).flatten[rr]? =some c:=by
             simp only[put]at hj;rw[XP,Yn (by omega),hto,U9,ZO (by omega)]at hj;exact hj
            obtain⟨t,ht,hcc⟩:=Im hjc;have hcu: ∃x,cur[o+rr]? =some x:=⟨cur[o+rr]'(by omega),YL _⟩;obtain⟨x,hx⟩:=hcu;have hq:rr / 4 < d'.size:=by omega
            have hdt':d'[rr / 4].t=t:=by
             rw[<- hd't,Xm]at ht;rw[show d'.toList[rr / 4]? =some d'[rr / 4] by rw[SL];exact YL hq]at ht;simpa using ht
            have hrep':=d'[rr / 4].rep;rw[hdt']at hrep';simp only[Qa]at hrep';obtain⟨us,hus1,hus2,hus3⟩:=hrep';injection hus1 with hus1
            subst hus1;obtain⟨u,g1,g2,g3⟩:=(Zp _ _ _).1 hus3 _ c hcc;have hu: (flatK (El.v (num:=num) (β:=β) (w:=w) (m:=m)) 4 d')[rr]! =u:=by
             rw[get_flatK _ _ _ _ (by rw[hd's];exact hr),Xw d' _ hq];have h4:rr % 4 < d'[rr / 4].v.length:=by rw[El.len];omega
             have hgp:d'[rr / 4].v[rr % 4]! =d'[rr / 4].v[rr % 4]:=Xw d'[rr / 4].v (rr % 4) h4;rw[hgp];simp at g1;rw[Zr h4]at g1;injection g1
            refine⟨u,?_,g2,QU (Ge.refl β) hle' _ _ g3,?_⟩
            ·rw[hpc x hx,Qh hin,U9,hu]
            ·have h4:rr % 4 < 4:=by omega
             rw[Qx]at hcc
             match hm4:rr % 4,h4,hcc with
             | 0,_,hcc=>simp at hcc;subst hcc;exact trivial
             | 1,_,hcc=>simp at hcc;subst hcc;exact trivial
             | 2,_,hcc=>simp at hcc;subst hcc;exact trivial
             | 3,_,hcc=>simp at hcc;subst hcc;exact trivial
           ·have hjc:cs[j]? =some c:=by
             simp only[put]at hj;by_cases hjo:j < o
             ·rw[XP,ZO (by omega),XC hjo]at hj;exact hj
             ·rw[Yn (by rw[Zf];omega),Zf,hto,YM,hfl]at hj;have:o+n*4+ (j - (o+n*4))=j:=by omega
              rw[this]at hj;exact hj
            obtain⟨u,g1,g2,g3,g4⟩:=hcells j c hjc;refine⟨u,?_,g2,QU (Ge.refl β) hle' _ _ g3,YV (θ:=id) (keep _ (by simp)) g4⟩;rw[hpc u g1,Qe hin]
         ·rw[YE,Qe (fun e=>hi e.symm)]at h1;have hB:=hbox.2 i2 cs2 k2 h1 h2 h3;exact YU (Ge.refl β) hle' (keep _ (by simp[hi])) (fun j=>keep _ (by simp)) hB
       ·cases hc
     ·cases hc
   ·cases hc
 ·cases hc
def Qa4 {P:Program} {num:Z3} {g0:Nat} {o:ZU} (hE:Xu P num) (hn:num 30=some g0) (hC:N4 P num o g0): ∀g,num 30=some g->N4 P num o g/\∀args w,(callFunc g args).run P w= .ok (.enter g args) w:=by
 intro g hg;rw[hn]at hg;injection hg with hg
 subst hg;obtain⟨fn,h1,h2,h3⟩:=hE 30 g0 hn;exact⟨hC,fun args w=>MY h1 h2 h3⟩
end Go.Am
namespace Go.Am
open Go.Shelf Go.RowKit Go.Lib Go.Proofs
set_option maxRecDepth 20000
def Qa7 [Dr] {P:Program} {num:Z3} {Γ:Z1} (hD: ¬Dr.d) {g:Nat} (hC: ∀(s cs:ByteArray) (w:World),s.size<=9223372036854775807->cs.size < 4294967281->(∀(j:Nat) b,cs.data.toList[j]? =some b->b.toNat < 128)->
  Calls P g #[.string s,.string cs] w fun e w'=>e= .returned (.string ⟨(Lib.trimS s.data.toList cs.data.toList).toArray⟩)/\Below w.heap.size w w'):XI P num Γ (ZG LQ) g:=by
 refine UU (Vv fun args r hr w m β vs hG hvs hrep=> ?_);unfold LQ at hr;split at hr
 ·rename_i s cs;split at hr
  ·rename_i hcond;injection hr with hr
   subst hr;simp only[Qi,Qm]at hcond;obtain⟨⟨c1,c2⟩,c3⟩:=hcond;obtain⟨u,h0,h1⟩:=hrep 0 _ rfl;obtain⟨u2,h2,h3⟩:=hrep 1 _ rfl;simp only[Qa]at h1 h3;subst h1 h3;rw[N8 hvs h0 h2];have asc: ∀l:Qb,l.all (· < 128)=true->∀(j:Nat) b,(⟨l.toArray⟩:ByteArray).data.toList[j]? =some b->b.toNat < 128:=fun l hl j b hj=>by
    rw[Yy]at hj;rw[YF]at hl;have:=hl b (WW hj);have h2:=of_decide_eq_true this;rw[TU]at h2;exact h2
   refine(hC _ _ w (by rw[Vl];omega) (by rw[Vl];omega) (asc cs c1)).mono fun e w' he=> ?_;obtain⟨rfl,hB⟩:=he;rw[Yy,Yy];exact⟨_,rfl,hB,fun h=>absurd h hD,rfl,fun _ _=>by simp only[Qa],fun _ _ _=>trivial⟩
  ·cases hr
 ·cases hr
def A3 [Dr] {P:Program} {num:Z3} {Γ:Z1} (hD: ¬Dr.d) {ρ:Ren} {id sz bytes:Nat} (L:Lays8.n4 P ρ) (hid:ρ.f 4=id) {i0:TypeInfo} {z:Value} (hi0:P.info? (ρ.t 25)=some i0) (hz0:i0.zero=some z) (hsz:i0.size=sz) (hby:i0.bytes=bytes) (hs0:0 < sz)
  (hzc:z.cells.size=sz):XI P num Γ (NE bytes sz) id:=by
 intro args bs r bs' hc hok w m β ν vs hG hGb hvs hrep hbox hlt;subst hid hsz hby;unfold NE at hc;split at hc
 ·rename_i i o n;split at hc
  ·rename_i hcond;injection hc with hc
   injection hc with e1 e2
   subst e1 e2;obtain⟨c1,c2,c3⟩:=hcond;obtain⟨u0,hu0,hr0⟩:=hrep 0 _ rfl;obtain⟨u1,hu1,hr1⟩:=hrep 1 _ rfl;simp only[Qa]at hr0 hr1;subst hr1;obtain⟨a,cap,rfl,hcap1,hcap2,hcase⟩:=hr0;have hcap:cap=0:=by
    rcases hcase with⟨_,h,_⟩ | ⟨_,_,_,_,h⟩
    ·exact h
    ·omega
   subst hcap;rw[N8 hvs hu0 hu1];obtain⟨q,rfl⟩: ∃q:Nat,n=(q:Int):=⟨n.toNat,by omega⟩;simp only[O0]at c2;have hν: ∀b p,ν b=some p->b < w.heap.size/\(w.heap.size<=b\/∃q,ν b=some q)/\(p.isG=true\/p= .f):=fun b p h=>⟨(hlt b p h).1,.inr ⟨p,h⟩,.inl (hlt b p h).2.2⟩;by_cases hq:q=0
   ·subst hq;refine(Any8.slices_Grow_room L a 0 0 0 w (Za _) (by omega) (by omega) (by omega)).mono ?_
    rintro e w' ⟨rfl,rfl⟩
    refine⟨.slice a 0 0,m,β,ν,rfl,Ge.refl β,Zm.refl _ _ _,hbox,rfl,?_,.inl ⟨a,0,rfl⟩,hν⟩;simp only[Qa];exact⟨a,0,0,rfl,rfl,Za _,Te _,.inl trivial⟩
   ·refine(Any8.slices_Grow_grow L i0 z hi0 hz0 hs0 a 0 0 q [] w (Za _) (by omega) (by simpa using c2) (by omega) (by simp) (fun _=>rfl) (fun _ _ j v h=>by simp at h)).mono ?_
    rintro e w' ⟨rfl,rfl⟩
    have hge:=grownCap_ge w (0+q) 0 (ρ.t 25);have hmx:=grownCap_le_maxLen w (0+q) 0 (ρ.t 25) (by unfold maxLen;omega);generalize grownCap w (0+q) 0 (ρ.t 25)=G at *;obtain⟨R,hR⟩: ∃R:QW,R=([]:Q8).toArray ++ Builtin.zeroCells z.cells (0+q - 0)++ Builtin.zeroCells z.cells (G - (0+q)):=⟨_,rfl⟩;have hRs:R.size=G*i0.size:=by
     rw[hR];simp only[Tb,Vx _ i0.size _ hzc,Y4,QX];rw[QP,<- ZQ];congr 1;omega
    rw[<- hR];have hheap: (w.drew.alloc (.cells R (ρ.t 25))).heap=w.heap.push (.cells R (ρ.t 25)):=rfl;have hdr: (w.drew.alloc (.cells R (ρ.t 25))).os=w.os/\(w.drew.alloc (.cells R (ρ.t 25))).tape=w.tape/\(w.drew.alloc (.cells R (ρ.t 25))).output=w.output:=⟨rfl,rfl,rfl⟩;generalize w.drew.alloc (.cells R (ρ.t 25))=w' at *;have hsz1:w'.heap.size=w.heap.size+1:=by rw[hheap,Nj]
    have hold: ∀b,b < w.heap.size->w'.heap[b]? =w.heap[b]? :=fun b hb=>by
     rw[hheap,R2 hb];exact(YL hb).symm
    have hnew:w'.heap[w.heap.size]? =some (.cells R (ρ.t 25)):=by rw[hheap];exact R1
    have hne: ∀b p,ν b=some p->b≠w.heap.size:=fun b p h=>by have:=(hlt b p h).1;omega
    have hle:Le w m w' (m1 m w.heap.size 0):=by
     intro b i u hu;unfold hg at hu ⊢;split at hu
     ·rename_i hi;have hb:b < w.heap.size:=by
       rcases QL b w.heap.size with h1 | h1
       ·exact h1
       ·exfalso;unfold World.cell? at hu;rw[XN h1]at hu;cases hu
      have hm1:m1 m w.heap.size 0 b=m b:=by unfold m1;rw[Qe (by omega)]
      rw[hm1,Qh hi];unfold World.cell? at hu ⊢;rw[hold b hb];exact hu
     ·cases hu
    have keep: ∀p,TP w m ν w' (m1 m w.heap.size 0) (ZA ν w.heap.size .f) id p:=fun p b hb=>
     ⟨hold b (hlt b p hb).1,by unfold m1;rw[Qe (hne b p hb)],by unfold ZA;rw[Qe (hne b p hb)];exact hb⟩
    refine⟨_,m1 m w.heap.size 0,β,ZA ν w.heap.size .f,rfl,Ge.refl β,⟨hdr.1,hdr.2.1,hdr.2.2,by omega,fun b hb _=>⟨hold b hb,by unfold m1;rw[Qe (by omega)]⟩,hle,fun h=>absurd h hD⟩,⟨hbox.1,fun i cs k h1 h2 h3=>YU (Ge.refl β) hle (keep _) (fun j=>keep _) (hbox.2 i cs k h1 h2 h3)⟩,rfl,?_,.inr ⟨w.heap.size,G,R,_,rfl,hnew,hRs,by unfold m1;simp,by unfold ZA;simp⟩,?_⟩
    ·simp only[Qa];exact⟨_,0,G,rfl,rfl,Te _,hmx,.inl trivial⟩
    ·intro b p hp;unfold ZA at hp;split at hp
     ·rename_i hb;injection hp with hp
      subst hb hp;exact⟨by omega,.inl (Za _),.inr rfl⟩
     ·have:=hν b p hp;exact⟨by omega,this.2⟩
  ·cases hc
 ·cases hc
def CU [Dr] {P:Program} {num:Z3} {Γ:Z1} (hD: ¬Dr.d) {ρ:Ren} {id sz bytes:Nat} (L:Lays8.n4 P ρ) (hid:ρ.f 4=id) {z:Value}
  (hi: (P.info? (ρ.t 25)).map (fun i=>(i.zero,i.size,i.bytes))=some (some z,sz,bytes)) (hs0:0 < sz) (hzc:z.cells.size=sz):XI P num Γ (NE bytes sz) id:=by
 cases h:P.info? (ρ.t 25)with
 | none=>rw[h]at hi;cases hi
 | some i0=>
  rw[h]at hi;simp only[QA,Qs,QB]at hi;exact A3 hD L hid h hi.1 hi.2.1 hi.2.2 hs0 hzc
end Go.Am
namespace Go.Am
open Go.RowKit
end Go.Am
