/-
  AmS, AmSort, AmSort2, AmSort3, AmSort4, AmSort5, AmGrow, AmIdx.
-/
import Derived.Test.YtmlbijpbecpjoaaGreatDoorG15
import Derived.Test.YtmlbijpbecpjoaaGreatDoorG09
import Derived.Shelf.SlSortCmp.WholeK
import Derived.Shelf.SlSortCmp.NoneTotal
import Derived.Test.YtmlbijpbecpjoaaGreatDoorG16
import Derived.Test.YtmlbijpbecpjoaaGreatDoorG12
import Derived.Shelf.Spec.SlicesGrow
set_option linter.all false
namespace Go.Am
set_option maxRecDepth 20000
namespace S
def tb:Nat->Option AFn:=fun n=>if n=30 then some (.code F.f30)else if n=31 then some (.code F.f31)else if n=32 then some (.code F.f32)else if n=33 then some (.orc (YF L7))else none
def tb_30:tb 30=some (.code F.f30):=rfl
def tb_31:tb 31=some (.code F.f31):=rfl
def tb_32:tb 32=some (.code F.f32):=rfl
def tb_33:tb 33=some (.orc (YF L7)):=rfl
def ME (a b:Int) (bs:List (List AV)):call S.tb 32 [.int .i64 a,.int .i64 b] bs=some (.int .i64 (if a < b then -1 else if a > b then 1 else 0),bs):=by
 rw[P0 S.tb_32 _ _ rfl];simp[F.f32,F.f32C]
def Me (t:Tm) (bs:List (List AV)) (hm:t.mass < big) (ih: ∀x∈t.kids,∀bs,call S.tb 31 [.agg (Qf x)] bs=some (.int .i64 x.nodes,bs)):
  ∀(post pre:List Tm) (ρ:Nat->AV),t.kids=pre ++ post->ρ 7= .sl false 4 (Qb t.kids)->ρ 8= .int .i64 t.kids.length->ρ 9= .int .i64 pre.length->ρ 3= .int .i64 (1+QB pre:Nat)->
  R S.tb (.loop F.f31l0) ρ bs (Qq 0 (QH S.tb F.f31r0 (QP F.f31 bs)))=some (.int .i64 t.nodes,bs):=by
 have hm2:=QF t;have hn:=YP t.kids;unfold big at hm;intro post
 induction post with
 | nil=>
  intro pre ρ hk h7 h8 h9 h3;rw[Qg F.f31l0.eq_1];simp at hk;simp[h3,h8,h9,<- hk,F.f31r0,Wg]
 | cons x post IH=>
  intro pre ρ hk h7 h8 h9 h3;have hg:=Qx hk;have hl:=QL hk;have hnn:QB t.kids=QB pre+ (x.nodes+QB post):=by rw[hk,XO];simp[QB]
  have hw1:=wr1 pre.length (by omega);have hw2:IntKind.i64.wrap (1+ (QB pre:Int)+ (x.nodes:Int))=1+ (QB pre:Int)+ (x.nodes:Int):=Zb (by omega) (by omega);have hlt:=QO hk;rw[Qg F.f31l0.eq_1];simp[h3,h7,h8,h9,hg,hw1,hw2,hlt,ih x (by rw[hk];simp)];rw[IH (pre ++ [x])] <;> simp[h3,h7,h8,h9,hk,XO,QB];omega
def Rs: ∀(t:Tm) (bs:List (List AV)),t.mass < big->call S.tb 31 [.agg (Qf t)] bs=some (.int .i64 t.nodes,bs):=by
 refine Yn ?_;intro k n s ks ih bs hm;rw[P0 S.tb_31 _ _ rfl];simp[F.f31C];refine Me (.mk k n s ks) bs hm (fun x hx bs=>ih x hx bs ?_) ks [] _ ?_ ?_ ?_ ?_ ?_ <;> (try simp[QB]);have:=Q4 hx;have:=QF (.mk k n s ks);simp at *;omega
def Nc (a b:Int) (bs:List (List AV)):call S.tb 32 [.int .i64 a,.int .i64 b] bs=some (.int .i64 (sgn a b),bs):=ME a b bs
def L6 (a b:List UInt8) (bs:List (List AV)):call S.tb 33 [.str a,.str b] bs=some (.int .i64 (Wy a b),bs):=by
 rw[Wx S.tb_33];rfl
def R6 (t u:Tm) (bs:List (List AV)) (hm:t.mass < big) (hu:u.mass < big)
  (ih: ∀x∈t.kids,∀y bs,y.mass < big->call S.tb 30 [.agg (Qf x),.agg (Qf y)] bs=some (.int .i64 (Qp x y),bs)):
  ∀(xs ys pre pre':List Tm) (c:Int) (ρ:Nat->AV),t.kids=pre ++ xs->u.kids=pre' ++ ys->pre.length=pre'.length->(c=0->xs.length=ys.length)->
   ρ 2= .bx (Qf t)->ρ 3= .bx (Qf u)->ρ 5= .int .i64 c->ρ 6= .int .i64 pre.length->
  R S.tb (.loop F.f30l0) ρ bs (Qq 0 (QH S.tb F.f30r0 (QP F.f30 bs)))=some (.int .i64 (or0 c (Xs xs ys)),bs):=by
 have hm2:=QF t;have hu2:=QF u;intro xs
 induction xs with
 | nil=>
  intro ys pre pre' c ρ hk hk' hp hc h2 h3 h5 h6;rw[Qg F.f30l0.eq_1];simp at hk;by_cases h0:c=0
  ·simp[h2,h3,h5,h6,h0,F.f30r0,hk,Xs,HQ]
  ·simp[h2,h3,h5,h6,h0,F.f30r0,Xs,HQ]
 | cons x xs IH=>
  intro ys pre pre' c ρ hk hk' hp hc h2 h3 h5 h6;rw[Qg F.f30l0.eq_1];by_cases h0:c=0
  ·obtain⟨y,ys',rfl⟩: ∃y ys',ys=y:: ys':=by
    have:=hc h0;cases ys with
    | nil=>simp at this
    | cons y ys'=>exact⟨y,ys',rfl⟩
   have hg:=Qx hk;have hg':=Qx hk';rw[<- hp]at hg';have hl:t.kids.length=pre.length+ (xs.length+1):=by rw[hk];simp
   have hlt: (pre.length:Int) < (t.kids.length:Int):=by omega
   have hym:y.mass < big:=by have:=Q4 (x:=y) (ks:=u.kids) (by rw[hk'];simp);omega
   unfold big at hm hu;have hw1:=wr1 pre.length (by omega);simp[h2,h3,h5,h6,h0,hlt,hg,hg',hw1,ih x (by rw[hk];simp) y bs hym];rw[IH ys' (pre ++ [x]) (pre' ++ [y]) (Qp x y)] <;> first | omega | (simp[hk,hk',hp,h2,h3,Xs,Tl];done) | (intro _;have:=hc h0;simp at this;omega)
  ·simp[h2,h3,h5,h6,h0,F.f30r0,Xs,Sv]
def call_Compare: ∀(t u:Tm) (bs:List (List AV)),t.mass < big->u.mass < big->call S.tb 30 [.agg (Qf t),.agg (Qf u)] bs=some (.int .i64 (Qp t u),bs):=by
 refine Yn ?_;intro k n s ks ih u bs hm hu;have hloop:=R6 (.mk k n s ks) u bs hm hu (fun x hx y bs hy=>ih x hx y bs (by have:=Q4 hx;have:=QF (.mk k n s ks);simp at *;omega) hy) ks u.kids [] [] (hdT (.mk k n s ks) u);rw[P0 S.tb_30 _ _ rfl,SQ];have hsz:=Rs (.mk k n s ks) bs hm;have hsz':=Rs u bs hu;simp[F.f30C,hsz,hsz',Nc,L6];by_cases c1:sgn (Tm.mk k n s ks).nodes u.nodes=0 <;> by_cases c2:sgn k u.kind=0 <;> by_cases c3:Wy n u.name=0 <;> by_cases c4:sgn s u.sort=0 <;>
  simp[c1,c2,c3,c4,WH] <;> rw[hloop] <;> first | (simp[hdT,c1,c2,c3,c4,Tl,Sv];done) | (simp[hdT,c1,c2,c3,c4,PR,Tl,Sv];omega) | skip
end S
open Go.Shelf Go.RowKit Go.Lib Go.Proofs Go.Sort
set_option maxRecDepth 20000
@[reducible] def drT:Dr:=⟨True⟩
def Qd7 {X:Nat->Prop} {w w':World} {m m':ZF} (h: @ZO drT X w m w' m') (hX: ∀b,b < w.heap.size->¬X b): ∃q os',w'=grow (w.drewN q) os':=by
 letI:=drT
 refine⟨w'.drawn - w.drawn,w'.heap.extract w.heap.size w'.heap.size,?_⟩;have h1:=h.os;have h2:=h.tape;have h3:=h.output;have h4:=h.drawn trivial;have h5:=h.size;have h6:w'.heap=w.heap ++ w'.heap.extract w.heap.size w'.heap.size:=by
  apply Ml;intro i;rw[Array.getElem?_append];split
  ·rename_i hi;exact(h.same i hi (hX i hi)).1
  ·rename_i hi;rw[Array.getElem?_extract];split
   ·congr 1;omega
   ·rw[VI (by omega)]
 cases w;cases w'
 simp only[grow,World.drewN]at *;subst h1 h2 h3;congr 1;omega
def DU (o:YI) (w:World) (m:ZF):Prop:=∀g,o=some g->∃u,w.cell? ⟨g,0,none⟩=some u/\u.oneCell'=true/\∀num,Qd num [] w m (Kv 0) u
def JS (P:Program) (num:Y0) (o:YI) (g:Nat):Prop:=∀(w:World) (m:ZF) (β:Xv) (x y:Ze) (t u:Tm),DU o w m->t.mass < big->u.mass < big->
 Qd num β w m (.agg (Qf t)) (.agg x)->Qd num β w m (.agg (Qf u)) (.agg y)->
 Calls P g #[.agg x,.agg y] w fun e w'=>e= .returned (.int .i64 (Qp t u))/\∃q os',w'=grow (w.drewN q) os'
def HK (o:YI): @YU drT:=
 letI:=drT
 {G:=DU o
  Gb:=match o with | some g=>g+1 | none=>0
  nm:=fun k g=>k=0/\o=some g
  tab:=fun w m k g num hG hk=>by
   obtain⟨rfl,h⟩:=hk;obtain⟨u,h1,h2,h3⟩:=hG g h;exact⟨u,h1,h2,h3 num⟩
  step:=fun X w m w' m' hS hX hb hG g h=>by
   subst h;obtain⟨u,h1,h2,h3⟩:=hG g rfl;refine⟨u,?_,h2,fun num=>Zc (Ge.refl _) hS.le _ _ (h3 num)⟩;rw[<- h1];unfold World.cell?;have hb':g+1<=w.heap.size:=hb;rw[(hS.same g (by omega) (fun hx=>by have:g+1<=g:=hX g hx;omega)).1]}
def Qjz {o:YI} {w:World} {m:ZF} (h:DU o w m): @YU.Gb drT (HK o)<=w.heap.size:=by
 cases o with
 | none=>exact Pr _
 | some g=>
  obtain⟨u,h1,_,_⟩:=h g rfl
  show g+1<=_;rcases QR g w.heap.size with h2 | h2
  ·exact h2
  ·unfold World.cell? at h1;rw[VI h2]at h1;cases h1
def Qh0 {P:Program} {num:Y0} {g:Nat} (hn:num 30=some g) {o:YI} (hF: @JT drT P num (HK o) S.tb):JS P num o g:=by
 intro w m β x y t u hQ ht hu hx hy;have hc:=S.call_Compare t u (List.replicate β.length []) ht hu;obtain⟨n,hn2⟩:=US.1 hc;have hK:= @Oj P num S.tb drT (HK o) hF n;have h:=hK.2 30 g [.agg (Qf t),.agg (Qf u)] (List.replicate β.length []) _ _ hn hn2 rfl w m β (fun _=>none) #[.agg x,.agg y] hQ (Qjz hQ) rfl (by
  intro i c hi
  match i with
  | 0=>simp at hi;subst hi;exact⟨_,rfl,hx⟩
  | 1=>simp at hi;subst hi;exact⟨_,rfl,hy⟩
  | i+2=>simp at hi) ⟨by simp,fun i cs k h1 h2 h3=>by
   rw[FB]at h1;split at h1
   ·injection h1 with h1;exact absurd h1.symm h3
   ·cases h1⟩ (fun b p h=>by cases h)
 refine h.mono fun e w' he=> ?_;obtain⟨v,m',β',ν',rfl,_,hS,_,_,hR,_,_⟩:=he;simp only[Qd]at hR;subst hR;refine⟨rfl,Qd7 hS fun b _ hb=> ?_⟩;obtain⟨p,hp⟩:=hb;cases hp
end Go.Am
namespace Go.Am
open Go.RowKit
set_option maxRecDepth 20000
def leT (a b:Tm):Prop:=¬Qp b a < 0
def I6 {a b c:Tm} (h1:leT a b) (h2:leT b c):leT a c:=by
 intro h;rcases L8 a b with h3 | h3 | h3
 ·exact h2 (Xw h h3)
 ·subst h3;exact h2 h
 ·exact h1 h3
def Dc {a b:Tm} (h1:leT a b) (h2:leT b a):a=b:=by
 rcases L8 a b with h | h | h
 ·exact absurd h h2
 ·exact h
 ·exact absurd h h1
def FX:=@List.Perm.refl
def I4 (t:Tm): ∀l:Qe,(TL t l).Perm (t:: l)
 | []=>FX _
 | x:: xs=>by
  simp only[TL];split
  ·exact((I4 t xs).cons x).trans (List.Perm.swap t x xs)
  ·exact FX _
def JO: ∀l:Qe,(Y6 l).Perm l
 | []=>FX _
 | t:: ts=>(I4 t (Y6 ts)).trans ((JO ts).cons t)
def LN {t:Tm}: ∀{l:Qe},l.Pairwise leT->(TL t l).Pairwise leT
 | [],_=>by simp[TL]
 | x:: xs,h=>by
  obtain⟨h1,h2⟩:=VK.1 h;simp only[TL];split
  ·rename_i c;refine VK.2 ⟨fun y hy=> ?_,LN h2⟩;rcases NE.1 hy with rfl | hy
   ·intro h;have:=WN y x;omega
   ·exact h1 y hy
  ·rename_i c;refine VK.2 ⟨fun y hy=> ?_,h⟩;rcases ZS.1 hy with rfl | hy
   ·exact c
   ·exact I6 c (h1 y hy)
def Lf: ∀l:Qe,(Y6 l).Pairwise leT
 | []=>List.Pairwise.nil
 | t:: ts=>LN (Lf ts)
def CI {l ts:Qe} (h1:l.Perm ts) (h2:l.Pairwise leT):l=Y6 ts:=
 List.Perm.eq_of_pairwise (le:=leT) (fun a b _ _ h h'=>Dc h h') h2 (Lf ts) (h1.trans (JO ts).symm)
section
variable {num:Nat->Option Nat} {β:List Blk} {w:World} {m:Nat->Nat}
def QeV {x:AV} {ks:Qe} (h:EF x=some ks): ∃o xs,x= .sl o 4 xs/\Uk xs=some ks:=by
 unfold EF at h;split at h
 ·exact⟨_,_,rfl,h⟩
 ·cases h
def QeT {cs:Qh} {t:Tm} (h:MM cs=some t): ∃k n s x ks,cs=[.int .i64 k,.str n,.int .i64 s,x]/\EF x=some ks/\t= .mk k n s ks:=by
 unfold MM at h;split at h
 ·rename_i k n s x;simp only[Pd]at h;obtain⟨ks,h1,rfl⟩:=h;exact⟨k,n,s,x,ks,rfl,h1,rfl⟩
 ·cases h
def Kb {x:Qh} {xs:Qa} {ts:Qe} (h:Uk (x:: xs)=some ts): ∃t ts',MM x=some t/\Uk xs=some ts'/\ts=t:: ts':=by
 unfold Uk at h;split at h
 ·rename_i t ts' h1 h2;injection h with h
  exact⟨t,ts',h1,h2,h.symm⟩
 ·cases h
def Ni: ∀{xs:Qa} {ts:Qe},Uk xs=some ts->ts.length=xs.length
 | [],ts,h=>by simp only[Uk]at h;injection h with h;subst h;rfl
 | x:: xs,ts,h=>by
  obtain⟨t,ts',_,h2,rfl⟩:=Kb h;simp[Ni h2]
def QeU: ∀(t:Tm) (cs:Qh) (g:R9) (o:Nat),MM cs=some t->YV num β w m cs g o->YV num β w m (Qf t) g o:=by
 refine Yn ?_;intro k n s ks ih cs g o h hr;have hE: ∀(xs:Qa) (ts:Qe),(∀t∈ts,t∈ks)->Uk xs=some ts->∀(g:R9) (o:Nat),Y5 num β w m xs g o 4->Y5 num β w m (Qb ts) g o 4:=by
  intro xs
  induction xs with
  | nil=>intro ts _ h g o hr;simp only[Uk]at h;injection h with h;subst h;simp only[Qb,Y5]
  | cons x xs IH=>
   intro ts hm h g o hr;obtain⟨t,ts',h1,h2,rfl⟩:=Kb h;simp only[Y5]at hr;simp only[Qb,Y5];exact⟨XF t,ih t (hm t (by simp)) x g o h1 hr.2.1,IH ts' (fun t ht=>hm t (by simp[ht])) h2 g (o+4) hr.2.2⟩
 obtain⟨k',n',s',x,ks',rfl,h1,h2⟩:=QeT h;injection h2 with e1 e2 e3 e4
 subst e1 e2 e3 e4;obtain⟨o1,xs,rfl,h3⟩:=QeV h1;simp only[Qf,YV]at hr ⊢;obtain⟨a1,a2,a3,⟨u,a4,a5,a6⟩,_⟩:=hr;refine⟨a1,a2,a3,⟨u,a4,a5,?_⟩,trivial⟩;simp only[Qd]at a6 ⊢;obtain⟨a,len,cap,b1,b2,b3,b4,b5⟩:=a6;have hl:=Ni h3;refine⟨a,len,cap,b1,by rw[UW];omega,b3,b4,?_⟩;rcases b5 with rfl | ⟨b,o2,b6,b7⟩
 ·left;simp only[Uk]at h3;injection h3 with h3;subst h3;simp[Qb]
 ·exact .inr ⟨b,o2,b6,hE xs ks (fun t ht=>ht) h3 _ _ b7⟩
end
end Go.Am
namespace Go.Am
open Go.Shelf Go.RowKit Go.Lib Go.Proofs Go.Sort
set_option maxRecDepth 20000
structure El (num:Nat->Option Nat) (β:List Blk) (w:World) (m:Nat->Nat) where
 v:List Value
 t:Tm
 len:v.length=4
 one: ∀u∈v,u.oneCell'=true
 rep:Qd num β w m (.agg (Qf t)) (.agg v.toArray)
 mass:t.mass < big
section
variable {num:Nat->Option Nat} {β:List Blk} {w:World} {m:Nat->Nat}
def Ir {α:Type} [Inhabited α] (enc:α->ZE) (k:Nat) (w:World) (blk off q:Nat) (dk:Array α) (os:Array Obj) (b:Nat) (hb:b < w.heap.size):
  (sortWorldK enc k w blk off q dk os).heap[b]? =if b=blk then(w.heap[b]?).map (onCells (putCells id off (flatK enc k dk)))else w.heap[b]? :=by
 unfold sortWorldK putRowK putRow;rw[heap_grow_old _ _ (by simpa[mapBlock]using hb)];simp only[mapBlock,heap_ahead,TG];by_cases h:b=blk
 ·subst h;simp
 ·have: ¬blk=b:=fun e=>h e.symm;simp[h,this]
def Qjx {α:Type} [Inhabited α] (enc:α->ZE) (k:Nat) (w:World) (blk off q:Nat) (dk:Array α) (os:Array Obj):w.heap.size<=(sortWorldK enc k w blk off q dk os).heap.size:=by
 unfold sortWorldK putRowK putRow;simp[mapBlock]
def HR {α:Type} [Inhabited α] (enc:α->ZE) (k:Nat) {blk off q:Nat} (dk:Array α) (os:Array Obj) (hm:m blk=0):Le w m (sortWorldK enc k w blk off q dk os) m:=by
 intro b i u hu;unfold hg at hu ⊢;split at hu
 ·rename_i hi;rw[Qn hi];have hb:b < w.heap.size:=by
   rcases QR b w.heap.size with h1 | h1
   ·exact h1
   ·exfalso;unfold World.cell? at hu;rw[VI h1]at hu;cases hu
  have hne: ¬b=blk:=by intro e;subst e;omega
  unfold World.cell? at hu ⊢;rw[Ir enc k w blk off q dk os b hb,Qm hne];exact hu
 ·cases hu
def Qjy:SWO (ltOf fun x y:El num β w m=>Qp x.t y.t) where
 irrefl:=fun x=>by simp[ltOf,Vg]
 trans:=fun x y z h1 h2=>by simp only[ltOf,Qv]at *;exact Xw h1 h2
 ntrans:=fun x y z h1 h2=>by
  simp only[ltOf,U9]at *;exact I6 (a:=z.t) (b:=y.t) (c:=x.t) h2 h1
def QeQ [Inhabited (El num β w m)] {P:Program} {g blk off size:Nat} {o:YI} (hC:JS P num o g) (hQ:DU o w m) (ho: ∀g,o=some g->g < w.heap.size/\g≠blk) (hm:m blk=0):CmpLays P g #[] (El.v (num:=num) (β:=β) (w:=w) (m:=m)) 4 (fun x y=>Qp x.t y.t) blk off size w:=by
 intro q os dk hdk x y;have h:=hC (sortWorldK El.v 4 w blk off q dk os) m β x.v.toArray y.v.toArray x.t y.t (fun g hg=>by
  obtain⟨u,h1,h2,h3⟩:=hQ g hg;obtain⟨h4,h5⟩:=ho g hg;refine⟨u,?_,h2,fun num=>Zc (Ge.refl _) (HR El.v 4 dk os hm) _ _ (h3 num)⟩;rw[<- h1];unfold World.cell?;rw[Ir El.v 4 w blk off q dk os g h4,Qm h5]) x.mass y.mass (Zc (Ge.refl β) (HR El.v 4 dk os hm) _ _ x.rep) (Zc (Ge.refl β) (HR El.v 4 dk os hm) _ _ y.rep)
 exact h
end
end Go.Am
namespace Go.Am
open Go.Shelf Go.RowKit Go.Lib Go.Proofs Go.Sort
set_option maxRecDepth 20000
def EB: ∀{xs:Qa} {ts:Qe} {j:Nat} {t:Tm},Uk xs=some ts->ts[j]? =some t->∃x,xs[j]? =some x/\MM x=some t
 | [],ts,j,t,h,hj=>by simp only[Uk]at h;injection h with h;subst h;simp at hj
 | x:: xs,ts,j,t,h,hj=>by
  obtain⟨t0,ts',h1,h2,rfl⟩:=Kb h;cases j with
  | zero=>simp at hj;subst hj;exact⟨x,rfl,h1⟩
  | succ j=>simp at hj;obtain⟨y,h3,h4⟩:=EB h2 hj;exact⟨y,by simpa using h3,h4⟩
section
variable {num:Nat->Option Nat} {β:List Blk} {w:World} {m:Nat->Nat} {ν:Own}
def Qjg {cur:Ze} {cs:Qh} {o n:Nat} {ts:Qe} (hcs:o+n*4<=cs.length)
  (hc: ∀(i:Nat) (c:AV),cs[i]? =some c->∃u,cur[i]? =some u/\u.oneCell'=true/\Qd num β w m c u) (hd:Uk (ZX cs o 4 n)=some ts) (hm: ∀t∈ts,t.mass < big):
  ∃d:List (El num β w m),d.length=n/\d.map (·.t)=ts/\∀(j:Nat) (e:El num β w m) (c:Nat),d[j]? =some e->c < 4->cur[o+j*4+c]? =e.v[c]? :=by
 have hlen:ts.length=n:=by rw[Ni hd,WG]
 have hex: ∀(j:Nat) (hj:j < n),∃e:El num β w m,some e.t=ts[j]? /\∀(c:Nat),c < 4->cur[o+j*4+c]? =e.v[c]? :=by
  intro j hj;obtain⟨t,ht⟩: ∃t,ts[j]? =some t:=⟨_,Zv (by omega)⟩;obtain⟨x,hx,hdx⟩:=EB hd ht;obtain⟨_,rfl⟩:=Sn hx;have hu: ∀(c:Nat),c < 4->∃u,cur[o+j*4+c]? =some u/\u.oneCell'=true/\∀(cc:AV),cs[o+j*4+c]? =some cc->Qd num β w m cc u:=by
   intro c hc4;have hlt:o+j*4+c < cs.length:=by omega
   obtain⟨u,h1,h2,h3⟩:=hc _ _ (Zv hlt);exact⟨u,h1,h2,fun cc hcc=>by rw[Zv hlt]at hcc;injection hcc with hcc;subst hcc;exact h3⟩
  obtain⟨u0,a0,b0,c0⟩:=hu 0 (by omega);obtain⟨u1,a1,b1,c1⟩:=hu 1 (by omega);obtain⟨u2,a2,b2,c2⟩:=hu 2 (by omega);obtain⟨u3,a3,b3,c3⟩:=hu 3 (by omega);have hrep:YV num β w m (((cs.drop (o+j*4)).take 4).map AV.strip) (fun i=>[u0,u1,u2,u3][i]?) 0:=by
   rw[ZQ];intro i c hi;obtain⟨c',hc',rfl⟩:=Zn hi;have hi4:i < 4:=by
    rcases QR i 4 with h | h
    ·exact h
    ·rw[Q3 (by rw[Xf];omega)]at hc';cases hc'
   rw[WB hi4,XJ]at hc'
   match i,hi4,hc' with
   | 0,_,hc'=>exact⟨u0,rfl,b0,(QU _ _).2 (c0 _ hc')⟩
   | 1,_,hc'=>exact⟨u1,rfl,b1,(QU _ _).2 (c1 _ hc')⟩
   | 2,_,hc'=>exact⟨u2,rfl,b2,(QU _ _).2 (c2 _ hc')⟩
   | 3,_,hc'=>exact⟨u3,rfl,b3,(QU _ _).2 (c3 _ hc')⟩
  refine⟨⟨[u0,u1,u2,u3],t,rfl,by simp[b0,b1,b2,b3],?_,hm t (WC ht)⟩,ht.symm,?_⟩
  ·simp only[Qd];exact⟨_,rfl,by simp,UO (Ge.refl β) (Le.refl w m) _ _ _ 0 (fun i u h=>by simpa using h) (QeU t _ _ 0 hdx hrep)⟩
  ·intro c hc4
   match c,hc4 with
   | 0,_=>simpa using a0
   | 1,_=>simpa using a1
   | 2,_=>simpa using a2
   | 3,_=>simpa using a3
 refine⟨List.ofFn fun j:Fin n=>Classical.choose (hex j.1 j.2),by simp,?_,?_⟩
 ·apply UQ;intro j;rw[Wb,List.getElem?_ofFn];split
  ·rename_i hj;rw[QS];exact(Classical.choose_spec (hex j hj)).1
  ·rename_i hj;rw[Q3 (by omega)];rfl
 ·intro j e c hj hc4;rw[List.getElem?_ofFn]at hj;split at hj
  ·rename_i hjn;injection hj with hj
   subst hj;exact(Classical.choose_spec (hex j hjn)).2 c hc4
  ·cases hj
end
end Go.Am
namespace Go.Am
open Go.Shelf Go.RowKit Go.Lib Go.Proofs Go.Sort
set_option maxRecDepth 20000
def EV: ∀{l:Qe} {r:Nat} {c:AV},(Qb l).flatten[r]? =some c->∃t,l[r / 4]? =some t/\(Qf t)[r % 4]? =some c
 | [],r,c,h=>by simp[Qb]at h
 | x:: l,r,c,h=>by
  simp only[Qb,Tw]at h;by_cases hr:r < 4
  ·rw[ZM (by rw[XF];exact hr)]at h;exact⟨x,by rw[Nat.div_eq_of_lt hr];rfl,by rw[FT hr];exact h⟩
  ·rw[YS (by rw[XF];omega),XF]at h;obtain⟨t,h1,h2⟩:=EV h;refine⟨t,?_,?_⟩
   ·rw[show r / 4=(r - 4) / 4+1 by omega];simpa using h1
   ·rw[show r % 4=(r - 4) % 4 by omega];exact h2
def Qf8 [Dr] (hD: ¬Dr.d) {P:Program} {num:Y0} {Γ:YU} {id:Nat} {ρ:Ren} (L:SlLaysF0.n6 P ρ) (hid:ρ.f 6=id) (aE: ∀w,(isAgg (ρ.t 24)).run P w= .ok true w) (zE: ∀w,(Go.sizeOf (ρ.t 24)).run P w= .ok 4 w)
  {o:YI} (hGQ: ∀w m,Γ.G w m->DU o w m) (hGo: ∀g,o=some g->g < Γ.Gb)
  (hgC: ∀g,num 30=some g->JS P num o g/\∀args w,(callFunc g args).run P w= .ok (.enter g args) w):VF P num Γ NN id:=by
 intro args bs r bs' hc hok w m β ν vs hG hGb hvs hrep hbox hlt;subst hid;unfold NN at hc;split at hc
 ·rename_i i o sz n;obtain⟨u0,hu0,hr0⟩:=hrep 0 _ rfl;obtain⟨u1,hu1,hr1⟩:=hrep 1 _ rfl;have hvs':=JX hvs hu0 hu1;subst hvs';simp only[Qd]at hr0 hr1;obtain⟨a,cap,rfl,hcap1,hcap2,hcase⟩:=hr0;obtain⟨g,us,hg1,rfl,hus,_⟩:=hr1;have hus0:us= #[]:=Qcz (by simpa using hus);subst hus0;obtain⟨hC,eg⟩:=hgC g hg1;have hν: ∀b p,ν b=some p->b < w.heap.size/\(w.heap.size<=b\/∃q,ν b=some q)/\(p.isG=true\/p= .f):=fun b p h=>⟨(hlt b p h).1,.inr ⟨p,h⟩,.inl (hlt b p h).2.2⟩;by_cases hn:n=0
  ·subst hn;rw[Qn rfl]at hc;injection hc with hc
   injection hc with e1 e2
   subst e1 e2;refine(AnyF.slices_SortFunc_none L a cap _ w).mono ?_
   rintro e w' ⟨rfl,rfl⟩
   exact⟨.tuple #[],m,β,ν,rfl,Ge.refl β,ZO.refl _ _ _,hbox,rfl,by simp only[Qd];exact⟨_,rfl,rfl,trivial⟩,trivial,hν⟩
  ·rw[Qm hn]at hc;split at hc
   ·rename_i hc1;obtain⟨rfl,hn62⟩:=hc1;cases hbs:bs[i]? with
    | none=>rw[hbs]at hc;cases hc
    | some cs=>
     rw[hbs]at hc;simp only[QC]at hc;split at hc
     ·rename_i hle;cases hdec:Uk (ZX cs o 4 n)with
      | none=>rw[hdec]at hc;cases hc
      | some ts=>
       rw[hdec]at hc;simp only[QC]at hc;split at hc
       ·rename_i hall;injection hc with hc
        injection hc with e1 e2
        subst e1 e2;rcases hcase with⟨h0,_⟩ | ⟨k,⟨hk,hkm⟩,rfl,hz,_⟩
        ·exact absurd h0 hn
        have hne:cs≠[]:=by intro e;subst e;simp at hle;omega
        obtain⟨cur,et,hcur,⟨hcs1,hcs2⟩,hm0,hnu,hcells⟩:=(hbox.2 i cs k hbs hk hne).1 hkm;obtain⟨curT,hcurT⟩:=(hbox.2 i cs k hbs hk hne).2.2 hkm;have het:et=k.ty:=by
         have:=hcur.symm.trans hcurT;simp only[QD,Obj.cells.injEq]at this;exact this.2.1
        have hmass: ∀t∈ts,t.mass < big:=fun t ht=>by simpa using XK.1 hall t ht
        obtain⟨d,hdl,hdt,hdv⟩:=Qjg (cur:=cur) hle (fun j c hj=>by obtain⟨u,a1,a2,a3,_⟩:=hcells j c hj;exact⟨u,a1,a2,a3⟩) hdec hmass;have hd0:0 < d.length:=by omega
        letI:Inhabited (El num β w m):=⟨d[0]⟩
        have hblk:k.b < w.heap.size:=(hlt _ _ hnu).1;have hsz:d.toArray.size=n:=by simp[hdl]
        have hH:HoldsK (El.v (num:=num) (β:=β) (w:=w) (m:=m)) 4 w k.b o d.toArray:=by
         intro j hj;rw[size_flatK,hsz]at hj;have hj4:j / 4 < n:=by omega
         have he:d[j / 4]? =some d[j / 4]:=Zv (by omega);have h1:=hdv (j / 4) _ (j % 4) he (by omega);have h2:o+j / 4*4+j % 4=o+j:=by omega
         rw[h2]at h1;rw[get_flatK _ _ _ _ (by rw[hsz];exact hj)];have h3:d.toArray[j / 4]! =d[j / 4]:=by rw[Vl _ _ (by rw[hsz];exact hj4)];simp
         rw[h3];have h4:d[j / 4].v[j % 4]? =some d[j / 4].v[j % 4]! :=by
          rw[Vl _ _ (by rw[El.len];omega)];exact Zv _
         rw[h4]at h1;refine⟨?_,?_⟩
         ·unfold World.cell?;rw[hcur];simpa using h1
         ·unfold World.frozen?;rw[hcur];simp
        have hcall:=AnyQ.slices_SortFunc L 4 aE zE El.v El.len El.one (fun x y=>Qp x.t y.t) Qjy g #[] k.b o cap d.toArray w eg (QeQ hC (hGQ w m hG) (fun g hg=>⟨by have:=hGo g hg;omega,fun e=>by have:=hGo g hg;have:=(hlt _ _ hnu).2.1;omega⟩) hm0) hH hblk (by rw[hsz];exact hn62);rw[hsz]at hcall;refine hcall.mono ?_
        rintro e w' ⟨rfl,d',q,os,hP,hS,rfl⟩
        have hd't: (d'.toList.map (·.t))=Y6 ts:=by
         refine CI ?_ ?_
         ·rw[<- hdt];have hp:=hP.2.2;have e1:d'.extract 0 n=d':=by rw[<- hsz,<- hP.1];exact Array.extract_size
          have e2:d.toArray.extract 0 n=d.toArray:=by rw[<- hsz];exact Array.extract_size
          rw[e1,e2]at hp;exact hp.map _
         ·rw[List.pairwise_iff_getElem];intro x y hx hy hxy;have hd's:d'.size=n:=by rw[hP.1,hsz]
          simp at hx hy;have:=hS x y (Pr _) hxy (by omega);rw[Vl d' y (by omega),Vl d' x (by omega)]at this;simp only[ltOf,U9]at this;simp only[List.getElem_map,Array.getElem_toList];exact this
        have hle':=HR (w:=w) (m:=m) (El.v (num:=num) (β:=β) (w:=w) (m:=m)) 4 (q:=q) (off:=o) d' os hm0;have hsz':=Qjx (El.v (num:=num) (β:=β) (w:=w) (m:=m)) 4 w k.b o q d' os;have hheap:=Ir (El.v (num:=num) (β:=β) (w:=w) (m:=m)) 4 w k.b o q d' os;have hd's:d'.size=n:=by rw[hP.1,hsz]
        generalize hW:sortWorldK (El.v (num:=num) (β:=β) (w:=w) (m:=m)) 4 w k.b o q d' os=w' at *;have hoth: ∀b,b < w.heap.size->b≠k.b->w'.heap[b]? =w.heap[b]? :=fun b hb hbk=>by rw[hheap b hb,Qm hbk]
        have keep: ∀p,p≠ .g i->R7 w m ν w' m ν id p:=fun p hp b hb=>by
         refine⟨hoth b (hlt b p hb).1 fun e=> ?_,rfl,hb⟩;subst e;rw[hnu]at hb;injection hb with hb;exact hp hb.symm
        refine⟨.tuple #[],m,β,ν,rfl,Ge.refl β,⟨?_,?_,?_,hsz',fun b hb hx=>⟨hoth b hb fun e=>hx ⟨.g i,by rw[e];exact hnu⟩,rfl⟩,hle',fun hd=>absurd hd hD⟩,⟨?_,?_⟩,rfl,by simp only[Qd];exact⟨_,rfl,rfl,trivial⟩,trivial,fun b p h=>⟨Pj (hlt b p h).1 hsz',.inr ⟨p,h⟩,.inl (hlt b p h).2.2⟩⟩
        ·rw[<- hW];rfl
        ·rw[<- hW];rfl
        ·rw[<- hW];rfl
        ·rw[Mp];exact hbox.1
        ·intro i2 cs2 k2 h1 h2 h3;by_cases hi:i2=i
         ·subst hi;have hk2:k2=k:=by rw[hk]at h2;injection h2 with h2;exact h2.symm
          subst hk2;have hil:i2 < bs.length:=by
           rcases QR i2 bs.length with h | h
           ·exact h
           ·rw[Q3 h]at hbs;cases hbs
          rw[Y8,Qn rfl,Qn hil]at h1;injection h1 with h1
          subst h1;refine⟨fun _=> ?_,fun e=>(by rw[hkm]at e;cases e),fun _=>⟨putCells id o (flatK El.v 4 d') cur,by rw[<- het,hheap _ hblk,Qn rfl,hcur];rfl⟩⟩;have hfl: (Qb (Y6 ts)).flatten.length=n*4:=by
           have: ∀l:Qe,(Qb l).flatten.length=l.length*4:=by
            intro l
            induction l with
            | nil=>simp[Qb]
            | cons x l ih=>simp only[Qb,Tw,Zo,XF,ih,ZL];omega
           rw[this,U4,Ni hdec,WG]
          refine⟨putCells id o (flatK El.v 4 d') cur,et,?_,⟨?_,?_⟩,hm0,hnu,?_⟩
          ·rw[hheap _ hblk,Qn rfl,hcur];rfl
          ·simp[putCells,hcs1]
          ·simp only[put,Zo,Xf,Ut,hfl];omega
          ·intro j c hj;have hFs: (flatK (El.v (num:=num) (β:=β) (w:=w) (m:=m)) 4 d').size=n*4:=by rw[size_flatK,hd's]
           have hpc: ∀x:Value,cur[j]? =some x->(putCells id o (flatK (El.v (num:=num) (β:=β) (w:=w) (m:=m)) 4 d') cur)[j]? =some (if o<=j/\j < o+n*4 then(flatK (El.v (num:=num) (β:=β) (w:=w) (m:=m)) 4 d')[j - o]! else x):=by
            intro x hx;simp only[putCells,Array.getElem?_mapIdx,hx,QS,hFs,id]
           have hto: (cs.take o).length=o:=by rw[Xf];omega
           by_cases hin:o<=j/\j < o+n*4
           ·obtain⟨rr,rfl⟩: ∃rr,j=o+rr:=⟨j - o,by omega⟩;have hr:rr < n*4:=by omega
            have hjc: (Qb (Y6 ts)).flatten[rr]? =some c:=by
             simp only[put]at hj;rw[ZR,YS (by omega),hto,Oy,ZM (by omega)]at hj;exact hj
            obtain⟨t,ht,hcc⟩:=EV hjc;have hcu: ∃x,cur[o+rr]? =some x:=⟨cur[o+rr]'(by omega),Wa _⟩;obtain⟨x,hx⟩:=hcu;have hq:rr / 4 < d'.size:=by omega
            have hdt':d'[rr / 4].t=t:=by
             rw[<- hd't,Wb]at ht;rw[show d'.toList[rr / 4]? =some d'[rr / 4] by rw[OB];exact Wa hq]at ht;simpa using ht
            have hrep':=d'[rr / 4].rep;rw[hdt']at hrep';simp only[Qd]at hrep';obtain⟨us,hus1,hus2,hus3⟩:=hrep';injection hus1 with hus1
            subst hus1;obtain⟨u,g1,g2,g3⟩:=(ZQ _ _ _).1 hus3 _ c hcc;have hu: (flatK (El.v (num:=num) (β:=β) (w:=w) (m:=m)) 4 d')[rr]! =u:=by
             rw[get_flatK _ _ _ _ (by rw[hd's];exact hr),Vl d' _ hq];have h4:rr % 4 < d'[rr / 4].v.length:=by rw[El.len];omega
             have hgp:d'[rr / 4].v[rr % 4]! =d'[rr / 4].v[rr % 4]:=Vl d'[rr / 4].v (rr % 4) h4;rw[hgp];simp at g1;rw[Zv h4]at g1;injection g1
            refine⟨u,?_,g2,Zc (Ge.refl β) hle' _ _ g3,?_⟩
            ·rw[hpc x hx,Qn hin,Oy,hu]
            ·have h4:rr % 4 < 4:=by omega
             rw[Zr]at hcc
             match hm4:rr % 4,h4,hcc with
             | 0,_,hcc=>simp at hcc;subst hcc;exact trivial
             | 1,_,hcc=>simp at hcc;subst hcc;exact trivial
             | 2,_,hcc=>simp at hcc;subst hcc;exact trivial
             | 3,_,hcc=>simp at hcc;subst hcc;exact trivial
           ·have hjc:cs[j]? =some c:=by
             simp only[put]at hj;by_cases hjo:j < o
             ·rw[ZR,ZM (by omega),WB hjo]at hj;exact hj
             ·rw[YS (by rw[Zo];omega),Zo,hto,XJ,hfl]at hj;have:o+n*4+ (j - (o+n*4))=j:=by omega
              rw[this]at hj;exact hj
            obtain⟨u,g1,g2,g3,g4⟩:=hcells j c hjc;refine⟨u,?_,g2,Zc (Ge.refl β) hle' _ _ g3,Wn (θ:=id) (keep _ (by simp)) g4⟩;rw[hpc u g1,Qm hin]
         ·rw[Y8,Qm (fun e=>hi e.symm)]at h1;have hB:=hbox.2 i2 cs2 k2 h1 h2 h3;exact Wm (Ge.refl β) hle' (keep _ (by simp[hi])) (fun j=>keep _ (by simp)) hB
       ·cases hc
     ·cases hc
   ·cases hc
 ·cases hc
def Qf7 {P:Program} {num:Y0} {g0:Nat} {o:YI} (hE:Vj P num) (hn:num 30=some g0) (hC:JS P num o g0): ∀g,num 30=some g->JS P num o g/\∀args w,(callFunc g args).run P w= .ok (.enter g args) w:=by
 intro g hg;rw[hn]at hg;injection hg with hg
 subst hg;obtain⟨fn,h1,h2,h3⟩:=hE 30 g0 hn;exact⟨hC,fun args w=>IX h1 h2 h3⟩
end Go.Am
namespace Go.Am
open Go.Shelf Go.RowKit Go.Lib Go.Proofs
set_option maxRecDepth 20000
def Qgf [Dr] {P:Program} {num:Y0} {Γ:YU} (hD: ¬Dr.d) {g:Nat} (hC: ∀(s cs:ByteArray) (w:World),s.size<=9223372036854775807->cs.size < 4294967281->(∀(j:Nat) b,cs.data.toList[j]? =some b->b.toNat < 128)->
  Calls P g #[.string s,.string cs] w fun e w'=>e= .returned (.string ⟨(Lib.trimS s.data.toList cs.data.toList).toArray⟩)/\Below w.heap.size w w'):VF P num Γ (YF JP) g:=by
 refine S6 (To fun args r hr w m β vs hG hvs hrep=> ?_);unfold JP at hr;split at hr
 ·rename_i s cs;split at hr
  ·rename_i hcond;injection hr with hr
   subst hr;simp only[Qo,Qv]at hcond;obtain⟨⟨c1,c2⟩,c3⟩:=hcond;obtain⟨u,h0,h1⟩:=hrep 0 _ rfl;obtain⟨u2,h2,h3⟩:=hrep 1 _ rfl;simp only[Qd]at h1 h3;subst h1 h3;rw[JX hvs h0 h2];have asc: ∀l:Qu,l.all (· < 128)=true->∀(j:Nat) b,(⟨l.toArray⟩:ByteArray).data.toList[j]? =some b->b.toNat < 128:=fun l hl j b hj=>by
    rw[XL]at hj;rw[XK]at hl;have:=hl b (WC hj);have h2:=of_decide_eq_true this;rw[Pf]at h2;exact h2
   refine(hC _ _ w (by rw[Ta];omega) (by rw[Ta];omega) (asc cs c1)).mono fun e w' he=> ?_;obtain⟨rfl,hB⟩:=he;rw[XL,XL];exact⟨_,rfl,hB,fun h=>absurd h hD,rfl,fun _ _=>by simp only[Qd],fun _ _ _=>trivial⟩
  ·cases hr
 ·cases hr
def Qfg [Dr] {P:Program} {num:Y0} {Γ:YU} (hD: ¬Dr.d) {ρ:Ren} {id sz bytes:Nat} (L:Lays8.n4 P ρ) (hid:ρ.f 4=id) {i0:TypeInfo} {z:Value} (hi0:P.info? (ρ.t 25)=some i0) (hz0:i0.zero=some z) (hsz:i0.size=sz) (hby:i0.bytes=bytes) (hs0:0 < sz)
  (hzc:z.cells.size=sz):VF P num Γ (Lt bytes sz) id:=by
 intro args bs r bs' hc hok w m β ν vs hG hGb hvs hrep hbox hlt;subst hid hsz hby;unfold Lt at hc;split at hc
 ·rename_i i o n;split at hc
  ·rename_i hcond;injection hc with hc
   injection hc with e1 e2
   subst e1 e2;obtain⟨c1,c2,c3⟩:=hcond;obtain⟨u0,hu0,hr0⟩:=hrep 0 _ rfl;obtain⟨u1,hu1,hr1⟩:=hrep 1 _ rfl;simp only[Qd]at hr0 hr1;subst hr1;obtain⟨a,cap,rfl,hcap1,hcap2,hcase⟩:=hr0;have hcap:cap=0:=by
    rcases hcase with⟨_,h,_⟩ | ⟨_,_,_,_,h⟩
    ·exact h
    ·omega
   subst hcap;rw[JX hvs hu0 hu1];obtain⟨q,rfl⟩: ∃q:Nat,n=(q:Int):=⟨n.toNat,by omega⟩;simp only[OA]at c2;have hν: ∀b p,ν b=some p->b < w.heap.size/\(w.heap.size<=b\/∃q,ν b=some q)/\(p.isG=true\/p= .f):=fun b p h=>⟨(hlt b p h).1,.inr ⟨p,h⟩,.inl (hlt b p h).2.2⟩;by_cases hq:q=0
   ·subst hq;refine(Any8.slices_Grow_room L a 0 0 0 w (ZJ _) (by omega) (by omega) (by omega)).mono ?_
    rintro e w' ⟨rfl,rfl⟩
    refine⟨.slice a 0 0,m,β,ν,rfl,Ge.refl β,ZO.refl _ _ _,hbox,rfl,?_,.inl ⟨a,0,rfl⟩,hν⟩;simp only[Qd];exact⟨a,0,0,rfl,rfl,ZJ _,Pr _,.inl trivial⟩
   ·refine(Any8.slices_Grow_grow L i0 z hi0 hz0 hs0 a 0 0 q [] w (ZJ _) (by omega) (by simpa using c2) (by omega) (by simp) (fun _=>rfl) (fun _ _ j v h=>by simp at h)).mono ?_
    rintro e w' ⟨rfl,rfl⟩
    have hge:=grownCap_ge w (0+q) 0 (ρ.t 25);have hmx:=grownCap_le_maxLen w (0+q) 0 (ρ.t 25) (by unfold maxLen;omega);generalize grownCap w (0+q) 0 (ρ.t 25)=G at *;obtain⟨R,hR⟩: ∃R:Ze,R=([]:ZE).toArray ++ Builtin.zeroCells z.cells (0+q - 0)++ Builtin.zeroCells z.cells (G - (0+q)):=⟨_,rfl⟩;have hRs:R.size=G*i0.size:=by
     rw[hR];simp only[Rm,Tp _ i0.size _ hzc,WD,Yz];rw[Zk,<- ZT];congr 1;omega
    rw[<- hR];have hheap: (w.drew.alloc (.cells R (ρ.t 25))).heap=w.heap.push (.cells R (ρ.t 25)):=rfl;have hdr: (w.drew.alloc (.cells R (ρ.t 25))).os=w.os/\(w.drew.alloc (.cells R (ρ.t 25))).tape=w.tape/\(w.drew.alloc (.cells R (ρ.t 25))).output=w.output:=⟨rfl,rfl,rfl⟩;generalize w.drew.alloc (.cells R (ρ.t 25))=w' at *;have hsz1:w'.heap.size=w.heap.size+1:=by rw[hheap,KY]
    have hold: ∀b,b < w.heap.size->w'.heap[b]? =w.heap[b]? :=fun b hb=>by
     rw[hheap,Mg hb];exact(Wa hb).symm
    have hnew:w'.heap[w.heap.size]? =some (.cells R (ρ.t 25)):=by rw[hheap];exact Mf
    have hne: ∀b p,ν b=some p->b≠w.heap.size:=fun b p h=>by have:=(hlt b p h).1;omega
    have hle:Le w m w' (m1 m w.heap.size 0):=by
     intro b i u hu;unfold hg at hu ⊢;split at hu
     ·rename_i hi;have hb:b < w.heap.size:=by
       rcases QR b w.heap.size with h1 | h1
       ·exact h1
       ·exfalso;unfold World.cell? at hu;rw[VI h1]at hu;cases hu
      have hm1:m1 m w.heap.size 0 b=m b:=by unfold m1;rw[Qm (by omega)]
      rw[hm1,Qn hi];unfold World.cell? at hu ⊢;rw[hold b hb];exact hu
     ·cases hu
    have keep: ∀p,R7 w m ν w' (m1 m w.heap.size 0) (Yb ν w.heap.size .f) id p:=fun p b hb=>
     ⟨hold b (hlt b p hb).1,by unfold m1;rw[Qm (hne b p hb)],by unfold Yb;rw[Qm (hne b p hb)];exact hb⟩
    refine⟨_,m1 m w.heap.size 0,β,Yb ν w.heap.size .f,rfl,Ge.refl β,⟨hdr.1,hdr.2.1,hdr.2.2,by omega,fun b hb _=>⟨hold b hb,by unfold m1;rw[Qm (by omega)]⟩,hle,fun h=>absurd h hD⟩,⟨hbox.1,fun i cs k h1 h2 h3=>Wm (Ge.refl β) hle (keep _) (fun j=>keep _) (hbox.2 i cs k h1 h2 h3)⟩,rfl,?_,.inr ⟨w.heap.size,G,R,_,rfl,hnew,hRs,by unfold m1;simp,by unfold Yb;simp⟩,?_⟩
    ·simp only[Qd];exact⟨_,0,G,rfl,rfl,Pr _,hmx,.inl trivial⟩
    ·intro b p hp;unfold Yb at hp;split at hp
     ·rename_i hb;injection hp with hp
      subst hb hp;exact⟨by omega,.inl (ZJ _),.inr rfl⟩
     ·have:=hν b p hp;exact⟨by omega,this.2⟩
  ·cases hc
 ·cases hc
def Qdb [Dr] {P:Program} {num:Y0} {Γ:YU} (hD: ¬Dr.d) {ρ:Ren} {id sz bytes:Nat} (L:Lays8.n4 P ρ) (hid:ρ.f 4=id) {z:Value}
  (hi: (P.info? (ρ.t 25)).map (fun i=>(i.zero,i.size,i.bytes))=some (some z,sz,bytes)) (hs0:0 < sz) (hzc:z.cells.size=sz):VF P num Γ (Lt bytes sz) id:=by
 cases h:P.info? (ρ.t 25)with
 | none=>rw[h]at hi;cases hi
 | some i0=>
  rw[h]at hi;simp only[QS,QD,QV]at hi;exact Qfg hD L hid h hi.1 hi.2.1 hi.2.2 hs0 hzc
end Go.Am
namespace Go.Am
open Go.RowKit
end Go.Am
