/-
  KnN, AmS, AmSort, AmSort2, AmSort3, AmSort4, AmSort5, AmGrow, AmIdx.
-/
import Derived.Test.YtgjaamacjmjjcaaGreatDoorG28
import Derived.Test.YtgjaamacjmjjcaaGreatDoorG29
import Derived.Test.YtgjaamacjmjjcaaGreatDoorG30
import Derived.Test.YtgjaamacjmjjcaaGreatDoorG31
import Derived.Test.YtgjaamacjmjjcaaGreatDoorG32
import Derived.Test.YtgjaamacjmjjcaaGreatDoorG33
import Derived.Test.YtgjaamacjmjjcaaGreatDoorG34
import Derived.Test.YtgjaamacjmjjcaaGreatDoorG35
import Derived.Test.YtgjaamacjmjjcaaGreatDoorG27
import Derived.Test.YtgjaamacjmjjcaaGreatDoorG11
import Derived.Test.YtgjaamacjmjjcaaGreatDoorG07
import Derived.Shelf.SlSortCmp.WholeK
import Derived.Shelf.SlSortCmp.NoneTotal
import Derived.Test.YtgjaamacjmjjcaaGreatDoorG12
import Derived.Test.YtgjaamacjmjjcaaGreatDoorG09
import Derived.Shelf.Spec.SlicesGrow
set_option linter.all false
open Go.Am.F
namespace Go.Am
def Qvh:NY tb QeU:=trivial
def Qvi:=Yd Qvh Qu7
def Qvj:=Yd Qvi Qu8
def Qvk:=Yd Qvj Qu9
def Qvl:=Yd Qvk Qva
def Qvm:=Yd Qvl Qvb
def Qvn:=Yd Qvm Qvc
def Qvo:=Yd Qvn Qvd
def Qvp:=Yd Qvo Qve
def Qvq:=Yd Qvp Qvf
def Qsn:=Yd Qvq Qvg
def Qso:=Yd Qsn Qry
def Qsp:=Yd Qso Qrz
def Qsq:=Yd Qsp QrA
def Qsr:=Yd Qsq QrB
def Qss:=Yd Qsr QrC
def Qst:=Yd Qss QrD
def Qsu:=Yd Qst QrE
def Qsv:=Yd Qsu QrF
def Qsw:=Yd Qsv QrG
def Qsx:=Yd Qsw QrH
def Qsy:=Yd Qsx QrI
def Qsz:=Yd Qsy QrJ
def QsA:=Yd Qsz QrK
def QsB:=Yd QsA QrL
def QsC:=Yd QsB QrM
def QsD:=Yd QsC QrN
def QsE:=Yd QsD QrO
def QsF:=Yd QsE QrP
def QsG:=Yd QsF QrQ
def QsH:=Yd QsG QrR
def QsI:=Yd QsH QrS
def QsJ:=Yd QsI QrT
def QsK:=Yd QsJ QrU
def QsL:=Yd QsK QrV
def QsM:=Yd QsL QrW
def QsN:=Yd QsM QrX
def QsO:=Yd QsN QrY
def QsP:=Yd QsO QrZ
def QsQ:=Yd QsP Qr0
def QsR:=Yd QsQ Qr1
def QsS:=Yd QsR Qr2
def QsT:=Yd QsS Qr3
def QsU:=Yd QsT Qr4
def QsV:=Yd QsU Qr5
def QsW:=Yd QsV Qr6
def QsX:=Yd QsW Qr7
def QsY:=Yd QsX Qr8
def QsZ:=Yd QsY Qr9
def Qs0:=Yd QsZ Qsa
def Qs1:=Yd Qs0 Qsb
def Qs2:=Yd Qs1 Qsc
def Qs3:=Yd Qs2 Qsd
def Qs4:=Yd Qs3 Qse
def Qs5:=Yd Qs4 Qsf
def Qs6:=Yd Qs5 Qsg
def Qs7:=Yd Qs6 Qsh
def Qs8:=Yd Qs7 Qsi
def Qs9:=Yd Qs8 Qsj
def Qta:=Yd Qs9 Qsk
def Qtb:=Yd Qta Qsl
def QeT:I8 tb Qsm 400 602 [] []=some (.bool true,[]):=by kernel_rfl
def O0:call tb 602 [] []=some (.bool true,[]):=HL Qtb _ _ _ _ _ QeT
set_option maxRecDepth 20000
namespace S
def tb:Nat->Option AFn:=fun n=>if n=30 then some (.code F.f30)else if n=31 then some (.code F.f31)else if n=32 then some (.code F.f32)else if n=33 then some (.orc (UL HP))else none
def tb_30:tb 30=some (.code F.f30):=rfl
def tb_31:tb 31=some (.code F.f31):=rfl
def tb_32:tb 32=some (.code F.f32):=rfl
def tb_33:tb 33=some (.orc (UL HP)):=rfl
def J9 (a b c):call S.tb 32 [.int .i64 a,.int .i64 b] c=some (.int .i64 (if a < b then -1 else if a > b then 1 else 0),c):=by
 rw[MW S.tb_32 _ _ rfl];simp[F.f32,F.f32C]
def Jr (t:Tm) (e) (m:t.mass < big) (o: ∀x∈t.kids,∀e,call S.tb 31 [.agg (Qd x)] e=some (.int .i64 x.nodes,e)):
  ∀b a d,t.kids=a ++ b->d 7= .sl false 4 (Qa t.kids)->d 8= .int .i64 t.kids.length->d 9= .int .i64 a.length->d 3= .int .i64 (1+Qp a:Nat)->
  R S.tb (.loop F.f31l0) d e (Qh 0 (Qs S.tb F.f31r0 (QA F.f31 e)))=some (.int .i64 t.nodes,e):=by
 have n:=QL t;have q:=YN t.kids;unfold big at m;intro b;induction b with | nil=>intro a d c g f h i;rw[Qb F.f31l0.eq_1];simp at c;simp[i,f,h,<- c,F.f31r0,WE] | cons x b k=>intro a d c g f h i;have p:=QD c;(have l:Qp t.kids=Qp a+ (x.nodes+Qp b):=by rw[c,ZK];simp[Qp]);have j:IntKind.i64.wrap (1+ (Qp a:Int)+ (x.nodes:Int))=1+ (Qp a:Int)+ (x.nodes:Int):=QC (by omega) (by omega);rw[Qb F.f31l0.eq_1];simp[i,g,f,h,(Qv c),(wr1 a.length (by omega)),j,(QF c),o x (by rw[c];simp)];rw[k (a ++ [x])] <;> simp[g,f,c,ZK,Qp];omega
def Nn: ∀t a,t.mass < big->call S.tb 31 [.agg (Qd t)] a=some (.int .i64 t.nodes,a):=by
 refine Yp ?_;intro k n s b e a d;rw[MW S.tb_31 _ _ rfl];simp[F.f31C];refine Jr (.mk k n s b) a d (fun x c a=>e x c a ?_) b [] _ ?_ ?_ ?_ ?_ ?_ <;> (try simp[Qp]);have:=QR c;have:=QL (.mk k n s b);simp at *;omega
def Ko (a b c):call S.tb 32 [.int .i64 a,.int .i64 b] c=some (.int .i64 (sgn a b),c):=J9 a b c
def HO (a b c):call S.tb 33 [.str a,.str b] c=some (.int .i64 (Vs a b),c):=by
 rw[Y9 S.tb_33];rfl
def Mc (t u h) (C:t.mass < big) (A:u.mass < big)
  (B: ∀x∈t.kids,∀y h,y.mass < big->call S.tb 30 [.agg (Qd x),.agg (Qd y)] h=some (.int .i64 (Qo x y),h)):
  ∀f g a b c j,t.kids=a ++ f->u.kids=b ++ g->a.length=b.length->(c=0->f.length=g.length)->
   j 2= .bx (Qd t)->j 3= .bx (Qd u)->j 5= .int .i64 c->j 6= .int .i64 a.length->
  R S.tb (.loop F.f30l0) j h (Qh 0 (Qs S.tb F.f30r0 (QA F.f30 h)))=some (.int .i64 (or0 c (WU f g)),h):=by
 have z:=QL t;have D:=QL u;intro f;induction f with | nil=>intro g a b c j k e p v l q m n;rw[Qb F.f30l0.eq_1];simp at k;by_cases i:c=0;simp[l,m,n,i,F.f30r0,k,WU,CL];simp[l,m,n,i,F.f30r0,WU,CL] | cons x f w=>intro g a b c j k e p v l q m n;rw[Qb F.f30l0.eq_1];by_cases i:c=0;(· (obtain⟨y,d,rfl⟩: ∃y d,g=y:: d:=by have:=v i;rcases g with _ | ⟨y,d⟩;simp at this;exact⟨y,d,rfl⟩);have o:=Qv e;rw[<- p]at o;(have E:t.kids.length=a.length+ (f.length+1):=by rw[k];simp);(have r: (a.length:Int) < (t.kids.length:Int):=by omega);(have s:y.mass < big:=by have:=QR (x:=y) (ks:=u.kids) (by rw[e];simp);omega);unfold big at C A;simp[l,q,m,n,i,r,(Qv k),o,(wr1 a.length (by omega)),B x (by rw[k];simp) y h s];rw[w d (a ++ [x]) (b ++ [y]) (Qo x y)] <;> first | omega | simp[k,e,p,l,q,WU,Rb];done | intro _;have:=v i;simp at this;omega);simp[l,m,n,i,F.f30r0,MG]
def call_Compare: ∀t u a,t.mass < big->u.mass < big->call S.tb 30 [.agg (Qd t),.agg (Qd u)] a=some (.int .i64 (Qo t u),a):=by
 refine Yp ?_;intro k n s b j u a h i;rw[MW S.tb_30 _ _ rfl,Oq];simp[F.f30C,(Nn (.mk k n s b) a h),(Nn u a i),Ko,HO];by_cases f:sgn (Tm.mk k n s b).nodes u.nodes=0 <;> by_cases c:sgn k u.kind=0 <;> by_cases d:Vs n u.name=0 <;> by_cases e:sgn s u.sort=0 <;> simp[f,c,d,e,V8] <;> rw[(Mc (.mk k n s b) u a h i (fun x g y a l=>j x g y a (by have:=QR g;have:=QL (.mk k n s b);simp at *;omega) l) b u.kids [] [] (hdT (.mk k n s b) u))] <;> first | simp[hdT,f,c,d,e,Rb,MG];done | simp[hdT,f,c,d,e,MN,Rb];omega | skip
end S
open Go.Shelf Go.RowKit Go.Lib Go.Proofs Go.Sort
set_option maxRecDepth 20000
@[reducible] def drT:Dr:=⟨True⟩
def Qkm {X:Nat->Prop} {w w':World} {m m':XI} (h: @YX drT X w m w' m') (hX: ∀b,b < w.heap.size->¬X b): ∃q os',w'=grow (w.drewN q) os':=by
 letI:=drT;refine⟨w'.drawn - w.drawn,w'.heap.extract w.heap.size w'.heap.size,?_⟩;have h1:=h.os;have h2:=h.tape;have h3:=h.output;have h4:=h.drawn trivial;have h5:=h.size;have h6:w'.heap=w.heap ++ w'.heap.extract w.heap.size w'.heap.size:=by apply GR;intro i;rw[Array.getElem?_append];split;rename_i hi;exact(h.same i hi (hX i hi)).1;rename_i hi;rw[Array.getElem?_extract];split;congr 1;omega;rw[Px (by omega)]
 cases w;cases w';simp only[grow,World.drewN]at *;subst h1 h2 h3;congr 1;omega
def Eo (P:Program) (num:WR) (g:Nat):Prop:=∀(w:World) (m:XI) (β:UU) (x y:VC) (t u:Tm),t.mass < big->u.mass < big->
 Qi num β w m (.agg (Qd t)) (.agg x)->Qi num β w m (.agg (Qd u)) (.agg y)->
 Calls P g #[.agg x,.agg y] w fun e w'=>e= .returned (.int .i64 (Qo t u))/\∃q os',w'=grow (w.drewN q) os'
def QfV: @Oj drT:= @Oj.mk drT (fun _=>True) 0 (fun _ _ _ _ _ _ _ _ _=>trivial)
def Qpq {P:Program} {num:WR} {g:Nat} (hn:num 30=some g) (hF: @Ep drT P num QfV S.tb):Eo P num g:=by
 intro w m β x y t u ht hu hx hy;have hc:=S.call_Compare t u (List.replicate β.length []) ht hu;obtain⟨n,hn2⟩:=RL.1 hc;have hK:= @Lo P num S.tb drT QfV hF n;have h:=hK 30 g [.agg (Qd t),.agg (Qd u)] (List.replicate β.length []) _ _ hn hn2 rfl w m β (fun _=>none) #[.agg x,.agg y] trivial (Nk _) rfl (by intro i c hi;match i with | 0=>simp at hi;subst hi;exact⟨_,rfl,hx⟩ | 1=>simp at hi;subst hi;exact⟨_,rfl,hy⟩ | i+2=>simp at hi) ⟨by simp,fun i cs k h1 h2 h3=>by rw[Jv]at h1;split at h1;injection h1 with h1;exact absurd h1.symm h3;cases h1⟩ (fun b p h=>by cases h);refine h.mono fun e w' he=> ?_;obtain⟨v,m',β',ν',rfl,_,hS,_,_,hR,_,_⟩:=he;simp only[Qi]at hR;subst hR;refine⟨rfl,Qkm hS fun b _ hb=> ?_⟩;obtain⟨p,hp⟩:=hb;cases hp
end Go.Am
namespace Go.Am
open Go.RowKit
set_option maxRecDepth 20000
def leT (a b:Tm):Prop:=¬Qo b a < 0
def DZ {a b c:Tm} (h1:leT a b) (h2:leT b c):leT a c:=by
 intro h;rcases HQ a b with h3 | h3 | h3;exact h2 (XG h h3);subst h3;exact h2 h;exact h1 h3
def QaU {a b:Tm} (h1:leT a b) (h2:leT b a):a=b:=by
 rcases HQ a b with h | h | h;exact absurd h h2;exact h;exact absurd h h1
def Au:=@List.Perm.refl
def DW (t:Tm): ∀l:Qj,(RP t l).Perm (t:: l)
 | []=>Au _
 | x:: xs=>by
  simp only[RP];split;exact((DW t xs).cons x).trans (List.Perm.swap t x xs);exact Au _
def Ef: ∀l:Qj,(XL l).Perm l
 | []=>Au _
 | t:: ts=>(DW t (XL ts)).trans ((Ef ts).cons t)
def Ht {t:Tm}: ∀{l:Qj},l.Pairwise leT->(RP t l).Pairwise leT
 | [],_=>by simp[RP]
 | x:: xs,h=>by
  obtain⟨h1,h2⟩:=Uy.1 h;simp only[RP];split;rename_i c;refine Uy.2 ⟨fun y hy=> ?_,Ht h2⟩;rcases KO.1 hy with rfl | hy;intro h;have:=XU y x;omega;exact h1 y hy;rename_i c;refine Uy.2 ⟨fun y hy=> ?_,h⟩;rcases Zl.1 hy with rfl | hy;exact c;exact DZ c (h1 y hy)
def IR: ∀l:Qj,(XL l).Pairwise leT
 | []=>List.Pairwise.nil
 | t:: ts=>Ht (IR ts)
def QcK {l ts:Qj} (h1:l.Perm ts) (h2:l.Pairwise leT):l=XL ts:=
 List.Perm.eq_of_pairwise (le:=leT) (fun a b _ _ h h'=>QaU h h') h2 (IR ts) (h1.trans (Ef ts).symm)
section
variable {num:Nat->Option Nat} {β:List Blk} {w:World} {m:Nat->Nat}
def Qlt {x:AV} {ks:Qj} (h:Qan x=some ks): ∃o xs,x= .sl o 4 xs/\TL xs=some ks:=by
 unfold Qan at h;split at h;exact⟨_,_,rfl,h⟩;cases h
def Qlr {cs:QB} {t:Tm} (h:Ii cs=some t): ∃k n s x ks,cs=[.int .i64 k,.str n,.int .i64 s,x]/\Qan x=some ks/\t= .mk k n s ks:=by
 unfold Ii at h;split at h;rename_i k n s x;simp only[B7]at h;obtain⟨ks,h1,rfl⟩:=h;exact⟨k,n,s,x,ks,rfl,h1,rfl⟩;cases h
def HT {x:QB} {xs:Qr} {ts:Qj} (h:TL (x:: xs)=some ts): ∃t ts',Ii x=some t/\TL xs=some ts'/\ts=t:: ts':=by
 unfold TL at h;split at h;rename_i t ts' h1 h2;injection h with h;exact⟨t,ts',h1,h2,h.symm⟩;cases h
def Kr: ∀{xs:Qr} {ts:Qj},TL xs=some ts->ts.length=xs.length
 | [],ts,h=>by simp only[TL]at h;cases h;rfl
 | x:: xs,ts,h=>by
  obtain⟨t,ts',_,h2,rfl⟩:=HT h;simp[Kr h2]
def Qls: ∀(t:Tm) (cs:QB) (g:QkP) (o:Nat),Ii cs=some t->XN num β w m cs g o->XN num β w m (Qd t) g o:=by
 refine Yp ?_;intro k n s ks ih cs g o h hr;have hE: ∀(xs:Qr) (ts:Qj),(∀t∈ts,t∈ks)->TL xs=some ts->∀(g:QkP) (o:Nat),XO num β w m xs g o 4->XO num β w m (Qa ts) g o 4:=by intro xs;induction xs with | nil=>intro ts _ h g o hr;simp only[TL]at h;cases h;simp only[Qa,XO] | cons x xs IH=>intro ts hm h g o hr;obtain⟨t,ts',h1,h2,rfl⟩:=HT h;simp only[XO]at hr;simp only[Qa,XO];exact⟨XA t,ih t (hm t (by simp)) x g o h1 hr.2.1,IH ts' (fun t ht=>hm t (by simp[ht])) h2 g (o+4) hr.2.2⟩
 obtain⟨k',n',s',x,ks',rfl,h1,h2⟩:=Qlr h;cases h2;obtain⟨o1,xs,rfl,h3⟩:=Qlt h1;simp only[Qd,XN]at hr ⊢;obtain⟨a1,a2,a3,⟨u,a4,a5,a6⟩,_⟩:=hr;refine⟨a1,a2,a3,⟨u,a4,a5,?_⟩,trivial⟩;simp only[Qi]at a6 ⊢;obtain⟨a,len,cap,b1,b2,b3,b4,b5⟩:=a6;have hl:=Kr h3;refine⟨a,len,cap,b1,by rw[QX];omega,b3,b4,?_⟩;rcases b5 with rfl | ⟨b,o2,b6,b7⟩;left;simp only[TL]at h3;cases h3;simp[Qa];exact .inr ⟨b,o2,b6,hE xs ks (fun t ht=>ht) h3 _ _ b7⟩
end
end Go.Am
namespace Go.Am
open Go.Shelf Go.RowKit Go.Lib Go.Proofs Go.Sort
set_option maxRecDepth 20000
structure El (num:Nat->Option Nat) (β:List Blk) (w:World) (m:Nat->Nat) where
 v:List Value
 t:Tm
 len:v.length=4
 one: ∀u∈v,u.oneCell'=true
 rep:Qi num β w m (.agg (Qd t)) (.agg v.toArray)
 mass:t.mass < big
section
variable {num:Nat->Option Nat} {β:List Blk} {w:World} {m:Nat->Nat}
def QeG {α:Type} [Inhabited α] (enc:α->WS) (k:Nat) (w:World) (blk off q:Nat) (dk:Array α) (os:Array Obj) (b:Nat) (hb:b < w.heap.size):
  (sortWorldK enc k w blk off q dk os).heap[b]? =if b=blk then(w.heap[b]?).map (onCells (putCells id off (flatK enc k dk)))else w.heap[b]? :=by
 unfold sortWorldK putRowK putRow;rw[heap_grow_old _ _ (by simpa[mapBlock]using hb)];simp only[mapBlock,heap_ahead,Pz];by_cases h:b=blk;subst h;simp;have: ¬blk=b:=fun e=>h e.symm;simp[h,this]
def Qrb {α:Type} [Inhabited α] (enc:α->WS) (k:Nat) (w:World) (blk off q:Nat) (dk:Array α) (os:Array Obj):w.heap.size<=(sortWorldK enc k w blk off q dk os).heap.size:=by
 unfold sortWorldK putRowK putRow;simp[mapBlock]
def QgL {α:Type} [Inhabited α] (enc:α->WS) (k:Nat) {blk off q:Nat} (dk:Array α) (os:Array Obj) (hm:m blk=0):Le w m (sortWorldK enc k w blk off q dk os) m:=by
 intro b i u hu;unfold hg at hu ⊢;split at hu;rename_i hi;rw[Qg hi];have hb:b < w.heap.size:=by rcases ZI b w.heap.size with h1 | h1;exact h1;exfalso;unfold World.cell? at hu;rw[Px h1]at hu;cases hu
 have hne: ¬b=blk:=by intro e;subst e;omega
 unfold World.cell? at hu ⊢;rwa[QeG enc k w blk off q dk os b hb,Qe hne];cases hu
def Qrc:SWO (ltOf fun x y:El num β w m=>Qo x.t y.t) where
 irrefl:=fun x=>by simp[ltOf,Xd]
 trans:=fun x y z h1 h2=>by simp only[ltOf,QM]at *;exact XG h1 h2
 ntrans:=fun x y z h1 h2=>by
  simp only[ltOf,OL]at *;exact DZ (a:=z.t) (b:=y.t) (c:=x.t) h2 h1
def Qlm [Inhabited (El num β w m)] {P:Program} {g blk off size:Nat} (hC:Eo P num g) (hm:m blk=0):CmpLays P g #[] (El.v (num:=num) (β:=β) (w:=w) (m:=m)) 4 (fun x y=>Qo x.t y.t) blk off size w:=by
 intro q os dk hdk x y;have h:=hC (sortWorldK El.v 4 w blk off q dk os) m β x.v.toArray y.v.toArray x.t y.t x.mass y.mass (ZW (Ge.refl β) (QgL El.v 4 dk os hm) _ _ x.rep) (ZW (Ge.refl β) (QgL El.v 4 dk os hm) _ _ y.rep);exact h
end
end Go.Am
namespace Go.Am
open Go.Shelf Go.RowKit Go.Lib Go.Proofs Go.Sort
set_option maxRecDepth 20000
def Qam: ∀{xs:Qr} {ts:Qj} {j:Nat} {t:Tm},TL xs=some ts->ts[j]? =some t->∃x,xs[j]? =some x/\Ii x=some t
 | [],ts,j,t,h,hj=>by simp only[TL]at h;cases h;simp at hj
 | x:: xs,ts,j,t,h,hj=>by
  obtain⟨t0,ts',h1,h2,rfl⟩:=HT h;cases j with | zero=>simp at hj;subst hj;exact⟨x,rfl,h1⟩ | succ j=>simp at hj;obtain⟨y,h3,h4⟩:=Qam h2 hj;exact⟨y,by simpa using h3,h4⟩
section
variable {num:Nat->Option Nat} {β:List Blk} {w:World} {m:Nat->Nat} {ν:Own}
def QqP {cur:VC} {cs:QB} {o n:Nat} {ts:Qj} (hcs:o+n*4<=cs.length)
  (hc: ∀(i:Nat) (c:AV),cs[i]? =some c->∃u,cur[i]? =some u/\u.oneCell'=true/\Qi num β w m c u) (hd:TL (ZR cs o 4 n)=some ts) (hm: ∀t∈ts,t.mass < big):
  ∃d:List (El num β w m),d.length=n/\d.map (·.t)=ts/\∀(j:Nat) (e:El num β w m) (c:Nat),d[j]? =some e->c < 4->cur[o+j*4+c]? =e.v[c]? :=by
 have hlen:ts.length=n:=by rw[Kr hd,VB]
 have hex: ∀(j:Nat) (hj:j < n),∃e:El num β w m,some e.t=ts[j]? /\∀(c:Nat),c < 4->cur[o+j*4+c]? =e.v[c]? :=by intro j hj;obtain⟨t,ht⟩: ∃t,ts[j]? =some t:=⟨_,Za (by omega)⟩;obtain⟨x,hx,hdx⟩:=Qam hd ht;obtain⟨_,rfl⟩:=PW hx;(have hu: ∀(c:Nat),c < 4->∃u,cur[o+j*4+c]? =some u/\u.oneCell'=true/\∀(cc:AV),cs[o+j*4+c]? =some cc->Qi num β w m cc u:=by intro c hc4;(have hlt:o+j*4+c < cs.length:=by omega);obtain⟨u,h1,h2,h3⟩:=hc _ _ (Za hlt);exact⟨u,h1,h2,fun cc hcc=>by rw[Za hlt]at hcc;cases hcc;exact h3⟩);obtain⟨u0,a0,b0,c0⟩:=hu 0 (by omega);obtain⟨u1,a1,b1,c1⟩:=hu 1 (by omega);obtain⟨u2,a2,b2,c2⟩:=hu 2 (by omega);obtain⟨u3,a3,b3,c3⟩:=hu 3 (by omega);(have hrep:XN num β w m (((cs.drop (o+j*4)).take 4).map AV.strip) (fun i=>[u0,u1,u2,u3][i]?) 0:=by rw[YW];intro i c hi;obtain⟨c',hc',rfl⟩:=ZE hi;(have hi4:i < 4:=by rcases ZI i 4 with h | h;exact h;rw[ZP (by rw[Z9];omega)]at hc';cases hc');rw[V1 hi4,Vk]at hc';match i,hi4,hc' with | 0,_,hc'=>exact⟨u0,rfl,b0,(Zh _ _).2 (c0 _ hc')⟩ | 1,_,hc'=>exact⟨u1,rfl,b1,(Zh _ _).2 (c1 _ hc')⟩ | 2,_,hc'=>exact⟨u2,rfl,b2,(Zh _ _).2 (c2 _ hc')⟩ | 3,_,hc'=>exact⟨u3,rfl,b3,(Zh _ _).2 (c3 _ hc')⟩);refine⟨⟨[u0,u1,u2,u3],t,rfl,by simp[b0,b1,b2,b3],?_,hm t (TD ht)⟩,ht.symm,?_⟩;simp only[Qi];exact⟨_,rfl,by simp,RY (Ge.refl β) (Le.refl w m) _ _ _ 0 (fun i u h=>by simpa using h) (Qls t _ _ 0 hdx hrep)⟩;intro c hc4;match c,hc4 with | 0,_=>simpa using a0 | 1,_=>simpa using a1 | 2,_=>simpa using a2 | 3,_=>simpa using a3
 refine⟨List.ofFn fun j:Fin n=>Classical.choose (hex j.1 j.2),by simp,?_,?_⟩;apply Ss;intro j;rw[Nc,List.getElem?_ofFn];split;rename_i hj;rw[Zn];exact(Classical.choose_spec (hex j hj)).1;rename_i hj;rw[ZP (by omega)];rfl;intro j e c hj hc4;rw[List.getElem?_ofFn]at hj;split at hj;rename_i hjn;cases hj;exact(Classical.choose_spec (hex j hjn)).2 c hc4;cases hj
end
end Go.Am
namespace Go.Am
open Go.Shelf Go.RowKit Go.Lib Go.Proofs Go.Sort
set_option maxRecDepth 20000
def QaB: ∀{l:Qj} {r:Nat} {c:AV},(Qa l).flatten[r]? =some c->∃t,l[r / 4]? =some t/\(Qd t)[r % 4]? =some c
 | [],r,c,h=>by simp[Qa]at h
 | x:: l,r,c,h=>by
  simp only[Qa,Su]at h;by_cases hr:r < 4;rw[Y8 (by rwa[XA])]at h;exact⟨x,by rw[Nat.div_eq_of_lt hr];rfl,by rwa[Ao hr]⟩;rw[Yv (by rw[XA];omega),XA]at h;obtain⟨t,h1,h2⟩:=QaB h;refine⟨t,?_,?_⟩;rw[show r / 4=(r - 4) / 4+1 by omega];simpa using h1;rwa[show r % 4=(r - 4) % 4 by omega]
def QmQ [Dr] (hD: ¬Dr.d) {P:Program} {num:WR} {Γ:Oj} {id:Nat} {ρ:Ren} (L:SlLaysF0.n6 P ρ) (hid:ρ.f 6=id) (aE: ∀w,(isAgg (ρ.t 24)).run P w= .ok true w) (zE: ∀w,(Go.sizeOf (ρ.t 24)).run P w= .ok 4 w)
  (hgC: ∀g,num 30=some g->Eo P num g/\∀args w,(callFunc g args).run P w= .ok (.enter g args) w):Pt P num Γ NT id:=by
 intro args bs r bs' hc hok w m β ν vs hG hGb hvs hrep hbox hlt;subst hid;unfold NT at hc;split at hc;rename_i i o sz n;obtain⟨u0,hu0,hr0⟩:=hrep 0 _ rfl;obtain⟨u1,hu1,hr1⟩:=hrep 1 _ rfl;have hvs':=Qfl hvs hu0 hu1;subst hvs';simp only[Qi]at hr0 hr1;obtain⟨a,cap,rfl,hcap1,hcap2,hcase⟩:=hr0;obtain⟨g,us,hg1,rfl,hus,_⟩:=hr1;have hus0:us= #[]:=Qh8 (by simpa using hus);subst hus0;obtain⟨hC,eg⟩:=hgC g hg1;have hν: ∀b p,ν b=some p->b < w.heap.size/\(w.heap.size<=b\/∃q,ν b=some q)/\(p.isG=true\/p= .f):=fun b p h=>⟨(hlt b p h).1,.inr ⟨p,h⟩,.inl (hlt b p h).2.2⟩;by_cases hn:n=0;subst hn;rw[Qg rfl]at hc;cases hc;refine(AnyF.slices_SortFunc_none L a cap _ w).mono ?_;rintro e w' ⟨rfl,rfl⟩;exact⟨.tuple #[],m,β,ν,rfl,Ge.refl β,YX.refl _ _ _,hbox,rfl,by simp only[Qi];exact⟨_,rfl,rfl,trivial⟩,trivial,hν⟩;rw[Qe hn]at hc;split at hc;rename_i hc1;obtain⟨rfl,hn62⟩:=hc1;rcases hbs:bs[i]? with _ | cs;rw[hbs]at hc;cases hc;rw[hbs]at hc;simp only[QN]at hc;split at hc;rename_i hle;rcases hdec:TL (ZR cs o 4 n)with _ | ts;rw[hdec]at hc;cases hc;rw[hdec]at hc;simp only[QN]at hc;split at hc;rename_i hall;cases hc;rcases hcase with⟨h0,_⟩ | ⟨k,⟨hk,hkm⟩,rfl,hz,_⟩;exact absurd h0 hn;have hne:cs≠[]:=by intro e;subst e;simp at hle;omega
 obtain⟨cur,et,hcur,⟨hcs1,hcs2⟩,hm0,hnu,hcells⟩:=(hbox.2 i cs k hbs hk hne).1 hkm;have hmass: ∀t∈ts,t.mass < big:=fun t ht=>by simpa using Wc.1 hall t ht
 obtain⟨d,hdl,hdt,hdv⟩:=QqP (cur:=cur) hle (fun j c hj=>by obtain⟨u,a1,a2,a3,_⟩:=hcells j c hj;exact⟨u,a1,a2,a3⟩) hdec hmass;have hd0:0 < d.length:=by omega
 letI:Inhabited (El num β w m):=⟨d[0]⟩;have hblk:k.b < w.heap.size:=(hlt _ _ hnu).1;have hsz:d.toArray.size=n:=by simp[hdl]
 have hH:HoldsK (El.v (num:=num) (β:=β) (w:=w) (m:=m)) 4 w k.b o d.toArray:=by intro j hj;rw[size_flatK,hsz]at hj;(have hj4:j / 4 < n:=by omega);have he:d[j / 4]? =some d[j / 4]:=Za (by omega);have h1:=hdv (j / 4) _ (j % 4) he (by omega);(have h2:o+j / 4*4+j % 4=o+j:=by omega);rw[h2]at h1;rw[get_flatK _ _ _ _ (by rwa[hsz])];(have h3:d.toArray[j / 4]! =d[j / 4]:=by rw[PJ _ _ (by rwa[hsz])];simp);rw[h3];(have h4:d[j / 4].v[j % 4]? =some d[j / 4].v[j % 4]! :=by rw[PJ _ _ (by rw[El.len];omega)];exact Za _);rw[h4]at h1;refine⟨?_,?_⟩;unfold World.cell?;rw[hcur];simpa using h1;unfold World.frozen?;rw[hcur];simp
 have hcall:=AnyQ.slices_SortFunc L 4 aE zE El.v El.len El.one (fun x y=>Qo x.t y.t) Qrc g #[] k.b o cap d.toArray w eg (Qlm hC hm0) hH hblk (by rwa[hsz]);rw[hsz]at hcall;refine hcall.mono ?_;rintro e w' ⟨rfl,d',q,os,hP,hS,rfl⟩;have hd't: (d'.toList.map (·.t))=XL ts:=by refine QcK ?_ ?_;rw[<- hdt];have hp:=hP.2.2;(have e1:d'.extract 0 n=d':=by rw[<- hsz,<- hP.1];exact Array.extract_size);(have e2:d.toArray.extract 0 n=d.toArray:=by rw[<- hsz];exact Array.extract_size);rw[e1,e2]at hp;exact hp.map _;rw[NF];intro x y hx hy hxy;(have hd's:d'.size=n:=by rw[hP.1,hsz]);simp at hx hy;have:=hS x y (Nk _) hxy (by omega);rw[PJ d' y (by omega),PJ d' x (by omega)]at this;simp only[ltOf,OL]at this;simp only[List.getElem_map,Array.getElem_toList];exact this
 have hle':=QgL (w:=w) (m:=m) (El.v (num:=num) (β:=β) (w:=w) (m:=m)) 4 (q:=q) (off:=o) d' os hm0;have hsz':=Qrb (El.v (num:=num) (β:=β) (w:=w) (m:=m)) 4 w k.b o q d' os;have hheap:=QeG (El.v (num:=num) (β:=β) (w:=w) (m:=m)) 4 w k.b o q d' os;have hd's:d'.size=n:=by rw[hP.1,hsz]
 generalize hW:sortWorldK (El.v (num:=num) (β:=β) (w:=w) (m:=m)) 4 w k.b o q d' os=w' at *;have hoth: ∀b,b < w.heap.size->b≠k.b->w'.heap[b]? =w.heap[b]? :=fun b hb hbk=>by rw[hheap b hb,Qe hbk]
 have keep: ∀p,p≠ .g i->Ll w m ν w' m ν id p:=fun p hp b hb=>by refine⟨hoth b (hlt b p hb).1 fun e=> ?_,rfl,hb⟩;subst e;rw[hnu]at hb;injection hb with hb;exact hp hb.symm
 refine⟨.tuple #[],m,β,ν,rfl,Ge.refl β,⟨?_,?_,?_,hsz',fun b hb hx=>⟨hoth b hb fun e=>hx ⟨.g i,by rwa[e]⟩,rfl⟩,hle',fun hd=>absurd hd hD⟩,⟨?_,?_⟩,rfl,by simp only[Qi];exact⟨_,rfl,rfl,trivial⟩,trivial,fun b p h=>⟨LN (hlt b p h).1 hsz',.inr ⟨p,h⟩,.inl (hlt b p h).2.2⟩⟩;rw[<- hW];rfl;rw[<- hW];rfl;rw[<- hW];rfl;rw[WZ];exact hbox.1;intro i2 cs2 k2 h1 h2 h3;by_cases hi:i2=i;subst hi;have hk2:k2=k:=by rw[hk]at h2;injection h2 with h2;exact h2.symm
 subst hk2;have hil:i2 < bs.length:=by rcases ZI i2 bs.length with h | h;exact h;rw[ZP h]at hbs;cases hbs
 rw[QG,Qg rfl,Qg hil]at h1;cases h1;refine⟨fun _=> ?_,fun e=>by rw[hkm]at e;cases e⟩;have hfl: (Qa (XL ts)).flatten.length=n*4:=by(have: ∀l:Qj,(Qa l).flatten.length=l.length*4:=by intro l;induction l with | nil=>simp[Qa] | cons x l ih=>simp only[Qa,Su,Q6,XA,ih,Zu];omega);rw[this,Vg,Kr hdec,VB]
 refine⟨putCells id o (flatK El.v 4 d') cur,et,?_,⟨?_,?_⟩,hm0,hnu,?_⟩;rw[hheap _ hblk,Qg rfl,hcur];rfl;simp[putCells,hcs1];simp only[put,Q6,Z9,UP,hfl];omega;intro j c hj;have hFs: (flatK (El.v (num:=num) (β:=β) (w:=w) (m:=m)) 4 d').size=n*4:=by rw[size_flatK,hd's]
 have hpc: ∀x:Value,cur[j]? =some x->(putCells id o (flatK (El.v (num:=num) (β:=β) (w:=w) (m:=m)) 4 d') cur)[j]? =some (if o<=j/\j < o+n*4 then(flatK (El.v (num:=num) (β:=β) (w:=w) (m:=m)) 4 d')[j - o]! else x):=by intro x hx;simp only[putCells,Array.getElem?_mapIdx,hx,Zn,hFs,id]
 have hto: (cs.take o).length=o:=by rw[Z9];omega
 by_cases hin:o<=j/\j < o+n*4;obtain⟨rr,rfl⟩: ∃rr,j=o+rr:=⟨j - o,by omega⟩;have hr:rr < n*4:=by omega
 have hjc: (Qa (XL ts)).flatten[rr]? =some c:=by simp only[put]at hj;rwa[ZU,Yv (by omega),hto,Jw,Y8 (by omega)]at hj
 obtain⟨t,ht,hcc⟩:=QaB hjc;have hcu: ∃x,cur[o+rr]? =some x:=⟨cur[o+rr]'(by omega),Uw _⟩;obtain⟨x,hx⟩:=hcu;have hq:rr / 4 < d'.size:=by omega
 have hdt':d'[rr / 4].t=t:=by rw[<- hd't,Nc]at ht;rw[show d'.toList[rr / 4]? =some d'[rr / 4] by rw[GJ];exact Uw hq]at ht;simpa using ht
 have hrep':=d'[rr / 4].rep;rw[hdt']at hrep';simp only[Qi]at hrep';obtain⟨us,hus1,hus2,hus3⟩:=hrep';cases hus1;obtain⟨u,g1,g2,g3⟩:=(YW _ _ _).1 hus3 _ c hcc;have hu: (flatK (El.v (num:=num) (β:=β) (w:=w) (m:=m)) 4 d')[rr]! =u:=by rw[get_flatK _ _ _ _ (by rwa[hd's]),PJ d' _ hq];(have h4:rr % 4 < d'[rr / 4].v.length:=by rw[El.len];omega);have hgp:d'[rr / 4].v[rr % 4]! =d'[rr / 4].v[rr % 4]:=PJ d'[rr / 4].v (rr % 4) h4;rw[hgp];simp at g1;rw[Za h4]at g1;injection g1
 refine⟨u,?_,g2,ZW (Ge.refl β) hle' _ _ g3,?_⟩;rw[hpc x hx,Qg hin,Jw,hu];have h4:rr % 4 < 4:=by omega
 rw[ZN]at hcc;match hm4:rr % 4,h4,hcc with | 0,_,hcc=>simp at hcc;subst hcc;exact trivial | 1,_,hcc=>simp at hcc;subst hcc;exact trivial | 2,_,hcc=>simp at hcc;subst hcc;exact trivial | 3,_,hcc=>simp at hcc;subst hcc;exact trivial
 have hjc:cs[j]? =some c:=by simp only[put]at hj;by_cases hjo:j < o;rwa[ZU,Y8 (by omega),V1 hjo]at hj;rw[Yv (by rw[Q6];omega),Q6,hto,Vk,hfl]at hj;(have:o+n*4+ (j - (o+n*4))=j:=by omega);rwa[this]at hj
 obtain⟨u,g1,g2,g3,g4⟩:=hcells j c hjc;refine⟨u,?_,g2,ZW (Ge.refl β) hle' _ _ g3,Uc (θ:=id) (keep _ (by simp)) g4⟩;rw[hpc u g1,Qe hin];rw[QG,Qe (fun e=>hi e.symm)]at h1;have hB:=hbox.2 i2 cs2 k2 h1 h2 h3;exact Ub (Ge.refl β) hle' (keep _ (by simp[hi])) (fun j=>keep _ (by simp)) hB;cases hc;cases hc;cases hc;cases hc
def QmP {P:Program} {num:WR} {g0:Nat} (hE:Ul P num) (hn:num 30=some g0) (hC:Eo P num g0): ∀g,num 30=some g->Eo P num g/\∀args w,(callFunc g args).run P w= .ok (.enter g args) w:=by
 intro g hg;rw[hn]at hg;cases hg;obtain⟨fn,h1,h2,h3⟩:=hE 30 g0 hn;exact⟨hC,fun args w=>DI h1 h2 h3⟩
end Go.Am
namespace Go.Am
open Go.Shelf Go.RowKit Go.Lib Go.Proofs
set_option maxRecDepth 20000
def Qm3 [Dr] {P n A} (C: ¬Dr.d) {g:Nat} (D: ∀(s f:ByteArray) (w:World),s.size<=9223372036854775807->f.size < 4294967281->(∀(j:Nat) b,f.data.toList[j]? =some b->b.toNat < 128)->
  Calls P g #[.string s,.string f] w fun e t=>e= .returned (.string ⟨(Lib.trimS s.data.toList f.data.toList).toArray⟩)/\Below w.heap.size w t):Pt P n A (UL Ei) g:=by
 refine Qbo (F5 fun p r d w m M I H i c=> ?_);unfold Ei at d;split at d;rename_i s f;split at d;rename_i a;cases d;simp only[Qu,QM]at a;obtain⟨⟨B,K⟩,L⟩:=a;obtain⟨u,G,q⟩:=c 0 _ rfl;obtain⟨J,o,y⟩:=c 1 _ rfl;simp only[Qi]at q y;subst q y;rw[Qfl i G o];have k: ∀l:Yi,l.all (· < 128)=true->∀(j:Nat) b,(⟨l.toArray⟩:ByteArray).data.toList[j]? =some b->b.toNat < 128:=fun l x j b v=>by rw[PR]at v;rw[Wc]at x;have:=x b (TD v);have o:=of_decide_eq_true this;rwa[UInt8.lt_iff_toNat_lt]at o
 refine(D _ _ w (by rw[Fg];omega) (by rw[Fg];omega) (k f B)).mono fun e t E=> ?_;obtain⟨rfl,z⟩:=E;rw[PR,PR];exact⟨_,rfl,z,fun h=>absurd h C,rfl,fun _ _=>by simp only[Qi],fun _ _ _=>trivial⟩;cases d;cases d
def QlQ [Dr] {P num Γ} (hD: ¬Dr.d) {g} {id X t:Nat} (L:Lays8.n4 P g) (hid:g.f 4=id) {M z} (hi0:P.info? (g.t 25)=some M) (hz0:M.zero=some z) (hsz:M.size=X) (hby:M.bytes=t) (hs0:0 < X)
  (hzc:z.cells.size=X):Pt P num Γ (Hc t X) id:=by
 intro args bs r bs' J hok w m S H vs hG hGb Y y l x;subst hid hsz hby;unfold Hc at J;split at J;rename_i i o n;split at J;rename_i C;cases J;obtain⟨c1,c2,c3⟩:=C;obtain⟨u0,hu0,Q⟩:=y 0 _ rfl;obtain⟨u1,hu1,O⟩:=y 1 _ rfl;simp only[Qi]at Q O;subst O;obtain⟨a,cap,rfl,Z,hcap2,B⟩:=Q;have T:cap=0:=by rcases B with⟨_,h,_⟩ | ⟨_,_,_,_,h⟩;exact h;omega
 subst T;rw[Qfl Y hu0 hu1];obtain⟨q,rfl⟩: ∃q:Nat,n=(q:Int):=⟨n.toNat,by omega⟩;simp only[LI]at c2;have V: ∀b p,H b=some p->b < w.heap.size/\(w.heap.size<=b\/∃q,H b=some q)/\(p.isG=true\/p= .f):=fun b p h=>⟨(x b p h).1,.inr ⟨p,h⟩,.inl (x b p h).2.2⟩;by_cases hq:q=0;subst hq;refine(Any8.slices_Grow_room L a 0 0 0 w (QY _) (by omega) (by omega) (by omega)).mono ?_;rintro e K ⟨rfl,rfl⟩;refine⟨.slice a 0 0,m,S,H,rfl,Ge.refl S,YX.refl _ _ _,l,rfl,?_,.inl ⟨a,rfl⟩,V⟩;simp only[Qi];exact⟨a,0,0,rfl,rfl,QY _,Nk _,.inl trivial⟩;refine(Any8.slices_Grow_grow L M z hi0 hz0 hs0 a 0 0 q [] w (QY _) (by omega) (by simpa using c2) (by omega) (by simp) (fun _=>rfl) (fun _ _ j v h=>by simp at h)).mono ?_;rintro e K ⟨rfl,rfl⟩;have hge:=grownCap_ge w (0+q) 0 (g.t 25);have hmx:=grownCap_le_maxLen w (0+q) 0 (g.t 25) (by unfold maxLen;omega);generalize grownCap w (0+q) 0 (g.t 25)=G at *;obtain⟨R,hR⟩: ∃R:VC,R=([]:WS).toArray ++ Builtin.zeroCells z.cells (0+q - 0)++ Builtin.zeroCells z.cells (G - (0+q)):=⟨_,rfl⟩;rw[<- hR];have c: (w.drew.alloc (.cells R (g.t 25))).heap=w.heap.push (.cells R (g.t 25)):=rfl;have D: (w.drew.alloc (.cells R (g.t 25))).os=w.os/\(w.drew.alloc (.cells R (g.t 25))).tape=w.tape/\(w.drew.alloc (.cells R (g.t 25))).output=w.output:=⟨rfl,rfl,rfl⟩;generalize w.drew.alloc (.cells R (g.t 25))=K at *;have hsz1:K.heap.size=w.heap.size+1:=by rw[c,GZ]
 have s: ∀b,b < w.heap.size->K.heap[b]? =w.heap[b]? :=fun b d=>by rw[c,Jy d];exact(Uw d).symm
 have N: ∀b p,H b=some p->b≠w.heap.size:=fun b p h=>by have:=(x b p h).1;omega
 have W:Le w m K (m1 m w.heap.size 0):=by intro b i u E;unfold hg at E ⊢;split at E;rename_i hi;(have d:b < w.heap.size:=by rcases ZI b w.heap.size with U | U;exact U;exfalso;unfold World.cell? at E;rw[Px U]at E;cases E);(have hm1:m1 m w.heap.size 0 b=m b:=by unfold m1;rw[Qe (by omega)]);rw[hm1,Qg hi];unfold World.cell? at E ⊢;rwa[s b d];cases E
 have A: ∀p,Ll w m H K (m1 m w.heap.size 0) (YV H w.heap.size .f) id p:=fun p b d=>⟨s b (x b p d).1,by unfold m1;rw[Qe (N b p d)],by unfold YV;rwa[Qe (N b p d)]⟩;refine⟨_,m1 m w.heap.size 0,S,YV H w.heap.size .f,rfl,Ge.refl S,⟨D.1,D.2.1,D.2.2,by omega,fun b d _=>⟨s b d,by unfold m1;rw[Qe (by omega)]⟩,W,fun h=>absurd h hD⟩,⟨l.1,fun i cs k U h2 h3=>Ub (Ge.refl S) W (A _) (fun j=>A _) (l.2 i cs k U h2 h3)⟩,rfl,?_,.inr ⟨w.heap.size,G,R,_,rfl,(by rw[c];exact Ju),(by rw[hR];simp only[Nb,Rg _ M.size _ hzc,V2,Xc];rw[ZV,<- Yg];congr 1;omega),by unfold m1;simp,by unfold YV;simp⟩,?_⟩;simp only[Qi];exact⟨_,0,G,rfl,rfl,Nk _,hmx,.inl trivial⟩;intro b p I;unfold YV at I;split at I;rename_i d;injection I with I;subst d I;exact⟨by omega,.inl (QY _),.inr rfl⟩;have:=V b p I;exact⟨by omega,this.2⟩;cases J;cases J
def QiX [Dr] {P e m} (l: ¬Dr.d) {d} {k c a:Nat} (L:Lays8.n4 P d) (g:d.f 4=k) {z}
  (b: (P.info? (d.t 25)).map (fun i=>(i.zero,i.size,i.bytes))=some (some z,c,a)) (f:0 < c) (j:z.cells.size=c):Pt P e m (Hc a c) k:=by
 rcases h:P.info? (d.t 25)with _ | n;rw[h]at b;cases b;rw[h]at b;simp only[Zn,QW,Zk]at b;exact QlQ l L g h b.1 b.2.1 b.2.2 f j
end Go.Am
namespace Go.Am
open Go.RowKit
end Go.Am
