/-
  KnN, AmS, AmSort, AmSort2, AmSort3, AmSort4, AmSort5, AmGrow, AmIdx.
-/
import Derived.Test.YthlnfdbbneaelaaGreatDoorG28
import Derived.Test.YthlnfdbbneaelaaGreatDoorG29
import Derived.Test.YthlnfdbbneaelaaGreatDoorG30
import Derived.Test.YthlnfdbbneaelaaGreatDoorG31
import Derived.Test.YthlnfdbbneaelaaGreatDoorG32
import Derived.Test.YthlnfdbbneaelaaGreatDoorG33
import Derived.Test.YthlnfdbbneaelaaGreatDoorG34
import Derived.Test.YthlnfdbbneaelaaGreatDoorG35
import Derived.Test.YthlnfdbbneaelaaGreatDoorG36
import Derived.Test.YthlnfdbbneaelaaGreatDoorG37
import Derived.Test.YthlnfdbbneaelaaGreatDoorG38
import Derived.Test.YthlnfdbbneaelaaGreatDoorG39
import Derived.Test.YthlnfdbbneaelaaGreatDoorG40
import Derived.Test.YthlnfdbbneaelaaGreatDoorG41
import Derived.Test.YthlnfdbbneaelaaGreatDoorG42
import Derived.Test.YthlnfdbbneaelaaGreatDoorG27
import Derived.Test.YthlnfdbbneaelaaGreatDoorG11
import Derived.Test.YthlnfdbbneaelaaGreatDoorG07
import Derived.Shelf.SlSortCmp.WholeK
import Derived.Shelf.SlSortCmp.NoneTotal
import Derived.Test.YthlnfdbbneaelaaGreatDoorG12
import Derived.Test.YthlnfdbbneaelaaGreatDoorG09
import Derived.Shelf.Spec.SlicesGrow
set_option linter.all false
open Go.Am.F
namespace Go.Am
def Qvm:NN tb QeE:=trivial
def Qvn:=Ym Qvm Qvc
def Qvo:=Ym Qvn Qvd
def Qvp:=Ym Qvo Qve
def Qvq:=Ym Qvp Qvf
def Qvr:=Ym Qvq Qvg
def Qvs:=Ym Qvr Qvh
def Qvt:=Ym Qvs Qvi
def Qvu:=Ym Qvt Qvj
def Qvv:=Ym Qvu Qvk
def Qso:=Ym Qvv Qvl
def Qsp:=Ym Qso Qrz
def Qsq:=Ym Qsp QrA
def Qsr:=Ym Qsq QrB
def Qss:=Ym Qsr QrC
def Qst:=Ym Qss QrD
def Qsu:=Ym Qst QrE
def Qsv:=Ym Qsu QrF
def Qsw:=Ym Qsv QrG
def Qsx:=Ym Qsw QrH
def Qsy:=Ym Qsx QrI
def Qsz:=Ym Qsy QrJ
def QsA:=Ym Qsz QrK
def QsB:=Ym QsA QrL
def QsC:=Ym QsB QrM
def QsD:=Ym QsC QrN
def QsE:=Ym QsD QrO
def QsF:=Ym QsE QrP
def QsG:=Ym QsF QrQ
def QsH:=Ym QsG QrR
def QsI:=Ym QsH QrS
def QsJ:=Ym QsI QrT
def QsK:=Ym QsJ QrU
def QsL:=Ym QsK QrV
def QsM:=Ym QsL QrW
def QsN:=Ym QsM QrX
def QsO:=Ym QsN QrY
def QsP:=Ym QsO QrZ
def QsQ:=Ym QsP Qr0
def QsR:=Ym QsQ Qr1
def QsS:=Ym QsR Qr2
def QsT:=Ym QsS Qr3
def QsU:=Ym QsT Qr4
def QsV:=Ym QsU Qr5
def QsW:=Ym QsV Qr6
def QsX:=Ym QsW Qr7
def QsY:=Ym QsX Qr8
def QsZ:=Ym QsY Qr9
def Qs0:=Ym QsZ Qsa
def Qs1:=Ym Qs0 Qsb
def Qs2:=Ym Qs1 Qsc
def Qs3:=Ym Qs2 Qsd
def Qs4:=Ym Qs3 Qse
def Qs5:=Ym Qs4 Qsf
def Qs6:=Ym Qs5 Qsg
def Qs7:=Ym Qs6 Qsh
def Qs8:=Ym Qs7 Qsi
def Qs9:=Ym Qs8 Qsj
def Qta:=Ym Qs9 Qsk
def Qtb:=Ym Qta Qsl
def Qtc:=Ym Qtb Qsm
def QeD:ID tb Qsn 400 602 [] []=some (.bool true,[]):=by kernel_rfl
def QgJ:call tb 602 [] []=some (.bool true,[]):=Ho Qtc _ _ _ _ _ QeD
set_option maxRecDepth 20000
namespace S
def tb:Nat->Option AFn:=fun n=>if n=30 then some (.code F.f30)else if n=31 then some (.code F.f31)else if n=32 then some (.code F.f32)else if n=33 then some (.orc (UA Hq))else none
def tb_30:tb 30=some (.code F.f30):=rfl
def tb_31:tb 31=some (.code F.f31):=rfl
def tb_32:tb 32=some (.code F.f32):=rfl
def tb_33:tb 33=some (.orc (UA Hq)):=rfl
def JR (a b c):call S.tb 32 [.int .i64 a,.int .i64 b] c=some (.int .i64 (if a < b then -1 else if a > b then 1 else 0),c):=by
 rw[MM S.tb_32 _ _ rfl];simp[F.f32,F.f32C]
def Jm (t:Tm) (e) (m:t.mass < big) (o: ∀x∈t.kids,∀e,call S.tb 31 [.agg (Qd x)] e=some (.int .i64 x.nodes,e)):
  ∀b a d,t.kids=a ++ b->d 7= .sl false 4 (Qa t.kids)->d 8= .int .i64 t.kids.length->d 9= .int .i64 a.length->d 3= .int .i64 (1+Qs a:Nat)->
  R S.tb (.loop F.f31l0) d e (Qi 0 (Qu S.tb F.f31r0 (Qz F.f31 e)))=some (.int .i64 t.nodes,e):=by
 have n:=QI t;have q:=Y6 t.kids;unfold big at m;intro b;induction b with | nil=>intro a d c g f h i;rw[Qc F.f31l0.eq_1];simp at c;simp[i,f,h,<- c,F.f31r0,W2] | cons x b k=>intro a d c g f h i;have p:=QJ c;(have l:Qs t.kids=Qs a+ (x.nodes+Qs b):=by rw[c,YT];simp[Qs]);have j:IntKind.i64.wrap (1+ (Qs a:Int)+ (x.nodes:Int))=1+ (Qs a:Int)+ (x.nodes:Int):=QC (by omega) (by omega);rw[Qc F.f31l0.eq_1];simp[i,g,f,h,(QB c),(wr1 a.length (by omega)),j,(QN c),o x (by rw[c];simp)];rw[k (a ++ [x])] <;> simp[g,f,c,YT,Qs];omega
def Na: ∀t a,t.mass < big->call S.tb 31 [.agg (Qd t)] a=some (.int .i64 t.nodes,a):=by
 refine YC ?_;intro k n s b e a d;rw[MM S.tb_31 _ _ rfl];simp[F.f31C];refine Jm (.mk k n s b) a d (fun x c a=>e x c a ?_) b [] _ ?_ ?_ ?_ ?_ ?_ <;> (try simp[Qs]);have:=QY c;have:=QI (.mk k n s b);simp at *;omega
def Ka (a b c):call S.tb 32 [.int .i64 a,.int .i64 b] c=some (.int .i64 (sgn a b),c):=JR a b c
def Hp (a b c):call S.tb 33 [.str a,.str b] c=some (.int .i64 (Vl a b),c):=by
 rw[Xv S.tb_33];rfl
def N2 (t u h) (C:t.mass < big) (A:u.mass < big)
  (B: ∀x∈t.kids,∀y h,y.mass < big->call S.tb 30 [.agg (Qd x),.agg (Qd y)] h=some (.int .i64 (Qm x y),h)):
  ∀f g a b c j,t.kids=a ++ f->u.kids=b ++ g->a.length=b.length->(c=0->f.length=g.length)->
   j 2= .bx (Qd t)->j 3= .bx (Qd u)->j 5= .int .i64 c->j 6= .int .i64 a.length->
  R S.tb (.loop F.f30l0) j h (Qi 0 (Qu S.tb F.f30r0 (Qz F.f30 h)))=some (.int .i64 (or0 c (WO f g)),h):=by
 have z:=QI t;have D:=QI u;intro f;induction f with | nil=>intro g a b c j k e p v l q m n;rw[Qc F.f30l0.eq_1];simp at k;by_cases i:c=0;simp[l,m,n,i,F.f30r0,k,WO,Cc];simp[l,m,n,i,F.f30r0,WO,Cc] | cons x f w=>intro g a b c j k e p v l q m n;rw[Qc F.f30l0.eq_1];by_cases i:c=0;(· (obtain⟨y,d,rfl⟩: ∃y d,g=y:: d:=by have:=v i;rcases g with _ | ⟨y,d⟩;simp at this;exact⟨y,d,rfl⟩);have o:=QB e;rw[<- p]at o;(have E:t.kids.length=a.length+ (f.length+1):=by rw[k];simp);(have r: (a.length:Int) < (t.kids.length:Int):=by omega);(have s:y.mass < big:=by have:=QY (x:=y) (ks:=u.kids) (by rw[e];simp);omega);unfold big at C A;simp[l,q,m,n,i,r,(QB k),o,(wr1 a.length (by omega)),B x (by rw[k];simp) y h s];rw[w d (a ++ [x]) (b ++ [y]) (Qm x y)] <;> first | omega | simp[k,e,p,l,q,WO,SQ];done | intro _;have:=v i;simp at this;omega);simp[l,m,n,i,F.f30r0,My]
def call_Compare: ∀t u a,t.mass < big->u.mass < big->call S.tb 30 [.agg (Qd t),.agg (Qd u)] a=some (.int .i64 (Qm t u),a):=by
 refine YC ?_;intro k n s b j u a h i;rw[MM S.tb_30 _ _ rfl,Ob];simp[F.f30C,(Na (.mk k n s b) a h),(Na u a i),Ka,Hp];by_cases f:sgn (Tm.mk k n s b).nodes u.nodes=0 <;> by_cases c:sgn k u.kind=0 <;> by_cases d:Vl n u.name=0 <;> by_cases e:sgn s u.sort=0 <;> simp[f,c,d,e,Tx] <;> rw[(N2 (.mk k n s b) u a h i (fun x g y a l=>j x g y a (by have:=QY g;have:=QI (.mk k n s b);simp at *;omega) l) b u.kids [] [] (hdT (.mk k n s b) u))] <;> first | simp[hdT,f,c,d,e,SQ,My];done | simp[hdT,f,c,d,e,MC,SQ];omega | skip
end S
open Go.Shelf Go.RowKit Go.Lib Go.Proofs Go.Sort
set_option maxRecDepth 20000
@[reducible] def drT:Dr:=⟨True⟩
def Qkb {X:Nat->Prop} {w w':World} {m m':Xs} (h: @Y2 drT X w m w' m') (hX: ∀b,b < w.heap.size->¬X b): ∃q os',w'=grow (w.drewN q) os':=by
 letI:=drT
 refine⟨w'.drawn - w.drawn,w'.heap.extract w.heap.size w'.heap.size,?_⟩;have h1:=h.os;have h2:=h.tape;have h3:=h.output;have h4:=h.drawn trivial;have h5:=h.size;have h6:w'.heap=w.heap ++ w'.heap.extract w.heap.size w'.heap.size:=by
  apply Gs;intro i;rw[Array.getElem?_append];split
  ·rename_i hi;exact(h.same i hi (hX i hi)).1
  ·rename_i hi;rw[Array.getElem?_extract];split
   ·congr 1;omega
   ·rw[Pd (by omega)]
 cases w;cases w'
 simp only[grow,World.drewN]at *;subst h1 h2 h3;congr 1;omega
def FW (P:Program) (num:WL) (g:Nat):Prop:=∀(w:World) (m:Xs) (β:UH) (x y:Vw) (t u:Tm),t.mass < big->u.mass < big->
 Qh num β w m (.agg (Qd t)) (.agg x)->Qh num β w m (.agg (Qd u)) (.agg y)->
 Calls P g #[.agg x,.agg y] w fun e w'=>e= .returned (.int .i64 (Qm t u))/\∃q os',w'=grow (w.drewN q) os'
def QfD: @PX drT:= @PX.mk drT (fun _=>True) 0 (fun _ _ _ _ _ _ _ _ _=>trivial)
def Qpi {P:Program} {num:WL} {g:Nat} (hn:num 30=some g) (hF: @FX drT P num QfD S.tb):FW P num g:=by
 intro w m β x y t u ht hu hx hy;have hc:=S.call_Compare t u (List.replicate β.length []) ht hu;obtain⟨n,hn2⟩:=Rn.1 hc;have hK:= @Lg P num S.tb drT QfD hF n;have h:=hK 30 g [.agg (Qd t),.agg (Qd u)] (List.replicate β.length []) _ _ hn hn2 rfl w m β (fun _=>none) #[.agg x,.agg y] trivial (Pp _) rfl (by
  intro i c hi
  match i with
  | 0=>simp at hi;subst hi;exact⟨_,rfl,hx⟩
  | 1=>simp at hi;subst hi;exact⟨_,rfl,hy⟩
  | i+2=>simp at hi) ⟨by simp,fun i cs k h1 h2 h3=>by
   rw[Lu]at h1;split at h1
   ·injection h1 with h1;exact absurd h1.symm h3
   ·cases h1⟩ (fun b p h=>by cases h)
 refine h.mono fun e w' he=> ?_;obtain⟨v,m',β',ν',rfl,_,hS,_,_,hR,_,_⟩:=he;simp only[Qh]at hR;subst hR;refine⟨rfl,Qkb hS fun b _ hb=> ?_⟩;obtain⟨p,hp⟩:=hb;cases hp
end Go.Am
namespace Go.Am
open Go.RowKit
set_option maxRecDepth 20000
def leT (a b:Tm):Prop:=¬Qm b a < 0
def Dk {a b c:Tm} (h1:leT a b) (h2:leT b c):leT a c:=by
 intro h;rcases Kb a b with h3 | h3 | h3
 ·exact h2 (XE h h3)
 ·subst h3;exact h2 h
 ·exact h1 h3
def Qan {a b:Tm} (h1:leT a b) (h2:leT b a):a=b:=by
 rcases Kb a b with h | h | h
 ·exact absurd h h2
 ·exact h
 ·exact absurd h h1
def BP:=@List.Perm.refl
def Di (t:Tm): ∀l:Qj,(Rr t l).Perm (t:: l)
 | []=>BP _
 | x:: xs=>by
  simp only[Rr];split
  ·exact((Di t xs).cons x).trans (List.Perm.swap t x xs)
  ·exact BP _
def FQ: ∀l:Qj,(XK l).Perm l
 | []=>BP _
 | t:: ts=>(Di t (XK ts)).trans ((FQ ts).cons t)
def I6 {t:Tm}: ∀{l:Qj},l.Pairwise leT->(Rr t l).Pairwise leT
 | [],_=>by simp[Rr]
 | x:: xs,h=>by
  obtain⟨h1,h2⟩:=Uo.1 h;simp only[Rr];split
  ·rename_i c;refine Uo.2 ⟨fun y hy=> ?_,I6 h2⟩;rcases Kv.1 hy with rfl | hy
   ·intro h;have:=Xh y x;omega
   ·exact h1 y hy
  ·rename_i c;refine Uo.2 ⟨fun y hy=> ?_,h⟩;rcases Zf.1 hy with rfl | hy
   ·exact c
   ·exact Dk c (h1 y hy)
def Is: ∀l:Qj,(XK l).Pairwise leT
 | []=>List.Pairwise.nil
 | t:: ts=>I6 (Is ts)
def Qcp {l ts:Qj} (h1:l.Perm ts) (h2:l.Pairwise leT):l=XK ts:=
 List.Perm.eq_of_pairwise (le:=leT) (fun a b _ _ h h'=>Qan h h') h2 (Is ts) (h1.trans (FQ ts).symm)
section
variable {num:Nat->Option Nat} {β:List Blk} {w:World} {m:Nat->Nat}
def Qln {x:AV} {ks:Qj} (h:AE x=some ks): ∃o xs,x= .sl o 4 xs/\Tt xs=some ks:=by
 unfold AE at h;split at h
 ·exact⟨_,_,rfl,h⟩
 ·cases h
def Qll {cs:Qx} {t:Tm} (h:JY cs=some t): ∃k n s x ks,cs=[.int .i64 k,.str n,.int .i64 s,x]/\AE x=some ks/\t= .mk k n s ks:=by
 unfold JY at h;split at h
 ·rename_i k n s x;simp only[Bp]at h;obtain⟨ks,h1,rfl⟩:=h;exact⟨k,n,s,x,ks,rfl,h1,rfl⟩
 ·cases h
def Hu {x:Qx} {xs:Qp} {ts:Qj} (h:Tt (x:: xs)=some ts): ∃t ts',JY x=some t/\Tt xs=some ts'/\ts=t:: ts':=by
 unfold Tt at h;split at h
 ·rename_i t ts' h1 h2;injection h with h
  exact⟨t,ts',h1,h2,h.symm⟩
 ·cases h
def Kd: ∀{xs:Qp} {ts:Qj},Tt xs=some ts->ts.length=xs.length
 | [],ts,h=>by simp only[Tt]at h;injection h with h;subst h;rfl
 | x:: xs,ts,h=>by
  obtain⟨t,ts',_,h2,rfl⟩:=Hu h;simp[Kd h2]
def Qlm: ∀(t:Tm) (cs:Qx) (g:QkG) (o:Nat),JY cs=some t->XM num β w m cs g o->XM num β w m (Qd t) g o:=by
 refine YC ?_;intro k n s ks ih cs g o h hr;have hE: ∀(xs:Qp) (ts:Qj),(∀t∈ts,t∈ks)->Tt xs=some ts->∀(g:QkG) (o:Nat),XN num β w m xs g o 4->XN num β w m (Qa ts) g o 4:=by
  intro xs
  induction xs with
  | nil=>intro ts _ h g o hr;simp only[Tt]at h;injection h with h;subst h;simp only[Qa,XN]
  | cons x xs IH=>
   intro ts hm h g o hr;obtain⟨t,ts',h1,h2,rfl⟩:=Hu h;simp only[XN]at hr;simp only[Qa,XN];exact⟨Xz t,ih t (hm t (by simp)) x g o h1 hr.2.1,IH ts' (fun t ht=>hm t (by simp[ht])) h2 g (o+4) hr.2.2⟩
 obtain⟨k',n',s',x,ks',rfl,h1,h2⟩:=Qll h;injection h2 with e1 e2 e3 e4
 subst e1 e2 e3 e4;obtain⟨o1,xs,rfl,h3⟩:=Qln h1;simp only[Qd,XM]at hr ⊢;obtain⟨a1,a2,a3,⟨u,a4,a5,a6⟩,_⟩:=hr;refine⟨a1,a2,a3,⟨u,a4,a5,?_⟩,trivial⟩;simp only[Qh]at a6 ⊢;obtain⟨a,len,cap,b1,b2,b3,b4,b5⟩:=a6;have hl:=Kd h3;refine⟨a,len,cap,b1,by rw[Wn];omega,b3,b4,?_⟩;rcases b5 with rfl | ⟨b,o2,b6,b7⟩
 ·left;simp only[Tt]at h3;injection h3 with h3;subst h3;simp[Qa]
 ·exact .inr ⟨b,o2,b6,hE xs ks (fun t ht=>ht) h3 _ _ b7⟩
end
end Go.Am
namespace Go.Am
open Go.Shelf Go.RowKit Go.Lib Go.Proofs Go.Sort
set_option maxRecDepth 20000
structure El (num:Nat->Option Nat) (β:List Blk) (w:World) (m:Nat->Nat) where
 v:List Value
 t:Tm
 len:v.length=4
 one: ∀u∈v,u.oneCell'=true
 rep:Qh num β w m (.agg (Qd t)) (.agg v.toArray)
 mass:t.mass < big
section
variable {num:Nat->Option Nat} {β:List Blk} {w:World} {m:Nat->Nat}
def Qen {α:Type} [Inhabited α] (enc:α->WM) (k:Nat) (w:World) (blk off q:Nat) (dk:Array α) (os:Array Obj) (b:Nat) (hb:b < w.heap.size):
  (sortWorldK enc k w blk off q dk os).heap[b]? =if b=blk then(w.heap[b]?).map (onCells (putCells id off (flatK enc k dk)))else w.heap[b]? :=by
 unfold sortWorldK putRowK putRow;rw[heap_grow_old _ _ (by simpa[mapBlock]using hb)];simp only[mapBlock,heap_ahead,Pf];by_cases h:b=blk
 ·subst h;simp
 ·have: ¬blk=b:=fun e=>h e.symm;simp[h,this]
def Qq9 {α:Type} [Inhabited α] (enc:α->WM) (k:Nat) (w:World) (blk off q:Nat) (dk:Array α) (os:Array Obj):w.heap.size<=(sortWorldK enc k w blk off q dk os).heap.size:=by
 unfold sortWorldK putRowK putRow;simp[mapBlock]
def Qgs {α:Type} [Inhabited α] (enc:α->WM) (k:Nat) {blk off q:Nat} (dk:Array α) (os:Array Obj) (hm:m blk=0):Le w m (sortWorldK enc k w blk off q dk os) m:=by
 intro b i u hu;unfold hg at hu ⊢;split at hu
 ·rename_i hi;rw[Qe hi];have hb:b < w.heap.size:=by
   rcases Zt b w.heap.size with h1 | h1
   ·exact h1
   ·exfalso;unfold World.cell? at hu;rw[Pd h1]at hu;cases hu
  have hne: ¬b=blk:=by intro e;subst e;omega
  unfold World.cell? at hu ⊢;rw[Qen enc k w blk off q dk os b hb,Qb hne];exact hu
 ·cases hu
def Qra:SWO (ltOf fun x y:El num β w m=>Qm x.t y.t) where
 irrefl:=fun x=>by simp[ltOf,Xc]
 trans:=fun x y z h1 h2=>by simp only[ltOf,QM]at *;exact XE h1 h2
 ntrans:=fun x y z h1 h2=>by
  simp only[ltOf,Oz]at *;exact Dk (a:=z.t) (b:=y.t) (c:=x.t) h2 h1
def Qle [Inhabited (El num β w m)] {P:Program} {g blk off size:Nat} (hC:FW P num g) (hm:m blk=0):CmpLays P g #[] (El.v (num:=num) (β:=β) (w:=w) (m:=m)) 4 (fun x y=>Qm x.t y.t) blk off size w:=by
 intro q os dk hdk x y;have h:=hC (sortWorldK El.v 4 w blk off q dk os) m β x.v.toArray y.v.toArray x.t y.t x.mass y.mass (ZU (Ge.refl β) (Qgs El.v 4 dk os hm) _ _ x.rep) (ZU (Ge.refl β) (Qgs El.v 4 dk os hm) _ _ y.rep);exact h
end
end Go.Am
namespace Go.Am
open Go.Shelf Go.RowKit Go.Lib Go.Proofs Go.Sort
set_option maxRecDepth 20000
def AD: ∀{xs:Qp} {ts:Qj} {j:Nat} {t:Tm},Tt xs=some ts->ts[j]? =some t->∃x,xs[j]? =some x/\JY x=some t
 | [],ts,j,t,h,hj=>by simp only[Tt]at h;injection h with h;subst h;simp at hj
 | x:: xs,ts,j,t,h,hj=>by
  obtain⟨t0,ts',h1,h2,rfl⟩:=Hu h;cases j with
  | zero=>simp at hj;subst hj;exact⟨x,rfl,h1⟩
  | succ j=>simp at hj;obtain⟨y,h3,h4⟩:=AD h2 hj;exact⟨y,by simpa using h3,h4⟩
section
variable {num:Nat->Option Nat} {β:List Blk} {w:World} {m:Nat->Nat} {ν:Own}
def QqN {cur:Vw} {cs:Qx} {o n:Nat} {ts:Qj} (hcs:o+n*4<=cs.length)
  (hc: ∀(i:Nat) (c:AV),cs[i]? =some c->∃u,cur[i]? =some u/\u.oneCell'=true/\Qh num β w m c u) (hd:Tt (ZW cs o 4 n)=some ts) (hm: ∀t∈ts,t.mass < big):
  ∃d:List (El num β w m),d.length=n/\d.map (·.t)=ts/\∀(j:Nat) (e:El num β w m) (c:Nat),d[j]? =some e->c < 4->cur[o+j*4+c]? =e.v[c]? :=by
 have hlen:ts.length=n:=by rw[Kd hd,Vu]
 have hex: ∀(j:Nat) (hj:j < n),∃e:El num β w m,some e.t=ts[j]? /\∀(c:Nat),c < 4->cur[o+j*4+c]? =e.v[c]? :=by
  intro j hj;obtain⟨t,ht⟩: ∃t,ts[j]? =some t:=⟨_,Q0 (by omega)⟩;obtain⟨x,hx,hdx⟩:=AD hd ht;obtain⟨_,rfl⟩:=Pu hx;have hu: ∀(c:Nat),c < 4->∃u,cur[o+j*4+c]? =some u/\u.oneCell'=true/\∀(cc:AV),cs[o+j*4+c]? =some cc->Qh num β w m cc u:=by
   intro c hc4;have hlt:o+j*4+c < cs.length:=by omega
   obtain⟨u,h1,h2,h3⟩:=hc _ _ (Q0 hlt);exact⟨u,h1,h2,fun cc hcc=>by rw[Q0 hlt]at hcc;injection hcc with hcc;subst hcc;exact h3⟩
  obtain⟨u0,a0,b0,c0⟩:=hu 0 (by omega);obtain⟨u1,a1,b1,c1⟩:=hu 1 (by omega);obtain⟨u2,a2,b2,c2⟩:=hu 2 (by omega);obtain⟨u3,a3,b3,c3⟩:=hu 3 (by omega);have hrep:XM num β w m (((cs.drop (o+j*4)).take 4).map AV.strip) (fun i=>[u0,u1,u2,u3][i]?) 0:=by
   rw[Y1];intro i c hi;obtain⟨c',hc',rfl⟩:=ZE hi;have hi4:i < 4:=by
    rcases Zt i 4 with h | h
    ·exact h
    ·rw[ZF (by rw[Ye];omega)]at hc';cases hc'
   rw[VV hi4,Vf]at hc'
   match i,hi4,hc' with
   | 0,_,hc'=>exact⟨u0,rfl,b0,(Zg _ _).2 (c0 _ hc')⟩
   | 1,_,hc'=>exact⟨u1,rfl,b1,(Zg _ _).2 (c1 _ hc')⟩
   | 2,_,hc'=>exact⟨u2,rfl,b2,(Zg _ _).2 (c2 _ hc')⟩
   | 3,_,hc'=>exact⟨u3,rfl,b3,(Zg _ _).2 (c3 _ hc')⟩
  refine⟨⟨[u0,u1,u2,u3],t,rfl,by simp[b0,b1,b2,b3],?_,hm t (X9 ht)⟩,ht.symm,?_⟩
  ·simp only[Qh];exact⟨_,rfl,by simp,RA (Ge.refl β) (Le.refl w m) _ _ _ 0 (fun i u h=>by simpa using h) (Qlm t _ _ 0 hdx hrep)⟩
  ·intro c hc4
   match c,hc4 with
   | 0,_=>simpa using a0
   | 1,_=>simpa using a1
   | 2,_=>simpa using a2
   | 3,_=>simpa using a3
 refine⟨List.ofFn fun j:Fin n=>Classical.choose (hex j.1 j.2),by simp,?_,?_⟩
 ·apply U4;intro j;rw[Pi,List.getElem?_ofFn];split
  ·rename_i hj;rw[Zy];exact(Classical.choose_spec (hex j hj)).1
  ·rename_i hj;rw[ZF (by omega)];rfl
 ·intro j e c hj hc4;rw[List.getElem?_ofFn]at hj;split at hj
  ·rename_i hjn;injection hj with hj
   subst hj;exact(Classical.choose_spec (hex j hjn)).2 c hc4
  ·cases hj
end
end Go.Am
namespace Go.Am
open Go.Shelf Go.RowKit Go.Lib Go.Proofs Go.Sort
set_option maxRecDepth 20000
def AW: ∀{l:Qj} {r:Nat} {c:AV},(Qa l).flatten[r]? =some c->∃t,l[r / 4]? =some t/\(Qd t)[r % 4]? =some c
 | [],r,c,h=>by simp[Qa]at h
 | x:: l,r,c,h=>by
  simp only[Qa,To]at h;by_cases hr:r < 4
  ·rw[Y3 (by rw[Xz];exact hr)]at h;exact⟨x,by rw[Nat.div_eq_of_lt hr];rfl,by rw[BI hr];exact h⟩
  ·rw[Yq (by rw[Xz];omega),Xz]at h;obtain⟨t,h1,h2⟩:=AW h;refine⟨t,?_,?_⟩
   ·rw[show r / 4=(r - 4) / 4+1 by omega];simpa using h1
   ·rw[show r % 4=(r - 4) % 4 by omega];exact h2
def QmP [Dr] (hD: ¬Dr.d) {P:Program} {num:WL} {Γ:PX} {id:Nat} {ρ:Ren} (L:SlLaysF0.n6 P ρ) (hid:ρ.f 6=id) (aE: ∀w,(isAgg (ρ.t 24)).run P w= .ok true w) (zE: ∀w,(Go.sizeOf (ρ.t 24)).run P w= .ok 4 w)
  (hgC: ∀g,num 30=some g->FW P num g/\∀args w,(callFunc g args).run P w= .ok (.enter g args) w):Pa P num Γ NG id:=by
 intro args bs r bs' hc hok w m β ν vs hG hGb hvs hrep hbox hlt;subst hid;unfold NG at hc;split at hc
 ·rename_i i o sz n;obtain⟨u0,hu0,hr0⟩:=hrep 0 _ rfl;obtain⟨u1,hu1,hr1⟩:=hrep 1 _ rfl;have hvs':=Qe3 hvs hu0 hu1;subst hvs';simp only[Qh]at hr0 hr1;obtain⟨a,cap,rfl,hcap1,hcap2,hcase⟩:=hr0;obtain⟨g,us,hg1,rfl,hus,_⟩:=hr1;have hus0:us= #[]:=QhS (by simpa using hus);subst hus0;obtain⟨hC,eg⟩:=hgC g hg1;have hν: ∀b p,ν b=some p->b < w.heap.size/\(w.heap.size<=b\/∃q,ν b=some q)/\(p.isG=true\/p= .f):=fun b p h=>⟨(hlt b p h).1,.inr ⟨p,h⟩,.inl (hlt b p h).2.2⟩;by_cases hn:n=0
  ·subst hn;rw[Qe rfl]at hc;injection hc with hc
   injection hc with e1 e2
   subst e1 e2;refine(AnyF.slices_SortFunc_none L a cap _ w).mono ?_
   rintro e w' ⟨rfl,rfl⟩
   exact⟨.tuple #[],m,β,ν,rfl,Ge.refl β,Y2.refl _ _ _,hbox,rfl,by simp only[Qh];exact⟨_,rfl,rfl,trivial⟩,trivial,hν⟩
  ·rw[Qb hn]at hc;split at hc
   ·rename_i hc1;obtain⟨rfl,hn62⟩:=hc1;cases hbs:bs[i]? with
    | none=>rw[hbs]at hc;cases hc
    | some cs=>
     rw[hbs]at hc;simp only[QO]at hc;split at hc
     ·rename_i hle;cases hdec:Tt (ZW cs o 4 n)with
      | none=>rw[hdec]at hc;cases hc
      | some ts=>
       rw[hdec]at hc;simp only[QO]at hc;split at hc
       ·rename_i hall;injection hc with hc
        injection hc with e1 e2
        subst e1 e2;rcases hcase with⟨h0,_⟩ | ⟨k,⟨hk,hkm⟩,rfl,hz,_⟩
        ·exact absurd h0 hn
        have hne:cs≠[]:=by intro e;subst e;simp at hle;omega
        obtain⟨cur,et,hcur,⟨hcs1,hcs2⟩,hm0,hnu,hcells⟩:=(hbox.2 i cs k hbs hk hne).1 hkm;have hmass: ∀t∈ts,t.mass < big:=fun t ht=>by simpa using X0.1 hall t ht
        obtain⟨d,hdl,hdt,hdv⟩:=QqN (cur:=cur) hle (fun j c hj=>by obtain⟨u,a1,a2,a3,_⟩:=hcells j c hj;exact⟨u,a1,a2,a3⟩) hdec hmass;have hd0:0 < d.length:=by omega
        letI:Inhabited (El num β w m):=⟨d[0]⟩
        have hblk:k.b < w.heap.size:=(hlt _ _ hnu).1;have hsz:d.toArray.size=n:=by simp[hdl]
        have hH:HoldsK (El.v (num:=num) (β:=β) (w:=w) (m:=m)) 4 w k.b o d.toArray:=by
         intro j hj;rw[size_flatK,hsz]at hj;have hj4:j / 4 < n:=by omega
         have he:d[j / 4]? =some d[j / 4]:=Q0 (by omega);have h1:=hdv (j / 4) _ (j % 4) he (by omega);have h2:o+j / 4*4+j % 4=o+j:=by omega
         rw[h2]at h1;rw[get_flatK _ _ _ _ (by rw[hsz];exact hj)];have h3:d.toArray[j / 4]! =d[j / 4]:=by rw[Po _ _ (by rw[hsz];exact hj4)];simp
         rw[h3];have h4:d[j / 4].v[j % 4]? =some d[j / 4].v[j % 4]! :=by
          rw[Po _ _ (by rw[El.len];omega)];exact Q0 _
         rw[h4]at h1;refine⟨?_,?_⟩
         ·unfold World.cell?;rw[hcur];simpa using h1
         ·unfold World.frozen?;rw[hcur];simp
        have hcall:=AnyQ.slices_SortFunc L 4 aE zE El.v El.len El.one (fun x y=>Qm x.t y.t) Qra g #[] k.b o cap d.toArray w eg (Qle hC hm0) hH hblk (by rw[hsz];exact hn62);rw[hsz]at hcall;refine hcall.mono ?_
        rintro e w' ⟨rfl,d',q,os,hP,hS,rfl⟩
        have hd't: (d'.toList.map (·.t))=XK ts:=by
         refine Qcp ?_ ?_
         ·rw[<- hdt];have hp:=hP.2.2;have e1:d'.extract 0 n=d':=by rw[<- hsz,<- hP.1];exact Array.extract_size
          have e2:d.toArray.extract 0 n=d.toArray:=by rw[<- hsz];exact Array.extract_size
          rw[e1,e2]at hp;exact hp.map _
         ·rw[List.pairwise_iff_getElem];intro x y hx hy hxy;have hd's:d'.size=n:=by rw[hP.1,hsz]
          simp at hx hy;have:=hS x y (Pp _) hxy (by omega);rw[Po d' y (by omega),Po d' x (by omega)]at this;simp only[ltOf,Oz]at this;simp only[List.getElem_map,Array.getElem_toList];exact this
        have hle':=Qgs (w:=w) (m:=m) (El.v (num:=num) (β:=β) (w:=w) (m:=m)) 4 (q:=q) (off:=o) d' os hm0;have hsz':=Qq9 (El.v (num:=num) (β:=β) (w:=w) (m:=m)) 4 w k.b o q d' os;have hheap:=Qen (El.v (num:=num) (β:=β) (w:=w) (m:=m)) 4 w k.b o q d' os;have hd's:d'.size=n:=by rw[hP.1,hsz]
        generalize hW:sortWorldK (El.v (num:=num) (β:=β) (w:=w) (m:=m)) 4 w k.b o q d' os=w' at *;have hoth: ∀b,b < w.heap.size->b≠k.b->w'.heap[b]? =w.heap[b]? :=fun b hb hbk=>by rw[hheap b hb,Qb hbk]
        have keep: ∀p,p≠ .g i->Lb w m ν w' m ν id p:=fun p hp b hb=>by
         refine⟨hoth b (hlt b p hb).1 fun e=> ?_,rfl,hb⟩;subst e;rw[hnu]at hb;injection hb with hb;exact hp hb.symm
        refine⟨.tuple #[],m,β,ν,rfl,Ge.refl β,⟨?_,?_,?_,hsz',fun b hb hx=>⟨hoth b hb fun e=>hx ⟨.g i,by rw[e];exact hnu⟩,rfl⟩,hle',fun hd=>absurd hd hD⟩,⟨?_,?_⟩,rfl,by simp only[Qh];exact⟨_,rfl,rfl,trivial⟩,trivial,fun b p h=>⟨Lz (hlt b p h).1 hsz',.inr ⟨p,h⟩,.inl (hlt b p h).2.2⟩⟩
        ·rw[<- hW];rfl
        ·rw[<- hW];rfl
        ·rw[<- hW];rfl
        ·rw[WJ];exact hbox.1
        ·intro i2 cs2 k2 h1 h2 h3;by_cases hi:i2=i
         ·subst hi;have hk2:k2=k:=by rw[hk]at h2;injection h2 with h2;exact h2.symm
          subst hk2;have hil:i2 < bs.length:=by
           rcases Zt i2 bs.length with h | h
           ·exact h
           ·rw[ZF h]at hbs;cases hbs
          rw[Qy,Qe rfl,Qe hil]at h1;injection h1 with h1
          subst h1;refine⟨fun _=> ?_,fun e=>by rw[hkm]at e;cases e⟩;have hfl: (Qa (XK ts)).flatten.length=n*4:=by
           have: ∀l:Qj,(Qa l).flatten.length=l.length*4:=by
            intro l
            induction l with
            | nil=>simp[Qa]
            | cons x l ih=>simp only[Qa,To,Zl,Xz,ih,ZH];omega
           rw[this,Va,Kd hdec,Vu]
          refine⟨putCells id o (flatK El.v 4 d') cur,et,?_,⟨?_,?_⟩,hm0,hnu,?_⟩
          ·rw[hheap _ hblk,Qe rfl,hcur];rfl
          ·simp[putCells,hcs1]
          ·simp only[put,Zl,Ye,U5,hfl];omega
          ·intro j c hj;have hFs: (flatK (El.v (num:=num) (β:=β) (w:=w) (m:=m)) 4 d').size=n*4:=by rw[size_flatK,hd's]
           have hpc: ∀x:Value,cur[j]? =some x->(putCells id o (flatK (El.v (num:=num) (β:=β) (w:=w) (m:=m)) 4 d') cur)[j]? =some (if o<=j/\j < o+n*4 then(flatK (El.v (num:=num) (β:=β) (w:=w) (m:=m)) 4 d')[j - o]! else x):=by
            intro x hx;simp only[putCells,Array.getElem?_mapIdx,hx,Zy,hFs,id]
           have hto: (cs.take o).length=o:=by rw[Ye];omega
           by_cases hin:o<=j/\j < o+n*4
           ·obtain⟨rr,rfl⟩: ∃rr,j=o+rr:=⟨j - o,by omega⟩;have hr:rr < n*4:=by omega
            have hjc: (Qa (XK ts)).flatten[rr]? =some c:=by
             simp only[put]at hj;rw[ZX,Yq (by omega),hto,Jp,Y3 (by omega)]at hj;exact hj
            obtain⟨t,ht,hcc⟩:=AW hjc;have hcu: ∃x,cur[o+rr]? =some x:=⟨cur[o+rr]'(by omega),Um _⟩;obtain⟨x,hx⟩:=hcu;have hq:rr / 4 < d'.size:=by omega
            have hdt':d'[rr / 4].t=t:=by
             rw[<- hd't,Pi]at ht;rw[show d'.toList[rr / 4]? =some d'[rr / 4] by rw[Gh];exact Um hq]at ht;simpa using ht
            have hrep':=d'[rr / 4].rep;rw[hdt']at hrep';simp only[Qh]at hrep';obtain⟨us,hus1,hus2,hus3⟩:=hrep';injection hus1 with hus1
            subst hus1;obtain⟨u,g1,g2,g3⟩:=(Y1 _ _ _).1 hus3 _ c hcc;have hu: (flatK (El.v (num:=num) (β:=β) (w:=w) (m:=m)) 4 d')[rr]! =u:=by
             rw[get_flatK _ _ _ _ (by rw[hd's];exact hr),Po d' _ hq];have h4:rr % 4 < d'[rr / 4].v.length:=by rw[El.len];omega
             have hgp:d'[rr / 4].v[rr % 4]! =d'[rr / 4].v[rr % 4]:=Po d'[rr / 4].v (rr % 4) h4;rw[hgp];simp at g1;rw[Q0 h4]at g1;injection g1
            refine⟨u,?_,g2,ZU (Ge.refl β) hle' _ _ g3,?_⟩
            ·rw[hpc x hx,Qe hin,Jp,hu]
            ·have h4:rr % 4 < 4:=by omega
             rw[Ya]at hcc
             match hm4:rr % 4,h4,hcc with
             | 0,_,hcc=>simp at hcc;subst hcc;exact trivial
             | 1,_,hcc=>simp at hcc;subst hcc;exact trivial
             | 2,_,hcc=>simp at hcc;subst hcc;exact trivial
             | 3,_,hcc=>simp at hcc;subst hcc;exact trivial
           ·have hjc:cs[j]? =some c:=by
             simp only[put]at hj;by_cases hjo:j < o
             ·rw[ZX,Y3 (by omega),VV hjo]at hj;exact hj
             ·rw[Yq (by rw[Zl];omega),Zl,hto,Vf,hfl]at hj;have:o+n*4+ (j - (o+n*4))=j:=by omega
              rw[this]at hj;exact hj
            obtain⟨u,g1,g2,g3,g4⟩:=hcells j c hjc;refine⟨u,?_,g2,ZU (Ge.refl β) hle' _ _ g3,V4 (θ:=id) (keep _ (by simp)) g4⟩;rw[hpc u g1,Qb hin]
         ·rw[Qy,Qb (fun e=>hi e.symm)]at h1;have hB:=hbox.2 i2 cs2 k2 h1 h2 h3;exact V3 (Ge.refl β) hle' (keep _ (by simp[hi])) (fun j=>keep _ (by simp)) hB
       ·cases hc
     ·cases hc
   ·cases hc
 ·cases hc
def QmO {P:Program} {num:WL} {g0:Nat} (hE:Ue P num) (hn:num 30=some g0) (hC:FW P num g0): ∀g,num 30=some g->FW P num g/\∀args w,(callFunc g args).run P w= .ok (.enter g args) w:=by
 intro g hg;rw[hn]at hg;injection hg with hg
 subst hg;obtain⟨fn,h1,h2,h3⟩:=hE 30 g0 hn;exact⟨hC,fun args w=>E9 h1 h2 h3⟩
end Go.Am
namespace Go.Am
open Go.Shelf Go.RowKit Go.Lib Go.Proofs
set_option maxRecDepth 20000
def Qm3 [Dr] {P n A} (C: ¬Dr.d) {g:Nat} (D: ∀(s f:ByteArray) (w:World),s.size<=9223372036854775807->f.size < 4294967281->(∀(j:Nat) b,f.data.toList[j]? =some b->b.toNat < 128)->
  Calls P g #[.string s,.string f] w fun e t=>e= .returned (.string ⟨(Lib.trimS s.data.toList f.data.toList).toArray⟩)/\Below w.heap.size w t):Pa P n A (UA FU) g:=by
 refine QaU (FH fun p r d w m M I H i c=> ?_);unfold FU at d;split at d;rename_i s f;split at d;rename_i a;cases d;simp only[Qr,QM]at a;obtain⟨⟨B,K⟩,L⟩:=a;obtain⟨u,G,q⟩:=c 0 _ rfl;obtain⟨J,o,y⟩:=c 1 _ rfl;simp only[Qh]at q y;subst q y;rw[Qe3 i G o];have k: ∀l:Zq,l.all (· < 128)=true->∀(j:Nat) b,(⟨l.toArray⟩:ByteArray).data.toList[j]? =some b->b.toNat < 128:=fun l x j b v=>by rw[Pt]at v;rw[X0]at x;have:=x b (X9 v);have o:=of_decide_eq_true this;rwa[UInt8.lt_iff_toNat_lt]at o
 refine(D _ _ w (by rw[GV];omega) (by rw[GV];omega) (k f B)).mono fun e t E=> ?_;obtain⟨rfl,z⟩:=E;rw[Pt,Pt];exact⟨_,rfl,z,fun h=>absurd h C,rfl,fun _ _=>by simp only[Qh],fun _ _ _=>trivial⟩;cases d;cases d
def QlK [Dr] {P num Γ} (hD: ¬Dr.d) {g} {id X t:Nat} (L:Lays8.n4 P g) (hid:g.f 4=id) {M z} (hi0:P.info? (g.t 25)=some M) (hz0:M.zero=some z) (hsz:M.size=X) (hby:M.bytes=t) (hs0:0 < X)
  (hzc:z.cells.size=X):Pa P num Γ (II t X) id:=by
 intro args bs r bs' J hok w m S H vs hG hGb Y y l x;subst hid hsz hby;unfold II at J;split at J;rename_i i o n;split at J;rename_i C;cases J;obtain⟨c1,c2,c3⟩:=C;obtain⟨u0,hu0,Q⟩:=y 0 _ rfl;obtain⟨u1,hu1,O⟩:=y 1 _ rfl;simp only[Qh]at Q O;subst O;obtain⟨a,cap,rfl,Z,hcap2,B⟩:=Q;have T:cap=0:=by rcases B with⟨_,h,_⟩ | ⟨_,_,_,_,h⟩;exact h;omega
 subst T;rw[Qe3 Y hu0 hu1];obtain⟨q,rfl⟩: ∃q:Nat,n=(q:Int):=⟨n.toNat,by omega⟩;simp only[T8]at c2;have V: ∀b p,H b=some p->b < w.heap.size/\(w.heap.size<=b\/∃q,H b=some q)/\(p.isG=true\/p= .f):=fun b p h=>⟨(x b p h).1,.inr ⟨p,h⟩,.inl (x b p h).2.2⟩;by_cases hq:q=0;subst hq;refine(Any8.slices_Grow_room L a 0 0 0 w (QX _) (by omega) (by omega) (by omega)).mono ?_;rintro e K ⟨rfl,rfl⟩;refine⟨.slice a 0 0,m,S,H,rfl,Ge.refl S,Y2.refl _ _ _,l,rfl,?_,.inl ⟨a,rfl⟩,V⟩;simp only[Qh];exact⟨a,0,0,rfl,rfl,QX _,Pp _,.inl trivial⟩;refine(Any8.slices_Grow_grow L M z hi0 hz0 hs0 a 0 0 q [] w (QX _) (by omega) (by simpa using c2) (by omega) (by simp) (fun _=>rfl) (fun _ _ j v h=>by simp at h)).mono ?_;rintro e K ⟨rfl,rfl⟩;have hge:=grownCap_ge w (0+q) 0 (g.t 25);have hmx:=grownCap_le_maxLen w (0+q) 0 (g.t 25) (by unfold maxLen;omega);generalize grownCap w (0+q) 0 (g.t 25)=G at *;obtain⟨R,hR⟩: ∃R:Vw,R=([]:WM).toArray ++ Builtin.zeroCells z.cells (0+q - 0)++ Builtin.zeroCells z.cells (G - (0+q)):=⟨_,rfl⟩;rw[<- hR];have c: (w.drew.alloc (.cells R (g.t 25))).heap=w.heap.push (.cells R (g.t 25)):=rfl;have D: (w.drew.alloc (.cells R (g.t 25))).os=w.os/\(w.drew.alloc (.cells R (g.t 25))).tape=w.tape/\(w.drew.alloc (.cells R (g.t 25))).output=w.output:=⟨rfl,rfl,rfl⟩;generalize w.drew.alloc (.cells R (g.t 25))=K at *;have hsz1:K.heap.size=w.heap.size+1:=by rw[c,Gy]
 have s: ∀b,b < w.heap.size->K.heap[b]? =w.heap[b]? :=fun b d=>by rw[c,Jr d];exact(Um d).symm
 have N: ∀b p,H b=some p->b≠w.heap.size:=fun b p h=>by have:=(x b p h).1;omega
 have W:Le w m K (m1 m w.heap.size 0):=by intro b i u E;unfold hg at E ⊢;split at E;rename_i hi;(have d:b < w.heap.size:=by rcases Zt b w.heap.size with U | U;exact U;exfalso;unfold World.cell? at E;rw[Pd U]at E;cases E);(have hm1:m1 m w.heap.size 0 b=m b:=by unfold m1;rw[Qb (by omega)]);rw[hm1,Qe hi];unfold World.cell? at E ⊢;rwa[s b d];cases E
 have A: ∀p,Lb w m H K (m1 m w.heap.size 0) (Y0 H w.heap.size .f) id p:=fun p b d=>⟨s b (x b p d).1,by unfold m1;rw[Qb (N b p d)],by unfold Y0;rwa[Qb (N b p d)]⟩;refine⟨_,m1 m w.heap.size 0,S,Y0 H w.heap.size .f,rfl,Ge.refl S,⟨D.1,D.2.1,D.2.2,by omega,fun b d _=>⟨s b d,by unfold m1;rw[Qb (by omega)]⟩,W,fun h=>absurd h hD⟩,⟨l.1,fun i cs k U h2 h3=>V3 (Ge.refl S) W (A _) (fun j=>A _) (l.2 i cs k U h2 h3)⟩,rfl,?_,.inr ⟨w.heap.size,G,R,_,rfl,(by rw[c];exact Jn),(by rw[hR];simp only[OZ,SS _ M.size _ hzc,VW,Xy];rw[Z1,<- Yk];congr 1;omega),by unfold m1;simp,by unfold Y0;simp⟩,?_⟩;simp only[Qh];exact⟨_,0,G,rfl,rfl,Pp _,hmx,.inl trivial⟩;intro b p I;unfold Y0 at I;split at I;rename_i d;injection I with I;subst d I;exact⟨by omega,.inl (QX _),.inr rfl⟩;have:=V b p I;exact⟨by omega,this.2⟩;cases J;cases J
def QiQ [Dr] {P e m} (l: ¬Dr.d) {d} {k c a:Nat} (L:Lays8.n4 P d) (g:d.f 4=k) {z}
  (b: (P.info? (d.t 25)).map (fun i=>(i.zero,i.size,i.bytes))=some (some z,c,a)) (f:0 < c) (j:z.cells.size=c):Pa P e m (II a c) k:=by
 rcases h:P.info? (d.t 25)with _ | n;rw[h]at b;cases b;rw[h]at b;simp only[Zy,QV,Zm]at b;exact QlK l L g h b.1 b.2.1 b.2.2 f j
end Go.Am
namespace Go.Am
open Go.RowKit
end Go.Am
