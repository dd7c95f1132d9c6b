/-
  KnN, AmS, AmSort, AmSort2, AmSort3, AmSort4, AmSort5, AmGrow, AmIdx.
-/
import Derived.Test.YtiibekjjcelboaaGreatDoorG26
import Derived.Test.YtiibekjjcelboaaGreatDoorG27
import Derived.Test.YtiibekjjcelboaaGreatDoorG28
import Derived.Test.YtiibekjjcelboaaGreatDoorG29
import Derived.Test.YtiibekjjcelboaaGreatDoorG30
import Derived.Test.YtiibekjjcelboaaGreatDoorG31
import Derived.Test.YtiibekjjcelboaaGreatDoorG32
import Derived.Test.YtiibekjjcelboaaGreatDoorG33
import Derived.Test.YtiibekjjcelboaaGreatDoorG34
import Derived.Test.YtiibekjjcelboaaGreatDoorG35
import Derived.Test.YtiibekjjcelboaaGreatDoorG36
import Derived.Test.YtiibekjjcelboaaGreatDoorG37
import Derived.Test.YtiibekjjcelboaaGreatDoorG38
import Derived.Test.YtiibekjjcelboaaGreatDoorG39
import Derived.Test.YtiibekjjcelboaaGreatDoorG40
import Derived.Test.YtiibekjjcelboaaGreatDoorG25
import Derived.Test.YtiibekjjcelboaaGreatDoorG14
import Derived.Test.YtiibekjjcelboaaGreatDoorG09
import Derived.Shelf.SlSortCmp.WholeK
import Derived.Shelf.SlSortCmp.NoneTotal
import Derived.Test.YtiibekjjcelboaaGreatDoorG15
import Derived.Test.YtiibekjjcelboaaGreatDoorG12
import Derived.Test.YtiibekjjcelboaaGreatDoorG11
import Derived.Shelf.Spec.SlicesGrow
set_option linter.unusedVariables false
set_option linter.unusedSimpArgs false
namespace Go.Am
theorem QbU:Qv F.tb G2:=trivial
theorem QbV:Qv F.tb G3:=⟨Qs QbU _ _ _ _ _ Qg5,QbU⟩
theorem QbW:Qv F.tb G4:=⟨Qs QbV _ _ _ _ _ Qg6,QbV⟩
theorem QbX:Qv F.tb G5:=⟨Qs QbW _ _ _ _ _ Qg7,QbW⟩
theorem QbY:Qv F.tb G6:=⟨Qs QbX _ _ _ _ _ Qg8,QbX⟩
theorem QbZ:Qv F.tb G7:=⟨Qs QbY _ _ _ _ _ Qg9,QbY⟩
theorem Qb0:Qv F.tb G8:=⟨Qs QbZ _ _ _ _ _ Qha,QbZ⟩
theorem Qb1:Qv F.tb G9:=⟨Qs Qb0 _ _ _ _ _ Qhb,Qb0⟩
theorem Qb2:Qv F.tb Fa:=⟨Qs Qb1 _ _ _ _ _ Qhc,Qb1⟩
theorem Qb3:Qv F.tb Fb:=⟨Qs Qb2 _ _ _ _ _ Qhd,Qb2⟩
theorem Dm:Qv F.tb L4:=⟨Qs Qb3 _ _ _ _ _ Qhe,Qb3⟩
theorem Dn:Qv F.tb L5:=⟨Qs Dm _ _ _ _ _ QeU,Dm⟩
theorem Do:Qv F.tb L6:=⟨Qs Dn _ _ _ _ _ QeV,Dn⟩
theorem Dp:Qv F.tb L7:=⟨Qs Do _ _ _ _ _ QeW,Do⟩
theorem Dq:Qv F.tb L8:=⟨Qs Dp _ _ _ _ _ QeX,Dp⟩
theorem Ds:Qv F.tb L9:=⟨Qs Dq _ _ _ _ _ QeY,Dq⟩
theorem Dt:Qv F.tb Ka:=⟨Qs Ds _ _ _ _ _ QeZ,Ds⟩
theorem Du:Qv F.tb Kb:=⟨Qs Dt _ _ _ _ _ Qe0,Dt⟩
theorem Dv:Qv F.tb Kc:=⟨Qs Du _ _ _ _ _ Qe1,Du⟩
theorem Dw:Qv F.tb Kd:=⟨Qs Dv _ _ _ _ _ Qe2,Dv⟩
theorem Dx:Qv F.tb Ke:=⟨Qs Dw _ _ _ _ _ Qe3,Dw⟩
theorem Dy:Qv F.tb Kf:=⟨Qs Dx _ _ _ _ _ Qe4,Dx⟩
theorem Dz:Qv F.tb Kg:=⟨Qs Dy _ _ _ _ _ Qe5,Dy⟩
theorem DA:Qv F.tb Kh:=⟨Qs Dz _ _ _ _ _ Qe6,Dz⟩
theorem DB:Qv F.tb Ki:=⟨Qs DA _ _ _ _ _ Qe7,DA⟩
theorem DC:Qv F.tb Kj:=⟨Qs DB _ _ _ _ _ Qe8,DB⟩
theorem DD:Qv F.tb Kk:=⟨Qs DC _ _ _ _ _ Qe9,DC⟩
theorem DE:Qv F.tb Kl:=⟨Qs DD _ _ _ _ _ Qfa,DD⟩
theorem DG:Qv F.tb Km:=⟨Qs DE _ _ _ _ _ Qfb,DE⟩
theorem DH:Qv F.tb Ko:=⟨Qs DG _ _ _ _ _ Qfc,DG⟩
theorem DI:Qv F.tb Kp:=⟨Qs DH _ _ _ _ _ Qfd,DH⟩
theorem DJ:Qv F.tb Kq:=⟨Qs DI _ _ _ _ _ Qfe,DI⟩
theorem DK:Qv F.tb Kr:=⟨Qs DJ _ _ _ _ _ Qff,DJ⟩
theorem DL:Qv F.tb Ks:=⟨Qs DK _ _ _ _ _ Qfg,DK⟩
theorem DM:Qv F.tb Kt:=⟨Qs DL _ _ _ _ _ Qfh,DL⟩
theorem DN:Qv F.tb Ku:=⟨Qs DM _ _ _ _ _ Qfi,DM⟩
theorem DO:Qv F.tb Kv:=⟨Qs DN _ _ _ _ _ Qfj,DN⟩
theorem DP:Qv F.tb Kw:=⟨Qs DO _ _ _ _ _ Qfk,DO⟩
theorem DQ:Qv F.tb Kx:=⟨Qs DP _ _ _ _ _ Qfl,DP⟩
theorem DR:Qv F.tb Ky:=⟨Qs DQ _ _ _ _ _ Qfm,DQ⟩
theorem DS:Qv F.tb Kz:=⟨Qs DR _ _ _ _ _ Qfn,DR⟩
theorem DU:Qv F.tb KA:=⟨Qs DS _ _ _ _ _ Qfo,DS⟩
theorem DV:Qv F.tb KB:=⟨Qs DU _ _ _ _ _ Qfp,DU⟩
theorem DW:Qv F.tb KC:=⟨Qs DV _ _ _ _ _ Qfq,DV⟩
theorem DX:Qv F.tb KD:=⟨Qs DW _ _ _ _ _ Qfr,DW⟩
theorem DY:Qv F.tb KE:=⟨Qs DX _ _ _ _ _ Qfs,DX⟩
theorem DZ:Qv F.tb KF:=⟨Qs DY _ _ _ _ _ Qft,DY⟩
theorem D0:Qv F.tb KH:=⟨Qs DZ _ _ _ _ _ Qfu,DZ⟩
theorem D1:Qv F.tb KI:=⟨Qs D0 _ _ _ _ _ Qfv,D0⟩
theorem D2:Qv F.tb KJ:=⟨Qs D1 _ _ _ _ _ Qfw,D1⟩
theorem D3:Qv F.tb KL:=⟨Qs D2 _ _ _ _ _ Qfx,D2⟩
theorem D4:Qv F.tb KN:=⟨Qs D3 _ _ _ _ _ Qfy,D3⟩
theorem D5:Qv F.tb KO:=⟨Qs D4 _ _ _ _ _ Qfz,D4⟩
theorem D6:Qv F.tb KP:=⟨Qs D5 _ _ _ _ _ QfA,D5⟩
theorem D7:Qv F.tb KQ:=⟨Qs D6 _ _ _ _ _ QfB,D6⟩
theorem D8:Qv F.tb KR:=⟨Qs D7 _ _ _ _ _ QfC,D7⟩
theorem D9:Qv F.tb KS:=⟨Qs D8 _ _ _ _ _ QfD,D8⟩
theorem Ca:Qv F.tb KT:=⟨Qs D9 _ _ _ _ _ QfE,D9⟩
theorem Cb:Qv F.tb KU:=⟨Qs Ca _ _ _ _ _ QfF,Ca⟩
theorem Cc:Qv F.tb KV:=⟨Qs Cb _ _ _ _ _ QfG,Cb⟩
theorem QfI:Qv F.tb Df:=⟨Qs Cc _ _ _ _ _ QfH,Cc⟩
theorem G1:QQ F.tb Df 400 602 [] []=some (.bool true,[]):=by kernel_rfl
theorem De:call F.tb 602 [] []=some (.bool true,[]):=Qs QfI _ _ _ _ _ G1
set_option maxRecDepth 8000
namespace S
def tb:Nat→Option AFn:=fun n=>if n=30 then some (.code F.f30)else if n=31 then some (.code F.f31)else if n=32 then some (.code F.f32)else if n=33 then some (.orc (XQ O1))else none
theorem tb_30:tb 30=some (.code F.f30):=rfl
theorem tb_31:tb 31=some (.code F.f31):=rfl
theorem tb_32:tb 32=some (.code F.f32):=rfl
theorem tb_33:tb 33=some (.orc (XQ O1)):=rfl
theorem Px (a b:Int) (bs:List (List AV)):call S.tb 32 [.int .i64 a,.int .i64 b] bs=some (.int .i64 (if a < b then -1 else if a > b then 1 else 0),bs):=by
 rw[Qa S.tb_32 _ _ rfl];simp[F.f32,F.f32C]
theorem Pp (t:Tm) (bs:List (List AV)) (hm:t.mass < big) (ih: ∀x∈t.kids,∀bs,call S.tb 31 [.agg (Qb x)] bs=some (.int .i64 x.nodes,bs)):
  ∀(post pre:List Tm) (ρ:Nat→AV),t.kids=pre ++ post→ρ 7= .sl false 4 (encTs t.kids)→ρ 8= .int .i64 t.kids.length→ρ 9= .int .i64 pre.length→ρ 3= .int .i64 (1+nodesL pre:Nat)→
  R S.tb (.loop F.f31l0) ρ bs (Qj 0 (Qu S.tb F.f31r0 (Qx F.f31 bs)))=some (.int .i64 t.nodes,bs):=by
 have hm2:=Qp t;have hn:=nodesL_le_mass t.kids;unfold big at hm;intro post
 induction post with
 | nil=>
  intro pre ρ hk h7 h8 h9 h3;rw[Qc F.f31l0.eq_1];simp at hk;simp[h3,h8,h9,← hk,F.f31r0,YM]
 | cons x post IH=>
  intro pre ρ hk h7 h8 h9 h3;have hg:=Qt hk;have hl:=QE hk;have hnn:nodesL t.kids=nodesL pre+ (x.nodes+nodesL post):=by rw[hk,Yu];simp[nodesL]
  have hw1:=wr1 pre.length (by omega);have hw2:IntKind.i64.wrap (1+ (nodesL pre:Int)+ (x.nodes:Int))=1+ (nodesL pre:Int)+ (x.nodes:Int):=QB (by omega) (by omega);have hlt:=QF hk;rw[Qc F.f31l0.eq_1];simp[h3,h7,h8,h9,hg,hw1,hw2,hlt,ih x (by rw[hk];simp)];rw[IH (pre ++ [x])] <;> simp[h3,h7,h8,h9,hk,Yu,nodesL];omega
theorem UO: ∀(t:Tm) (bs:List (List AV)),t.mass < big→call S.tb 31 [.agg (Qb t)] bs=some (.int .i64 t.nodes,bs):=by
 refine ZG ?_;intro k n s ks ih bs hm;rw[Qa S.tb_31 _ _ rfl];simp[F.f31C];refine Pp (.mk k n s ks) bs hm (fun x hx bs=>ih x hx bs ?_) ks [] _ ?_ ?_ ?_ ?_ ?_ <;> (try simp[nodesL]);have:=QC hx;have:=Qp (.mk k n s ks);simp at *;omega
theorem Rx (a b:Int) (bs:List (List AV)):call S.tb 32 [.int .i64 a,.int .i64 b] bs=some (.int .i64 (sgn a b),bs):=Px a b bs
theorem O0 (a b:List UInt8) (bs:List (List AV)):call S.tb 33 [.str a,.str b] bs=some (.int .i64 (Y1 a b),bs):=by
 rw[ZP S.tb_33];rfl
theorem Tk (t u:Tm) (bs:List (List AV)) (hm:t.mass < big) (hu:u.mass < big)
  (ih: ∀x∈t.kids,∀y bs,y.mass < big→call S.tb 30 [.agg (Qb x),.agg (Qb y)] bs=some (.int .i64 (Qh x y),bs)):
  ∀(xs ys pre pre':List Tm) (c:Int) (ρ:Nat→AV),t.kids=pre ++ xs→u.kids=pre' ++ ys→pre.length=pre'.length→(c=0→xs.length=ys.length)→
   ρ 2= .bx (Qb t)→ρ 3= .bx (Qb u)→ρ 5= .int .i64 c→ρ 6= .int .i64 pre.length→
  R S.tb (.loop F.f30l0) ρ bs (Qj 0 (Qu S.tb F.f30r0 (Qx F.f30 bs)))=some (.int .i64 (or0 c (cmpL xs ys)),bs):=by
 have hm2:=Qp t;have hu2:=Qp u;intro xs
 induction xs with
 | nil=>
  intro ys pre pre' c ρ hk hk' hp hc h2 h3 h5 h6;rw[Qc F.f30l0.eq_1];simp at hk;by_cases h0:c=0
  ·simp[h2,h3,h5,h6,h0,F.f30r0,hk,cmpL,L0]
  ·simp[h2,h3,h5,h6,h0,F.f30r0,cmpL,L0]
 | cons x xs IH=>
  intro ys pre pre' c ρ hk hk' hp hc h2 h3 h5 h6;rw[Qc F.f30l0.eq_1];by_cases h0:c=0
  ·obtain⟨y,ys',rfl⟩: ∃y ys',ys=y:: ys':=by
    have:=hc h0;cases ys with
    | nil=>simp at this
    | cons y ys'=>exact⟨y,ys',rfl⟩
   have hg:=Qt hk;have hg':=Qt hk';rw[← hp]at hg';have hl:t.kids.length=pre.length+ (xs.length+1):=by rw[hk];simp
   have hlt: (pre.length:Int) < (t.kids.length:Int):=by omega
   have hym:y.mass < big:=by have:=QC (x:=y) (ks:=u.kids) (by rw[hk'];simp);omega
   unfold big at hm hu;have hw1:=wr1 pre.length (by omega);simp[h2,h3,h5,h6,h0,hlt,hg,hg',hw1,ih x (by rw[hk];simp) y bs hym];rw[IH ys' (pre ++ [x]) (pre' ++ [y]) (Qh x y)] <;> first | omega | (simp[hk,hk',hp,h2,h3,cmpL,W6];done) | (intro _;have:=hc h0;simp at this;omega)
  ·simp[h2,h3,h5,h6,h0,F.f30r0,cmpL,V0]
theorem call_Compare: ∀(t u:Tm) (bs:List (List AV)),t.mass < big→u.mass < big→call S.tb 30 [.agg (Qb t),.agg (Qb u)] bs=some (.int .i64 (Qh t u),bs):=by
 refine ZG ?_;intro k n s ks ih u bs hm hu;have hloop:=Tk (.mk k n s ks) u bs hm hu (fun x hx y bs hy=>ih x hx y bs (by have:=QC hx;have:=Qp (.mk k n s ks);simp at *;omega) hy) ks u.kids [] [] (hdT (.mk k n s ks) u);rw[Qa S.tb_30 _ _ rfl,Uh];have hsz:=UO (.mk k n s ks) bs hm;have hsz':=UO u bs hu;simp[F.f30C,hsz,hsz',Rx,O0];by_cases c1:sgn (Tm.mk k n s ks).nodes u.nodes=0 <;> by_cases c2:sgn k u.kind=0 <;> by_cases c3:Y1 n u.name=0 <;> by_cases c4:sgn s u.sort=0 <;>
  simp[c1,c2,c3,c4,XX] <;> rw[hloop] <;> first | (simp[hdT,c1,c2,c3,c4,W6,V0];done) | (simp[hdT,c1,c2,c3,c4,TE,W6,V0];omega) | skip
end S
open Go.Shelf Go.RowKit Go.Lib Go.Proofs Go.Sort
set_option maxRecDepth 8000
@[reducible] def drT:Dr:=⟨True⟩
theorem BZ {X:Nat→Prop} {w w':World} {m m':Nat→Nat} (h: @Zr drT X w m w' m') (hX: ∀b,b < w.heap.size→¬X b): ∃q os',w'=grow (w.drewN q) os':=by
 letI:=drT
 refine⟨w'.drawn - w.drawn,w'.heap.extract w.heap.size w'.heap.size,?_⟩;have h1:=h.os;have h2:=h.tape;have h3:=h.output;have h4:=h.drawn trivial;have h5:=h.size;have h6:w'.heap=w.heap ++ w'.heap.extract w.heap.size w'.heap.size:=by
  apply Array.ext_getElem?;intro i;rw[Array.getElem?_append];split
  ·rename_i hi;exact(h.same i hi (hX i hi)).1
  ·rename_i hi;rw[Array.getElem?_extract];split
   ·congr 1;omega
   ·rw[Array.getElem?_eq_none (by omega)]
 cases w;cases w'
 simp only[grow,World.drewN]at *;subst h1 h2 h3;congr 1;omega
def Mq (P:Program) (num:Nat→Option Nat) (g:Nat):Prop:=∀(w:World) (m:Nat→Nat) (β:List Blk) (x y:Array Value) (t u:Tm),t.mass < big→u.mass < big→
 Qd num β w m (.agg (Qb t)) (.agg x)→Qd num β w m (.agg (Qb u)) (.agg y)→
 Calls P g #[.agg x,.agg y] w fun e w'=>e= .returned (.int .i64 (Qh t u))∧∃q os',w'=grow (w.drewN q) os'
def FR: @Yh drT:= @Yh.mk drT (fun _=>True) 0 (fun _ _ _ _ _ _ _ _ _=>trivial)
theorem Qdq {P:Program} {num:Nat→Option Nat} {g:Nat} (hn:num 30=some g) (hF: @Mr drT P num FR S.tb):Mq P num g:=by
 intro w m β x y t u ht hu hx hy;have hc:=S.call_Compare t u (List.replicate β.length []) ht hu;obtain⟨n,hn2⟩:=Vm.1 hc;have hK:= @T3 P num S.tb drT FR hF n;have h:=hK 30 g [.agg (Qb t),.agg (Qb u)] (List.replicate β.length []) _ _ hn hn2 rfl w m β (fun _=>none) #[.agg x,.agg y] trivial (Nat.zero_le _) rfl (by
  intro i c hi
  match i with
  | 0=>simp at hi;subst hi;exact⟨_,rfl,hx⟩
  | 1=>simp at hi;subst hi;exact⟨_,rfl,hy⟩
  | i+2=>simp at hi) ⟨by simp,fun i cs k h1 h2 h3=>by
   rw[List.getElem?_replicate]at h1;split at h1
   ·injection h1 with h1;exact absurd h1.symm h3
   ·cases h1⟩ (fun b p h=>by cases h)
 refine h.mono fun e w' he=> ?_;obtain⟨v,m',β',ν',rfl,_,hS,_,_,hR,_,_⟩:=he;simp only[Qd]at hR;subst hR;refine⟨rfl,BZ hS fun b _ hb=> ?_⟩;obtain⟨p,hp⟩:=hb;cases hp
end Go.Am
namespace Go.Am
open Go.RowKit
set_option maxRecDepth 8000
def leT (a b:Tm):Prop:=¬Qh b a < 0
theorem Ln {a b c:Tm} (h1:leT a b) (h2:leT b c):leT a c:=by
 intro h;rcases O3 a b with h3 | h3 | h3
 ·exact h2 (Z0 h h3)
 ·subst h3;exact h2 h
 ·exact h1 h3
theorem J9 {a b:Tm} (h1:leT a b) (h2:leT b a):a=b:=by
 rcases O3 a b with h | h | h
 ·exact absurd h h2
 ·exact h
 ·exact absurd h h1
theorem Ll (t:Tm): ∀l:List Tm,(Vo t l).Perm (t:: l)
 | []=>List.Perm.refl _
 | x:: xs=>by
  simp only[Vo];split
  ·exact((Ll t xs).cons x).trans (List.Perm.swap t x xs)
  ·exact List.Perm.refl _
theorem Mn: ∀l:List Tm,(ZB l).Perm l
 | []=>List.Perm.refl _
 | t:: ts=>(Ll t (ZB ts)).trans ((Mn ts).cons t)
theorem OK {t:Tm}: ∀{l:List Tm},l.Pairwise leT→(Vo t l).Pairwise leT
 | [],_=>by simp[Vo]
 | x:: xs,h=>by
  obtain⟨h1,h2⟩:=List.pairwise_cons.1 h;simp only[Vo];split
  ·rename_i c;refine List.pairwise_cons.2 ⟨fun y hy=> ?_,OK h2⟩;rcases RL.1 hy with rfl | hy
   ·intro h;have:=Z5 y x;omega
   ·exact h1 y hy
  ·rename_i c;refine List.pairwise_cons.2 ⟨fun y hy=> ?_,h⟩;rcases List.mem_cons.1 hy with rfl | hy
   ·exact c
   ·exact Ln c (h1 y hy)
theorem P7: ∀l:List Tm,(ZB l).Pairwise leT
 | []=>List.Pairwise.nil
 | t:: ts=>OK (P7 ts)
theorem HJ {l ts:List Tm} (h1:l.Perm ts) (h2:l.Pairwise leT):l=ZB ts:=
 List.Perm.eq_of_pairwise (le:=leT) (fun a b _ _ h h'=>J9 h h') h2 (P7 ts) (h1.trans (Mn ts).symm)
section
variable {num:Nat→Option Nat} {β:List Blk} {w:World} {m:Nat→Nat}
theorem Qas {x:AV} {ks:List Tm} (h:JI x=some ks): ∃o xs,x= .sl o 4 xs∧decE xs=some ks:=by
 unfold JI at h;split at h
 ·exact⟨_,_,rfl,h⟩
 ·cases h
theorem Qaq {cs:List AV} {t:Tm} (h:PE cs=some t): ∃k n s x ks,cs=[.int .i64 k,.str n,.int .i64 s,x]∧JI x=some ks∧t= .mk k n s ks:=by
 unfold PE at h;split at h
 ·rename_i k n s x;simp only[Option.map_eq_some_iff]at h;obtain⟨ks,h1,rfl⟩:=h;exact⟨k,n,s,x,ks,rfl,h1,rfl⟩
 ·cases h
theorem O4 {x:List AV} {xs:List (List AV)} {ts:List Tm} (h:decE (x:: xs)=some ts): ∃t ts',PE x=some t∧decE xs=some ts'∧ts=t:: ts':=by
 unfold decE at h;split at h
 ·rename_i t ts' h1 h2;injection h with h
  exact⟨t,ts',h1,h2,h.symm⟩
 ·cases h
theorem Rz: ∀{xs:List (List AV)} {ts:List Tm},decE xs=some ts→ts.length=xs.length
 | [],ts,h=>by simp only[decE]at h;injection h with h;subst h;rfl
 | x:: xs,ts,h=>by
  obtain⟨t,ts',_,h2,rfl⟩:=O4 h;simp[Rz h2]
theorem Qar: ∀(t:Tm) (cs:List AV) (g:Nat→Option Value) (o:Nat),PE cs=some t→RepC num β w m cs g o→RepC num β w m (Qb t) g o:=by
 refine ZG ?_;intro k n s ks ih cs g o h hr;have hE: ∀(xs:List (List AV)) (ts:List Tm),(∀t∈ts,t∈ks)→decE xs=some ts→∀(g:Nat→Option Value) (o:Nat),RepE num β w m xs g o 4→RepE num β w m (encTs ts) g o 4:=by
  intro xs
  induction xs with
  | nil=>intro ts _ h g o hr;simp only[decE]at h;injection h with h;subst h;simp only[encTs,RepE]
  | cons x xs IH=>
   intro ts hm h g o hr;obtain⟨t,ts',h1,h2,rfl⟩:=O4 h;simp only[RepE]at hr;simp only[encTs,RepE];exact⟨ZY t,ih t (hm t (by simp)) x g o h1 hr.2.1,IH ts' (fun t ht=>hm t (by simp[ht])) h2 g (o+4) hr.2.2⟩
 obtain⟨k',n',s',x,ks',rfl,h1,h2⟩:=Qaq h;injection h2 with e1 e2 e3 e4
 subst e1 e2 e3 e4;obtain⟨o1,xs,rfl,h3⟩:=Qas h1;simp only[Qb,RepC]at hr ⊢;obtain⟨a1,a2,a3,⟨u,a4,a5,a6⟩,_⟩:=hr;refine⟨a1,a2,a3,⟨u,a4,a5,?_⟩,trivial⟩;simp only[Qd]at a6 ⊢;obtain⟨a,len,cap,b1,b2,b3,b4,b5⟩:=a6;have hl:=Rz h3;refine⟨a,len,cap,b1,by rw[YJ];omega,b3,b4,?_⟩;rcases b5 with rfl | ⟨b,o2,b6,b7⟩
 ·left;simp only[decE]at h3;injection h3 with h3;subst h3;simp[encTs]
 ·exact .inr ⟨b,o2,b6,hE xs ks (fun t ht=>ht) h3 _ _ b7⟩
end
end Go.Am
namespace Go.Am
open Go.Shelf Go.RowKit Go.Lib Go.Proofs Go.Sort
set_option maxRecDepth 8000
structure El (num:Nat→Option Nat) (β:List Blk) (w:World) (m:Nat→Nat) where
 v:List Value
 t:Tm
 len:v.length=4
 one: ∀u∈v,u.oneCell'=true
 rep:Qd num β w m (.agg (Qb t)) (.agg v.toArray)
 mass:t.mass < big
section
variable {num:Nat→Option Nat} {β:List Blk} {w:World} {m:Nat→Nat}
theorem GT {α:Type} [Inhabited α] (enc:α→List Value) (k:Nat) (w:World) (blk off q:Nat) (dk:Array α) (os:Array Obj) (b:Nat) (hb:b < w.heap.size):
  (sortWorldK enc k w blk off q dk os).heap[b]? =if b=blk then(w.heap[b]?).map (onCells (putCells id off (flatK enc k dk)))else w.heap[b]? :=by
 unfold sortWorldK putRowK putRow;rw[heap_grow_old _ _ (by simpa[mapBlock]using hb)];simp only[mapBlock,heap_ahead,Array.getElem?_modify];by_cases h:b=blk
 ·subst h;simp
 ·have: ¬blk=b:=fun e=>h e.symm;simp[h,this]
theorem QeE {α:Type} [Inhabited α] (enc:α→List Value) (k:Nat) (w:World) (blk off q:Nat) (dk:Array α) (os:Array Obj):w.heap.size≤(sortWorldK enc k w blk off q dk os).heap.size:=by
 unfold sortWorldK putRowK putRow;simp[mapBlock]
theorem EN {α:Type} [Inhabited α] (enc:α→List Value) (k:Nat) {blk off q:Nat} (dk:Array α) (os:Array Obj) (hm:m blk=0):Le w m (sortWorldK enc k w blk off q dk os) m:=by
 intro b i u hu;unfold hg at hu ⊢;split at hu
 ·rename_i hi;rw[if_pos hi];have hb:b < w.heap.size:=by
   rcases Nat.lt_or_ge b w.heap.size with h1 | h1
   ·exact h1
   ·exfalso;unfold World.cell? at hu;rw[Array.getElem?_eq_none h1]at hu;cases hu
  have hne: ¬b=blk:=by intro e;subst e;omega
  unfold World.cell? at hu ⊢;rw[GT enc k w blk off q dk os b hb,if_neg hne];exact hu
 ·cases hu
theorem QeF:SWO (ltOf fun x y:El num β w m=>Qh x.t y.t) where
 irrefl:=fun x=>by simp[ltOf,YS]
 trans:=fun x y z h1 h2=>by simp only[ltOf,decide_eq_true_eq]at *;exact Z0 h1 h2
 ntrans:=fun x y z h1 h2=>by
  simp only[ltOf,decide_eq_false_iff_not]at *;exact Ln (a:=z.t) (b:=y.t) (c:=x.t) h2 h1
theorem Qan [Inhabited (El num β w m)] {P:Program} {g blk off size:Nat} (hC:Mq P num g) (hm:m blk=0):CmpLays P g #[] (El.v (num:=num) (β:=β) (w:=w) (m:=m)) 4 (fun x y=>Qh x.t y.t) blk off size w:=by
 intro q os dk hdk x y;have h:=hC (sortWorldK El.v 4 w blk off q dk os) m β x.v.toArray y.v.toArray x.t y.t x.mass y.mass (QW (Ge.refl β) (EN El.v 4 dk os hm) _ _ x.rep) (QW (Ge.refl β) (EN El.v 4 dk os hm) _ _ y.rep);exact h
end
end Go.Am
namespace Go.Am
open Go.Shelf Go.RowKit Go.Lib Go.Proofs Go.Sort
set_option maxRecDepth 8000
theorem JH: ∀{xs:List (List AV)} {ts:List Tm} {j:Nat} {t:Tm},decE xs=some ts→ts[j]? =some t→∃x,xs[j]? =some x∧PE x=some t
 | [],ts,j,t,h,hj=>by simp only[decE]at h;injection h with h;subst h;simp at hj
 | x:: xs,ts,j,t,h,hj=>by
  obtain⟨t0,ts',h1,h2,rfl⟩:=O4 h;cases j with
  | zero=>simp at hj;subst hj;exact⟨x,rfl,h1⟩
  | succ j=>simp at hj;obtain⟨y,h3,h4⟩:=JH h2 hj;exact⟨y,by simpa using h3,h4⟩
section
variable {num:Nat→Option Nat} {β:List Blk} {w:World} {m:Nat→Nat} {ν:Own}
theorem Qer {cur:Array Value} {cs:List AV} {o n:Nat} {ts:List Tm} (hcs:o+n*4≤cs.length)
  (hc: ∀(i:Nat) (c:AV),cs[i]? =some c→∃u,cur[i]? =some u∧u.oneCell'=true∧Qd num β w m c u) (hd:decE (Q5 cs o 4 n)=some ts) (hm: ∀t∈ts,t.mass < big):
  ∃d:List (El num β w m),d.length=n∧d.map (·.t)=ts∧∀(j:Nat) (e:El num β w m) (c:Nat),d[j]? =some e→c < 4→cur[o+j*4+c]? =e.v[c]? :=by
 have hlen:ts.length=n:=by rw[Rz hd,Y6]
 have hex: ∀(j:Nat) (hj:j < n),∃e:El num β w m,some e.t=ts[j]? ∧∀(c:Nat),c < 4→cur[o+j*4+c]? =e.v[c]? :=by
  intro j hj;obtain⟨t,ht⟩: ∃t,ts[j]? =some t:=⟨_,List.getElem?_eq_getElem (by omega)⟩;obtain⟨x,hx,hdx⟩:=JH hd ht;obtain⟨_,rfl⟩:=VU hx;have hu: ∀(c:Nat),c < 4→∃u,cur[o+j*4+c]? =some u∧u.oneCell'=true∧∀(cc:AV),cs[o+j*4+c]? =some cc→Qd num β w m cc u:=by
   intro c hc4;have hlt:o+j*4+c < cs.length:=by omega
   obtain⟨u,h1,h2,h3⟩:=hc _ _ (List.getElem?_eq_getElem hlt);exact⟨u,h1,h2,fun cc hcc=>by rw[List.getElem?_eq_getElem hlt]at hcc;injection hcc with hcc;subst hcc;exact h3⟩
  obtain⟨u0,a0,b0,c0⟩:=hu 0 (by omega);obtain⟨u1,a1,b1,c1⟩:=hu 1 (by omega);obtain⟨u2,a2,b2,c2⟩:=hu 2 (by omega);obtain⟨u3,a3,b3,c3⟩:=hu 3 (by omega);have hrep:RepC num β w m (((cs.drop (o+j*4)).take 4).map AV.strip) (fun i=>[u0,u1,u2,u3][i]?) 0:=by
   rw[Zk];intro i c hi;obtain⟨c',hc',rfl⟩:=QS hi;have hi4:i < 4:=by
    rcases Nat.lt_or_ge i 4 with h | h
    ·exact h
    ·rw[List.getElem?_eq_none (by rw[List.length_take];omega)]at hc';cases hc'
   rw[List.getElem?_take_of_lt hi4,List.getElem?_drop]at hc'
   match i,hi4,hc' with
   | 0,_,hc'=>exact⟨u0,rfl,b0,(QA _ _).2 (c0 _ hc')⟩
   | 1,_,hc'=>exact⟨u1,rfl,b1,(QA _ _).2 (c1 _ hc')⟩
   | 2,_,hc'=>exact⟨u2,rfl,b2,(QA _ _).2 (c2 _ hc')⟩
   | 3,_,hc'=>exact⟨u3,rfl,b3,(QA _ _).2 (c3 _ hc')⟩
  refine⟨⟨[u0,u1,u2,u3],t,rfl,by simp[b0,b1,b2,b3],?_,hm t (List.mem_of_getElem? ht)⟩,ht.symm,?_⟩
  ·simp only[Qd];exact⟨_,rfl,by simp,RepC_mono (Ge.refl β) (Le.refl w m) _ _ _ 0 (fun i u h=>by simpa using h) (Qar t _ _ 0 hdx hrep)⟩
  ·intro c hc4
   match c,hc4 with
   | 0,_=>simpa using a0
   | 1,_=>simpa using a1
   | 2,_=>simpa using a2
   | 3,_=>simpa using a3
 refine⟨List.ofFn fun j:Fin n=>Classical.choose (hex j.1 j.2),by simp,?_,?_⟩
 ·apply List.ext_getElem?;intro j;rw[List.getElem?_map,List.getElem?_ofFn];split
  ·rename_i hj;rw[Option.map_some];exact(Classical.choose_spec (hex j hj)).1
  ·rename_i hj;rw[List.getElem?_eq_none (by omega)];rfl
 ·intro j e c hj hc4;rw[List.getElem?_ofFn]at hj;split at hj
  ·rename_i hjn;injection hj with hj
   subst hj;exact(Classical.choose_spec (hex j hjn)).2 c hc4
  ·cases hj
end
end Go.Am
namespace Go.Am
open Go.Shelf Go.RowKit Go.Lib Go.Proofs Go.Sort
set_option maxRecDepth 8000
theorem JT: ∀{l:List Tm} {r:Nat} {c:AV},(encTs l).flatten[r]? =some c→∃t,l[r / 4]? =some t∧(Qb t)[r % 4]? =some c
 | [],r,c,h=>by simp[encTs]at h
 | x:: l,r,c,h=>by
  simp only[encTs,List.flatten_cons]at h;by_cases hr:r < 4
  ·rw[List.getElem?_append_left (by rw[ZY];exact hr)]at h;exact⟨x,by rw[Nat.div_eq_of_lt hr];rfl,by rw[Nat.mod_eq_of_lt hr];exact h⟩
  ·rw[List.getElem?_append_right (by rw[ZY];omega),ZY]at h;obtain⟨t,h1,h2⟩:=JT h;refine⟨t,?_,?_⟩
   ·rw[show r / 4=(r - 4) / 4+1 by omega];simpa using h1
   ·rw[show r % 4=(r - 4) % 4 by omega];exact h2
theorem QbB [Dr] (hD: ¬Dr.d) {P:Program} {num:Nat→Option Nat} {Γ:Yh} {id:Nat} {ρ:Ren} (L:SlLaysF0.n6 P ρ) (hid:ρ.f 6=id) (aE: ∀w,(isAgg (ρ.t 24)).run P w= .ok true w) (zE: ∀w,(Go.sizeOf (ρ.t 24)).run P w= .ok 4 w)
  (hgC: ∀g,num 30=some g→Mq P num g∧∀args w,(callFunc g args).run P w= .ok (.enter g args) w):VO P num Γ T0 id:=by
 intro args bs r bs' hc hok w m β ν vs hG hGb hvs hrep hbox hlt;subst hid;unfold T0 at hc;split at hc
 ·rename_i i o sz n;obtain⟨u0,hu0,hr0⟩:=hrep 0 _ rfl;obtain⟨u1,hu1,hr1⟩:=hrep 1 _ rfl;have hvs':=Fm hvs hu0 hu1;subst hvs';simp only[Qd]at hr0 hr1;obtain⟨a,cap,rfl,hcap1,hcap2,hcase⟩:=hr0;obtain⟨g,us,hg1,rfl,hus,_⟩:=hr1;have hus0:us= #[]:=Array.eq_empty_of_size_eq_zero (by simpa using hus);subst hus0;obtain⟨hC,eg⟩:=hgC g hg1;have hν: ∀b p,ν b=some p→b < w.heap.size∧(w.heap.size≤b∨∃q,ν b=some q)∧(p.isG=true∨p= .f):=fun b p h=>⟨(hlt b p h).1,.inr ⟨p,h⟩,.inl (hlt b p h).2.2⟩;by_cases hn:n=0
  ·subst hn;rw[if_pos rfl]at hc;injection hc with hc
   injection hc with e1 e2
   subst e1 e2;refine(AnyF.slices_SortFunc_none L a cap _ w).mono ?_
   rintro e w' ⟨rfl,rfl⟩
   exact⟨.tuple #[],m,β,ν,rfl,Ge.refl β,Zr.refl _ _ _,hbox,rfl,by simp only[Qd];exact⟨_,rfl,rfl,trivial⟩,trivial,hν⟩
  ·rw[if_neg hn]at hc;split at hc
   ·rename_i hc1;obtain⟨rfl,hn62⟩:=hc1;cases hbs:bs[i]? with
    | none=>rw[hbs]at hc;cases hc
    | some cs=>
     rw[hbs]at hc;simp only[Option.bind_some]at hc;split at hc
     ·rename_i hle;cases hdec:decE (Q5 cs o 4 n)with
      | none=>rw[hdec]at hc;cases hc
      | some ts=>
       rw[hdec]at hc;simp only[Option.bind_some]at hc;split at hc
       ·rename_i hall;injection hc with hc
        injection hc with e1 e2
        subst e1 e2;rcases hcase with⟨h0,_⟩ | ⟨k,⟨hk,hkm⟩,rfl,hz,_⟩
        ·exact absurd h0 hn
        have hne:cs≠[]:=by intro e;subst e;simp at hle;omega
        obtain⟨cur,et,hcur,⟨hcs1,hcs2⟩,hm0,hnu,hcells⟩:=(hbox.2 i cs k hbs hk hne).1 hkm;have hmass: ∀t∈ts,t.mass < big:=fun t ht=>by simpa using List.all_eq_true.1 hall t ht
        obtain⟨d,hdl,hdt,hdv⟩:=Qer (cur:=cur) hle (fun j c hj=>by obtain⟨u,a1,a2,a3,_⟩:=hcells j c hj;exact⟨u,a1,a2,a3⟩) hdec hmass;have hd0:0 < d.length:=by omega
        letI:Inhabited (El num β w m):=⟨d[0]⟩
        have hblk:k.b < w.heap.size:=(hlt _ _ hnu).1;have hsz:d.toArray.size=n:=by simp[hdl]
        have hH:HoldsK (El.v (num:=num) (β:=β) (w:=w) (m:=m)) 4 w k.b o d.toArray:=by
         intro j hj;rw[size_flatK,hsz]at hj;have hj4:j / 4 < n:=by omega
         have he:d[j / 4]? =some d[j / 4]:=List.getElem?_eq_getElem (by omega);have h1:=hdv (j / 4) _ (j % 4) he (by omega);have h2:o+j / 4*4+j % 4=o+j:=by omega
         rw[h2]at h1;rw[get_flatK _ _ _ _ (by rw[hsz];exact hj)];have h3:d.toArray[j / 4]! =d[j / 4]:=by rw[getElem!_pos _ _ (by rw[hsz];exact hj4)];simp
         rw[h3];have h4:d[j / 4].v[j % 4]? =some d[j / 4].v[j % 4]! :=by
          rw[getElem!_pos _ _ (by rw[El.len];omega)];exact List.getElem?_eq_getElem _
         rw[h4]at h1;refine⟨?_,?_⟩
         ·unfold World.cell?;rw[hcur];simpa using h1
         ·unfold World.frozen?;rw[hcur];simp
        have hcall:=AnyQ.slices_SortFunc L 4 aE zE El.v El.len El.one (fun x y=>Qh x.t y.t) QeF g #[] k.b o cap d.toArray w eg (Qan hC hm0) hH hblk (by rw[hsz];exact hn62);rw[hsz]at hcall;refine hcall.mono ?_
        rintro e w' ⟨rfl,d',q,os,hP,hS,rfl⟩
        have hd't: (d'.toList.map (·.t))=ZB ts:=by
         refine HJ ?_ ?_
         ·rw[← hdt];have hp:=hP.2.2;have e1:d'.extract 0 n=d':=by rw[← hsz,← hP.1];exact Array.extract_size
          have e2:d.toArray.extract 0 n=d.toArray:=by rw[← hsz];exact Array.extract_size
          rw[e1,e2]at hp;exact hp.map _
         ·rw[List.pairwise_iff_getElem];intro x y hx hy hxy;have hd's:d'.size=n:=by rw[hP.1,hsz]
          simp at hx hy;have:=hS x y (Nat.zero_le _) hxy (by omega);rw[getElem!_pos d' y (by omega),getElem!_pos d' x (by omega)]at this;simp only[ltOf,decide_eq_false_iff_not]at this;simp only[List.getElem_map,Array.getElem_toList];exact this
        have hle':=EN (w:=w) (m:=m) (El.v (num:=num) (β:=β) (w:=w) (m:=m)) 4 (q:=q) (off:=o) d' os hm0;have hsz':=QeE (El.v (num:=num) (β:=β) (w:=w) (m:=m)) 4 w k.b o q d' os;have hheap:=GT (El.v (num:=num) (β:=β) (w:=w) (m:=m)) 4 w k.b o q d' os;have hd's:d'.size=n:=by rw[hP.1,hsz]
        generalize hW:sortWorldK (El.v (num:=num) (β:=β) (w:=w) (m:=m)) 4 w k.b o q d' os=w' at *;have hoth: ∀b,b < w.heap.size→b≠k.b→w'.heap[b]? =w.heap[b]? :=fun b hb hbk=>by rw[hheap b hb,if_neg hbk]
        have keep: ∀p,p≠ .g i→T2 w m ν w' m ν id p:=fun p hp b hb=>by
         refine⟨hoth b (hlt b p hb).1 fun e=> ?_,rfl,hb⟩;subst e;rw[hnu]at hb;injection hb with hb;exact hp hb.symm
        refine⟨.tuple #[],m,β,ν,rfl,Ge.refl β,⟨?_,?_,?_,hsz',fun b hb hx=>⟨hoth b hb fun e=>hx ⟨.g i,by rw[e];exact hnu⟩,rfl⟩,hle',fun hd=>absurd hd hD⟩,⟨?_,?_⟩,rfl,by simp only[Qd];exact⟨_,rfl,rfl,trivial⟩,trivial,fun b p h=>⟨Nat.lt_of_lt_of_le (hlt b p h).1 hsz',.inr ⟨p,h⟩,.inl (hlt b p h).2.2⟩⟩
        ·rw[← hW];rfl
        ·rw[← hW];rfl
        ·rw[← hW];rfl
        ·rw[List.length_set];exact hbox.1
        ·intro i2 cs2 k2 h1 h2 h3;by_cases hi:i2=i
         ·subst hi;have hk2:k2=k:=by rw[hk]at h2;injection h2 with h2;exact h2.symm
          subst hk2;have hil:i2 < bs.length:=by
           rcases Nat.lt_or_ge i2 bs.length with h | h
           ·exact h
           ·rw[List.getElem?_eq_none h]at hbs;cases hbs
          rw[List.getElem?_set,if_pos rfl,if_pos hil]at h1;injection h1 with h1
          subst h1;refine⟨fun _=> ?_,fun e=>by rw[hkm]at e;cases e⟩;have hfl: (encTs (ZB ts)).flatten.length=n*4:=by
           have: ∀l:List Tm,(encTs l).flatten.length=l.length*4:=by
            intro l
            induction l with
            | nil=>simp[encTs]
            | cons x l ih=>simp only[encTs,List.flatten_cons,List.length_append,ZY,ih,List.length_cons];omega
           rw[this,XB,Rz hdec,Y6]
          refine⟨putCells id o (flatK El.v 4 d') cur,et,?_,⟨?_,?_⟩,hm0,hnu,?_⟩
          ·rw[hheap _ hblk,if_pos rfl,hcur];rfl
          ·simp[putCells,hcs1]
          ·simp only[put,List.length_append,List.length_take,List.length_drop,hfl];omega
          ·intro j c hj;have hFs: (flatK (El.v (num:=num) (β:=β) (w:=w) (m:=m)) 4 d').size=n*4:=by rw[size_flatK,hd's]
           have hpc: ∀x:Value,cur[j]? =some x→(putCells id o (flatK (El.v (num:=num) (β:=β) (w:=w) (m:=m)) 4 d') cur)[j]? =some (if o≤j∧j < o+n*4 then(flatK (El.v (num:=num) (β:=β) (w:=w) (m:=m)) 4 d')[j - o]! else x):=by
            intro x hx;simp only[putCells,Array.getElem?_mapIdx,hx,Option.map_some,hFs,id]
           have hto: (cs.take o).length=o:=by rw[List.length_take];omega
           by_cases hin:o≤j∧j < o+n*4
           ·obtain⟨rr,rfl⟩: ∃rr,j=o+rr:=⟨j - o,by omega⟩;have hr:rr < n*4:=by omega
            have hjc: (encTs (ZB ts)).flatten[rr]? =some c:=by
             simp only[put]at hj;rw[List.append_assoc,List.getElem?_append_right (by omega),hto,Nat.add_sub_cancel_left,List.getElem?_append_left (by omega)]at hj;exact hj
            obtain⟨t,ht,hcc⟩:=JT hjc;have hcu: ∃x,cur[o+rr]? =some x:=⟨cur[o+rr]'(by omega),Array.getElem?_eq_getElem _⟩;obtain⟨x,hx⟩:=hcu;have hq:rr / 4 < d'.size:=by omega
            have hdt':d'[rr / 4].t=t:=by
             rw[← hd't,List.getElem?_map]at ht;rw[show d'.toList[rr / 4]? =some d'[rr / 4] by rw[Array.getElem?_toList];exact Array.getElem?_eq_getElem hq]at ht;simpa using ht
            have hrep':=d'[rr / 4].rep;rw[hdt']at hrep';simp only[Qd]at hrep';obtain⟨us,hus1,hus2,hus3⟩:=hrep';injection hus1 with hus1
            subst hus1;obtain⟨u,g1,g2,g3⟩:=(Zk _ _ _).1 hus3 _ c hcc;have hu: (flatK (El.v (num:=num) (β:=β) (w:=w) (m:=m)) 4 d')[rr]! =u:=by
             rw[get_flatK _ _ _ _ (by rw[hd's];exact hr),getElem!_pos d' _ hq];have h4:rr % 4 < d'[rr / 4].v.length:=by rw[El.len];omega
             have hgp:d'[rr / 4].v[rr % 4]! =d'[rr / 4].v[rr % 4]:=getElem!_pos d'[rr / 4].v (rr % 4) h4;rw[hgp];simp at g1;rw[List.getElem?_eq_getElem h4]at g1;injection g1
            refine⟨u,?_,g2,QW (Ge.refl β) hle' _ _ g3,?_⟩
            ·rw[hpc x hx,if_pos hin,Nat.add_sub_cancel_left,hu]
            ·have h4:rr % 4 < 4:=by omega
             rw[Q6]at hcc
             match hm4:rr % 4,h4,hcc with
             | 0,_,hcc=>simp at hcc;subst hcc;exact trivial
             | 1,_,hcc=>simp at hcc;subst hcc;exact trivial
             | 2,_,hcc=>simp at hcc;subst hcc;exact trivial
             | 3,_,hcc=>simp at hcc;subst hcc;exact trivial
           ·have hjc:cs[j]? =some c:=by
             simp only[put]at hj;by_cases hjo:j < o
             ·rw[List.append_assoc,List.getElem?_append_left (by omega),List.getElem?_take_of_lt hjo]at hj;exact hj
             ·rw[List.getElem?_append_right (by rw[List.length_append];omega),List.length_append,hto,List.getElem?_drop,hfl]at hj;have:o+n*4+ (j - (o+n*4))=j:=by omega
              rw[this]at hj;exact hj
            obtain⟨u,g1,g2,g3,g4⟩:=hcells j c hjc;refine⟨u,?_,g2,QW (Ge.refl β) hle' _ _ g3,Xy (θ:=id) (keep _ (by simp)) g4⟩;rw[hpc u g1,if_neg hin]
         ·rw[List.getElem?_set,if_neg (fun e=>hi e.symm)]at h1;have hB:=hbox.2 i2 cs2 k2 h1 h2 h3;exact Xx (Ge.refl β) hle' (keep _ (by simp[hi])) (fun j=>keep _ (by simp)) hB
       ·cases hc
     ·cases hc
   ·cases hc
 ·cases hc
theorem QbA {P:Program} {num:Nat→Option Nat} {g0:Nat} (hE:XE P num) (hn:num 30=some g0) (hC:Mq P num g0): ∀g,num 30=some g→Mq P num g∧∀args w,(callFunc g args).run P w= .ok (.enter g args) w:=by
 intro g hg;rw[hn]at hg;injection hg with hg
 subst hg;obtain⟨fn,h1,h2,h3⟩:=hE 30 g0 hn;exact⟨hC,fun args w=>Ld h1 h2 h3⟩
end Go.Am
namespace Go.Am
open Go.Shelf Go.RowKit Go.Lib Go.Proofs
set_option maxRecDepth 8000
theorem QbN [Dr] {P:Program} {num:Nat→Option Nat} {Γ:Yh} (hD: ¬Dr.d) {g:Nat} (hC: ∀(s cs:ByteArray) (w:World),s.size≤9223372036854775807→cs.size < 4294967281→(∀(j:Nat) b,cs.data.toList[j]? =some b→b.toNat < 128)→
  Calls P g #[.string s,.string cs] w fun e w'=>e= .returned (.string ⟨(Lib.trimS s.data.toList cs.data.toList).toArray⟩)∧Below w.heap.size w w'):VO P num Γ (XQ Mo) g:=by
 refine Iy (Mh fun args r hr w m β vs hG hvs hrep=> ?_);unfold Mo at hr;split at hr
 ·rename_i s cs;split at hr
  ·rename_i hcond;injection hr with hr
   subst hr;simp only[Bool.and_eq_true,decide_eq_true_eq]at hcond;obtain⟨⟨c1,c2⟩,c3⟩:=hcond;obtain⟨u,h0,h1⟩:=hrep 0 _ rfl;obtain⟨u2,h2,h3⟩:=hrep 1 _ rfl;simp only[Qd]at h1 h3;subst h1 h3;rw[Fm hvs h0 h2];have asc: ∀l:List UInt8,l.all (· < 128)=true→∀(j:Nat) b,(⟨l.toArray⟩:ByteArray).data.toList[j]? =some b→b.toNat < 128:=fun l hl j b hj=>by
    rw[VT]at hj;rw[List.all_eq_true]at hl;have:=hl b (List.mem_of_getElem? hj);have h2:=of_decide_eq_true this;rw[UInt8.lt_iff_toNat_lt]at h2;exact h2
   refine(hC _ _ w (by rw[NG];omega) (by rw[NG];omega) (asc cs c1)).mono fun e w' he=> ?_;obtain⟨rfl,hB⟩:=he;rw[VT,VT];exact⟨_,rfl,hB,fun h=>absurd h hD,rfl,fun _ _=>by simp only[Qd],fun _ _ _=>trivial⟩
  ·cases hr
 ·cases hr
theorem QaO [Dr] {P:Program} {num:Nat→Option Nat} {Γ:Yh} (hD: ¬Dr.d) {ρ:Ren} {id sz bytes:Nat} (L:Lays8.n4 P ρ) (hid:ρ.f 4=id) {i0:TypeInfo} {z:Value} (hi0:P.info? (ρ.t 25)=some i0) (hz0:i0.zero=some z) (hsz:i0.size=sz) (hby:i0.bytes=bytes) (hs0:0 < sz)
  (hzc:z.cells.size=sz):VO P num Γ (Ot bytes sz) id:=by
 intro args bs r bs' hc hok w m β ν vs hG hGb hvs hrep hbox hlt;subst hid hsz hby;unfold Ot at hc;split at hc
 ·rename_i i o n;split at hc
  ·rename_i hcond;injection hc with hc
   injection hc with e1 e2
   subst e1 e2;obtain⟨c1,c2,c3⟩:=hcond;obtain⟨u0,hu0,hr0⟩:=hrep 0 _ rfl;obtain⟨u1,hu1,hr1⟩:=hrep 1 _ rfl;simp only[Qd]at hr0 hr1;subst hr1;obtain⟨a,cap,rfl,hcap1,hcap2,hcase⟩:=hr0;have hcap:cap=0:=by
    rcases hcase with⟨_,h,_⟩ | ⟨_,_,_,_,h⟩
    ·exact h
    ·omega
   subst hcap;rw[Fm hvs hu0 hu1];obtain⟨q,rfl⟩: ∃q:Nat,n=(q:Int):=⟨n.toNat,by omega⟩;simp only[Int.toNat_natCast]at c2;have hν: ∀b p,ν b=some p→b < w.heap.size∧(w.heap.size≤b∨∃q,ν b=some q)∧(p.isG=true∨p= .f):=fun b p h=>⟨(hlt b p h).1,.inr ⟨p,h⟩,.inl (hlt b p h).2.2⟩;by_cases hq:q=0
   ·subst hq;refine(Any8.slices_Grow_room L a 0 0 0 w (Nat.le_refl _) (by omega) (by omega) (by omega)).mono ?_
    rintro e w' ⟨rfl,rfl⟩
    refine⟨.slice a 0 0,m,β,ν,rfl,Ge.refl β,Zr.refl _ _ _,hbox,rfl,?_,.inl ⟨a,rfl⟩,hν⟩;simp only[Qd];exact⟨a,0,0,rfl,rfl,Nat.le_refl _,Nat.zero_le _,.inl trivial⟩
   ·refine(Any8.slices_Grow_grow L i0 z hi0 hz0 hs0 a 0 0 q [] w (Nat.le_refl _) (by omega) (by simpa using c2) (by omega) (by simp) (fun _=>rfl) (fun _ _ j v h=>by simp at h)).mono ?_
    rintro e w' ⟨rfl,rfl⟩
    have hge:=grownCap_ge w (0+q) 0 (ρ.t 25);have hmx:=grownCap_le_maxLen w (0+q) 0 (ρ.t 25) (by unfold maxLen;omega);generalize grownCap w (0+q) 0 (ρ.t 25)=G at *;obtain⟨R,hR⟩: ∃R:Array Value,R=([]:List Value).toArray ++ Builtin.zeroCells z.cells (0+q - 0)++ Builtin.zeroCells z.cells (G - (0+q)):=⟨_,rfl⟩;have hRs:R.size=G*i0.size:=by
     rw[hR];simp only[Array.size_append,W8 _ i0.size _ hzc,List.size_toArray,List.length_nil];rw[Nat.zero_add,← Nat.add_mul];congr 1;omega
    rw[← hR];have hheap: (w.drew.alloc (.cells R (ρ.t 25))).heap=w.heap.push (.cells R (ρ.t 25)):=rfl;have hdr: (w.drew.alloc (.cells R (ρ.t 25))).os=w.os∧(w.drew.alloc (.cells R (ρ.t 25))).tape=w.tape∧(w.drew.alloc (.cells R (ρ.t 25))).output=w.output:=⟨rfl,rfl,rfl⟩;generalize w.drew.alloc (.cells R (ρ.t 25))=w' at *;have hsz1:w'.heap.size=w.heap.size+1:=by rw[hheap,Array.size_push]
    have hold: ∀b,b < w.heap.size→w'.heap[b]? =w.heap[b]? :=fun b hb=>by
     rw[hheap,Array.getElem?_push_lt hb];exact(Array.getElem?_eq_getElem hb).symm
    have hnew:w'.heap[w.heap.size]? =some (.cells R (ρ.t 25)):=by rw[hheap];exact Array.getElem?_push_size
    have hne: ∀b p,ν b=some p→b≠w.heap.size:=fun b p h=>by have:=(hlt b p h).1;omega
    have hle:Le w m w' (m1 m w.heap.size 0):=by
     intro b i u hu;unfold hg at hu ⊢;split at hu
     ·rename_i hi;have hb:b < w.heap.size:=by
       rcases Nat.lt_or_ge b w.heap.size with h1 | h1
       ·exact h1
       ·exfalso;unfold World.cell? at hu;rw[Array.getElem?_eq_none h1]at hu;cases hu
      have hm1:m1 m w.heap.size 0 b=m b:=by unfold m1;rw[if_neg (by omega)]
      rw[hm1,if_pos hi];unfold World.cell? at hu ⊢;rw[hold b hb];exact hu
     ·cases hu
    have keep: ∀p,T2 w m ν w' (m1 m w.heap.size 0) (Zw ν w.heap.size .f) id p:=fun p b hb=>
     ⟨hold b (hlt b p hb).1,by unfold m1;rw[if_neg (hne b p hb)],by unfold Zw;rw[if_neg (hne b p hb)];exact hb⟩
    refine⟨_,m1 m w.heap.size 0,β,Zw ν w.heap.size .f,rfl,Ge.refl β,⟨hdr.1,hdr.2.1,hdr.2.2,by omega,fun b hb _=>⟨hold b hb,by unfold m1;rw[if_neg (by omega)]⟩,hle,fun h=>absurd h hD⟩,⟨hbox.1,fun i cs k h1 h2 h3=>Xx (Ge.refl β) hle (keep _) (fun j=>keep _) (hbox.2 i cs k h1 h2 h3)⟩,rfl,?_,.inr ⟨w.heap.size,G,R,_,rfl,hnew,hRs,by unfold m1;simp,by unfold Zw;simp⟩,?_⟩
    ·simp only[Qd];exact⟨_,0,G,rfl,rfl,Nat.zero_le _,hmx,.inl trivial⟩
    ·intro b p hp;unfold Zw at hp;split at hp
     ·rename_i hb;injection hp with hp
      subst hb hp;exact⟨by omega,.inl (Nat.le_refl _),.inr rfl⟩
     ·have:=hν b p hp;exact⟨by omega,this.2⟩
  ·cases hc
 ·cases hc
theorem CZ [Dr] {P:Program} {num:Nat→Option Nat} {Γ:Yh} (hD: ¬Dr.d) {ρ:Ren} {id sz bytes:Nat} (L:Lays8.n4 P ρ) (hid:ρ.f 4=id) {z:Value}
  (hi: (P.info? (ρ.t 25)).map (fun i=>(i.zero,i.size,i.bytes))=some (some z,sz,bytes)) (hs0:0 < sz) (hzc:z.cells.size=sz):VO P num Γ (Ot bytes sz) id:=by
 cases h:P.info? (ρ.t 25)with
 | none=>rw[h]at hi;cases hi
 | some i0=>
  rw[h]at hi;simp only[Option.map_some,Option.some.injEq,Prod.mk.injEq]at hi;exact QaO hD L hid h hi.1 hi.2.1 hi.2.2 hs0 hzc
end Go.Am
namespace Go.Am
open Go.RowKit
end Go.Am
