/-
  Kn7, Kn9, Kn10, Kn11, Kn12, Kn13, Kn14, Kn15, Kn16, Kn17, Kn18, Kn20, Kn25, Kn26, Kn27, Kn28, Kn29, Kn30, Kn31, Kn32, Kn33, Kn34, Kn35, Kn50, Kn51, Pf1.
-/
import Derived.Test.YtmlbijpbecpjoaaGreatDoorG22
import Derived.Test.YtmlbijpbecpjoaaGreatDoorG21
set_option linter.all false
open Go.Am.F
namespace Go.Am
set_option maxRecDepth 20000
def Wk {α:Type} {B:List α} {i:Nat} {x:α} (h:B[i]? =some x) (M:List α): (B ++ M)[i]? =some x:=by
 rw[ZM (WQ h)];exact h
def QiG {α:Type} (B:List α) (x:α) (M:List α): (B ++ x:: M)[B.length]? =some x:=by simp
def TSg.app {B:Qa} {v:AV} {l:Qe} (h:TSg B v l) (M:Qa):TSg (B ++ M) v l:=by
 obtain⟨id,sz,e,c,hc⟩:=h;exact⟨id,sz,e,c,fun hn=>⟨(hc hn).1,Wk (hc hn).2 M⟩⟩
abbrev Ak:=Nat×List W64×List W64
def Qp1 (x:Ak):AV:= .agg [.int .i64 (x.1:Int),.sl false 1 (QgB x.2.1)]
def Qp0 (x:Ak):AV:= .agg [.int .i64 (x.1:Int),.sl false 1 (QgB x.2.2)]
def SY (B:Qa) (b0:Nat) (C:Qe) (n:Nat) (RS:List Ak):Prop:=∃(idC szC:Nat) (c:Qh) (vb:AV),
 B[b0+2]? =some [.gs idC 0 szC C.length,.int .i64 (n:Int),.mp b0,.mp (b0+1),vb]/\B[b0]? =some (.undef:: RS.map Qp1)/\B[b0+1]? =some (.undef:: RS.map Qp0)/\
 (C≠[]->szC=4/\b0+2 < idC/\B[idC]? =some (Qy C ++ c))/\
 (vb= .gs 0 0 0 0\/∃(idb:Nat) (ks:Qh),vb= .gs idb 0 1 ks.length/\ks≠[]/\b0+2 < idb/\(C≠[]->idC < idb)/\B[idb]? =some ks/\ks.length<=RS.length)
def SY.app {B:Qa} {b0:Nat} {C:Qe} {n:Nat} {RS:List Ak} (h:SY B b0 C n RS) (M:Qa):SY (B ++ M) b0 C n RS:=by
 obtain⟨idC,szC,c,vb,h1,h2,h3,h4,h5⟩:=h;refine⟨idC,szC,c,vb,Wk h1 M,Wk h2 M,Wk h3 M,fun hn=>⟨(h4 hn).1,(h4 hn).2.1,Wk (h4 hn).2.2 M⟩,?_⟩;rcases h5 with h5 | ⟨idb,ks,q1,q2,q3,q4,q5,q6⟩
 ·exact .inl h5
 ·exact .inr ⟨idb,ks,q1,q2,q3,q4,Wk q5 M,q6⟩
def QmH:Qe->Qe
 | []=>[]
 | x:: r=>ZP x ++ QmH r
def SL (B0 B:Qa):Prop:=∃M,B=B0 ++ M
def SL.app {B0 B:Qa} (h:SL B0 B) (M:Qa):SL B0 (B ++ M):=by
 obtain⟨M0,rfl⟩:=h;exact⟨M0 ++ M,by simp⟩
def SL.set {B0 B:Qa} (h:SL B0 B) {i:Nat} (hi:B0.length<=i) (x:Qh):SL B0 (B.set i x):=by
 obtain⟨M0,rfl⟩:=h;exact⟨_,Wj hi x⟩
def Qdz (l:Qe) (t:Tm):Int:=if 200 < l.length then 3 else VP (l ++ [t])
def F2 {N:Nat}: ∀(l:QJ) (a:Int),l.Pairwise (· < ·)->(∀x∈l,a<=x/\x < a+N)->l.length<=N
 | [],_,_,_=>by simp
 | x:: xs,a,h,hb=>by
  obtain⟨h1,h2⟩:=VK.1 h;obtain⟨b1,b2⟩:=hb x (by simp);have hN: (0:Int) < N:=by omega
  have ih:=F2 (N:=N - 1) xs (a+1) h2 (fun y hy=>by
   have c1:=h1 y hy;have c2:=hb y (by simp[hy]);omega)
  simp only[ZL];omega
def IP (l:QJ): (Q7 l).length=l.length:=by simp[Q7]
def IV (N:Nat) (l:QJ):Prop:=l.Pairwise (· < ·)/\∀x∈l,(0:Int)<=x/\x < N
def IV.len {N:Nat} {l:QJ} (h:IV N l):l.length<=N:=F2 l 0 h.1 (by simpa using h.2)
def Qp8 (s:Qe) (u:Tm):Qe:=ZP u ++ QmH (s.filter fun t=>isB t XOR)
def Qqb (m:Qe) (t:Tm):Bool:=isB t XOR || Rz m t
def QnN (s:Qe) (u:Tm):Qe:=s.filter (Qqb (Qp8 s u))
structure SH (s:List Tm) (u:Tm):Prop where
 len:s.length<=200
 nod:QB s+u.nodes < 90000
 mass: ∀x∈s,x.mass < 1000000
 um:u.mass < 1000000
 v: ∀x∈s,Zg x=0
 uv:Zg u=0
 ne: ∀x∈s,isB x XOR=true->ZP x≠[]
 une:ZP u≠[]
def EQ: ∀{l:Qe},(∀x∈l,Zg x=0)->VP l=0
 | [],_=>rfl
 | x:: r,h=>by simp only[VP,h x (by simp),ne_eq,KX,Zd];exact EQ fun y hy=>h y (by simp[hy])
def SH.right {s:Qe} {u:Tm} (h:SH s u):Qdz (QnN s u) u=0:=by
 have hl: (QnN s u).length<=s.length:=Pe _ _;have:=h.len;rw[Qdz,Qm (by omega)];refine EQ fun x hx=> ?_;rcases Wc.1 hx with hx | hx
 ·exact h.v x (Mo.1 hx).1
 ·simp at hx;subst hx;exact h.uv
def bs2 (B:Qa) (ia1 ia2 x0:Nat) (c0 c1 c2:AV) (A1 A2:QJ) (lg:Bool):Qa:=((B.set ia1 (Q2 A1)).set ia2 (Q2 A2)).set x0 [c0,c1,c2,.bool lg]
structure ES (B:List (List AV)) (x0 n:Nat) (cols:AV) (rs:List (List Int)) (us:List Bool) (piv:List Int) (lg:Bool):Prop where
 x:B[x0]? =some [cols,.gs (if rs.length=0 then 0 else x0+4*rs.length) 0 (if rs.length=0 then 0 else 1) rs.length,.gs (if n=0 then 0 else x0+4*rs.length+n) 0 (if n=0 then 0 else 1) n,.bool lg]
 rl:rs.length≠0->B[x0+4*rs.length]? =some ((List.range rs.length).map fun i=> .gp (x0+4*i+3) 0)
 pl:n≠0->B[x0+4*rs.length+n]? =some (Q2 piv)
 pn:piv.length=n
 row: ∀i,i < rs.length->B[x0+4*i+3]? =some [.gs (x0+4*i+1) 0 1 n,.gs (x0+4*i+2) 0 1 rs.length,.bool (us.getD i true)]/\B[x0+4*i+1]? =some (Q2 ((rwE rs i).take n))/\B[x0+4*i+2]? =some (Q2 ((rwE rs i).drop n))
 ul:us.length=rs.length
 wl: ∀i,i < rs.length->(rwE rs i).length=n+rs.length
 bd:lg=false->∀i,i < rs.length->okE (rwE rs i)=true
def EX {us:X9} {b j:Nat} {v:Bool} (hb:b < us.length): (us.set b v).getD j true=if j=b then v else us.getD j true:=by
 simp only[U8,Y8];by_cases h:b=j
 ·subst h;simp[hb]
 ·have: ¬j=b:=fun e=>h e.symm;simp[h,this]
def Bi (c:Nat): ∀(f:Nat) (rs:Xz) (us:X9) (rs':Xz) (us':X9) (p:Int),us.length=rs.length->coE c f rs us=some (rs',us',p)->
  rs'.length=rs.length/\us'.length=us.length/\(∀j,us.getD j true=true->rwE rs' j=rwE rs j/\us'.getD j true=true)/\(p= -1\/∃b:Nat,p=(b:Int)/\b < rs.length/\us'.getD b true=true/\ceE rs' b c≠0)
 | 0,_,_,_,_,_,_,h=>by simp[coE]at h
 | f+1,rs,us,rs',us',p,hul,h=>by
  have sc:=scI rs us c rs.length;cases hs: (scE rs us c rs.length).1 with
  | none=>
   have he:scE rs us c rs.length=(none,(scE rs us c rs.length).2):=by rw[<- hs]
   rw[coE,he]at h;simp only[QD,QV]at h;obtain⟨rfl,rfl,rfl⟩:=h;exact⟨rfl,rfl,fun j hj=>⟨rfl,hj⟩,.inl rfl⟩
  | some b=>
   obtain⟨s1,s2,s3,s4⟩:=sc.sm b hs;have he:scE rs us c rs.length=(some b,(scE rs us c rs.length).2):=by rw[<- hs]
   rw[coE,he]at h;simp only at h;have hbn:ceE rs b c≠0:=by
    intro e;simp[acE,e]at s2
   by_cases hone: (scE rs us c rs.length).2=1
   ·rw[Qn hone]at h;simp only[QD,QV]at h;obtain⟨rfl,rfl,rfl⟩:=h;refine⟨rfl,by simp,fun j hj=>⟨rfl,?_⟩,.inr ⟨b,rfl,s1,?_,hbn⟩⟩
    ·rw[EX (by omega)];split
     ·rfl
     ·exact hj
    ·rw[EX (by omega),Qn rfl]
   ·rw[Qm hone]at h;split at h
    ·obtain⟨i1,i2,i3,i4⟩:=Bi c f _ us rs' us' p (by rw[OX];exact hul) h;rw[OX]at i1 i4;refine⟨i1,i2,fun j hj=> ?_,i4⟩;obtain⟨k1,k2⟩:=i3 j hj;refine⟨?_,k2⟩;rw[k1];rw[BJ _ _ _ _ _ (ZJ _)];have:acE rs us c j=false:=by simp only[acE,hj];rfl
     simp[this]
    ·cases h
def PvI (rs:Xz) (us:X9) (pv:QJ):Prop:=∀c,c < pv.length->pv.getD c (-1)= -1\/∃b:Nat,pv.getD c (-1)=(b:Int)/\b < rs.length/\us.getD b true=true/\ceE rs b c≠0
def Bl {rs:Xz}: ∀(c:Nat) (s:Xz×X9×QJ),elE rs c=some s->s.1.length=rs.length/\s.2.1.length=rs.length/\s.2.2.length=c/\PvI s.1 s.2.1 s.2.2
 | 0,s,h=>by
  simp only[elE,QD]at h;subst h;exact⟨rfl,by simp,rfl,fun c hc=>by simp at hc⟩
 | c+1,s,h=>by
  simp only[elE]at h;cases hs:elE rs c with
  | none=>rw[hs]at h;simp at h
  | some s0=>
   rw[hs]at h;simp only[QC]at h;obtain⟨h1,h2,h3,h4⟩:=Bl c s0 hs;cases hc:coE c (msE s0.1 s0.2.1 c s0.1.length+1) s0.1 s0.2.1 with
   | none=>rw[hc]at h;simp at h
   | some x=>
    rw[hc]at h;simp only[QS,QD]at h;subst h;obtain⟨i1,i2,i3,i4⟩:=Bi c _ s0.1 s0.2.1 x.1 x.2.1 x.2.2 (by omega) hc;refine⟨by simp only;omega,by simp only;omega,by simp[h3],?_⟩;intro d hd;simp only[Zo,Tu]at hd;simp only;by_cases hdc:d=c
    ·subst hdc;have e: (s0.2.2 ++ [x.2.2]).getD d (-1)=x.2.2:=by
      rw[U8,YS (by omega),h3];simp
     rw[e];rcases i4 with i4 | ⟨b,b1,b2,b3,b4⟩
     ·exact .inl i4
     ·exact .inr ⟨b,b1,by omega,b3,b4⟩
    ·have e: (s0.2.2 ++ [x.2.2]).getD d (-1)=s0.2.2.getD d (-1):=by
      rw[U8,U8,ZM (by omega)]
     rw[e];rcases h4 d (by omega)with h4 | ⟨b,b1,b2,b3,b4⟩
     ·exact .inl h4
     ·obtain⟨k1,k2⟩:=i3 b b3;refine .inr ⟨b,b1,by omega,k2,?_⟩;unfold ceE at *;rw[k1];exact b4
def O1 (B:Qa) (x0 n:Nat) (cols:AV) (rs:Xz) (c:Nat):Prop:=match elE rs c with
 | some s=>ES B x0 n cols s.1 s.2.1 (s.2.2 ++ List.replicate (n - c) (-1)) false
 | none=>∃rs' us' pv',rs'.length=rs.length/\ES B x0 n cols rs' us' pv' true
def ES.app {B:Qa} {x0 n:Nat} {cols:AV} {rs:Xz} {us:X9} {piv:QJ} {lg:Bool} (h:ES B x0 n cols rs us piv lg) (M:Qa):ES (B ++ M) x0 n cols rs us piv lg:=
 ⟨Wk h.x M,fun hz=>Wk (h.rl hz) M,fun hz=>Wk (h.pl hz) M,h.pn,fun i hi=>⟨Wk (h.row i hi).1 M,Wk (h.row i hi).2.1 M,Wk (h.row i hi).2.2 M⟩,h.ul,h.wl,h.bd⟩
def ES.lt {B:Qa} {x0 n:Nat} {cols:AV} {rs:Xz} {us:X9} {piv:QJ} {lg:Bool} (h:ES B x0 n cols rs us piv lg):x0+4*rs.length+n < B.length:=by
 by_cases hn:n=0
 ·by_cases hm:rs.length=0
  ·have:=WQ h.x;omega
  ·have:=WQ (h.rl hm);omega
 ·have:=WQ (h.pl hn);omega
def O1.app {B:Qa} {x0 n:Nat} {cols:AV} {rs:Xz} {c:Nat} (h:O1 B x0 n cols rs c) (M:Qa):O1 (B ++ M) x0 n cols rs c:=by
 unfold O1 at *;cases he:elE rs c with
 | some s=>rw[he]at h;exact ES.app h M
 | none=>
  rw[he]at h;obtain⟨rs',us',pv',e1,e2⟩:=h;exact⟨rs',us',pv',e1,e2.app M⟩
def O1.lt {B:Qa} {x0 n:Nat} {cols:AV} {rs:Xz} {c:Nat} (h:O1 B x0 n cols rs c):x0+4*rs.length+n < B.length:=by
 unfold O1 at h;cases he:elE rs c with
 | some s=>
  rw[he]at h;have:=ES.lt h;rw[(Bl c s he).1]at this;exact this
 | none=>
  rw[he]at h;obtain⟨rs',us',pv',e1,e2⟩:=h;have:=e2.lt;rw[e1]at this;exact this
def IM {l:QJ} {k:Nat} (h:k < l.length): (Q7 l)[k]? =some [.int .i64 (l.getD k 0)]:=by
 simp[Q7,h,U8]
def IS (B0 B:Qa) (v:AV) (xs:QJ):Prop:=SL B0 B/\((xs=[]/\v= .gs 0 0 0 0)\/∃id,v= .gs id 0 1 xs.length/\xs≠[]/\B0.length<=id/\B[id]? =some (Q2 xs))
def Ng (n:Int):QQ->Int
 | []=>n
 | d:: l=>Ng (IntKind.i64.wrap (IntKind.i64.wrap (n+d.a.length)+d.c.length)) l
def Nq (l:QQ):Bool:=decide (Ng 0 l<=1000) && few (l.map Ded.t) 410 3000
def QiD (l:QQ) (o:Bool) (bs:Qa) (hl:l.length<=1172812402961):
  ∀(post pre:QQ) (n:Int) (ρ:Ql),l=pre ++ post->ρ 0= .sl o 8 (Qz l)->ρ 3= .int .i64 n->ρ 4= .sl true 4 (Qb (pre.map Ded.t))->ρ 5= .int .i64 pre.length->
  R tb (.loop f696l0) ρ bs (Qq 0 (QH tb f696r0 (QP f696 bs)))=some (.bool (decide (Ng n post<=1000) && few (l.map Ded.t) 410 3000),bs):=by
 intro post
 induction post with
 | nil=>
  intro pre n ρ hk h0 h3 h4 h5;simp only[QN]at hk;subst hk;rw[Qg f696l0.eq_1];have hf:call tb 101 [.sl false 4 (Qb (l.map Ded.t)),.int .i64 410,.int .i64 3000] bs=some (.bool (few (l.map Ded.t) 410 3000),bs):=Ej (l.map Ded.t) false 410 3000 bs (by omega) (by omega) (by omega);by_cases c:n<=1000
  ·simp[h0,h3,h4,h5,f696r0,Ng,c,hf]
  ·simp[h0,h3,h4,h5,f696r0,Ng,c,hf]
 | cons d post IH=>
  intro pre n ρ hk h0 h3 h4 h5;have hg: (Qz l)[pre.length]? =some (QK d):=by rw[Yr,Qx hk];rfl
  have hll:=QL hk;have hw1:=wr1 pre.length (by omega);have hlt:=QO hk;have hcap: (pre.length+1)*56<=140737488355328:=by omega
  have hd:=XE d;have hm:Qb (pre.map Ded.t)++ [Qf d.t]=Qb ((pre ++ [d]).map Ded.t):=by simp[YW]
  rw[Qg f696l0.eq_1];simp[h0,h3,h4,h5,hg,hw1,hlt,hcap];rw[IH (pre ++ [d])] <;> first | rfl | (simp[h0,hk,Ng,YW];done)
def C9 (l:QQ) (o:Bool) (bs:Qa) (hl:l.length<=1172812402961):call tb 696 [.sl o 8 (Qz l)] bs=some (.bool (Nq l),bs):=by
 rw[zcc 696 rfl rfl];simp[f696C];rw[QiD l false bs hl l []] <;> first | rfl | (simp[Nq,Qb];done)
def QiE {l:QQ} (h:Nq l=true):l.length<=410:=by
 simp only[Nq,few,Qo,Qv]at h;have:=h.2.1;simpa using this
end Go.Am
