/-
  Ge26, Ge27, Ge28, Ge15, Rc1, Rc2, Rc3, Rc4, Rc5, Rc6, Rc7.
-/
import Derived.Test.YthagbooipdejlaaGreatDoorG15
set_option linter.all false
open Go.Am.F
namespace Go.Am
set_option maxRecDepth 20000
def MR {α:Type} {l pre post:List α} {x:α} (h:l=pre ++ x:: post) (hb:l.length < 4611686018427387904):
  l[pre.length]? =some x/\IntKind.i64.wrap ((pre.length:Int)+1)=(pre.length:Int)+1/\(pre.length:Int) < (l.length:Int)/\x∈l:=by
 have hl:l.length=pre.length+ (post.length+1):=by rw[h];simp
 exact⟨Qx h,Zg (by omega) (by omega),by omega,by rw[h];simp⟩
def Ln {t:Tm} (h:t.mass < big):t.kids.length < 4611686018427387904:=by
 have:=QH t;unfold big at h;omega
def NK {t x:Tm} (h:t.mass < big) (hx:x∈t.kids):x.mass < big:=by
 have:=QY hx;have:=QH t;omega
def Mp:=@Bool.eq_false_or_eq_true
def Qab (t:Tm) (bs:Qa) (hm:t.mass < big):call tb 56 [.agg (Qf t)] bs=some (.int .i64 (RQ t),bs):=by
 rw[zcc 56 rfl rfl];have hn:=EF t.name bs (by have:=QH t;unfold big at hm;omega);have hks: ((8:Int) < t.kids.length)=(8 < t.kids.length):=by rw[WQ];omega
 obtain⟨k,n,s,ks⟩:=t;simp at hn hks;unfold RQ;simp only[UM,S7,Z3,Zs];by_cases k1:k=1
 ·subst k1;simp[f56C,Qf,hn,hks];rcases Mp (W3 n)with c4 | c4 <;> by_cases c1:s < 0 <;> by_cases c2:5 < s <;> by_cases c3:0 < ks.length <;> simp[c1,c2,c3,c4] <;> omega
 by_cases k2:k=2
 ·subst k2;simp[f56C,Qf,hn,hks];rcases Mp (W3 n)with c4 | c4 <;> by_cases c1:s < 0 <;> by_cases c2:5 < s <;> by_cases c3:0 < ks.length <;> simp[c1,c2,c3,c4] <;> omega
 by_cases k3:k=3
 ·subst k3;simp[f56C,Qf,hn,hks];rcases Mp (W3 n)with c4 | c4 <;> by_cases c1:s < 0 <;> by_cases c2:5 < s <;> by_cases c3:s=0 <;> simp[c1,c2,c3,c4] <;> omega
 ·simp[f56C,Qf,hn,hks,k1,k2,k3]
def Co (t:Tm) (bs:Qa) (hm:t.mass < big) (ih: ∀x∈t.kids,∀bs,call tb 55 [.agg (Qf x)] bs=some (.int .i64 (Wa x),bs)):
  ∀(post pre:Qc) (ρ:Ql),t.kids=pre ++ post->ρ 1= .bx (Qf t)->ρ 4= .int .i64 pre.length->
  R tb (.loop f55l0) ρ bs (Qq 0 (QI tb f55r0 (QK f55 bs)))=some (.int .i64 (V5 post),bs):=by
 intro post
 induction post with
 | nil=>
  intro pre ρ hk h1 h4;rw[Qe f55l0.eq_1];simp at hk;simp[h1,h4,<- hk,f55r0,V5]
 | cons x post IH=>
  intro pre ρ hk h1 h4;obtain⟨hg,hw,hlt,hx⟩:=MR hk (Ln hm);have hh:=ih x hx bs;rw[Qe f55l0.eq_1];by_cases he:Wa x=0
  ·simp[h1,h4,hg,hw,hlt,hh,he,V5];rw[IH (pre ++ [x])] <;> simp[h1,hk]
  ·simp[h1,h4,hg,hw,hlt,hh,he,V5]
def Cy: ∀(t:Tm) (bs:Qa),t.mass < big->call tb 55 [.agg (Qf t)] bs=some (.int .i64 (Wa t),bs):=by
 refine Yj ?_;intro k n s ks ih bs hm;have hl:=Co (.mk k n s ks) bs hm (fun x hx bs=>ih x hx bs (NK hm hx)) ks [];have hn:=Qab (.mk k n s ks) bs hm;rw[zcc 55 rfl rfl];by_cases he:RQ (.mk k n s ks)=0
 ·simp[f55C,hn,he,Wa];rw[hl] <;> simp
 ·simp[f55C,hn,he,Wa]
def WR (t:Tm) (bs:Qa) (hm:t.mass < big):call tb 54 [.agg (Qf t)] bs=some (.int .i64 (Q1 t),bs):=by
 have h1:=Cy t bs hm;have h2:=Ni t bs hm;have h3:=Cw t bs hm;rw[zcc 54 rfl rfl];have e1: (400 < (t.nodes:Int))=(400 < t.nodes):=by rw[WQ];omega
 have e2: (40 < (t.depth:Int))=(40 < t.depth):=by rw[WQ];omega
 simp[f54C,h1,h2,h3,e1,e2,Q1];by_cases he:Wa t=0 <;> by_cases c1:400 < t.nodes <;> by_cases c2:40 < t.depth <;> simp[he,c1,c2]
def N1 (bs:Qa):call tb 129 [] bs=some (.sl true 4 (Vg Wd),bs):=by
 rw[zcc 129 rfl rfl];simp[f129,f129C,Wd,Vg,VH]
def Qbp (n:Qv) (bs:Qa) (l:List Sy) (hl:l.length < 1000): ∀(post pre:List Sy) (ρ:Ql),l=pre ++ post->ρ 0= .str n->(∃o,ρ 3= .sl o 4 (Vg l))->ρ 4= .int .i64 pre.length->
  R tb (.loop f128l0) ρ bs (Qq 0 (QI tb f128r0 (QK f128 bs)))=some (.int .i64 (match Yi n post with | some y=>y.k | none=>0),bs):=by
 intro post
 induction post with
 | nil=>
  intro pre ρ hk h0 ⟨o,h3⟩ h4;rw[Qe f128l0.eq_1];simp at hk;rw[<- hk]at h4;simp[h0,h3,h4,f128r0,Yi]
 | cons x post IH=>
  intro pre ρ hk h0 ⟨o,h3⟩ h4;have hg:=La hk;obtain⟨_,hw,hlt,_⟩:=MR hk (by omega);rw[Qe f128l0.eq_1];by_cases hx:x.n=n
  ·simp[h0,h3,h4,hg,hw,hlt,VH,hx,Yi]
  ·have hxb: (x.n == n)=false:=by simp[hx]
   simp[h0,h3,h4,hg,hw,hlt,VH,hx,hxb,Yi];rw[IH (pre ++ [x])] <;> simp[h0,h3,hk]
def I0 (n:Qv) (bs:Qa):call tb 128 [.str n] bs=some (.int .i64 (match Yi n Wd with | some y=>y.k | none=>0),bs):=by
 rw[zcc 128 rfl rfl];simp[f128C,N1];rw[Qbp n bs Wd (by decide) Wd []] <;> simp
def QdH (t:Tm) (bs:Qa) (l:List Sy) (hl:l.length < 1000): ∀(post pre:List Sy) (ρ:Ql),l=pre ++ post->ρ 1= .bx (Qf t)->(∃o,ρ 3= .sl o 4 (Vg l))->ρ 4= .int .i64 pre.length->
  R tb (.loop f130l0) ρ bs (Qq 0 (QI tb f130r0 (QK f130 bs)))=
   some (.bool (match Yi t.name post with | some y=>decide (y.l<=t.kids.length) && decide (t.kids.length<=y.m) | none=>false),bs):=by
 intro post
 induction post with
 | nil=>
  intro pre ρ hk h1 ⟨o,h3⟩ h4;rw[Qe f130l0.eq_1];simp at hk;rw[<- hk]at h4;simp[h1,h3,h4,f130r0,Yi]
 | cons x post IH=>
  intro pre ρ hk h1 ⟨o,h3⟩ h4;have hg:=La hk;obtain⟨_,hw,hlt,_⟩:=MR hk (by omega);rw[Qe f130l0.eq_1];by_cases hx:x.n=t.name
  ·by_cases c1:x.l<=t.kids.length <;>
   simp[h1,h3,h4,hg,hw,hlt,VH,hx,Yi,c1]
  ·have hxb: (x.n == t.name)=false:=by simp[hx]
   simp[h1,h3,h4,hg,hw,hlt,VH,hx,hxb,Yi];rw[IH (pre ++ [x])] <;> simp[h1,h3,hk]
def Qdj (t:Tm) (bs:Qa):call tb 130 [.agg (Qf t)] bs=
  some (.bool (match Yi t.name Wd with | some y=>decide (y.l<=t.kids.length) && decide (t.kids.length<=y.m) | none=>false),bs):=by
 rw[zcc 130 rfl rfl];simp[f130C,N1];rw[QdH t bs Wd (by decide) Wd []] <;> simp
def Cs (t:Tm) (bs:Qa) (hm:t.mass < big): ∀(post pre:Qc) (ρ:Ql),t.kids=pre ++ post->ρ 1= .bx (Qf t)->ρ 3= .int .i64 pre.length->
  R tb (.loop f131l0) ρ bs (Qq 0 (QI tb f131r0 (QK f131 bs)))=some (.bool (!(post.any To)),bs):=by
 intro post
 induction post with
 | nil=>
  intro pre ρ hk h1 h3;rw[Qe f131l0.eq_1];simp at hk;simp[h1,h3,<- hk,f131r0]
 | cons x post IH=>
  intro pre ρ hk h1 h3;obtain⟨hg,hw,hlt,hx⟩:=MR hk (Ln hm);rw[Qe f131l0.eq_1];by_cases c1:x.kind=3 <;> by_cases c2:x.sort=1 <;>
   simp[h1,h3,hg,hw,hlt,c1,c2,To]
  rw[IH (pre ++ [x])] <;> simp[h1,hk,To]
def Cz (t:Tm) (bs:Qa) (hm:t.mass < big) (hk:t.name=[110,101,119]->t.kids≠[]):call tb 131 [.agg (Qf t)] bs=
  some (.bool (if t.name=[110,101,119]then decide (t.kids.head?.map Tm.kind=some 2)else !(t.kids.any To)),bs):=by
 rw[zcc 131 rfl rfl];by_cases hn:t.name=[110,101,119]
 ·cases hkk:t.kids with
  | nil=>exact absurd hkk (hk hn)
  | cons x xs=>simp[f131C,hn,hkk,Zj t,Qb]
 ·have hnb: (t.name == [110,101,119])=false:=by simp[hn]
  simp[f131C,hn,hnb];rw[Cs t bs hm t.kids []] <;> simp
def HL (t:Tm) (bs:Qa) (hm:t.mass < big) (ih: ∀x∈t.kids,∀bs,call tb 127 [.agg (Qf x)] bs=some (.int .i64 (XS x),bs)):
  ∀(post pre:Qc) (ρ:Ql),t.kids=pre ++ post->ρ 1= .bx (Qf t)->ρ 4= .int .i64 pre.length->
  R tb (.loop f127l0) ρ bs (Qq 0 (QI tb f127r0 (QK f127 bs)))=some (.int .i64 (Su post),bs):=by
 intro post
 induction post with
 | nil=>
  intro pre ρ hk h1 h4;rw[Qe f127l0.eq_1];simp at hk;simp[h1,h4,<- hk,f127r0,Su]
 | cons x post IH=>
  intro pre ρ hk h1 h4;obtain⟨hg,hw,hlt,hx⟩:=MR hk (Ln hm);have hh:=ih x hx bs;rw[Qe f127l0.eq_1];by_cases he:XS x=0
  ·simp[h1,h4,hg,hw,hlt,hh,he,Su];rw[IH (pre ++ [x])] <;> simp[h1,hk]
  ·simp[h1,h4,hg,hw,hlt,hh,he,Su]
def QeI {y:Sy} (h:y∈Wd): (y.k=2)=(y.n=[115,107]\/y.n=[115,104,107]\/y.n=[110,101,119]):=by
 have:Wd.all (fun y=>decide ((y.k=2)=(y.n=[115,107]\/y.n=[115,104,107]\/y.n=[110,101,119])))=true:=by
  simp only[WQ];decide
 have:=XM.1 this y h;exact of_decide_eq_true this
def HS: ∀(t:Tm) (bs:Qa),t.mass < big->call tb 127 [.agg (Qf t)] bs=some (.int .i64 (XS t),bs):=by
 refine Yj ?_;intro k n s ks ih bs hm;have hl:=HL (.mk k n s ks) bs hm (fun x hx bs=>ih x hx bs (NK hm hx)) ks [];have hf:=Qdj (.mk k n s ks) bs;have ha:=Cz (.mk k n s ks) bs hm;have hkd:=I0 n bs;simp only[Z3,Zs]at hf ha;rw[zcc 127 rfl rfl];by_cases hk:k=3
 ·subst hk;simp only[Qf]at hf ha hl;cases hy:Yi n Wd with
  | none=>
   rw[hy]at hkd;simp[f127C,Qf,hkd,hy,XS]
  | some y=>
   obtain⟨hy1,hy2⟩:=NA hy;obtain⟨hy3,hy4⟩:=QeH hy1;have hp:=QeI hy1;rw[hy]at hkd hf;simp only at hkd hf;by_cases c:y.l<=ks.length/\(ks.length:Int)<=y.m
   ·have c1:=c.1;have c2:=c.2;have d1: ¬(ks.length:Int) < y.l:=by omega
    have d2: ¬y.m < (ks.length:Int):=by omega
    have ha':=ha (fun e=>by
     have:=hy4 (by rw[hy2];exact e);intro e2;subst e2;simp at c1;omega)
    rw[hy2]at hp;have hl':=fun ρ=>hl ρ rfl;by_cases h1:n=[115,107]
    ·subst h1;have hk2:y.k=2:=by rw[hp];simp
     simp at ha';rcases Mp (ks.any To)with c4 | c4 <;>
      simp[f127C,Qf,hkd,hk2,hf,c1,c2,d1,d2,ha',XS,hy,c4]
     rw[hl'] <;> simp
    by_cases h2:n=[115,104,107]
    ·subst h2;have hk2:y.k=2:=by rw[hp];simp
     simp at ha';rcases Mp (ks.any To)with c4 | c4 <;>
      simp[f127C,Qf,hkd,hk2,hf,c1,c2,d1,d2,ha',XS,hy,c4]
     rw[hl'] <;> simp
    by_cases h3:n=[110,101,119]
    ·subst h3;have hk2:y.k=2:=by rw[hp];simp
     simp at ha';by_cases c4: ∃a,ks.head?=some a/\a.kind=2 <;>
      simp[f127C,Qf,hkd,hk2,hf,c1,c2,d1,d2,ha',XS,hy,c4]
     rw[hl'] <;> simp
    ·have hk2: ¬y.k=2:=by rw[hp];simp[h1,h2,h3]
     have hk2b: (y.k == 2)=false:=by simp[hk2]
     simp[f127C,Qf,hkd,hk2,hy3,hf,c1,c2,d1,d2,XS,hy,h1,h2,h3];rw[hl'] <;> simp
   ·have d: (ks.length:Int) < y.l\/y.m < ks.length:=by omega
    have e: (decide (y.l<=ks.length) && decide ((ks.length:Int)<=y.m))=false:=by
     rw[F7];simp;omega
    have hf2:call tb 130 [.agg [.int .i64 3,.str n,.int .i64 s,.sl false 4 (Qb ks)]] bs=some (.bool (decide (y.l<=(ks.length:Int)) && decide ((ks.length:Int)<=y.m)),bs):=hf;rw[e]at hf2;simp[f127C,Qf,hkd,hy,hy3,hf2,d,XS]
 ·simp[f127C,Qf,hk,XS]
def MS (t:Tm) (bs:Qa) (hm:t.mass < big):call tb 126 [.agg (Qf t)] bs=some (.int .i64 (thV t),bs):=by
 have h1:=WR t bs hm;have h2:=HS t bs hm;rw[zcc 126 rfl rfl];rw[Zj]at *;by_cases h:Q1 t=0
 ·simp[f126C,h1,h2,h,thV]
 ·simp[f126C,h1,h,thV]
def Ez: ∀{a b:Qv},Wz a b=0->a=b:=by
 intro a b h;unfold Wz at h;split at h
 ·simp at h
 ·split at h
  ·rename_i h2;exact Uc.1 h2
  ·simp at h
mutual
theorem Y7: ∀(t u:Tm),Qp t u=0->t=u
 | .mk k n s ks,.mk k' n' s' ks',h=>by
  rw[SZ,Ra]at h;obtain⟨h1,h2⟩:=h;unfold hdT at h1;simp only[Ra,PT,UM,Z3,S7,Zs]at h1 h2;obtain⟨_,h3,h4,h5,h6⟩:=h1;have e1:=Ez h4;have e2:=EY ks ks' (by omega) h2;rw[h3,e1,h5,e2]
theorem EY: ∀(ts us:List Tm),ts.length=us.length->Xy ts us=0->ts=us
 | [],[],_,_=>rfl
 | [],_:: _,h,_=>by simp at h
 | _:: _,[],h,_=>by simp at h
 | t:: ts,u:: us,h,h2=>by
  rw[Xy,Ra]at h2;rw[Y7 t u h2.1,EY ts us (by simpa using h) h2.2]
end
def Wg {t u:Tm}:Qp t u=0↔t=u:=⟨Y7 t u,fun h=>h▸Un t⟩
def isB (t:Tm) (n:Qv):Bool:=decide (t.kind=3) && (t.name == n)
def Tn {t:Tm} {n:Qv}:isB t n=true↔t.kind=3/\t.name=n:=by simp[isB]
def MY (t:Tm) (n:Qv) (bs:Qa):call tb 71 [.agg (Qf t),.str n] bs=some (.bool (isB t n),bs):=by
 rw[zcc 71 rfl rfl];by_cases h:t.kind=3 <;> simp[f71,f71C,isB,h]
def U2 (t:Tm) (n:Qv) (bs:Qa):call tb 132 [.agg (Qf t),.str n] bs=some (.bool (isB t n),bs):=by
 rw[zcc 132 rfl rfl];by_cases h:t.kind=3 <;> simp[f132,f132C,isB,h]
def I1 (n:Qv) (ks:Qc) (o:Bool) (bs:Qa) (hl:ks.length<=1000):call tb 120 [.str n,.sl o 4 (Qb ks)] bs=some (.agg (Qf (.mk 3 n 0 ks)),bs):=by
 rw[zcc 120 rfl rfl];have ha:ks.length*56<=140737488355328:=by omega
 simp[f120,f120C,U5,Wh,ha,Y8]
def NU (a b:Int):sgn b a= - sgn a b:=by unfold sgn;split <;> (try split) <;> (try split) <;> omega
def QeD {a b:Int}:sgn a b<=0↔a<=b:=by unfold sgn;split <;> (try split) <;> omega
def Kw: ∀a b:Qv,Op.bytesLess a b=true\/a=b\/Op.bytesLess b a=true
 | [],[]=> .inr (.inl rfl)
 | [],_:: _=> .inl rfl
 | _:: _,[]=> .inr (.inr rfl)
 | x:: xs,y:: ys=>by
  simp only[Op.bytesLess,Vz,Qy,Qo,Uc,List.cons.injEq];rcases Jd x.toNat y.toNat with h | h | h
  ·have:x < y:=by rw[Pm];exact h
   simp[this]
  ·have e:x=y:=UInt8.toNat_inj.1 h;subst e;have hi: ¬x < x:=by rw[Pm];omega
   rcases Kw xs ys with h | h | h
   ·simp[hi,h]
   ·simp[hi,h]
   ·simp[hi,h]
  ·have:y < x:=by rw[Pm];exact h
   have h2: ¬x < y:=by rw[Pm];omega
   simp[this,h2]
def NH: ∀a b c:Qv,Op.bytesLess a b=true->Op.bytesLess b c=true->Op.bytesLess a c=true
 | [],_,[],_,h=>by cases ‹Qv› <;> simp[Op.bytesLess]at h
 | [],_,_:: _,_,_=>rfl
 | _:: _,[],_,h,_=>by simp[Op.bytesLess]at h
 | _:: _,_:: _,[],_,h=>by simp[Op.bytesLess]at h
 | x:: xs,y:: ys,z:: zs,h1,h2=>by
  have ih:=NH xs ys zs;simp only[Op.bytesLess,Vz,Qy,Qo,Uc]at h1 h2 ⊢;rcases h1 with h1 | ⟨rfl,h1⟩
  ·rcases h2 with h2 | ⟨rfl,h2⟩
   ·left;rw[Pm]at *;omega
   ·exact .inl h1
  ·rcases h2 with h2 | ⟨rfl,h2⟩
   ·exact .inl h2
   ·exact .inr ⟨rfl,ih h1 h2⟩
def JR (a b:Qv) (h:Op.bytesLess a b=true):Op.bytesLess b a=false:=by
 cases hb:Op.bytesLess b a
 ·rfl
 ·have:=NH a b a h hb;rw[Wx]at this;cases this
def M4 (a b:Qv):Wz b a= - Wz a b:=by
 unfold Wz;rcases Kw a b with h | h | h
 ·have h2:=JR a b h;have hne: (b == a)=false:=by
   rw[Ed];intro e;subst e;rw[Wx]at h;cases h
  simp[h,h2,hne]
 ·subst h;simp[Wx]
 ·have h2:=JR b a h;have hne: (a == b)=false:=by
   rw[Ed];intro e;subst e;rw[Wx]at h;cases h
  simp[h,h2,hne]
def QiW {a b:Qv}:Wz a b<=0↔Op.bytesLess a b=true\/a=b:=by
 unfold Wz;split
 ·rename_i h;simp[h]
 ·rename_i h;split
  ·rename_i h2;simp at h2;simp[h2]
  ·rename_i h2;simp at h2;simp[h,h2]
def Qak {a b c:Qv} (h1:Wz a b<=0) (h2:Wz b c<=0):Wz a c<=0:=by
 rw[QiW]at *;rcases h1 with h1 | rfl
 ·rcases h2 with h2 | rfl
  ·exact .inl (NH _ _ _ h1 h2)
  ·exact .inl h1
 ·exact h2
def EZ {a b:Qv} (h:Wz a b=0):a=b:=by
 rcases Kw a b with h2 | h2 | h2
 ·simp[Wz,h2]at h
 ·exact h2
 ·have:=M4 a b;rw[h]at this;simp[Wz,h2]at this
def S9 {a b a' b':Int} (h1:a'= -a) (h2:b'= -b):or0 a' b'= - or0 a b:=by
 subst h1 h2;unfold or0;split <;> split <;> omega
def T4 {a1 a2 a3 b1 b2 b3:Int} (ha:a1<=0->a2<=0->a3<=0) (hz:a3=0->a1<=0->a2<=0->a1=0/\a2=0) (hb:a1=0->a2=0->b1<=0->b2<=0->b3<=0)
  (h1:or0 a1 b1<=0) (h2:or0 a2 b2<=0):or0 a3 b3<=0:=by
 have g1:a1<=0:=by unfold or0 at h1;split at h1 <;> omega
 have g2:a2<=0:=by unfold or0 at h2;split at h2 <;> omega
 have g3:=ha g1 g2;by_cases hc:a3=0
 ·obtain⟨z1,z2⟩:=hz hc g1 g2;rw[z1,Tr]at h1;rw[z2,Tr]at h2;rw[hc,Tr];exact hb z1 z2 h1 h2
 ·rw[SE hc];exact g3
def Oj {a b c:Int} (h1:sgn a b<=0) (h2:sgn b c<=0):sgn a c<=0:=by rw[QeD]at *;omega
def KF {a b c:Int} (h:sgn a c=0) (h1:sgn a b<=0) (h2:sgn b c<=0):sgn a b=0/\sgn b c=0:=by
 rw[PT]at *;rw[QeD]at h1 h2;rw[PT];omega
def Qdo {a b c:Qv} (h:Wz a c=0) (h1:Wz a b<=0) (h2:Wz b c<=0):Wz a b=0/\Wz b c=0:=by
 have e:=EZ h;subst e;have:=M4 a b;constructor <;> omega
def Dm (t u:Tm):hdT u t= - hdT t u:=by
 unfold hdT;exact S9 (NU _ _) (S9 (NU _ _) (S9 (M4 _ _) (S9 (NU _ _) (NU _ _))))
def Ku {t u:Tm}:hdT t u=0↔t.nodes=u.nodes/\t.kind=u.kind/\t.name=u.name/\t.sort=u.sort/\t.kids.length=u.kids.length:=by
 unfold hdT;rw[Ra,Ra,Ra,Ra,PT,PT,PT,PT];constructor
 ·rintro⟨h1,h2,h3,h4,h5⟩
  exact⟨by omega,h2,EZ h3,h4,by omega⟩
 ·rintro⟨h1,h2,h3,h4,h5⟩
  exact⟨by omega,h2,by rw[h3];exact I9 _,h4,by omega⟩
def QdM {t u v:Tm} (h1:hdT t u<=0) (h2:hdT u v<=0):hdT t v<=0:=by
 unfold hdT at *;refine T4 Oj (fun h a b=>KF h a b) (fun _ _=> ?_) h1 h2;refine T4 Oj (fun h a b=>KF h a b) (fun _ _=> ?_);refine T4 Qak (fun h a b=>Qdo h a b) (fun _ _=> ?_);exact T4 Oj (fun h a b=>KF h a b) (fun _ _=>Oj)
def M3: ∀(ts us:Qc),(∀x∈ts,∀y,Qp y x= - Qp x y)->Xy us ts= - Xy ts us
 | [],[],_=>by simp[Xy]
 | [],_:: _,_=>by simp[Xy]
 | _:: _,[],_=>by simp[Xy]
 | t:: ts,u:: us,h=>by
  simp only[Xy];exact S9 (h t (by simp) u) (M3 ts us fun x hx=>h x (by simp[hx]))
def Xf: ∀(t u:Tm),Qp u t= - Qp t u:=by
 refine Yj ?_;intro k n s ks ih u;rw[SZ,SZ];exact S9 (Dm _ _) (M3 _ _ fun x hx y=>ih x hx y)
def N3: ∀(ts us vs:Qc),ts.length=us.length->us.length=vs.length->(∀x∈ts,∀y z,Qp x y<=0->Qp y z<=0->Qp x z<=0)->Xy ts us<=0->Xy us vs<=0->Xy ts vs<=0
 | [],[],[],_,_,_,_,_=>by simp[Xy]
 | t:: ts,u:: us,v:: vs,h1,h2,h,g1,g2=>by
  simp only[Xy]at g1 g2 ⊢;refine T4 (h t (by simp) u v) (fun h0 a b=> ?_) (fun _ _=>N3 ts us vs (by simpa using h1) (by simpa using h2) fun x hx=>h x (by simp[hx])) g1 g2;have e:=Y7 _ _ h0;subst e;have:=Xf t u;constructor <;> omega
 | [],_:: _,_,h1,_,_,_,_=>by simp at h1
 | _:: _,[],_,h1,_,_,_,_=>by simp at h1
 | [],[],_:: _,_,h2,_,_,_=>by simp at h2
 | _:: _,_:: _,[],_,h2,_,_,_=>by simp at h2
def Nl: ∀(t u v:Tm),Qp t u<=0->Qp u v<=0->Qp t v<=0:=by
 refine Yj ?_;intro k n s ks ih u v h1 h2;rw[SZ]at *;refine T4 QdM (fun h0 a b=> ?_) (fun e1 e2=> ?_) h1 h2
 ·rw[Ku]at h0;have z1:=Ku (t:= .mk k n s ks) (u:=u);have e2:hdT u v=hdT u (.mk k n s ks):=by unfold hdT;rw[h0.1,h0.2.1,h0.2.2.1,h0.2.2.2.1,h0.2.2.2.2]
  rw[e2]at b ⊢;have:=Dm (.mk k n s ks) u;constructor <;> omega
 ·rw[Ku]at e1 e2;exact N3 _ _ _ e1.2.2.2.2 e2.2.2.2.2 fun x hx=>ih x hx
def Xo {a b c:Tm} (h1:Qp a b < 0) (h2:Qp b c < 0):Qp a c < 0:=by
 have h:=Nl a b c (by omega) (by omega);rcases Int.lt_or_eq_of_le h with h | h
 ·exact h
 ·have e:=Y7 _ _ h;subst e;have:=Xf a b;omega
def Uf (a:Tm): ¬Qp a a < 0:=by rw[Un];omega
def JG {a b:Tm}:0 < Qp a b↔Qp b a < 0:=by have:=Xf a b;omega
def Km (a b:Tm):Qp a b < 0\/a=b\/Qp b a < 0:=by
 rcases Int.lt_trichotomy (Qp a b) 0 with h | h | h
 ·exact .inl h
 ·exact .inr (.inl (Y7 _ _ h))
 ·exact .inr (.inr (JG.1 h))
def Asc (l:Qc):Prop:=l.Pairwise fun a b=>Qp a b < 0
def Asc.nil:Asc []:=List.Pairwise.nil
def Io (t:Tm):Asc [t]:=by simp[Asc]
def XR {x:Tm} {l:Qc}:Asc (x:: l)↔(∀y∈l,Qp x y < 0)/\Asc l:=VP
def Im: ∀{a b:Qc},Asc a->Asc b->(∀x,x∈a↔x∈b)->a=b
 | [],[],_,_,_=>rfl
 | [],y:: ys,_,_,h=>by have:=(h y).2 (by simp);simp at this
 | x:: xs,[],_,_,h=>by have:=(h x).1 (by simp);simp at this
 | x:: xs,y:: ys,ha,hb,h=>by
  rw[XR]at ha hb;have hxy:x=y:=by
   rcases Km x y with h1 | h1 | h1
   ·have:=(h x).1 (by simp);rcases Zt.1 this with e | e
    ·exact e
    ·have:=Xo h1 (hb.1 x e);exact absurd this (Uf x)
   ·exact h1
   ·have:=(h y).2 (by simp);rcases Zt.1 this with e | e
    ·exact e.symm
    ·have:=Xo h1 (ha.1 y e);exact absurd this (Uf y)
  subst hxy;congr 1;refine Im ha.2 hb.2 fun z=> ?_;have hz:=h z;simp only[Zt]at hz;constructor
  ·intro hm;rcases hz.1 (.inr hm)with e | e
   ·subst e;exact absurd (ha.1 z hm) (Uf z)
   ·exact e
  ·intro hm;rcases hz.2 (.inr hm)with e | e
   ·subst e;exact absurd (hb.1 z hm) (Uf z)
   ·exact e
def ZO (t:Tm):Qc->Qc
 | []=>[t]
 | x:: xs=>if Qp t x < 0 then t:: x:: xs else if Qp t x=0 then x:: xs else x:: ZO t xs
def S5 {t y:Tm}: ∀{l:Qc},y∈ZO t l↔y=t\/y∈l
 | []=>by simp[ZO]
 | x:: xs=>by
  simp only[ZO];split
  ·simp
  ·split
   ·rename_i h;have:=Y7 _ _ h;subst this;simp
   ·simp only[Zt,S5 (l:=xs)];constructor
    ·rintro(h | h | h) <;> simp[h]
    ·rintro(h | h | h) <;> simp[h]
def Kc {t:Tm}: ∀{l:Qc},Asc l->Asc (ZO t l)
 | [],_=>Io t
 | x:: xs,h=>by
  have h0:=h;rw[XR]at h;simp only[ZO];split
  ·rename_i h1;rw[XR];refine⟨fun y hy=> ?_,h0⟩;rcases Zt.1 hy with rfl | hy
   ·exact h1
   ·exact Xo h1 (h.1 y hy)
  ·split
   ·exact h0
   ·rename_i h1 h2;rw[XR];refine⟨fun y hy=> ?_,Kc h.2⟩;rcases S5.1 hy with rfl | hy
    ·exact JG.1 (by omega)
    ·exact h.1 y hy
def Px (t:Tm): ∀l:Qc,(ZO t l).length<=l.length+1
 | []=>by simp[ZO]
 | x:: xs=>by
  simp only[ZO];have:=Px t xs;split
  ·simp
  ·split <;> simp <;> omega
def Yp (acc:Qc) (l:Qc):Qc:=l.foldl (fun a x=>ZO x a) acc
def Zz (l:Qc):Qc:=Yp [] l
def NL {y:Tm}: ∀{l acc:Qc},y∈Yp acc l↔y∈acc\/y∈l
 | [],acc=>by simp[Yp]
 | x:: xs,acc=>by
  have:=NL (y:=y) (l:=xs) (acc:=ZO x acc);simp only[Yp,OQ]at this ⊢;rw[this,S5];simp only[Zt];constructor
  ·rintro((h | h) | h) <;> simp[h]
  ·rintro(h | h | h) <;> simp[h]
def Jp: ∀{l acc:Qc},Asc acc->Asc (Yp acc l)
 | [],_,h=>h
 | x:: xs,acc,h=>Jp (l:=xs) (Kc h)
def V7 {y:Tm} {l:Qc}:y∈Zz l↔y∈l:=by unfold Zz;rw[NL];simp
def Kd (l:Qc):Asc (Zz l):=Jp Asc.nil
def AZ (acc a b:Qc):Yp acc (a ++ b)=Yp (Yp acc a) b:=by simp[Yp]
def Nc: ∀(l acc:Qc),(Yp acc l).length<=acc.length+l.length
 | [],acc=>by simp[Yp]
 | x:: xs,acc=>by
  have h1:=Nc xs (ZO x acc);have h2:=Px x acc;simp only[Yp,OQ,ZM]at *;omega
def PR (l:Qc): (Zz l).length<=l.length:=by have:=Nc l [];simpa[Zz]using this
def NM {t y:Tm}: ∀{l:Qc},y∈TN t l↔y=t\/y∈l
 | []=>by simp[TN]
 | x:: xs=>by
  simp only[TN];split
  ·simp only[Zt,NM (l:=xs)];constructor
   ·rintro(h | h | h) <;> simp[h]
   ·rintro(h | h | h) <;> simp[h]
  ·simp
def RB {y:Tm}: ∀{l:Qc},y∈Xe l↔y∈l
 | []=>by simp[Xe]
 | x:: xs=>by simp only[Xe,NM,RB (l:=xs),Zt]
def Ds (t:Tm): ∀l:Qc,(TN t l).length=l.length+1
 | []=>rfl
 | x:: xs=>by simp only[TN];split <;> simp[Ds t xs]
def Tc: ∀l:Qc,(Xe l).length=l.length
 | []=>rfl
 | x:: xs=>by simp[Xe,Ds,Tc xs]
def Srt (l:Qc):Prop:=l.Pairwise fun a b=>Qp a b<=0
def Cf {t:Tm}: ∀{l:Qc},Srt l->Srt (TN t l)
 | [],_=>by simp[TN,Srt]
 | x:: xs,h=>by
  have h0:=h;unfold Srt at h;rw[VP]at h;simp only[TN];split
  ·rename_i h1;unfold Srt;rw[VP];refine⟨fun y hy=> ?_,Cf h.2⟩;rcases NM.1 hy with rfl | hy
   ·omega
   ·exact h.1 y hy
  ·rename_i h1;unfold Srt;rw[VP];refine⟨fun y hy=> ?_,h0⟩;have htx:Qp t x<=0:=by have:=Xf x t;omega
   rcases Zt.1 hy with rfl | hy
   ·exact htx
   ·exact Nl _ _ _ htx (h.1 y hy)
def HE: ∀l:Qc,Srt (Xe l)
 | []=>List.Pairwise.nil
 | x:: xs=>Cf (HE xs)
def W2:List Tm->List Tm
 | []=>[]
 | [x]=>[x]
 | x:: y:: r=>if Qp y x=0 then W2 (x:: r)else x:: W2 (y:: r)
termination_by l=>l.length
def Oe: ∀(n:Nat) (l:Qc) (y:Tm),l.length<=n->(y∈W2 l↔y∈l)
 | _,[],y,_=>by simp[W2]
 | _,[x],y,_=>by simp[W2]
 | n+1,x:: z:: r,y,h=>by
  rw[W2];split
  ·rename_i e;have e:=Y7 _ _ e;subst e;rw[Oe n (z:: r) y (by simp at h ⊢;omega)];simp
  ·rw[Zt,Oe n (z:: r) y (by simp at h ⊢;omega)];simp only[Zt]
 | 0,_:: _:: _,_,h=>by simp at h
def MQ: ∀(n:Nat) (l:Qc),l.length<=n->Srt l->Asc (W2 l)
 | _,[],_,_=>by simp[W2,Asc.nil]
 | _,[x],_,_=>by simp[W2,Io]
 | n+1,x:: z:: r,h,hs=>by
  have hs0:=hs;unfold Srt at hs;rw[VP]at hs;rw[W2];split
  ·rename_i e;have e:=Y7 _ _ e;subst e;exact MQ n _ (by simp at h ⊢;omega) hs.2
  ·rename_i e;rw[XR];refine⟨fun y hy=> ?_,MQ n _ (by simp at h ⊢;omega) hs.2⟩;rw[Oe n _ y (by simp at h ⊢;omega)]at hy;have hxz:Qp x z < 0:=by
    have h1:=hs.1 z (by simp);have h2:=Xf x z;omega
   rcases Zt.1 hy with rfl | hy
   ·exact hxz
   ·have h2:Qp z y<=0:=by
     have:=hs.2;rw[VP]at this;exact this.1 y hy
    rcases Int.lt_or_eq_of_le (Nl x z y (by omega) h2)with h3 | h3
    ·exact h3
    ·have e3:=Y7 _ _ h3;subst e3;have:=Xf x z;omega
 | 0,_:: _:: _,h,_=>by simp at h
def LU (l:Qc):W2 (Xe l)=Zz l:=
 Im (MQ _ _ (Zx _) (HE l)) (Kd l) fun x=>by rw[Oe _ _ x (Zx _),RB,V7]
def Ov: ∀a b:Qh,QV (a ++ b)=(QV a && QV b)
 | [],b=>by simp
 | x:: a,b=>by simp[Ov a b,Bool.and_assoc]
section
variable {α:Type} (f:α->List AV) (k:Nat)
def YB (f:α->Qh) (l:List α):Qh:=(l.map f).flatten
def Tb (x:α) (l:List α):YB f (x:: l)=f x ++ YB f l:=by simp[YB]
def Vn (a b:List α):YB f (a ++ b)=YB f a ++ YB f b:=by simp[YB]
def R9 (x:α):YB f [x]=f x:=by simp[YB]
variable {f k}
def Yx (hk: ∀x,(f x).length=k): ∀l:List α,(YB f l).length=l.length*k
 | []=>by simp[YB]
 | x:: l=>by rw[Tb,Zc,hk,Yx hk l,ZM,VA];omega
def YM (hs: ∀x,(f x).map AV.strip=f x): ∀l:List α,(YB f l).map AV.strip=YB f l
 | []=>rfl
 | x:: l=>by rw[Tb,Ti,hs,YM hs l]
def DY (hg: ∀x,QV (f x)=true): ∀l:List α,QV (YB f l)=true
 | []=>rfl
 | x:: l=>by
  rw[Tb,Ov,hg x,DY hg l];rfl
def OD:=@List.take_append_of_le_length
def UG (hk: ∀x,(f x).length=k) {l pre post:List α} {x:α} (h:l=pre ++ x:: post) (t:Qh): ((YB f l ++ t).drop (pre.length*k)).take k=f x:=by
 subst h;rw[Vn,Tb,ZW,<- Yx hk pre,List.drop_left,ZW];have:=hk x;rw[OD (by omega),YD (by omega)]
def Ps:=@List.take_left
def Rc (hk: ∀x,(f x).length=k) {l pre post:List α} (h:l=pre ++ post) (t:Qh): (YB f l ++ t).take (pre.length*k)=YB f pre:=by
 subst h;rw[Vn,ZW,<- Yx hk pre,Ps]
def NR (hk: ∀x,(f x).length=k) {l pre post:List α} (h:l=pre ++ post) (t:Qh): (YB f l ++ t).drop (pre.length*k)=YB f post ++ t:=by
 subst h;rw[Vn,ZW,<- Yx hk pre,List.drop_left]
def Pa (hk: ∀x,(f x).length=k) {l pre post:List α} {x:α} (y:α) (h:l=pre ++ x:: post) (t:Qh):
  (YB f l ++ t).take (pre.length*k)++ (f y ++ (YB f l ++ t).drop (pre.length*k+k))=YB f (pre ++ y:: post)++ t:=by
 rw[Rc hk h,Vn,Tb];have h2:l=(pre ++ [x])++ post:=by rw[h];simp
 have:=NR hk h2 t;rw[Zc,Rg,ZV,Nat.one_mul]at this;rw[this];simp
def XP (hk: ∀x,(f x).length=k) (hs: ∀x,(f x).map AV.strip=f x) (l:List α) (t:Qh):Yb (YB f l ++ t) 0 k l.length=l.map f:=by
 apply Si;intro i;cases hc: (Yb (YB f l ++ t) 0 k l.length)[i]? with
 | none=>
  rw[List.getElem?_eq_none_iff,WK]at hc;rw[Q0 (by simpa using hc)]
 | some y=>
  obtain⟨hi,rfl⟩:=Sv hc;have hl:l=l.take i ++ l[i]:: l.drop (i+1):=by rw[List.getElem_cons_drop,Mt]
  have hr:=UG hk hl t;rw[Xi,Ek (by omega)]at hr;rw[Zm,hr,hs];simp[Zw hi]
end
def QN (x:Tm): (Qf x).length=4:=YV x
abbrev Qr (l:List Tm):List AV:=YB Qf l
def TP (l:Qc):l.map Qf=Qb l:=(YF l).symm
def Jt (x y:Tm) (bs:Qa) (hx:x.mass < big) (hy:y.mass < big):call tb 171 [.agg (Qf x),.agg (Qf y)] bs=some (.bool (decide (Qp x y=0)),bs):=by
 rw[zcc 171 rfl rfl];have h:=call_Compare x y bs hx hy;simp[f171,f171C,Qi,h]
def Yv (prev:Tm):Qc->Qc
 | []=>[]
 | x:: r=>if Qp x prev=0 then Yv x r else x:: Yv x r
def RM (x:Tm): ∀(r:Qc),W2 (x:: r)=x:: Yv x r
 | []=>by simp[W2,Yv]
 | y:: r=>by
  rw[W2];simp only[Yv];split
  ·rename_i h;have:=Y7 _ _ h;subst this;exact RM y r
  ·rw[RM y r]
def Qhq (B:Qa) (id n:Nat) (D:Qc) (c:Qh) (hB:id < B.length) (hc:c.length=n*4) (hD:D.length<=n) (hn:n < 100000000) (ht:c.take (D.length*4)=Qr D)
  (ρ:Ql) (h0:ρ 0= .gs id 0 4 n) (h5:ρ 5= .int .i64 D.length):
  R tb f172r0 ρ (B.set id c) (Qq 1 (QI tb f172r1 (QI tb (.loop f172l1) (Qq 0 (QI tb f172r2 (QK f172 B))))))=
   some (.gs id 0 4 D.length,B.set id (Qr D ++ List.replicate ((n - D.length)*4) .undef)):=by
 have e1: (0:Int)<=(D.length:Int):=by omega
 have e2: (D.length:Int)<=(n:Int):=by omega
 have hput:c.take (D.length*4)++ (List.replicate ((n - D.length)*4) AV.undef ++ c.drop (D.length*4+ (n - D.length)*4))=Qr D ++ List.replicate ((n - D.length)*4) .undef:=by
  rw[ht,Mr (by rw[hc,<- ZV];exact Z9 _ (by omega))];simp
 have hle:D.length*4+ (n - D.length)*4<=n*4:=by rw[<- ZV];exact Z9 _ (by omega)
 by_cases hz:n - D.length=0
 ·have hDn:D.length=n:=by omega
  have hcc:c=Qr D:=by rw[<- ht,YD (by omega)]
  simp[f172r0,h0,h5,e1,e2,hD,hz,hcc]
 ·simp[f172r0,h0,h5,e1,e2,hD,hz,hB,hc,hle,hput]
end Go.Am
namespace Go.Am
set_option maxRecDepth 20000
def Gp (L:Qc) (B:Qa) (id:Nat) (r:Option (AV×Qa)):Prop:=∃t,r=some (.gs id 0 4 L.length,B.set id (Qr L ++ t))
def Qho (B:Qa) (id n k0:Nat) (hB:id < B.length) (hn:n < 100000000): ∀(post D mid:Qc) (prev:Tm) (k2:Nat) (ρ:Ql),D.length+mid.length+1+post.length=n->k0+k2=D.length+mid.length+1->0 < k2->
   (∀x∈prev:: post,x.mass < big)->ρ 0= .gs id 0 4 n->ρ 1= .fn 171 []->ρ 5= .int .i64 D.length->ρ 6= .gs id (k0*4) 4 (n - k0)->ρ 7= .int .i64 k2->
  Gp (D ++ Yv prev post) B id (R tb (.loop f172l0) ρ (B.set id (Qr (D ++ mid ++ prev:: post)))
   (Qq 2 (QI tb f172r0 (Qq 1 (QI tb f172r1 (QI tb (.loop f172l1) (Qq 0 (QI tb f172r2 (QK f172 B))))))))):=by
 intro post
 induction post with
 | nil=>
  intro D mid prev k2 ρ hl hk hk2 hm h0 h1 h5 h6 h7;have hlen: (Qr (D ++ mid ++ [prev])).length=n*4:=by rw[Yx QN];simp at hl ⊢;omega
  have ht: (Qr (D ++ mid ++ [prev])).take (D.length*4)=Qr D:=by
   have:=Rc (f:=Qf) (k:=4) QN (l:=D ++ mid ++ [prev]) (pre:=D) (post:=mid ++ [prev]) (by simp) [];simpa using this
  have hr:=fun ρ a b=>Qhq B id n D (Qr (D ++ mid ++ [prev])) hB hlen (by omega) hn ht ρ a b;have hl':D.length+mid.length+1=n:=by simpa using hl
  have hnl: ¬((k2:Int) < ((n - k0:Nat):Int)):=by omega
  have hnl2: ¬(k2 < n - k0):=by omega
  rw[Qe f172l0.eq_1];simp only[Yv,QF];refine⟨List.replicate ((n - D.length)*4) .undef,?_⟩;simp[h0,h1,h5,h6,h7,hnl,hnl2];simp only[ZW]at hr;refine hr _ ?_ ?_ <;> simp[h0,h5]
 | cons x post IH=>
  intro D mid prev k2 ρ hl hk hk2 hm h0 h1 h5 h6 h7;have hlen: (Qr (D ++ mid ++ prev:: x:: post)).length=n*4:=by rw[Yx QN];simp at hl ⊢;omega
  have hst: (Qr (D ++ mid ++ prev:: x:: post)).map AV.strip=Qr (D ++ mid ++ prev:: x:: post):=YM ZA _;have r1: ((Qr (D ++ mid ++ prev:: x:: post)).drop (k0*4+k2*4)).take 4=Qf x:=by
   have:=UG (f:=Qf) (k:=4) QN (l:=D ++ mid ++ prev:: x:: post) (pre:=D ++ mid ++ [prev]) (post:=post) (x:=x) (by simp) [];rw[<- ZV,hk];simpa[Ub]using this
  have r2: ((Qr (D ++ mid ++ prev:: x:: post)).drop (k0*4+ (k2 - 1)*4)).take 4=Qf prev:=by
   have:=UG (f:=Qf) (k:=4) QN (l:=D ++ mid ++ prev:: x:: post) (pre:=D ++ mid) (post:=x:: post) (x:=prev) (by simp) [];rw[<- ZV,show k0+ (k2 - 1)=D.length+mid.length by omega];simpa[Ub]using this
  have hput: (Qr (D ++ mid ++ prev:: x:: post)).take (D.length*4)++ (Qf x ++ (Qr (D ++ mid ++ prev:: x:: post)).drop (D.length*4+4))=Qr ((D ++ [x])++ (mid ++ [prev]).tail ++ x:: post):=by
   obtain⟨y,m2,hy⟩: ∃y m2,mid ++ [prev]=y:: m2:=by cases mid <;> simp
   have:=Pa (f:=Qf) (k:=4) QN (l:=D ++ mid ++ prev:: x:: post) (pre:=D) (post:=m2 ++ x:: post) (x:=y) x (by
    have:D ++ mid ++ prev:: x:: post=D ++ (mid ++ [prev])++ x:: post:=by simp
    rw[this,hy];simp) []
   rw[hy];simpa using this
  have hw1:IntKind.i64.wrap ((k2:Int) - 1)=((k2 - 1:Nat):Int):=by rw[Zg (by omega) (by omega)];omega
  have hw2:IntKind.i64.wrap ((k2:Int)+1)=((k2+1:Nat):Int):=by rw[Zg (by simp at hl;omega) (by simp at hl;omega)];omega
  have hw3:IntKind.i64.wrap ((D.length:Int)+1)=((D.length+1:Nat):Int):=by rw[Zg (by simp at hl;omega) (by simp at hl;omega)];omega
  have hlt: (k2:Int) < ((n - k0:Nat):Int):=by simp at hl;omega
  have hlt1:k2 < n - k0:=by simp at hl;omega
  have hlt2: ((k2 - 1:Nat):Int) < ((n - k0:Nat):Int):=by simp at hl;omega
  have hlt2':k2 - 1 < n - k0:=by simp at hl;omega
  have hlt3: (D.length:Int) < (n:Int):=by simp at hl;omega
  have hlt3':D.length < n:=by simp at hl;omega
  have hb1:k0*4+k2*4+4<=n*4:=by simp at hl;omega
  have hb2:k0*4+ (k2 - 1)*4+4<=n*4:=by simp at hl;omega
  have hb3:D.length*4+4<=n*4:=by simp at hl;omega
  have hnn: (0:Int)<=((k2 - 1:Nat):Int):=by omega
  have hc:=fun bs=>Jt x prev bs (hm x (by simp)) (hm prev (by simp));have hcast: ((k2 - 1:Nat):Int).toNat=k2 - 1:=by omega
  have ih1:=IH D (mid ++ [prev]) x (k2+1);have ih2:=IH (D ++ [x]) (mid ++ [prev]).tail x (k2+1);have htl: ((mid ++ [prev]).tail).length=mid.length:=by simp
  rw[show D ++ (mid ++ [prev])++ x:: post=D ++ mid ++ prev:: x:: post by simp]at ih1;rw[Qe f172l0.eq_1];generalize Qr (D ++ mid ++ prev:: x:: post)=c at *;generalize hkm:k2 - 1=km at *;generalize n - k0=nk at *;by_cases he:Qp x prev=0
  ·have e:Yv prev (x:: post)=Yv x post:=by simp[Yv,he]
   rw[e];simp[h0,h1,h5,h6,h7,hlt,hlt1,hlt2,hlt2',hnn,hw1,hw2,hb1,hb2,hB,hlen,hst,r1,r2,hc,he,hcast];refine ih1 _ (by simp at hl ⊢;omega) (by simp;omega) (by omega) (fun y hy=>hm y (by simp at hy ⊢;rcases hy with h | h <;> simp[h])) ?_ ?_ ?_ ?_ ?_ <;> simp[h0,h1,h5,h6]
  ·have e:D ++ Yv prev (x:: post)=D ++ x:: Yv x post:=by simp[Yv,he]
   rw[e];simp only[ZW,Ws,XD]at ih2;simp[h0,h1,h5,h6,h7,hlt,hlt1,hlt2,hlt2',hlt3,hlt3',hnn,hw1,hw2,hw3,hb1,hb2,hb3,hB,hlen,hst,r1,r2,hc,he,hcast,hput];refine ih2 _ (by simp at hl ⊢;omega) (by simp;omega) (by omega) (fun y hy=>hm y (by simp at hy ⊢;rcases hy with h | h <;> simp[h])) ?_ ?_ ?_ ?_ ?_ <;> simp[h0,h1,h5,h6]
def Qhp (B:Qa) (id n:Nat) (hB:id < B.length) (hn:n < 100000000): ∀(post pre:Qc) (prev:Tm) (ρ:Ql),pre.length+1+post.length=n->
   (∀x∈prev:: post,x.mass < big)->ρ 0= .gs id 0 4 n->ρ 1= .fn 171 []->ρ 5= .int .i64 (pre.length+1:Nat)->
  Gp (pre ++ prev:: Yv prev post) B id (R tb (.loop f172l1) ρ (B.set id (Qr (pre ++ prev:: post)))
   (Qq 0 (QI tb f172r2 (QK f172 B)))):=by
 intro post
 induction post with
 | nil=>
  intro pre prev ρ hl hm h0 h1 h5;have hl':pre.length+1=n:=by simpa using hl
  have hnl: ¬((pre.length:Int)+1 < (n:Int)):=by omega
  rw[Qe f172l1.eq_1];refine⟨[],?_⟩;simp[h0,h1,h5,hnl,Yv,f172r2,hl']
 | cons x post IH=>
  intro pre prev ρ hl hm h0 h1 h5;have hl':pre.length+1+ (post.length+1)=n:=by simpa using hl
  have hlen: (Qr (pre ++ prev:: x:: post)).length=n*4:=by rw[Yx QN];simp;omega
  have hst: (Qr (pre ++ prev:: x:: post)).map AV.strip=Qr (pre ++ prev:: x:: post):=YM ZA _;have r1: ((Qr (pre ++ prev:: x:: post)).drop ((pre.length+1)*4)).take 4=Qf x:=by
   have:=UG (f:=Qf) (k:=4) QN (l:=pre ++ prev:: x:: post) (pre:=pre ++ [prev]) (post:=post) (x:=x) (by simp) [];simpa using this
  have r2: ((Qr (pre ++ prev:: x:: post)).drop (pre.length*4)).take 4=Qf prev:=by
   have:=UG (f:=Qf) (k:=4) QN (l:=pre ++ prev:: x:: post) (pre:=pre) (post:=x:: post) (x:=prev) (by simp) [];simpa using this
  have hw1:IntKind.i64.wrap (pre.length:Int)=(pre.length:Int):=Zg (by omega) (by omega);have hw2:IntKind.i64.wrap ((pre.length:Int)+1+1)=(pre.length:Int)+1+1:=Zg (by omega) (by omega);have hlt: (pre.length:Int)+1 < (n:Int):=by omega
  have hlt2: (pre.length:Int) < (n:Int):=by omega
  have hb1: (pre.length+1)*4+4<=n*4:=by omega
  have hb2:pre.length*4+4<=n*4:=by omega
  have hnn: (0:Int)<=(pre.length:Int)+1:=by omega
  have hle: (pre.length:Int)+1<=(n:Int):=by omega
  have hcast: ((pre.length:Int)+1).toNat=pre.length+1:=by omega
  have hc:=fun bs=>Jt x prev bs (hm x (by simp)) (hm prev (by simp));have ih1:=IH (pre ++ [prev]) x;have ih2:=Qho B id n (pre.length+1) hB hn post (pre ++ [prev]) [] x 1;simp only[ZW,Ws,XD]at ih1 ih2;rw[Qe f172l1.eq_1];generalize Qr (pre ++ prev:: x:: post)=c at *;by_cases he:Qp x prev=0
  ·have e:Yv prev (x:: post)=Yv x post:=by simp[Yv,he]
   rw[e];simp[h0,h1,h5,hlt,hlt2,hnn,hle,hw1,hw2,hb1,hb2,hB,hlen,hst,r1,r2,hc,he,hcast];refine ih2 _ (by simp;omega) (by simp) (by omega) (fun y hy=>hm y (by simp at hy ⊢;rcases hy with h | h <;> simp[h])) ?_ ?_ ?_ ?_ ?_ <;> simp[h0,h1,h5]
  ·have e:pre ++ prev:: Yv prev (x:: post)=pre ++ prev:: x:: Yv x post:=by simp[Yv,he]
   rw[e];simp[h0,h1,h5,hlt,hlt2,hnn,hle,hw1,hw2,hb1,hb2,hB,hlen,hst,r1,r2,hc,he,hcast,f172r1];refine ih1 _ (by simp;omega) (fun y hy=>hm y (by simp at hy ⊢;rcases hy with h | h <;> simp[h])) ?_ ?_ ?_ <;> simp[h0,h1,h5]
def EC (L:Qc) (B:Qa) (id:Nat) (hid:B[id]? =some (Qr L)) (hn:L.length < 100000000) (hm: ∀x∈L,x.mass < big):
  Gp (W2 L) B id (call tb 172 [.gs id 0 4 L.length,.fn 171 []] B):=by
 have hB:id < B.length:=by
  rcases QT id B.length with h | h
  ·exact h
  ·rw[Q0 h]at hid;cases hid
 have hset:B.set id (Qr L)=B:=by
  apply Si;intro i;rw[Xh];split
  ·rename_i h;subst h;rw[hid]
  ·rfl
 match L with
 | []=>
  refine⟨[],?_⟩;rw[zcc 172 rfl rfl];simp[f172C,W2];simpa using hset.symm
 | [x]=>
  refine⟨[],?_⟩;rw[zcc 172 rfl rfl];simp[f172C,W2];simpa using hset.symm
 | x:: y:: r=>
  have h:=Qhp B id (r.length+2) hB (by simpa using hn) (y:: r) [] x;rw[zcc 172 rfl rfl,RM];simp only[XD,hset]at h;have hge: ¬((r.length:Int)+1+1 < 2):=by omega
  simp[f172C,hge];refine h _ (by simp;omega) (fun z hz=>hm z hz) ?_ ?_ ?_ <;> simp
end Go.Am
namespace Go.Am
set_option maxRecDepth 20000
def Cb {α:Type} {B:List α} {i:Nat} {x:α} (h:B[i]? =some x):B.set i x=B:=by
 apply Si;intro j;rw[Xh];split
 ·rename_i e;subst e;split
  ·exact h.symm
  ·rename_i hl;rw[Q0 (by omega)]
 ·rfl
def Wv {α:Type} {B:List α} {i:Nat} {x:α} (h:B[i]? =some x):i < B.length:=by
 rcases QT i B.length with h1 | h1
 ·exact h1
 ·rw[Q0 h1]at h;cases h
def JB (l:Qc): (Qb l).flatten=Qr l:=by rw[YF];rfl
def I4 (L:Qc) (B:Qa) (g:Nat) (hg:B[g]? =some (Qr L)) (hn:L.length < 100000000) (hm: ∀x∈L,x.mass < big):
  call tb 170 [.gs g 0 4 L.length,.fn 30 []] B=some (.tup [],B.set g (Qr (Xe L))):=by
 rw[Wy tb_170];have hlen: (Qr L).length=L.length*4:=Yx QN L;have hch:Yb (Qr L) 0 4 L.length=Qb L:=by
  have:=XP (f:=Qf) (k:=4) QN ZA L [];rw[QF,TP]at this;exact this
 have hall:L.all (fun t=>decide (t.mass < big))=true:=by
  rw[XM];intro x hx;simpa using hm x hx
 simp only[NV];by_cases h0:L.length=0
 ·have:L=[]:=Y2 h0;subst this;simp[Xe];exact(Cb hg).symm
 ·have hsl: (Qr (Xe L)).length=(Qr L).length:=by rw[Yx QN,Yx QN,Tc]
  have hput:put (Qr L) 0 (Qb (Xe L)).flatten=Qr (Xe L):=by
   rw[JB];simp only[put,List.take_zero,XD,Zm];rw[hsl,List.drop_length,QF]
  rw[Qm h0,Qn ⟨trivial,by omega⟩,hg];simp only[QB];rw[Qn (by omega),hch,Kp];simp only[QB];rw[Qn hall,hput]
def MI:=@List.map_take
def Jl:=@List.map_drop
def Qgg (C:Qc) (t:Qh) (B:Qa) (g:Nat) (hB:g < B.length) (hn:C.length < 100000000) (hne:C≠[]) (hm: ∀x∈C,x.mass < big): ∀(post pre:Qc) (ρ:Ql),C=pre ++ post->ρ 0= .gs g 0 4 C.length->ρ 9= .int .i64 C.length->ρ 10= .int .i64 pre.length->
  R tb (.loop f169l0) ρ (B.set g (Qr C ++ t)) (Qq 0 (QI tb f169r0 (QK f169 B)))=some (.sl true 4 (Qb C),B.set g []):=by
 have hch:Yb (Qr C ++ t) 0 4 C.length=Qb C:=by
  have:=XP (f:=Qf) (k:=4) QN ZA C t;rw[TP]at this;exact this
 have hlen: (Qr C).length=C.length*4:=Yx QN C;intro post
 induction post with
 | nil=>
  intro pre ρ hk h0 h9 h10;simp only[QF]at hk;rw[<- hk]at h10;have hz: ¬C.length=0:=fun e=>hne (Y2 e);have hle:C.length*4<=(Qr C ++ t).length:=by rw[Zc,hlen];omega
  have hg:ZU (Qb C)=true:=Y8 C;rw[Qe f169l0.eq_1];generalize Qr C ++ t=c at *;simp[h0,h9,h10,f169r0,Yk,hz,hle,hB,hch,hne,YD]
 | cons x post IH=>
  intro pre ρ hk h0 h9 h10;have hl:=QE hk;have hst: (Qr C).map AV.strip=Qr C:=YM ZA C;have r1:=UG (f:=Qf) (k:=4) QN hk t;have r1': (((Qr C ++ t).drop (pre.length*4)).take 4).map AV.strip=Qf x:=by rw[r1];exact ZA x
  have hput:=Pa (f:=Qf) (k:=4) QN x hk t;rw[<- hk]at hput;have hw1:=wr1 pre.length (by omega);have hlt:=QG hk;have hlt':pre.length < C.length:=by omega
  have hle:pre.length*4+4<=(Qr C ++ t).length:=by rw[Zc,hlen];omega
  have hc:=fun bs=>Nj x bs (hm x (by rw[hk];simp));rw[Qe f169l0.eq_1];rw[MI,Jl]at r1';have ih:=IH (pre ++ [x]);change List.take (pre.length*4) (Qr C ++ t)++ (Qf x ++ List.drop (pre.length*4+4) (Qr C ++ t))=Qr C ++ t at hput;generalize Qr C ++ t=c at *;simp[h0,h9,h10,hlt,hlt',hw1,hB,hle,r1',hc,hput];rw[ih] <;> simp[h0,h9,hk]
def Qc9:=@List.exists_mem_of_ne_nil
def MT (L:Qc) (B:Qa) (g:Nat) (hg:B[g]? =some (Qr L)) (hne:L≠[]) (hn:L.length < 100000000) (hm: ∀x∈L,x.mass < big):
  call tb 169 [.gs g 0 4 L.length] B=some (.sl true 4 (Qb (Zz L)),B.set g []):=by
 have hB:=Wv hg;have hs:=I4 L B g hg hn hm;have hS: (B.set g (Qr (Xe L)))[g]? =some (Qr (Xe L)):=by simp[hB]
 obtain⟨t,hc⟩:=EC (Xe L) (B.set g (Qr (Xe L))) g hS (by rw[Tc];exact hn) (fun x hx=>hm x (RB.1 hx));rw[LU,Tc,OS]at hc;have hCne:Zz L≠[]:=by
  obtain⟨x,hx⟩:=Qc9 L hne;intro e;have:=V7.2 hx;rw[e]at this;simp at this
 have hl:=Qgg (Zz L) t B g hB (by have:=PR L;omega) hCne (fun x hx=>hm x (V7.1 hx)) (Zz L) [];rw[zcc 169 rfl rfl];simp[f169C,hs,hc];refine hl _ rfl ?_ ?_ ?_ <;> simp
def N2 (B:Qa):call tb 169 [.gs 0 0 0 0] B=some (.sl true 4 [],B):=by
 rw[zcc 169 rfl rfl];have hs:call tb 170 [.gs 0 0 0 0,.fn 30 []] B=some (.tup [],B):=by rw[Wy tb_170];simp[NV]
 have hc:call tb 172 [.gs 0 0 0 0,.fn 171 []] B=some (.gs 0 0 0 0,B):=by
  rw[zcc 172 rfl rfl];simp[f172C]
 simp[f169C,hs,hc];rw[Qe f169l0.eq_1];simp[f169r0,Yk]
end Go.Am
namespace Go.Am
set_option maxRecDepth 20000
def Wst (B0:Qa) (k:Int) (acc:Qc) (bs:Qa):Prop:=
 B0.length+2<=bs.length/\bs.take B0.length=B0/\bs[B0.length]? =some [.int .i64 k]/\
  ((acc=[]/\bs[B0.length+1]? =some [.gs 0 0 0 0])\/(acc≠[]/\∃g,B0.length+1 < g/\bs[B0.length+1]? =some [.gs g 0 4 acc.length]/\bs[g]? =some (Qr acc)))
def SO {α:Type} {bs c:List α} {n i:Nat} {y:α} (h:n<=bs.length) (hi:n<=i): ((bs ++ c).set i y).take n=bs.take n:=by
 apply Si;intro j;rw[VO,VO];split
 ·rw[WZ (by omega),Z8 (by omega)]
 ·rfl
def Vj:Qh:=[.int .i64 0,.str [],.int .i64 0,.sl false 4 []]
def Sm:=@List.set_append
def K4:=@List.take_set_of_le
def Qag (B0:Qa) (k:Int) (acc:Qc) (bs:Qa) (x:Tm) (hw:Wst B0 k acc bs) (ha:acc.length < 100000000):
  ∃bs',call tb 167 [.agg (Qf x),.gp B0.length 0,.gp (B0.length+1) 0] bs=some (.tup [],bs')/\Wst B0 k (acc ++ if x.kind=k then [x]else []) bs':=by
 obtain⟨h1,h2,h3,h4⟩:=hw;have hgx:=Qi x;by_cases hk:x.kind=k
 ·rcases h4 with⟨rfl,h4⟩ | ⟨hne,g,hg,h4,h5⟩
  ·have hl1: ¬bs.length=B0.length+1:=by omega
   refine⟨((bs ++ [Qf x]).set (B0.length+1) [.gs bs.length 0 4 1]),?_,?_⟩
   ·rw[zcc 167 rfl rfl];have e1: (bs ++ [Vj])[bs.length]? =some Vj:=Yu;have e2: (bs ++ [Vj]).set bs.length (Qf x)=bs ++ [Qf x]:=by rw[Sm];simp
    have e3: (bs ++ [Qf x])[B0.length+1]? =some [.gs 0 0 0 0]:=by rw[Z8 (by omega)];exact h4
    simp only[Vj]at e1 e2;simp[f167,f167C,hk,h3,h4,appM,X6,hl1,e1,e2,e3,YV]
   ·refine⟨by simp;omega,?_,?_,.inr ⟨by simp[hk],bs.length,by omega,?_,?_⟩⟩
    ·rw[SO (by omega) (by omega)];exact h2
    ·rw[WZ (by omega),Z8 (by omega)];exact h3
    ·rw[Tg (by simp;omega)];simp[hk]
    ·rw[WZ (by omega),Yu];simp[hk,YB]
  ·have hl1: ¬bs.length=B0.length+1:=by omega
   have hgl:=Wv h5;have hlen: (Qr acc).length=acc.length*4:=Yx QN acc;have hst: (Qr acc).map AV.strip=Qr acc:=YM ZA acc;have htk: (Qr acc).take (acc.length*4)=Qr acc:=YD (by omega);have hb: (acc.length+1)*56<=140737488355328:=by omega
   have hn1: ¬(acc.length+1)*4<=acc.length*4:=by omega
   have hput: (Qr acc ++ Vj).take (acc.length*4)++ (Qf x ++ (Qr acc ++ Vj).drop (acc.length*4+4))=Qr (acc ++ [x]):=by
    rw[<- hlen,Ps,Mr (by simp[Vj])];simp[Qr,Vn,R9]
   have hzl: (Qr acc ++ Vj).length=acc.length*4+4:=by rw[Zc,hlen];rfl
   have hne0:Qr acc≠[]:=fun e=>by rw[e]at hlen;cases acc with
    | nil=>exact hne rfl
    | cons y ys=>simp at hlen
   have hlt: (acc.length:Int) < (acc.length:Int)+1:=by omega
   refine⟨((bs.set g []++ [Qr (acc ++ [x])]).set (B0.length+1) [.gs bs.length 0 4 (acc.length+1)]),?_,?_⟩
   ·rw[zcc 167 rfl rfl];have e1: (bs.set g []++ [Qr acc ++ Vj])[bs.length]? =some (Qr acc ++ Vj):=by
     have:bs.length=(bs.set g []).length:=by simp
     rw[this];exact Yu
    have e2: (bs.set g []++ [Qr acc ++ Vj]).set bs.length (Qr (acc ++ [x]))=bs.set g []++ [Qr (acc ++ [x])]:=by rw[Sm];simp
    have e3: (bs.set g []++ [Qr (acc ++ [x])])[B0.length+1]? =some [.gs g 0 4 acc.length]:=by
     rw[Z8 (by simp;omega),WZ (by omega)];exact h4
    have hz:Vj=[.int .i64 0,.str [],.int .i64 0,.sl false 4 []]:=rfl;rw[hz]at e1 e2 hput hzl;generalize Qr (acc ++ [x])=r2 at *;generalize Qr acc=r1 at *;simp[f167,f167C,hk,h3,h4,h5,appM,X6,hl1,hb,hne0,hlen,hn1,htk,hst,YV];generalize r1 ++ [AV.int IntKind.i64 0,AV.str [],AV.int IntKind.i64 0,AV.sl false 4 []]=r3 at *;simp[hlt,e1,e2,e3,hput,hzl,hl1,YV,h3]
   ·refine⟨by simp;omega,?_,?_,.inr ⟨by simp[hk],bs.length,by omega,?_,?_⟩⟩
    ·rw[SO (by simp;omega) (by omega),K4 (by omega)];exact h2
    ·rw[WZ (by omega),Z8 (by simp;omega),WZ (by omega)];exact h3
    ·rw[Tg (by simp;omega)];simp[hk]
    ·rw[WZ (by omega)];have:bs.length=(bs.set g []).length:=by simp
     rw[this,Yu];simp[hk]
 ·refine⟨bs,?_,by simpa[hk]using⟨h1,h2,h3,h4⟩⟩;rw[zcc 167 rfl rfl];simp[f167,f167C,hk,h3]
end Go.Am
namespace Go.Am
set_option maxRecDepth 20000
mutual
def Zn:Tm->List Tm
 | .mk k n s ks=> .mk k n s ks:: Ze ks
def Ze:List Tm->List Tm
 | []=>[]
 | t:: ts=>Zn t ++ Ze ts
end
def Bh (t:Tm):Zn t=t:: Ze t.kids:=by cases t;simp[Zn]
def Eu (a b:Qc):Ze (a ++ b)=Ze a ++ Ze b:=by
 induction a with
 | nil=>simp[Ze]
 | cons t ts ih=>simp[Ze,ih]
mutual
theorem V3: ∀t:Tm,(Zn t).length=t.nodes
 | .mk k n s ks=>by simp only[Zn,ZM,Tm.nodes,SX ks];omega
theorem SX: ∀ts:List Tm,(Ze ts).length=Qw ts
 | []=>by simp[Ze,Qw]
 | t:: ts=>by simp only[Ze,Zc,Qw,V3 t,SX ts]
end
mutual
theorem Um: ∀(t x:Tm),x∈Zn t->x.mass<=t.mass
 | .mk k n s ks,x,h=>by
  simp only[Zn,Zt]at h;rcases h with rfl | h
  ·exact Zx _
  ·have:=MP ks x h;simp only[Tm.mass];omega
theorem MP: ∀(ts:List Tm) (x:Tm),x∈Ze ts->x.mass<=Qu ts
 | [],x,h=>by simp[Ze]at h
 | t:: ts,x,h=>by
  simp only[Ze,YU]at h;simp only[Qu];rcases h with h | h
  ·have:=Um t x h;omega
  ·have:=MP ts x h;omega
end
def Xj (k:Int) (x:Tm):Bool:=decide (x.kind=k)
def WOk (B0:Qa) (k:Int) (acc:Qc) (r:Option (AV×Qa)):Prop:=∃bs',r=some (.tup [],bs')/\Wst B0 k acc bs'
def Sh:=@List.length_filter_le
def Ef:=@List.filter_append
def QeL (B0:Qa) (k:Int) (t:Tm) (B:Qa) (hm:t.mass < 100000000)
  (ih: ∀x∈t.kids,∀acc bs,Wst B0 k acc bs->acc.length+x.nodes < 100000000->WOk B0 k (acc ++ (Zn x).filter (Xj k)) (call tb 168 [.agg (Qf x),.fn 167 [.gp B0.length 0,.gp (B0.length+1) 0]] bs)):
  ∀(post pre acc:Qc) (bs:Qa) (ρ:Ql),t.kids=pre ++ post->Wst B0 k acc bs->acc.length+Qw post < 100000000->ρ 1= .fn 167 [.gp B0.length 0,.gp (B0.length+1) 0]->ρ 10= .sl false 4 (Qb t.kids)->ρ 11= .int .i64 t.kids.length->ρ 12= .int .i64 pre.length->
  WOk B0 k (acc ++ (Ze post).filter (Xj k)) (R tb (.loop f168l0) ρ bs (Qq 0 (QK f168 B))):=by
 have hmk:=QH t;intro post
 induction post with
 | nil=>
  intro pre acc bs ρ hk hw ha h1 h10 h11 h12;simp only[QF]at hk;rw[<- hk]at h12;rw[Qe f168l0.eq_1];refine⟨bs,?_,by simpa[Ze]using hw⟩;simp[h1,h10,h11,h12]
 | cons x post IH=>
  intro pre acc bs ρ hk hw ha h1 h10 h11 h12;have hg:=Qx hk;have hl:=QE hk;have hw1:=wr1 pre.length (by omega);have hlt:=QG hk;simp only[Qw]at ha;obtain⟨bs',hc,hw'⟩:=ih x (by rw[hk];simp) acc bs hw (by omega);have hfl: ((Zn x).filter (Xj k)).length<=x.nodes:=by rw[<- V3];exact Sh _ _
  have h2:=fun ρ=>IH (pre ++ [x]) _ bs' ρ (by rw[hk];simp) hw' (by rw[Zc];omega);rw[ZW,<- Ef,show Zn x ++ Ze post=Ze (x:: post) by simp[Ze]]at h2;rw[Qe f168l0.eq_1];simp[h1,h10,h11,h12,hg,hlt,hw1,hc];refine h2 _ ?_ ?_ ?_ ?_ <;> simp[h1,h10,h11]
def OO:=@List.filter_cons
def Qdk (B0:Qa) (k:Int): ∀(t:Tm) (acc:Qc) (bs:Qa),t.mass < 100000000->Wst B0 k acc bs->acc.length+t.nodes < 100000000->
  WOk B0 k (acc ++ (Zn t).filter (Xj k)) (call tb 168 [.agg (Qf t),.fn 167 [.gp B0.length 0,.gp (B0.length+1) 0]] bs):=by
 refine Yj ?_;intro kk n s ks ih acc bs hm hw ha;have hmk:=QH (.mk kk n s ks);have hnk:=XV (.mk kk n s ks);simp only[Zs,Z3]at hmk hnk;obtain⟨bs1,hc,hw1⟩:=Qag B0 k acc bs (.mk kk n s ks) hw (by omega);have hl:=fun ρ=>QeL B0 k (.mk kk n s ks) bs hm (fun x hx acc bs hw ha=>ih x hx acc bs (by have:=QY hx;simp at this;omega) hw ha) ks [] _ bs1 ρ rfl hw1 (by
  rw[Zc];split <;> simp <;> omega)
 have he:acc ++ (Zn (.mk kk n s ks)).filter (Xj k)=(acc ++ if(Tm.mk kk n s ks).kind=k then [.mk kk n s ks]else [])++ (Ze ks).filter (Xj k):=by
  simp only[Zn,OO,Xj,UM];by_cases h:kk=k <;> simp[h]
 rw[he,zcc 168 rfl rfl];simp[f168C,hc];simp only[UM,Zs,ZW]at hl;refine hl _ ?_ ?_ ?_ ?_ <;> simp[Zj]
def CB (t:Tm) (k:Int) (B:Qa) (hm:t.mass < 100000000):
  call tb 166 [.agg (Qf t),.int .i64 k] B=some (.sl true 4 (Qb (Zz ((Zn t).filter (Xj k)))),B):=by
 have hn:=YC t;have hw0:Wst B k [] (B ++ [[.int .i64 k],[.gs 0 0 0 0]]):=by
  refine⟨by simp,by simp,by simp,.inl ⟨rfl,?_⟩⟩;rw[Xc (by omega)];simp
 obtain⟨bs',hc,h1,h2,h3,h4⟩:=Qdk B k t [] _ hm hw0 (by simp;omega);rw[zcc 166 rfl rfl];have e1: (B ++ [[AV.int .i64 k]])++ [[AV.gs 0 0 0 0]]=B ++ [[.int .i64 k],[.gs 0 0 0 0]]:=by simp
 have e2: (B ++ [[AV.int .i64 k]]).length=B.length+1:=by simp
 generalize hF: (Zn t).filter (Xj k)=A at *;have hlen:A.length < 100000000:=by rw[<- hF];have:=Sh (Xj k) (Zn t);rw[V3]at this;omega
 have hmm: ∀x∈A,x.mass < big:=fun x hx=>by
  rw[<- hF]at hx;have:=Um t x (Pp.1 hx).1;unfold big;omega
 have hgp:ZU (Qb (Zz A))=true:=Y8 _;simp only[XD]at h4;rcases h4 with⟨h5,h6⟩ | ⟨h5,g,h6,h7,h8⟩
 ·have ho:=N2 bs';subst h5;simp[f166,f166C,Qi,e1,e2,hc,h6,ho,h2,Zz,Yp,Qb]
 ·have ho:=MT A bs' g h8 h5 hlen hmm;have hgl:=Wv h8;have ht: (bs'.set g []).take B.length=B:=by rw[K4 (by omega)];exact h2
  simp[f166,f166C,Qi,e1,e2,hc,h7,ho,ht,hgp]
def WO (t:Tm):Qc:=Zz ((Zn t).filter (Xj 1))
def I2 (t:Tm) (B:Qa) (hm:t.mass < 100000000):call tb 165 [.agg (Qf t)] B=some (.sl true 4 (Qb (WO t)),B):=by
 rw[zcc 165 rfl rfl];have h:=CB t 1 B hm;have hgp:ZU (Qb (Zz ((Zn t).filter (Xj 1))))=true:=Y8 _;simp[f165,f165C,Qi,h,WO]
end Go.Am
namespace Go.Am
set_option maxRecDepth 20000
def WM {n:Nat} (h:n<=200000000):n*56<=140737488355328:=by omega
def QeR (t:Tm) (bs:Qa) (hm:t.mass < 100000000) (ih: ∀x∈t.kids,∀bs,call tb 237 [.agg (Qf x)] bs=some (.sl false 4 (Qb (Zn x)),bs)):
  ∀(post pre:Qc) (ρ:Ql),t.kids=pre ++ post->ρ 1= .bx (Qf t)->ρ 3= .sl true 4 (Qb (t:: Ze pre))->ρ 4= .int .i64 pre.length->
  R tb (.loop f237l0) ρ bs (Qq 0 (QI tb f237r0 (QK f237 bs)))=some (.sl false 4 (Qb (Zn t)),bs):=by
 have hmk:=QH t;have hn:=YC t;have hnk:=XV t;intro post
 induction post with
 | nil=>
  intro pre ρ hk h1 h3 h4;simp only[QF]at hk;rw[<- hk]at h3 h4;rw[<- Bh]at h3;rw[Qe f237l0.eq_1];simp[h1,h3,h4,f237r0]
 | cons x post IH=>
  intro pre ρ hk h1 h3 h4;have hg:=Qx hk;have hl:=QE hk;have hw1:=wr1 pre.length (by omega);have hlt:=QG hk;have hnn:Qw t.kids=Qw pre+ (x.nodes+Qw post):=by rw[hk,Xb];simp[Qw]
  have hb: ((Ze pre).length+1+ (Zn x).length)*56<=140737488355328:=by rw[SX,V3];omega
  have hgl:t.kids[pre.length]'(by omega)=x:=by
   have:=Zw (l:=t.kids) (i:=pre.length) (by omega);rw[hg]at this;injection this with this;exact this.symm
  have hih:=ih x (by rw[hk];simp);have h2:=IH (pre ++ [x]);rw[Eu,show Ze [x]=Zn x by simp[Ze]]at h2;rw[Qe f237l0.eq_1];simp[h1,h3,h4,hg,hgl,hlt,hw1,hih,hb,Zu];rw[h2] <;> simp[h1,hk]
def Ki: ∀(t:Tm) (bs:Qa),t.mass < 100000000->call tb 237 [.agg (Qf t)] bs=some (.sl false 4 (Qb (Zn t)),bs):=by
 refine Yj ?_;intro k n s ks ih bs hm;have hl:=fun ρ=>QeR (.mk k n s ks) bs hm (fun x hx bs=>ih x hx bs (by have:=QY hx;have:=QH (.mk k n s ks);simp at *;omega)) ks [] ρ rfl;rw[zcc 237 rfl rfl];simp[f237C,Qi];refine hl _ ?_ ?_ ?_ <;> simp[Ze,Qb]
def QeQ (l:Qc) (t:Tm) (bs:Qa) (hl:l.length < 100000000) (hm: ∀x∈l,x.mass < big) (ht:t.mass < big):
  ∀(post pre acc:Qc) (d:Bool) (ρ:Ql),l=pre ++ post->acc.length<=pre.length+1->(d=false->acc.length=pre.length)->ρ 0= .sl false 4 (Qb l)->ρ 3= .bx (Qf t)->ρ 5= .sl true 4 (Qb acc)->ρ 6= .bool d->ρ 7= .int .i64 pre.length->
  R tb (.loop f239l0) ρ bs (Qq 0 (QI tb f239r0 (QK f239 bs)))=some (.sl false 4 (Qb (acc ++ if d then post else ZO t post)),bs):=by
 intro post
 induction post with
 | nil=>
  intro pre acc d ρ hk ha hd h0 h3 h5 h6 h7;simp only[QF]at hk;rw[<- hk]at h7 ha hd;have hb: (acc.length+1)*56<=140737488355328:=by omega
  rw[Qe f239l0.eq_1];cases d
  ·simp[h0,h3,h5,h6,h7,f239r0,hb,ZO,Qi,ZX,Zu]
  ·simp[h0,h3,h5,h6,h7,f239r0,hb,ZO]
 | cons x post IH=>
  intro pre acc d ρ hk ha hd h0 h3 h5 h6 h7;have hg:=Qx hk;have hll:=QE hk;have hw1:=wr1 pre.length (by omega);have hlt:=QG hk;have hb: (acc.length+1)*56<=140737488355328:=WM (by omega);have hb2: (acc.length+1+1)*56<=140737488355328:=WM (by clear hb;omega);have hc:=UE t x bs ht (hm x (by rw[hk];simp));rw[Qe f239l0.eq_1];cases d
  ·have hd:=hd rfl;by_cases h1:Qp t x < 0
   ·have hle:Qp t x<=0:=by omega
    have e:acc ++ (if false=true then x:: post else ZO t (x:: post))=(acc ++ [t]++ [x])++ (if true=true then post else ZO t post):=by simp[ZO,h1]
    rw[e];simp[h0,h3,h5,h6,h7,hg,hlt,hw1,hc,h1,hle,hb,hb2,Qi,ZX,Zu];clear hb hb2;rw[IH (pre ++ [x]) (acc ++ [t]++ [x]) true] <;> simp[h0,h3,hk] <;> omega
   ·by_cases h2:Qp t x=0
    ·have e:acc ++ (if false=true then x:: post else ZO t (x:: post))=(acc ++ [x])++ (if true=true then post else ZO t post):=by simp[ZO,h2]
     rw[e];simp[h0,h3,h5,h6,h7,hg,hlt,hw1,hc,h1,h2,hb,Qi,ZX,Zu];clear hb hb2;rw[IH (pre ++ [x]) (acc ++ [x]) true] <;> simp[h0,h3,hk] <;> omega
    ·have hle: ¬Qp t x<=0:=by omega
     have e:acc ++ (if false=true then x:: post else ZO t (x:: post))=(acc ++ [x])++ (if false=true then post else ZO t post):=by simp[ZO,h1,h2]
     rw[e];simp[h0,h3,h5,h6,h7,hg,hlt,hw1,hc,h1,h2,hle,hb,Qi,ZX,Zu];clear hb hb2;rw[IH (pre ++ [x]) (acc ++ [x]) false] <;> simp[h0,h3,hk] <;> omega
  ·have e:acc ++ (if true=true then x:: post else ZO t (x:: post))=(acc ++ [x])++ (if true=true then post else ZO t post):=by simp
   rw[e];simp[h0,h3,h5,h6,h7,hg,hlt,hw1,hc,hb,Qi,ZX,Zu];clear hb hb2;rw[IH (pre ++ [x]) (acc ++ [x]) true] <;> simp[h0,h3,hk] <;> omega
def Nh (l:Qc) (t:Tm) (o:Bool) (bs:Qa) (hl:l.length < 100000000) (hm: ∀x∈l,x.mass < big) (ht:t.mass < big):
  call tb 239 [.sl o 4 (Qb l),.agg (Qf t)] bs=some (.sl false 4 (Qb (ZO t l)),bs):=by
 have h:=fun ρ=>QeQ l t bs hl hm ht l [] [] false ρ rfl (by simp) (fun _=>rfl);rw[zcc 239 rfl rfl];simp[f239C];simp at h;refine h _ ?_ ?_ ?_ ?_ ?_ <;> simp[Qb]
def Qe2 (l:Qc) (bs:Qa) (hl:l.length < 100000000) (hm: ∀x∈l,x.mass < big):
  ∀(post pre acc:Qc) (o:Bool) (ρ:Ql),l=pre ++ post->acc.length<=pre.length->(∀x∈acc,x.mass < big)->ρ 0= .sl false 4 (Qb l)->ρ 3= .sl o 4 (Qb acc)->ρ 4= .int .i64 pre.length->
  R tb (.loop f238l0) ρ bs (Qq 0 (QI tb f238r0 (QK f238 bs)))=some (.sl false 4 (Qb (Yp acc post)),bs):=by
 intro post
 induction post with
 | nil=>
  intro pre acc o ρ hk ha hma h0 h3 h4;simp only[QF]at hk;rw[<- hk]at h4;rw[Qe f238l0.eq_1];simp[h0,h3,h4,f238r0,Yp]
 | cons x post IH=>
  intro pre acc o ρ hk ha hma h0 h3 h4;have hg:=Qx hk;have hll:=QE hk;have hw1:=wr1 pre.length (by omega);have hlt:=QG hk;have hx:=hm x (by rw[hk];simp);have hc:=Nh acc x false bs (by omega) hma hx;have hln:=Px x acc;rw[Qe f238l0.eq_1];simp[h0,h3,h4,hg,hlt,hw1,hc];rw[IH (pre ++ [x]) (ZO x acc) false] <;> (try simp[h0,hk,Yp])
  ·omega
  ·intro y hy;rcases S5.1 hy with rfl | hy
   ·exact hx
   ·exact hma y hy
def EI (l:Qc) (o:Bool) (bs:Qa) (hl:l.length < 100000000) (hm: ∀x∈l,x.mass < big):
  call tb 238 [.sl o 4 (Qb l)] bs=some (.sl false 4 (Qb (Zz l)),bs):=by
 have h:=fun ρ=>Qe2 l bs hl hm l [] [] true ρ rfl (by simp) (by simp);rw[zcc 238 rfl rfl];simp[f238C];refine h _ ?_ ?_ ?_ <;> simp[Qb]
def HM (l:Qc) (bs:Qa) (hl:l.length < 100000000) (hm:Qu l < 100000000):
  ∀(post pre:Qc) (ρ:Ql),l=pre ++ post->ρ 0= .sl false 4 (Qb l)->ρ 3= .sl true 4 (Qb (Ze pre))->ρ 4= .int .i64 pre.length->
  R tb (.loop f265l0) ρ bs (Qq 0 (QI tb f265r0 (QK f265 bs)))=some (.sl false 4 (Qb (Zz (Ze l))),bs):=by
 have hnm:=Yn l;intro post
 induction post with
 | nil=>
  intro pre ρ hk h0 h3 h4;simp only[QF]at hk;rw[<- hk]at h4 h3;have hc:=fun o=>EI (Ze l) o bs (by rw[SX];omega) (fun x hx=>by have:=MP l x hx;unfold big;omega);rw[Qe f265l0.eq_1];simp[h0,h3,h4,f265r0,hc]
 | cons x post IH=>
  intro pre ρ hk h0 h3 h4;have hg:=Qx hk;have hll:=QE hk;have hw1:=wr1 pre.length (by omega);have hlt:=QG hk;have hxm:x∈l:=by rw[hk];simp
  have hc:=Ki x bs (by have:=QY hxm;omega);have hnn:Qw l=Qw pre+ (x.nodes+Qw post):=by rw[hk,Xb];simp[Qw]
  have hb: ((Ze pre).length+ (Zn x).length)*56<=140737488355328:=by rw[SX,V3];omega
  have h2:=IH (pre ++ [x]);rw[Eu,show Ze [x]=Zn x by simp[Ze]]at h2;rw[Qe f265l0.eq_1];simp[h0,h3,h4,hg,hlt,hw1,hc,hb,Zu];rw[h2] <;> simp[h0,hk]
def HT (l:Qc) (o:Bool) (bs:Qa) (hl:l.length < 100000000) (hm:Qu l < 100000000):
  call tb 265 [.sl o 4 (Qb l)] bs=some (.sl false 4 (Qb (Zz (Ze l))),bs):=by
 have h:=fun ρ=>HM l bs hl hm l [] ρ rfl;rw[zcc 265 rfl rfl];simp[f265C];refine h _ ?_ ?_ ?_ <;> simp[Qb,Ze]
def QdT (t:Tm) (k:Int) (bs:Qa) (hm:t.mass < 100000000):
  ∀(post pre:Qc) (o:Bool) (ρ:Ql),Zn t=pre ++ post->ρ 1= .int .i64 k->ρ 5= .sl true 4 (Qb (pre.filter (Xj k)))->ρ 6= .sl o 4 (Qb (Zn t))->ρ 7= .int .i64 pre.length->
  R tb (.loop f236l0) ρ bs (Qq 0 (QI tb f236r0 (QK f236 bs)))=some (.sl false 4 (Qb (Zz ((Zn t).filter (Xj k)))),bs):=by
 have hn:=YC t;have hal:=V3 t;intro post
 induction post with
 | nil=>
  intro pre o ρ hk h1 h5 h6 h7;simp only[QF]at hk;rw[<- hk]at h5 h7;have hfl:=Sh (Xj k) (Zn t);have hc:=fun o=>EI ((Zn t).filter (Xj k)) o bs (by omega) (fun x hx=>by have:=Um t x (Pp.1 hx).1;unfold big;omega);rw[Qe f236l0.eq_1];simp[h1,h5,h6,h7,f236r0,hc]
 | cons x post IH=>
  intro pre o ρ hk h1 h5 h6 h7;have hg:=Qx hk;have hll: (Zn t).length=pre.length+ (post.length+1):=by rw[hk];simp
  have hw1:=wr1 pre.length (by omega);have hlt: (pre.length:Int) < ((Zn t).length:Int):=by omega
  have hfl:=Sh (Xj k) pre;have hb: ((pre.filter (Xj k)).length+1)*56<=140737488355328:=by omega
  have h2:=IH (pre ++ [x]) o;rw[Qe f236l0.eq_1];by_cases hx:x.kind=k
  ·have hf: (pre ++ [x]).filter (Xj k)=pre.filter (Xj k)++ [x]:=by simp[OO,Xj,hx]
   rw[hf]at h2;simp[h1,h5,h6,h7,hg,hlt,hw1,hx,hb,Qi,ZX,Zu];rw[h2] <;> simp[h1,h6,hk]
  ·have hf: (pre ++ [x]).filter (Xj k)=pre.filter (Xj k):=by simp[OO,Xj,hx]
   rw[hf]at h2;simp[h1,h5,h6,h7,hg,hlt,hw1,hx];rw[h2] <;> simp[h1,h5,h6,hk]
def Qaa (t:Tm) (k:Int) (bs:Qa) (hm:t.mass < 100000000):call tb 236 [.agg (Qf t),.int .i64 k] bs=some (.sl false 4 (Qb (Zz ((Zn t).filter (Xj k)))),bs):=by
 have h:=fun o ρ=>QdT t k bs hm (Zn t) [] o ρ rfl;have hc:=Ki t bs hm;rw[zcc 236 rfl rfl];simp[f236C,Qi,hc];refine h false _ ?_ ?_ ?_ ?_ <;> simp[Qb]
def A9 (t:Tm) (bs:Qa) (hm:t.mass < 100000000):call tb 235 [.agg (Qf t)] bs=some (.sl false 4 (Qb (WO t)),bs):=by
 have h:=Qaa t 1 bs hm;rw[zcc 235 rfl rfl];simp[f235,f235C,Qi,h,WO]
def Cv (t:Tm) (bs:Qa) (hm:t.mass < 100000000):call tb 234 [.agg (Qf t)] bs=some (.bool (decide ((WO t)=[])),bs):=by
 have h:=A9 t bs hm;rw[zcc 234 rfl rfl];simp[f234,f234C,Qi,h]
end Go.Am
