/-
  Ge26, Ge27, Ge28, Ge15, Rc1, Rc2, Rc3, Rc4, Rc5, Rc6, Rc7.
-/
import Derived.Test.YtmlbijpbecpjoaaGreatDoorG15
set_option linter.all false
open Go.Am.F
namespace Go.Am
set_option maxRecDepth 20000
def MB {α:Type} {l pre post:List α} {x:α} (h:l=pre ++ x:: post) (hb:l.length < 4611686018427387904):
  l[pre.length]? =some x/\IntKind.i64.wrap ((pre.length:Int)+1)=(pre.length:Int)+1/\(pre.length:Int) < (l.length:Int)/\x∈l:=by
 have hl:l.length=pre.length+ (post.length+1):=by rw[h];simp
 exact⟨Qx h,Zb (by omega) (by omega),by omega,by rw[h];simp⟩
def M4 {t:Tm} (h:t.mass < big):t.kids.length < 4611686018427387904:=by
 have:=QF t;unfold big at h;omega
def NC {t x:Tm} (h:t.mass < big) (hx:x∈t.kids):x.mass < big:=by
 have:=Q4 hx;have:=QF t;omega
def Uh:=@Bool.eq_false_or_eq_true
def Ax (t:Tm) (bs:Qa) (hm:t.mass < big):call tb 56 [.agg (Qf t)] bs=some (.int .i64 (RI t),bs):=by
 rw[zcc 56 rfl rfl];have hn:=Ea t.name bs (by have:=QF t;unfold big at hm;omega);have hks: ((8:Int) < t.kids.length)=(8 < t.kids.length):=by rw[WL];omega
 obtain⟨k,n,s,ks⟩:=t;simp at hn hks;unfold RI;simp only[Tg,S1,Z7,Zx];by_cases k1:k=1
 ·subst k1;simp[f56C,Qf,hn,hks];rcases Uh (WY n)with c4 | c4 <;> by_cases c1:s < 0 <;> by_cases c2:5 < s <;> by_cases c3:0 < ks.length <;> simp[c1,c2,c3,c4] <;> omega
 by_cases k2:k=2
 ·subst k2;simp[f56C,Qf,hn,hks];rcases Uh (WY n)with c4 | c4 <;> by_cases c1:s < 0 <;> by_cases c2:5 < s <;> by_cases c3:0 < ks.length <;> simp[c1,c2,c3,c4] <;> omega
 by_cases k3:k=3
 ·subst k3;simp[f56C,Qf,hn,hks];rcases Uh (WY n)with c4 | c4 <;> by_cases c1:s < 0 <;> by_cases c2:5 < s <;> by_cases c3:s=0 <;> simp[c1,c2,c3,c4] <;> omega
 ·simp[f56C,Qf,hn,hks,k1,k2,k3]
def DX (t:Tm) (bs:Qa) (hm:t.mass < big) (ih: ∀x∈t.kids,∀bs,call tb 55 [.agg (Qf x)] bs=some (.int .i64 (Vb x),bs)):
  ∀(post pre:Qe) (ρ:Ql),t.kids=pre ++ post->ρ 1= .bx (Qf t)->ρ 4= .int .i64 pre.length->
  R tb (.loop f55l0) ρ bs (Qq 0 (QH tb f55r0 (QP f55 bs)))=some (.int .i64 (UX post),bs):=by
 intro post
 induction post with
 | nil=>
  intro pre ρ hk h1 h4;rw[Qg f55l0.eq_1];simp at hk;simp[h1,h4,<- hk,f55r0,UX]
 | cons x post IH=>
  intro pre ρ hk h1 h4;obtain⟨hg,hw,hlt,hx⟩:=MB hk (M4 hm);have hh:=ih x hx bs;rw[Qg f55l0.eq_1];by_cases he:Vb x=0
  ·simp[h1,h4,hg,hw,hlt,hh,he,UX];rw[IH (pre ++ [x])] <;> simp[h1,hk]
  ·simp[h1,h4,hg,hw,hlt,hh,he,UX]
def Ca: ∀(t:Tm) (bs:Qa),t.mass < big->call tb 55 [.agg (Qf t)] bs=some (.int .i64 (Vb t),bs):=by
 refine Yn ?_;intro k n s ks ih bs hm;have hl:=DX (.mk k n s ks) bs hm (fun x hx bs=>ih x hx bs (NC hm hx)) ks [];have hn:=Ax (.mk k n s ks) bs hm;rw[zcc 55 rfl rfl];by_cases he:RI (.mk k n s ks)=0
 ·simp[f55C,hn,he,Vb];rw[hl] <;> simp
 ·simp[f55C,hn,he,Vb]
def WM (t:Tm) (bs:Qa) (hm:t.mass < big):call tb 54 [.agg (Qf t)] bs=some (.int .i64 (Zg t),bs):=by
 have h1:=Ca t bs hm;have h2:=Na t bs hm;have h3:=D8 t bs hm;rw[zcc 54 rfl rfl];have e1: (400 < (t.nodes:Int))=(400 < t.nodes):=by rw[WL];omega
 have e2: (40 < (t.depth:Int))=(40 < t.depth):=by rw[WL];omega
 simp[f54C,h1,h2,h3,e1,e2,Zg];by_cases he:Vb t=0 <;> by_cases c1:400 < t.nodes <;> by_cases c2:40 < t.depth <;> simp[he,c1,c2]
def NR (bs:Qa):call tb 129 [] bs=some (.sl true 4 (Va X7),bs):=by
 rw[zcc 129 rfl rfl];simp[f129,f129C,X7,Va,VC]
def QaQ (n:Qu) (bs:Qa) (l:List Sy) (hl:l.length < 1000): ∀(post pre:List Sy) (ρ:Ql),l=pre ++ post->ρ 0= .str n->(∃o,ρ 3= .sl o 4 (Va l))->ρ 4= .int .i64 pre.length->
  R tb (.loop f128l0) ρ bs (Qq 0 (QH tb f128r0 (QP f128 bs)))=some (.int .i64 (match Yd n post with | some y=>y.k | none=>0),bs):=by
 intro post
 induction post with
 | nil=>
  intro pre ρ hk h0 ⟨o,h3⟩ h4;rw[Qg f128l0.eq_1];simp at hk;rw[<- hk]at h4;simp[h0,h3,h4,f128r0,Yd]
 | cons x post IH=>
  intro pre ρ hk h0 ⟨o,h3⟩ h4;have hg:=MQ hk;obtain⟨_,hw,hlt,_⟩:=MB hk (by omega);rw[Qg f128l0.eq_1];by_cases hx:x.n=n
  ·simp[h0,h3,h4,hg,hw,hlt,VC,hx,Yd]
  ·have hxb: (x.n == n)=false:=by simp[hx]
   simp[h0,h3,h4,hg,hw,hlt,VC,hx,hxb,Yd];rw[IH (pre ++ [x])] <;> simp[h0,h3,hk]
def Iz (n:Qu) (bs:Qa):call tb 128 [.str n] bs=some (.int .i64 (match Yd n X7 with | some y=>y.k | none=>0),bs):=by
 rw[zcc 128 rfl rfl];simp[f128C,NR];rw[QaQ n bs X7 (by decide) X7 []] <;> simp
def Qc6 (t:Tm) (bs:Qa) (l:List Sy) (hl:l.length < 1000): ∀(post pre:List Sy) (ρ:Ql),l=pre ++ post->ρ 1= .bx (Qf t)->(∃o,ρ 3= .sl o 4 (Va l))->ρ 4= .int .i64 pre.length->
  R tb (.loop f130l0) ρ bs (Qq 0 (QH tb f130r0 (QP f130 bs)))=
   some (.bool (match Yd t.name post with | some y=>decide (y.l<=t.kids.length) && decide (t.kids.length<=y.m) | none=>false),bs):=by
 intro post
 induction post with
 | nil=>
  intro pre ρ hk h1 ⟨o,h3⟩ h4;rw[Qg f130l0.eq_1];simp at hk;rw[<- hk]at h4;simp[h1,h3,h4,f130r0,Yd]
 | cons x post IH=>
  intro pre ρ hk h1 ⟨o,h3⟩ h4;have hg:=MQ hk;obtain⟨_,hw,hlt,_⟩:=MB hk (by omega);rw[Qg f130l0.eq_1];by_cases hx:x.n=t.name
  ·by_cases c1:x.l<=t.kids.length <;>
   simp[h1,h3,h4,hg,hw,hlt,VC,hx,Yd,c1]
  ·have hxb: (x.n == t.name)=false:=by simp[hx]
   simp[h1,h3,h4,hg,hw,hlt,VC,hx,hxb,Yd];rw[IH (pre ++ [x])] <;> simp[h1,h3,hk]
def QcM (t:Tm) (bs:Qa):call tb 130 [.agg (Qf t)] bs=
  some (.bool (match Yd t.name X7 with | some y=>decide (y.l<=t.kids.length) && decide (t.kids.length<=y.m) | none=>false),bs):=by
 rw[zcc 130 rfl rfl];simp[f130C,NR];rw[Qc6 t bs X7 (by decide) X7 []] <;> simp
def D4 (t:Tm) (bs:Qa) (hm:t.mass < big): ∀(post pre:Qe) (ρ:Ql),t.kids=pre ++ post->ρ 1= .bx (Qf t)->ρ 3= .int .i64 pre.length->
  R tb (.loop f131l0) ρ bs (Qq 0 (QH tb f131r0 (QP f131 bs)))=some (.bool (!(post.any Th)),bs):=by
 intro post
 induction post with
 | nil=>
  intro pre ρ hk h1 h3;rw[Qg f131l0.eq_1];simp at hk;simp[h1,h3,<- hk,f131r0]
 | cons x post IH=>
  intro pre ρ hk h1 h3;obtain⟨hg,hw,hlt,hx⟩:=MB hk (M4 hm);rw[Qg f131l0.eq_1];by_cases c1:x.kind=3 <;> by_cases c2:x.sort=1 <;>
   simp[h1,h3,hg,hw,hlt,c1,c2,Th]
  rw[IH (pre ++ [x])] <;> simp[h1,hk,Th]
def Cb (t:Tm) (bs:Qa) (hm:t.mass < big) (hk:t.name=[110,101,119]->t.kids≠[]):call tb 131 [.agg (Qf t)] bs=
  some (.bool (if t.name=[110,101,119]then decide (t.kids.head?.map Tm.kind=some 2)else !(t.kids.any Th)),bs):=by
 rw[zcc 131 rfl rfl];by_cases hn:t.name=[110,101,119]
 ·cases hkk:t.kids with
  | nil=>exact absurd hkk (hk hn)
  | cons x xs=>simp[f131C,hn,hkk,Zr t,Qb]
 ·have hnb: (t.name == [110,101,119])=false:=by simp[hn]
  simp[f131C,hn,hnb];rw[D4 t bs hm t.kids []] <;> simp
def Hl (t:Tm) (bs:Qa) (hm:t.mass < big) (ih: ∀x∈t.kids,∀bs,call tb 127 [.agg (Qf x)] bs=some (.int .i64 (XQ x),bs)):
  ∀(post pre:Qe) (ρ:Ql),t.kids=pre ++ post->ρ 1= .bx (Qf t)->ρ 4= .int .i64 pre.length->
  R tb (.loop f127l0) ρ bs (Qq 0 (QH tb f127r0 (QP f127 bs)))=some (.int .i64 (Sm post),bs):=by
 intro post
 induction post with
 | nil=>
  intro pre ρ hk h1 h4;rw[Qg f127l0.eq_1];simp at hk;simp[h1,h4,<- hk,f127r0,Sm]
 | cons x post IH=>
  intro pre ρ hk h1 h4;obtain⟨hg,hw,hlt,hx⟩:=MB hk (M4 hm);have hh:=ih x hx bs;rw[Qg f127l0.eq_1];by_cases he:XQ x=0
  ·simp[h1,h4,hg,hw,hlt,hh,he,Sm];rw[IH (pre ++ [x])] <;> simp[h1,hk]
  ·simp[h1,h4,hg,hw,hlt,hh,he,Sm]
def Qd9 {y:Sy} (h:y∈X7): (y.k=2)=(y.n=[115,107]\/y.n=[115,104,107]\/y.n=[110,101,119]):=by
 have:X7.all (fun y=>decide ((y.k=2)=(y.n=[115,107]\/y.n=[115,104,107]\/y.n=[110,101,119])))=true:=by
  simp only[WL];decide
 have:=XK.1 this y h;exact of_decide_eq_true this
def Hq: ∀(t:Tm) (bs:Qa),t.mass < big->call tb 127 [.agg (Qf t)] bs=some (.int .i64 (XQ t),bs):=by
 refine Yn ?_;intro k n s ks ih bs hm;have hl:=Hl (.mk k n s ks) bs hm (fun x hx bs=>ih x hx bs (NC hm hx)) ks [];have hf:=QcM (.mk k n s ks) bs;have ha:=Cb (.mk k n s ks) bs hm;have hkd:=Iz n bs;simp only[Z7,Zx]at hf ha;rw[zcc 127 rfl rfl];by_cases hk:k=3
 ·subst hk;simp only[Qf]at hf ha hl;cases hy:Yd n X7 with
  | none=>
   rw[hy]at hkd;simp[f127C,Qf,hkd,hy,XQ]
  | some y=>
   obtain⟨hy1,hy2⟩:=Ns hy;obtain⟨hy3,hy4⟩:=Qd8 hy1;have hp:=Qd9 hy1;rw[hy]at hkd hf;simp only at hkd hf;by_cases c:y.l<=ks.length/\(ks.length:Int)<=y.m
   ·have c1:=c.1;have c2:=c.2;have d1: ¬(ks.length:Int) < y.l:=by omega
    have d2: ¬y.m < (ks.length:Int):=by omega
    have ha':=ha (fun e=>by
     have:=hy4 (by rw[hy2];exact e);intro e2;subst e2;simp at c1;omega)
    rw[hy2]at hp;have hl':=fun ρ=>hl ρ rfl;by_cases h1:n=[115,107]
    ·subst h1;have hk2:y.k=2:=by rw[hp];simp
     simp at ha';rcases Uh (ks.any Th)with c4 | c4 <;>
      simp[f127C,Qf,hkd,hk2,hf,c1,c2,d1,d2,ha',XQ,hy,c4]
     rw[hl'] <;> simp
    by_cases h2:n=[115,104,107]
    ·subst h2;have hk2:y.k=2:=by rw[hp];simp
     simp at ha';rcases Uh (ks.any Th)with c4 | c4 <;>
      simp[f127C,Qf,hkd,hk2,hf,c1,c2,d1,d2,ha',XQ,hy,c4]
     rw[hl'] <;> simp
    by_cases h3:n=[110,101,119]
    ·subst h3;have hk2:y.k=2:=by rw[hp];simp
     simp at ha';by_cases c4: ∃a,ks.head?=some a/\a.kind=2 <;>
      simp[f127C,Qf,hkd,hk2,hf,c1,c2,d1,d2,ha',XQ,hy,c4]
     rw[hl'] <;> simp
    ·have hk2: ¬y.k=2:=by rw[hp];simp[h1,h2,h3]
     have hk2b: (y.k == 2)=false:=by simp[hk2]
     simp[f127C,Qf,hkd,hk2,hy3,hf,c1,c2,d1,d2,XQ,hy,h1,h2,h3];rw[hl'] <;> simp
   ·have d: (ks.length:Int) < y.l\/y.m < ks.length:=by omega
    have e: (decide (y.l<=ks.length) && decide ((ks.length:Int)<=y.m))=false:=by
     rw[FE];simp;omega
    have hf2:call tb 130 [.agg [.int .i64 3,.str n,.int .i64 s,.sl false 4 (Qb ks)]] bs=some (.bool (decide (y.l<=(ks.length:Int)) && decide ((ks.length:Int)<=y.m)),bs):=hf;rw[e]at hf2;simp[f127C,Qf,hkd,hy,hy3,hf2,d,XQ]
 ·simp[f127C,Qf,hk,XQ]
def MC (t:Tm) (bs:Qa) (hm:t.mass < big):call tb 126 [.agg (Qf t)] bs=some (.int .i64 (thV t),bs):=by
 have h1:=WM t bs hm;have h2:=Hq t bs hm;rw[zcc 126 rfl rfl];rw[Zr]at *;by_cases h:Zg t=0
 ·simp[f126C,h1,h2,h,thV]
 ·simp[f126C,h1,h,thV]
def F6: ∀{a b:Qu},Wy a b=0->a=b:=by
 intro a b h;unfold Wy at h;split at h
 ·simp at h
 ·split at h
  ·rename_i h2;exact V7.1 h2
  ·simp at h
mutual
theorem Y7: ∀(t u:Tm),Qp t u=0->t=u
 | .mk k n s ks,.mk k' n' s' ks',h=>by
  rw[SQ,S5]at h;obtain⟨h1,h2⟩:=h;unfold hdT at h1;simp only[S5,PR,Tg,Z7,S1,Zx]at h1 h2;obtain⟨_,h3,h4,h5,h6⟩:=h1;have e1:=F6 h4;have e2:=Ew ks ks' (by omega) h2;rw[h3,e1,h5,e2]
theorem Ew: ∀(ts us:List Tm),ts.length=us.length->Xs ts us=0->ts=us
 | [],[],_,_=>rfl
 | [],_:: _,h,_=>by simp at h
 | _:: _,[],h,_=>by simp at h
 | t:: ts,u:: us,h,h2=>by
  rw[Xs,S5]at h2;rw[Y7 t u h2.1,Ew ts us (by simpa using h) h2.2]
end
def XR {t u:Tm}:Qp t u=0↔t=u:=⟨Y7 t u,fun h=>h▸Vg t⟩
def isB (t:Tm) (n:Qu):Bool:=decide (t.kind=3) && (t.name == n)
def TX {t:Tm} {n:Qu}:isB t n=true↔t.kind=3/\t.name=n:=by simp[isB]
def MH (t:Tm) (n:Qu) (bs:Qa):call tb 71 [.agg (Qf t),.str n] bs=some (.bool (isB t n),bs):=by
 rw[zcc 71 rfl rfl];by_cases h:t.kind=3 <;> simp[f71,f71C,isB,h]
def Py (t:Tm) (n:Qu) (bs:Qa):call tb 132 [.agg (Qf t),.str n] bs=some (.bool (isB t n),bs):=by
 rw[zcc 132 rfl rfl];by_cases h:t.kind=3 <;> simp[f132,f132C,isB,h]
def IA (n:Qu) (ks:Qe) (o:Bool) (bs:Qa) (hl:ks.length<=1000):call tb 120 [.str n,.sl o 4 (Qb ks)] bs=some (.agg (Qf (.mk 3 n 0 ks)),bs):=by
 rw[zcc 120 rfl rfl];have ha:ks.length*56<=140737488355328:=by omega
 simp[f120,f120C,UV,UW,ha,XT]
def NM (a b:Int):sgn b a= - sgn a b:=by unfold sgn;split <;> (try split) <;> (try split) <;> omega
def Qd4 {a b:Int}:sgn a b<=0↔a<=b:=by unfold sgn;split <;> (try split) <;> omega
def Kj: ∀a b:Qu,Op.bytesLess a b=true\/a=b\/Op.bytesLess b a=true
 | [],[]=> .inr (.inl rfl)
 | [],_:: _=> .inl rfl
 | _:: _,[]=> .inr (.inr rfl)
 | x:: xs,y:: ys=>by
  simp only[Op.bytesLess,Vu,Qv,Qo,V7,List.cons.injEq];rcases FP x.toNat y.toNat with h | h | h
  ·have:x < y:=by rw[Pf];exact h
   simp[this]
  ·have e:x=y:=UInt8.toNat_inj.1 h;subst e;have hi: ¬x < x:=by rw[Pf];omega
   rcases Kj xs ys with h | h | h
   ·simp[hi,h]
   ·simp[hi,h]
   ·simp[hi,h]
  ·have:y < x:=by rw[Pf];exact h
   have h2: ¬x < y:=by rw[Pf];omega
   simp[this,h2]
def Nz: ∀a b c:Qu,Op.bytesLess a b=true->Op.bytesLess b c=true->Op.bytesLess a c=true
 | [],_,[],_,h=>by cases ‹Qu› <;> simp[Op.bytesLess]at h
 | [],_,_:: _,_,_=>rfl
 | _:: _,[],_,h,_=>by simp[Op.bytesLess]at h
 | _:: _,_:: _,[],_,h=>by simp[Op.bytesLess]at h
 | x:: xs,y:: ys,z:: zs,h1,h2=>by
  have ih:=Nz xs ys zs;simp only[Op.bytesLess,Vu,Qv,Qo,V7]at h1 h2 ⊢;rcases h1 with h1 | ⟨rfl,h1⟩
  ·rcases h2 with h2 | ⟨rfl,h2⟩
   ·left;rw[Pf]at *;omega
   ·exact .inl h1
  ·rcases h2 with h2 | ⟨rfl,h2⟩
   ·exact .inl h2
   ·exact .inr ⟨rfl,ih h1 h2⟩
def Jx (a b:Qu) (h:Op.bytesLess a b=true):Op.bytesLess b a=false:=by
 cases hb:Op.bytesLess b a
 ·rfl
 ·have:=Nz a b a h hb;rw[Ww]at this;cases this
def ML (a b:Qu):Wy b a= - Wy a b:=by
 unfold Wy;rcases Kj a b with h | h | h
 ·have h2:=Jx a b h;have hne: (b == a)=false:=by
   rw[FK];intro e;subst e;rw[Ww]at h;cases h
  simp[h,h2,hne]
 ·subst h;simp[Ww]
 ·have h2:=Jx b a h;have hne: (a == b)=false:=by
   rw[FK];intro e;subst e;rw[Ww]at h;cases h
  simp[h,h2,hne]
def Qh1 {a b:Qu}:Wy a b<=0↔Op.bytesLess a b=true\/a=b:=by
 unfold Wy;split
 ·rename_i h;simp[h]
 ·rename_i h;split
  ·rename_i h2;simp at h2;simp[h2]
  ·rename_i h2;simp at h2;simp[h,h2]
def AG {a b c:Qu} (h1:Wy a b<=0) (h2:Wy b c<=0):Wy a c<=0:=by
 rw[Qh1]at *;rcases h1 with h1 | rfl
 ·rcases h2 with h2 | rfl
  ·exact .inl (Nz _ _ _ h1 h2)
  ·exact .inl h1
 ·exact h2
def Ey {a b:Qu} (h:Wy a b=0):a=b:=by
 rcases Kj a b with h2 | h2 | h2
 ·simp[Wy,h2]at h
 ·exact h2
 ·have:=ML a b;rw[h]at this;simp[Wy,h2]at this
def S3 {a b a' b':Int} (h1:a'= -a) (h2:b'= -b):or0 a' b'= - or0 a b:=by
 subst h1 h2;unfold or0;split <;> split <;> omega
def T3 {a1 a2 a3 b1 b2 b3:Int} (ha:a1<=0->a2<=0->a3<=0) (hz:a3=0->a1<=0->a2<=0->a1=0/\a2=0) (hb:a1=0->a2=0->b1<=0->b2<=0->b3<=0)
  (h1:or0 a1 b1<=0) (h2:or0 a2 b2<=0):or0 a3 b3<=0:=by
 have g1:a1<=0:=by unfold or0 at h1;split at h1 <;> omega
 have g2:a2<=0:=by unfold or0 at h2;split at h2 <;> omega
 have g3:=ha g1 g2;by_cases hc:a3=0
 ·obtain⟨z1,z2⟩:=hz hc g1 g2;rw[z1,Tl]at h1;rw[z2,Tl]at h2;rw[hc,Tl];exact hb z1 z2 h1 h2
 ·rw[Sv hc];exact g3
def Og {a b c:Int} (h1:sgn a b<=0) (h2:sgn b c<=0):sgn a c<=0:=by rw[Qd4]at *;omega
def Ks {a b c:Int} (h:sgn a c=0) (h1:sgn a b<=0) (h2:sgn b c<=0):sgn a b=0/\sgn b c=0:=by
 rw[PR]at *;rw[Qd4]at h1 h2;rw[PR];omega
def QcR {a b c:Qu} (h:Wy a c=0) (h1:Wy a b<=0) (h2:Wy b c<=0):Wy a b=0/\Wy b c=0:=by
 have e:=Ey h;subst e;have:=ML a b;constructor <;> omega
def E4 (t u:Tm):hdT u t= - hdT t u:=by
 unfold hdT;exact S3 (NM _ _) (S3 (NM _ _) (S3 (ML _ _) (S3 (NM _ _) (NM _ _))))
def Kf {t u:Tm}:hdT t u=0↔t.nodes=u.nodes/\t.kind=u.kind/\t.name=u.name/\t.sort=u.sort/\t.kids.length=u.kids.length:=by
 unfold hdT;rw[S5,S5,S5,S5,PR,PR,PR,PR];constructor
 ·rintro⟨h1,h2,h3,h4,h5⟩
  exact⟨by omega,h2,Ey h3,h4,by omega⟩
 ·rintro⟨h1,h2,h3,h4,h5⟩
  exact⟨by omega,h2,by rw[h3];exact II _,h4,by omega⟩
def Qdd {t u v:Tm} (h1:hdT t u<=0) (h2:hdT u v<=0):hdT t v<=0:=by
 unfold hdT at *;refine T3 Og (fun h a b=>Ks h a b) (fun _ _=> ?_) h1 h2;refine T3 Og (fun h a b=>Ks h a b) (fun _ _=> ?_);refine T3 AG (fun h a b=>QcR h a b) (fun _ _=> ?_);exact T3 Og (fun h a b=>Ks h a b) (fun _ _=>Og)
def MK: ∀(ts us:Qe),(∀x∈ts,∀y,Qp y x= - Qp x y)->Xs us ts= - Xs ts us
 | [],[],_=>by simp[Xs]
 | [],_:: _,_=>by simp[Xs]
 | _:: _,[],_=>by simp[Xs]
 | t:: ts,u:: us,h=>by
  simp only[Xs];exact S3 (h t (by simp) u) (MK ts us fun x hx=>h x (by simp[hx]))
def WN: ∀(t u:Tm),Qp u t= - Qp t u:=by
 refine Yn ?_;intro k n s ks ih u;rw[SQ,SQ];exact S3 (E4 _ _) (MK _ _ fun x hx y=>ih x hx y)
def NS: ∀(ts us vs:Qe),ts.length=us.length->us.length=vs.length->(∀x∈ts,∀y z,Qp x y<=0->Qp y z<=0->Qp x z<=0)->Xs ts us<=0->Xs us vs<=0->Xs ts vs<=0
 | [],[],[],_,_,_,_,_=>by simp[Xs]
 | t:: ts,u:: us,v:: vs,h1,h2,h,g1,g2=>by
  simp only[Xs]at g1 g2 ⊢;refine T3 (h t (by simp) u v) (fun h0 a b=> ?_) (fun _ _=>NS ts us vs (by simpa using h1) (by simpa using h2) fun x hx=>h x (by simp[hx])) g1 g2;have e:=Y7 _ _ h0;subst e;have:=WN t u;constructor <;> omega
 | [],_:: _,_,h1,_,_,_,_=>by simp at h1
 | _:: _,[],_,h1,_,_,_,_=>by simp at h1
 | [],[],_:: _,_,h2,_,_,_=>by simp at h2
 | _:: _,_:: _,[],_,h2,_,_,_=>by simp at h2
def Nd: ∀(t u v:Tm),Qp t u<=0->Qp u v<=0->Qp t v<=0:=by
 refine Yn ?_;intro k n s ks ih u v h1 h2;rw[SQ]at *;refine T3 Qdd (fun h0 a b=> ?_) (fun e1 e2=> ?_) h1 h2
 ·rw[Kf]at h0;have z1:=Kf (t:= .mk k n s ks) (u:=u);have e2:hdT u v=hdT u (.mk k n s ks):=by unfold hdT;rw[h0.1,h0.2.1,h0.2.2.1,h0.2.2.2.1,h0.2.2.2.2]
  rw[e2]at b ⊢;have:=E4 (.mk k n s ks) u;constructor <;> omega
 ·rw[Kf]at e1 e2;exact NS _ _ _ e1.2.2.2.2 e2.2.2.2.2 fun x hx=>ih x hx
def Xw {a b c:Tm} (h1:Qp a b < 0) (h2:Qp b c < 0):Qp a c < 0:=by
 have h:=Nd a b c (by omega) (by omega);rcases Int.lt_or_eq_of_le h with h | h
 ·exact h
 ·have e:=Y7 _ _ h;subst e;have:=WN a b;omega
def V8 (a:Tm): ¬Qp a a < 0:=by rw[Vg];omega
def Jo {a b:Tm}:0 < Qp a b↔Qp b a < 0:=by have:=WN a b;omega
def L8 (a b:Tm):Qp a b < 0\/a=b\/Qp b a < 0:=by
 rcases Int.lt_trichotomy (Qp a b) 0 with h | h | h
 ·exact .inl h
 ·exact .inr (.inl (Y7 _ _ h))
 ·exact .inr (.inr (Jo.1 h))
def Asc (l:Qe):Prop:=l.Pairwise fun a b=>Qp a b < 0
def Asc.nil:Asc []:=List.Pairwise.nil
def JZ (t:Tm):Asc [t]:=by simp[Asc]
def We {x:Tm} {l:Qe}:Asc (x:: l)↔(∀y∈l,Qp x y < 0)/\Asc l:=VK
def JY: ∀{a b:Qe},Asc a->Asc b->(∀x,x∈a↔x∈b)->a=b
 | [],[],_,_,_=>rfl
 | [],y:: ys,_,_,h=>by have:=(h y).2 (by simp);simp at this
 | x:: xs,[],_,_,h=>by have:=(h x).1 (by simp);simp at this
 | x:: xs,y:: ys,ha,hb,h=>by
  rw[We]at ha hb;have hxy:x=y:=by
   rcases L8 x y with h1 | h1 | h1
   ·have:=(h x).1 (by simp);rcases ZS.1 this with e | e
    ·exact e
    ·have:=Xw h1 (hb.1 x e);exact absurd this (V8 x)
   ·exact h1
   ·have:=(h y).2 (by simp);rcases ZS.1 this with e | e
    ·exact e.symm
    ·have:=Xw h1 (ha.1 y e);exact absurd this (V8 y)
  subst hxy;congr 1;refine JY ha.2 hb.2 fun z=> ?_;have hz:=h z;simp only[ZS]at hz;constructor
  ·intro hm;rcases hz.1 (.inr hm)with e | e
   ·subst e;exact absurd (ha.1 z hm) (V8 z)
   ·exact e
  ·intro hm;rcases hz.2 (.inr hm)with e | e
   ·subst e;exact absurd (hb.1 z hm) (V8 z)
   ·exact e
def Xn (t:Tm):Qe->Qe
 | []=>[t]
 | x:: xs=>if Qp t x < 0 then t:: x:: xs else if Qp t x=0 then x:: xs else x:: Xn t xs
def SZ {t y:Tm}: ∀{l:Qe},y∈Xn t l↔y=t\/y∈l
 | []=>by simp[Xn]
 | x:: xs=>by
  simp only[Xn];split
  ·simp
  ·split
   ·rename_i h;have:=Y7 _ _ h;subst this;simp
   ·simp only[ZS,SZ (l:=xs)];constructor
    ·rintro(h | h | h) <;> simp[h]
    ·rintro(h | h | h) <;> simp[h]
def LZ {t:Tm}: ∀{l:Qe},Asc l->Asc (Xn t l)
 | [],_=>JZ t
 | x:: xs,h=>by
  have h0:=h;rw[We]at h;simp only[Xn];split
  ·rename_i h1;rw[We];refine⟨fun y hy=> ?_,h0⟩;rcases ZS.1 hy with rfl | hy
   ·exact h1
   ·exact Xw h1 (h.1 y hy)
  ·split
   ·exact h0
   ·rename_i h1 h2;rw[We];refine⟨fun y hy=> ?_,LZ h.2⟩;rcases SZ.1 hy with rfl | hy
    ·exact Jo.1 (by omega)
    ·exact h.1 y hy
def Pt (t:Tm): ∀l:Qe,(Xn t l).length<=l.length+1
 | []=>by simp[Xn]
 | x:: xs=>by
  simp only[Xn];have:=Pt t xs;split
  ·simp
  ·split <;> simp <;> omega
def YM (acc:Qe) (l:Qe):Qe:=l.foldl (fun a x=>Xn x a) acc
def Vf (l:Qe):Qe:=YM [] l
def ND {y:Tm}: ∀{l acc:Qe},y∈YM acc l↔y∈acc\/y∈l
 | [],acc=>by simp[YM]
 | x:: xs,acc=>by
  have:=ND (y:=y) (l:=xs) (acc:=Xn x acc);simp only[YM,OJ]at this ⊢;rw[this,SZ];simp only[ZS];constructor
  ·rintro((h | h) | h) <;> simp[h]
  ·rintro(h | h | h) <;> simp[h]
def K8: ∀{l acc:Qe},Asc acc->Asc (YM acc l)
 | [],_,h=>h
 | x:: xs,acc,h=>K8 (l:=xs) (LZ h)
def PH {y:Tm} {l:Qe}:y∈Vf l↔y∈l:=by unfold Vf;rw[ND];simp
def F4 (l:Qe):Asc (Vf l):=K8 Asc.nil
def Al (acc a b:Qe):YM acc (a ++ b)=YM (YM acc a) b:=by simp[YM]
def O7: ∀(l acc:Qe),(YM acc l).length<=acc.length+l.length
 | [],acc=>by simp[YM]
 | x:: xs,acc=>by
  have h1:=O7 xs (Xn x acc);have h2:=Pt x acc;simp only[YM,OJ,ZL]at *;omega
def DI (l:Qe): (Vf l).length<=l.length:=by have:=O7 l [];simpa[Vf]using this
def NE {t y:Tm}: ∀{l:Qe},y∈TL t l↔y=t\/y∈l
 | []=>by simp[TL]
 | x:: xs=>by
  simp only[TL];split
  ·simp only[ZS,NE (l:=xs)];constructor
   ·rintro(h | h | h) <;> simp[h]
   ·rintro(h | h | h) <;> simp[h]
  ·simp
def Rt {y:Tm}: ∀{l:Qe},y∈Y6 l↔y∈l
 | []=>by simp[Y6]
 | x:: xs=>by simp only[Y6,NE,Rt (l:=xs),ZS]
def E5 (t:Tm): ∀l:Qe,(TL t l).length=l.length+1
 | []=>rfl
 | x:: xs=>by simp only[TL];split <;> simp[E5 t xs]
def U4: ∀l:Qe,(Y6 l).length=l.length
 | []=>rfl
 | x:: xs=>by simp[Y6,E5,U4 xs]
def Srt (l:Qe):Prop:=l.Pairwise fun a b=>Qp a b<=0
def DP {t:Tm}: ∀{l:Qe},Srt l->Srt (TL t l)
 | [],_=>by simp[TL,Srt]
 | x:: xs,h=>by
  have h0:=h;unfold Srt at h;rw[VK]at h;simp only[TL];split
  ·rename_i h1;unfold Srt;rw[VK];refine⟨fun y hy=> ?_,DP h.2⟩;rcases NE.1 hy with rfl | hy
   ·omega
   ·exact h.1 y hy
  ·rename_i h1;unfold Srt;rw[VK];refine⟨fun y hy=> ?_,h0⟩;have htx:Qp t x<=0:=by have:=WN x t;omega
   rcases ZS.1 hy with rfl | hy
   ·exact htx
   ·exact Nd _ _ _ htx (h.1 y hy)
def Hf: ∀l:Qe,Srt (Y6 l)
 | []=>List.Pairwise.nil
 | x:: xs=>DP (Hf xs)
def WW:List Tm->List Tm
 | []=>[]
 | [x]=>[x]
 | x:: y:: r=>if Qp y x=0 then WW (x:: r)else x:: WW (y:: r)
termination_by l=>l.length
def Oc: ∀(n:Nat) (l:Qe) (y:Tm),l.length<=n->(y∈WW l↔y∈l)
 | _,[],y,_=>by simp[WW]
 | _,[x],y,_=>by simp[WW]
 | n+1,x:: z:: r,y,h=>by
  rw[WW];split
  ·rename_i e;have e:=Y7 _ _ e;subst e;rw[Oc n (z:: r) y (by simp at h ⊢;omega)];simp
  ·rw[ZS,Oc n (z:: r) y (by simp at h ⊢;omega)];simp only[ZS]
 | 0,_:: _:: _,_,h=>by simp at h
def MA: ∀(n:Nat) (l:Qe),l.length<=n->Srt l->Asc (WW l)
 | _,[],_,_=>by simp[WW,Asc.nil]
 | _,[x],_,_=>by simp[WW,JZ]
 | n+1,x:: z:: r,h,hs=>by
  have hs0:=hs;unfold Srt at hs;rw[VK]at hs;rw[WW];split
  ·rename_i e;have e:=Y7 _ _ e;subst e;exact MA n _ (by simp at h ⊢;omega) hs.2
  ·rename_i e;rw[We];refine⟨fun y hy=> ?_,MA n _ (by simp at h ⊢;omega) hs.2⟩;rw[Oc n _ y (by simp at h ⊢;omega)]at hy;have hxz:Qp x z < 0:=by
    have h1:=hs.1 z (by simp);have h2:=WN x z;omega
   rcases ZS.1 hy with rfl | hy
   ·exact hxz
   ·have h2:Qp z y<=0:=by
     have:=hs.2;rw[VK]at this;exact this.1 y hy
    rcases Int.lt_or_eq_of_le (Nd x z y (by omega) h2)with h3 | h3
    ·exact h3
    ·have e3:=Y7 _ _ h3;subst e3;have:=WN x z;omega
 | 0,_:: _:: _,h,_=>by simp at h
def LD (l:Qe):WW (Y6 l)=Vf l:=
 JY (MA _ _ (ZJ _) (Hf l)) (F4 l) fun x=>by rw[Oc _ _ x (ZJ _),Rt,PH]
def Oq: ∀a b:Qh,QY (a ++ b)=(QY a && QY b)
 | [],b=>by simp
 | x:: a,b=>by simp[Oq a b,Bool.and_assoc]
section
variable {α:Type} (f:α->List AV) (k:Nat)
def YG (f:α->Qh) (l:List α):Qh:=(l.map f).flatten
def TQ (x:α) (l:List α):YG f (x:: l)=f x ++ YG f l:=by simp[YG]
def Ua (a b:List α):YG f (a ++ b)=YG f a ++ YG f b:=by simp[YG]
def OZ (x:α):YG f [x]=f x:=by simp[YG]
variable {f k}
def YR (hk: ∀x,(f x).length=k): ∀l:List α,(YG f l).length=l.length*k
 | []=>by simp[YG]
 | x:: l=>by rw[TQ,Zo,hk,YR hk l,ZL,Vw];omega
def Xx (hs: ∀x,(f x).map AV.strip=f x): ∀l:List α,(YG f l).map AV.strip=YG f l
 | []=>rfl
 | x:: l=>by rw[TQ,UI,hs,Xx hs l]
def QdD (hg: ∀x,QY (f x)=true): ∀l:List α,QY (YG f l)=true
 | []=>rfl
 | x:: l=>by
  rw[TQ,Oq,hg x,QdD hg l];rfl
def Pb:=@List.take_append_of_le_length
def Ux (hk: ∀x,(f x).length=k) {l pre post:List α} {x:α} (h:l=pre ++ x:: post) (t:Qh): ((YG f l ++ t).drop (pre.length*k)).take k=f x:=by
 subst h;rw[Ua,TQ,ZR,<- YR hk pre,List.drop_left,ZR];have:=hk x;rw[Pb (by omega),Yy (by omega)]
def OK:=@List.take_left
def PM (hk: ∀x,(f x).length=k) {l pre post:List α} (h:l=pre ++ post) (t:Qh): (YG f l ++ t).take (pre.length*k)=YG f pre:=by
 subst h;rw[Ua,ZR,<- YR hk pre,OK]
def Kq (hk: ∀x,(f x).length=k) {l pre post:List α} (h:l=pre ++ post) (t:Qh): (YG f l ++ t).drop (pre.length*k)=YG f post ++ t:=by
 subst h;rw[Ua,ZR,<- YR hk pre,List.drop_left]
def R0 (hk: ∀x,(f x).length=k) {l pre post:List α} {x:α} (y:α) (h:l=pre ++ x:: post) (t:Qh):
  (YG f l ++ t).take (pre.length*k)++ (f y ++ (YG f l ++ t).drop (pre.length*k+k))=YG f (pre ++ y:: post)++ t:=by
 rw[PM hk h,Ua,TQ];have h2:l=(pre ++ [x])++ post:=by rw[h];simp
 have:=Kq hk h2 t;rw[Zo,Tu,ZT,Nat.one_mul]at this;rw[this];simp
def QcB:=@List.getElem?_eq_none_iff
def Wh (hk: ∀x,(f x).length=k) (hs: ∀x,(f x).map AV.strip=f x) (l:List α) (t:Qh):ZX (YG f l ++ t) 0 k l.length=l.map f:=by
 apply UQ;intro i;cases hc: (ZX (YG f l ++ t) 0 k l.length)[i]? with
 | none=>
  rw[QcB,WG]at hc;rw[Q3 (by simpa using hc)]
 | some y=>
  obtain⟨hi,rfl⟩:=Sn hc;have hl:l=l.take i ++ l[i]:: l.drop (i+1):=by rw[List.getElem_cons_drop,KI]
  have hr:=Ux hk hl t;rw[Xf,FV (by omega)]at hr;rw[Zk,hr,hs];simp[Zv hi]
end
def QZ (x:Tm): (Qf x).length=4:=XF x
abbrev Qy (l:List Tm):List AV:=YG Qf l
def TP (l:Qe):l.map Qf=Qb l:=(YW l).symm
def Jc (x y:Tm) (bs:Qa) (hx:x.mass < big) (hy:y.mass < big):call tb 171 [.agg (Qf x),.agg (Qf y)] bs=some (.bool (decide (Qp x y=0)),bs):=by
 rw[zcc 171 rfl rfl];have h:=call_Compare x y bs hx hy;simp[f171,f171C,Qk,h]
def Yq (prev:Tm):Qe->Qe
 | []=>[]
 | x:: r=>if Qp x prev=0 then Yq x r else x:: Yq x r
def RF (x:Tm): ∀(r:Qe),WW (x:: r)=x:: Yq x r
 | []=>by simp[WW,Yq]
 | y:: r=>by
  rw[WW];simp only[Yq];split
  ·rename_i h;have:=Y7 _ _ h;subst this;exact RF y r
  ·rw[RF y r]
def QgJ (B:Qa) (id n:Nat) (D:Qe) (c:Qh) (hB:id < B.length) (hc:c.length=n*4) (hD:D.length<=n) (hn:n < 100000000) (ht:c.take (D.length*4)=Qy D)
  (ρ:Ql) (h0:ρ 0= .gs id 0 4 n) (h5:ρ 5= .int .i64 D.length):
  R tb f172r0 ρ (B.set id c) (Qq 1 (QH tb f172r1 (QH tb (.loop f172l1) (Qq 0 (QH tb f172r2 (QP f172 B))))))=
   some (.gs id 0 4 D.length,B.set id (Qy D ++ List.replicate ((n - D.length)*4) .undef)):=by
 have e1: (0:Int)<=(D.length:Int):=by omega
 have e2: (D.length:Int)<=(n:Int):=by omega
 have hput:c.take (D.length*4)++ (List.replicate ((n - D.length)*4) AV.undef ++ c.drop (D.length*4+ (n - D.length)*4))=Qy D ++ List.replicate ((n - D.length)*4) .undef:=by
  rw[ht,Mh (by rw[hc,<- ZT];exact Z5 _ (by omega))];simp
 have hle:D.length*4+ (n - D.length)*4<=n*4:=by rw[<- ZT];exact Z5 _ (by omega)
 by_cases hz:n - D.length=0
 ·have hDn:D.length=n:=by omega
  have hcc:c=Qy D:=by rw[<- ht,Yy (by omega)]
  simp[f172r0,h0,h5,e1,e2,hD,hz,hcc]
 ·simp[f172r0,h0,h5,e1,e2,hD,hz,hB,hc,hle,hput]
end Go.Am
namespace Go.Am
set_option maxRecDepth 20000
def HV (L:Qe) (B:Qa) (id:Nat) (r:Option (AV×Qa)):Prop:=∃t,r=some (.gs id 0 4 L.length,B.set id (Qy L ++ t))
def QgH (B:Qa) (id n k0:Nat) (hB:id < B.length) (hn:n < 100000000): ∀(post D mid:Qe) (prev:Tm) (k2:Nat) (ρ:Ql),D.length+mid.length+1+post.length=n->k0+k2=D.length+mid.length+1->0 < k2->
   (∀x∈prev:: post,x.mass < big)->ρ 0= .gs id 0 4 n->ρ 1= .fn 171 []->ρ 5= .int .i64 D.length->ρ 6= .gs id (k0*4) 4 (n - k0)->ρ 7= .int .i64 k2->
  HV (D ++ Yq prev post) B id (R tb (.loop f172l0) ρ (B.set id (Qy (D ++ mid ++ prev:: post)))
   (Qq 2 (QH tb f172r0 (Qq 1 (QH tb f172r1 (QH tb (.loop f172l1) (Qq 0 (QH tb f172r2 (QP f172 B))))))))):=by
 intro post
 induction post with
 | nil=>
  intro D mid prev k2 ρ hl hk hk2 hm h0 h1 h5 h6 h7;have hlen: (Qy (D ++ mid ++ [prev])).length=n*4:=by rw[YR QZ];simp at hl ⊢;omega
  have ht: (Qy (D ++ mid ++ [prev])).take (D.length*4)=Qy D:=by
   have:=PM (f:=Qf) (k:=4) QZ (l:=D ++ mid ++ [prev]) (pre:=D) (post:=mid ++ [prev]) (by simp) [];simpa using this
  have hr:=fun ρ a b=>QgJ B id n D (Qy (D ++ mid ++ [prev])) hB hlen (by omega) hn ht ρ a b;have hl':D.length+mid.length+1=n:=by simpa using hl
  have hnl: ¬((k2:Int) < ((n - k0:Nat):Int)):=by omega
  have hnl2: ¬(k2 < n - k0):=by omega
  rw[Qg f172l0.eq_1];simp only[Yq,QN];refine⟨List.replicate ((n - D.length)*4) .undef,?_⟩;simp[h0,h1,h5,h6,h7,hnl,hnl2];simp only[ZR]at hr;refine hr _ ?_ ?_ <;> simp[h0,h5]
 | cons x post IH=>
  intro D mid prev k2 ρ hl hk hk2 hm h0 h1 h5 h6 h7;have hlen: (Qy (D ++ mid ++ prev:: x:: post)).length=n*4:=by rw[YR QZ];simp at hl ⊢;omega
  have hst: (Qy (D ++ mid ++ prev:: x:: post)).map AV.strip=Qy (D ++ mid ++ prev:: x:: post):=Xx Z6 _;have r1: ((Qy (D ++ mid ++ prev:: x:: post)).drop (k0*4+k2*4)).take 4=Qf x:=by
   have:=Ux (f:=Qf) (k:=4) QZ (l:=D ++ mid ++ prev:: x:: post) (pre:=D ++ mid ++ [prev]) (post:=post) (x:=x) (by simp) [];rw[<- ZT,hk];simpa[V6]using this
  have r2: ((Qy (D ++ mid ++ prev:: x:: post)).drop (k0*4+ (k2 - 1)*4)).take 4=Qf prev:=by
   have:=Ux (f:=Qf) (k:=4) QZ (l:=D ++ mid ++ prev:: x:: post) (pre:=D ++ mid) (post:=x:: post) (x:=prev) (by simp) [];rw[<- ZT,show k0+ (k2 - 1)=D.length+mid.length by omega];simpa[V6]using this
  have hput: (Qy (D ++ mid ++ prev:: x:: post)).take (D.length*4)++ (Qf x ++ (Qy (D ++ mid ++ prev:: x:: post)).drop (D.length*4+4))=Qy ((D ++ [x])++ (mid ++ [prev]).tail ++ x:: post):=by
   obtain⟨y,m2,hy⟩: ∃y m2,mid ++ [prev]=y:: m2:=by cases mid <;> simp
   have:=R0 (f:=Qf) (k:=4) QZ (l:=D ++ mid ++ prev:: x:: post) (pre:=D) (post:=m2 ++ x:: post) (x:=y) x (by
    have:D ++ mid ++ prev:: x:: post=D ++ (mid ++ [prev])++ x:: post:=by simp
    rw[this,hy];simp) []
   rw[hy];simpa using this
  have hw1:IntKind.i64.wrap ((k2:Int) - 1)=((k2 - 1:Nat):Int):=by rw[Zb (by omega) (by omega)];omega
  have hw2:IntKind.i64.wrap ((k2:Int)+1)=((k2+1:Nat):Int):=by rw[Zb (by simp at hl;omega) (by simp at hl;omega)];omega
  have hw3:IntKind.i64.wrap ((D.length:Int)+1)=((D.length+1:Nat):Int):=by rw[Zb (by simp at hl;omega) (by simp at hl;omega)];omega
  have hlt: (k2:Int) < ((n - k0:Nat):Int):=by simp at hl;omega
  have hlt1:k2 < n - k0:=by simp at hl;omega
  have hlt2: ((k2 - 1:Nat):Int) < ((n - k0:Nat):Int):=by simp at hl;omega
  have hlt2':k2 - 1 < n - k0:=by simp at hl;omega
  have hlt3: (D.length:Int) < (n:Int):=by simp at hl;omega
  have hlt3':D.length < n:=by simp at hl;omega
  have hb1:k0*4+k2*4+4<=n*4:=by simp at hl;omega
  have hb2:k0*4+ (k2 - 1)*4+4<=n*4:=by simp at hl;omega
  have hb3:D.length*4+4<=n*4:=by simp at hl;omega
  have hnn: (0:Int)<=((k2 - 1:Nat):Int):=by omega
  have hc:=fun bs=>Jc x prev bs (hm x (by simp)) (hm prev (by simp));have hcast: ((k2 - 1:Nat):Int).toNat=k2 - 1:=by omega
  have ih1:=IH D (mid ++ [prev]) x (k2+1);have ih2:=IH (D ++ [x]) (mid ++ [prev]).tail x (k2+1);have htl: ((mid ++ [prev]).tail).length=mid.length:=by simp
  rw[show D ++ (mid ++ [prev])++ x:: post=D ++ mid ++ prev:: x:: post by simp]at ih1;rw[Qg f172l0.eq_1];generalize Qy (D ++ mid ++ prev:: x:: post)=c at *;generalize hkm:k2 - 1=km at *;generalize n - k0=nk at *;by_cases he:Qp x prev=0
  ·have e:Yq prev (x:: post)=Yq x post:=by simp[Yq,he]
   rw[e];simp[h0,h1,h5,h6,h7,hlt,hlt1,hlt2,hlt2',hnn,hw1,hw2,hb1,hb2,hB,hlen,hst,r1,r2,hc,he,hcast];refine ih1 _ (by simp at hl ⊢;omega) (by simp;omega) (by omega) (fun y hy=>hm y (by simp at hy ⊢;rcases hy with h | h <;> simp[h])) ?_ ?_ ?_ ?_ ?_ <;> simp[h0,h1,h5,h6]
  ·have e:D ++ Yq prev (x:: post)=D ++ x:: Yq x post:=by simp[Yq,he]
   rw[e];simp only[ZR,WV,X3]at ih2;simp[h0,h1,h5,h6,h7,hlt,hlt1,hlt2,hlt2',hlt3,hlt3',hnn,hw1,hw2,hw3,hb1,hb2,hb3,hB,hlen,hst,r1,r2,hc,he,hcast,hput];refine ih2 _ (by simp at hl ⊢;omega) (by simp;omega) (by omega) (fun y hy=>hm y (by simp at hy ⊢;rcases hy with h | h <;> simp[h])) ?_ ?_ ?_ ?_ ?_ <;> simp[h0,h1,h5,h6]
def QgI (B:Qa) (id n:Nat) (hB:id < B.length) (hn:n < 100000000): ∀(post pre:Qe) (prev:Tm) (ρ:Ql),pre.length+1+post.length=n->
   (∀x∈prev:: post,x.mass < big)->ρ 0= .gs id 0 4 n->ρ 1= .fn 171 []->ρ 5= .int .i64 (pre.length+1:Nat)->
  HV (pre ++ prev:: Yq prev post) B id (R tb (.loop f172l1) ρ (B.set id (Qy (pre ++ prev:: post)))
   (Qq 0 (QH tb f172r2 (QP f172 B)))):=by
 intro post
 induction post with
 | nil=>
  intro pre prev ρ hl hm h0 h1 h5;have hl':pre.length+1=n:=by simpa using hl
  have hnl: ¬((pre.length:Int)+1 < (n:Int)):=by omega
  rw[Qg f172l1.eq_1];refine⟨[],?_⟩;simp[h0,h1,h5,hnl,Yq,f172r2,hl']
 | cons x post IH=>
  intro pre prev ρ hl hm h0 h1 h5;have hl':pre.length+1+ (post.length+1)=n:=by simpa using hl
  have hlen: (Qy (pre ++ prev:: x:: post)).length=n*4:=by rw[YR QZ];simp;omega
  have hst: (Qy (pre ++ prev:: x:: post)).map AV.strip=Qy (pre ++ prev:: x:: post):=Xx Z6 _;have r1: ((Qy (pre ++ prev:: x:: post)).drop ((pre.length+1)*4)).take 4=Qf x:=by
   have:=Ux (f:=Qf) (k:=4) QZ (l:=pre ++ prev:: x:: post) (pre:=pre ++ [prev]) (post:=post) (x:=x) (by simp) [];simpa using this
  have r2: ((Qy (pre ++ prev:: x:: post)).drop (pre.length*4)).take 4=Qf prev:=by
   have:=Ux (f:=Qf) (k:=4) QZ (l:=pre ++ prev:: x:: post) (pre:=pre) (post:=x:: post) (x:=prev) (by simp) [];simpa using this
  have hw1:IntKind.i64.wrap (pre.length:Int)=(pre.length:Int):=Zb (by omega) (by omega);have hw2:IntKind.i64.wrap ((pre.length:Int)+1+1)=(pre.length:Int)+1+1:=Zb (by omega) (by omega);have hlt: (pre.length:Int)+1 < (n:Int):=by omega
  have hlt2: (pre.length:Int) < (n:Int):=by omega
  have hb1: (pre.length+1)*4+4<=n*4:=by omega
  have hb2:pre.length*4+4<=n*4:=by omega
  have hnn: (0:Int)<=(pre.length:Int)+1:=by omega
  have hle: (pre.length:Int)+1<=(n:Int):=by omega
  have hcast: ((pre.length:Int)+1).toNat=pre.length+1:=by omega
  have hc:=fun bs=>Jc x prev bs (hm x (by simp)) (hm prev (by simp));have ih1:=IH (pre ++ [prev]) x;have ih2:=QgH B id n (pre.length+1) hB hn post (pre ++ [prev]) [] x 1;simp only[ZR,WV,X3]at ih1 ih2;rw[Qg f172l1.eq_1];generalize Qy (pre ++ prev:: x:: post)=c at *;by_cases he:Qp x prev=0
  ·have e:Yq prev (x:: post)=Yq x post:=by simp[Yq,he]
   rw[e];simp[h0,h1,h5,hlt,hlt2,hnn,hle,hw1,hw2,hb1,hb2,hB,hlen,hst,r1,r2,hc,he,hcast];refine ih2 _ (by simp;omega) (by simp) (by omega) (fun y hy=>hm y (by simp at hy ⊢;rcases hy with h | h <;> simp[h])) ?_ ?_ ?_ ?_ ?_ <;> simp[h0,h1,h5]
  ·have e:pre ++ prev:: Yq prev (x:: post)=pre ++ prev:: x:: Yq x post:=by simp[Yq,he]
   rw[e];simp[h0,h1,h5,hlt,hlt2,hnn,hle,hw1,hw2,hb1,hb2,hB,hlen,hst,r1,r2,hc,he,hcast,f172r1];refine ih1 _ (by simp;omega) (fun y hy=>hm y (by simp at hy ⊢;rcases hy with h | h <;> simp[h])) ?_ ?_ ?_ <;> simp[h0,h1,h5]
def F9 (L:Qe) (B:Qa) (id:Nat) (hid:B[id]? =some (Qy L)) (hn:L.length < 100000000) (hm: ∀x∈L,x.mass < big):
  HV (WW L) B id (call tb 172 [.gs id 0 4 L.length,.fn 171 []] B):=by
 have hB:id < B.length:=by
  rcases QR id B.length with h | h
  ·exact h
  ·rw[Q3 h]at hid;cases hid
 have hset:B.set id (Qy L)=B:=by
  apply UQ;intro i;rw[Y8];split
  ·rename_i h;subst h;rw[hid]
  ·rfl
 match L with
 | []=>
  refine⟨[],?_⟩;rw[zcc 172 rfl rfl];simp[f172C,WW];simpa using hset.symm
 | [x]=>
  refine⟨[],?_⟩;rw[zcc 172 rfl rfl];simp[f172C,WW];simpa using hset.symm
 | x:: y:: r=>
  have h:=QgI B id (r.length+2) hB (by simpa using hn) (y:: r) [] x;rw[zcc 172 rfl rfl,RF];simp only[X3,hset]at h;have hge: ¬((r.length:Int)+1+1 < 2):=by omega
  simp[f172C,hge];refine h _ (by simp;omega) (fun z hz=>hm z hz) ?_ ?_ ?_ <;> simp
end Go.Am
namespace Go.Am
set_option maxRecDepth 20000
def DJ {α:Type} {B:List α} {i:Nat} {x:α} (h:B[i]? =some x):B.set i x=B:=by
 apply UQ;intro j;rw[Y8];split
 ·rename_i e;subst e;split
  ·exact h.symm
  ·rename_i hl;rw[Q3 (by omega)]
 ·rfl
def WQ {α:Type} {B:List α} {i:Nat} {x:α} (h:B[i]? =some x):i < B.length:=by
 rcases QR i B.length with h1 | h1
 ·exact h1
 ·rw[Q3 h1]at h;cases h
def Jj (l:Qe): (Qb l).flatten=Qy l:=by rw[YW];rfl
def IC (L:Qe) (B:Qa) (g:Nat) (hg:B[g]? =some (Qy L)) (hn:L.length < 100000000) (hm: ∀x∈L,x.mass < big):
  call tb 170 [.gs g 0 4 L.length,.fn 30 []] B=some (.tup [],B.set g (Qy (Y6 L))):=by
 rw[Wx tb_170];have hlen: (Qy L).length=L.length*4:=YR QZ L;have hch:ZX (Qy L) 0 4 L.length=Qb L:=by
  have:=Wh (f:=Qf) (k:=4) QZ Z6 L [];rw[QN,TP]at this;exact this
 have hall:L.all (fun t=>decide (t.mass < big))=true:=by
  rw[XK];intro x hx;simpa using hm x hx
 simp only[NN];by_cases h0:L.length=0
 ·have:L=[]:=YE h0;subst this;simp[Y6];exact(DJ hg).symm
 ·have hsl: (Qy (Y6 L)).length=(Qy L).length:=by rw[YR QZ,YR QZ,U4]
  have hput:put (Qy L) 0 (Qb (Y6 L)).flatten=Qy (Y6 L):=by
   rw[Jj];simp only[put,List.take_zero,X3,Zk];rw[hsl,List.drop_length,QN]
  rw[Qm h0,Qn ⟨trivial,by omega⟩,hg];simp only[QC];rw[Qn (by omega),hch,Ka];simp only[QC];rw[Qn hall,hput]
def Mt:=@List.map_take
def K5:=@List.map_drop
def Qfz (C:Qe) (t:Qh) (B:Qa) (g:Nat) (hB:g < B.length) (hn:C.length < 100000000) (hne:C≠[]) (hm: ∀x∈C,x.mass < big): ∀(post pre:Qe) (ρ:Ql),C=pre ++ post->ρ 0= .gs g 0 4 C.length->ρ 9= .int .i64 C.length->ρ 10= .int .i64 pre.length->
  R tb (.loop f169l0) ρ (B.set g (Qy C ++ t)) (Qq 0 (QH tb f169r0 (QP f169 B)))=some (.sl true 4 (Qb C),B.set g []):=by
 have hch:ZX (Qy C ++ t) 0 4 C.length=Qb C:=by
  have:=Wh (f:=Qf) (k:=4) QZ Z6 C t;rw[TP]at this;exact this
 have hlen: (Qy C).length=C.length*4:=YR QZ C;intro post
 induction post with
 | nil=>
  intro pre ρ hk h0 h9 h10;simp only[QN]at hk;rw[<- hk]at h10;have hz: ¬C.length=0:=fun e=>hne (YE e);have hle:C.length*4<=(Qy C ++ t).length:=by rw[Zo,hlen];omega
  have hg:Zw (Qb C)=true:=XT C;rw[Qg f169l0.eq_1];generalize Qy C ++ t=c at *;simp[h0,h9,h10,f169r0,Yk,hz,hle,hB,hch,hne,Yy]
 | cons x post IH=>
  intro pre ρ hk h0 h9 h10;have hl:=QL hk;have hst: (Qy C).map AV.strip=Qy C:=Xx Z6 C;have r1:=Ux (f:=Qf) (k:=4) QZ hk t;have r1': (((Qy C ++ t).drop (pre.length*4)).take 4).map AV.strip=Qf x:=by rw[r1];exact Z6 x
  have hput:=R0 (f:=Qf) (k:=4) QZ x hk t;rw[<- hk]at hput;have hw1:=wr1 pre.length (by omega);have hlt:=QO hk;have hlt':pre.length < C.length:=by omega
  have hle:pre.length*4+4<=(Qy C ++ t).length:=by rw[Zo,hlen];omega
  have hc:=fun bs=>Nb x bs (hm x (by rw[hk];simp));rw[Qg f169l0.eq_1];rw[Mt,K5]at r1';have ih:=IH (pre ++ [x]);change List.take (pre.length*4) (Qy C ++ t)++ (Qf x ++ List.drop (pre.length*4+4) (Qy C ++ t))=Qy C ++ t at hput;generalize Qy C ++ t=c at *;simp[h0,h9,h10,hlt,hlt',hw1,hB,hle,r1',hc,hput];rw[ih] <;> simp[h0,h9,hk]
def QcA:=@List.exists_mem_of_ne_nil
def Ek (L:Qe) (B:Qa) (g:Nat) (hg:B[g]? =some (Qy L)) (hne:L≠[]) (hn:L.length < 100000000) (hm: ∀x∈L,x.mass < big):
  call tb 169 [.gs g 0 4 L.length] B=some (.sl true 4 (Qb (Vf L)),B.set g []):=by
 have hB:=WQ hg;have hs:=IC L B g hg hn hm;have hS: (B.set g (Qy (Y6 L)))[g]? =some (Qy (Y6 L)):=by simp[hB]
 obtain⟨t,hc⟩:=F9 (Y6 L) (B.set g (Qy (Y6 L))) g hS (by rw[U4];exact hn) (fun x hx=>hm x (Rt.1 hx));rw[LD,U4,OM]at hc;have hCne:Vf L≠[]:=by
  obtain⟨x,hx⟩:=QcA L hne;intro e;have:=PH.2 hx;rw[e]at this;simp at this
 have hl:=Qfz (Vf L) t B g hB (by have:=DI L;omega) hCne (fun x hx=>hm x (PH.1 hx)) (Vf L) [];rw[zcc 169 rfl rfl];simp[f169C,hs,hc];refine hl _ rfl ?_ ?_ ?_ <;> simp
def Hr (B:Qa):call tb 169 [.gs 0 0 0 0] B=some (.sl true 4 [],B):=by
 rw[zcc 169 rfl rfl];have hs:call tb 170 [.gs 0 0 0 0,.fn 30 []] B=some (.tup [],B):=by rw[Wx tb_170];simp[NN]
 have hc:call tb 172 [.gs 0 0 0 0,.fn 171 []] B=some (.gs 0 0 0 0,B):=by
  rw[zcc 172 rfl rfl];simp[f172C]
 simp[f169C,hs,hc];rw[Qg f169l0.eq_1];simp[f169r0,Yk]
end Go.Am
namespace Go.Am
set_option maxRecDepth 20000
def Wst (B0:Qa) (k:Int) (acc:Qe) (bs:Qa):Prop:=
 B0.length+2<=bs.length/\bs.take B0.length=B0/\bs[B0.length]? =some [.int .i64 k]/\
  ((acc=[]/\bs[B0.length+1]? =some [.gs 0 0 0 0])\/(acc≠[]/\∃g,B0.length+1 < g/\bs[B0.length+1]? =some [.gs g 0 4 acc.length]/\bs[g]? =some (Qy acc)))
def Lk {α:Type} {bs c:List α} {n i:Nat} {y:α} (h:n<=bs.length) (hi:n<=i): ((bs ++ c).set i y).take n=bs.take n:=by
 apply UQ;intro j;rw[VJ,VJ];split
 ·rw[Vs (by omega),ZM (by omega)]
 ·rfl
def RB:Qh:=[.int .i64 0,.str [],.int .i64 0,.sl false 4 []]
def Pp:=@List.set_append
def AD (B0:Qa) (k:Int) (acc:Qe) (bs:Qa) (x:Tm) (hw:Wst B0 k acc bs) (ha:acc.length < 100000000):
  ∃bs',call tb 167 [.agg (Qf x),.gp B0.length 0,.gp (B0.length+1) 0] bs=some (.tup [],bs')/\Wst B0 k (acc ++ if x.kind=k then [x]else []) bs':=by
 obtain⟨h1,h2,h3,h4⟩:=hw;have hgx:=Qk x;by_cases hk:x.kind=k
 ·rcases h4 with⟨rfl,h4⟩ | ⟨hne,g,hg,h4,h5⟩
  ·have hl1: ¬bs.length=B0.length+1:=by omega
   refine⟨((bs ++ [Qf x]).set (B0.length+1) [.gs bs.length 0 4 1]),?_,?_⟩
   ·rw[zcc 167 rfl rfl];have e1: (bs ++ [RB])[bs.length]? =some RB:=YZ;have e2: (bs ++ [RB]).set bs.length (Qf x)=bs ++ [Qf x]:=by rw[Pp];simp
    have e3: (bs ++ [Qf x])[B0.length+1]? =some [.gs 0 0 0 0]:=by rw[ZM (by omega)];exact h4
    simp only[RB]at e1 e2;simp[f167,f167C,hk,h3,h4,appM,Wt,hl1,e1,e2,e3,XF]
   ·refine⟨by simp;omega,?_,?_,.inr ⟨by simp[hk],bs.length,by omega,?_,?_⟩⟩
    ·rw[Lk (by omega) (by omega)];exact h2
    ·rw[Vs (by omega),ZM (by omega)];exact h3
    ·rw[Sj (by simp;omega)];simp[hk]
    ·rw[Vs (by omega),YZ];simp[hk,YG]
  ·have hl1: ¬bs.length=B0.length+1:=by omega
   have hgl:=WQ h5;have hlen: (Qy acc).length=acc.length*4:=YR QZ acc;have hst: (Qy acc).map AV.strip=Qy acc:=Xx Z6 acc;have htk: (Qy acc).take (acc.length*4)=Qy acc:=Yy (by omega);have hb: (acc.length+1)*56<=140737488355328:=by omega
   have hn1: ¬(acc.length+1)*4<=acc.length*4:=by omega
   have hput: (Qy acc ++ RB).take (acc.length*4)++ (Qf x ++ (Qy acc ++ RB).drop (acc.length*4+4))=Qy (acc ++ [x]):=by
    rw[<- hlen,OK,Mh (by simp[RB])];simp[Qy,Ua,OZ]
   have hzl: (Qy acc ++ RB).length=acc.length*4+4:=by rw[Zo,hlen];rfl
   have hne0:Qy acc≠[]:=fun e=>by rw[e]at hlen;cases acc with
    | nil=>exact hne rfl
    | cons y ys=>simp at hlen
   have hlt: (acc.length:Int) < (acc.length:Int)+1:=by omega
   refine⟨((bs.set g []++ [Qy (acc ++ [x])]).set (B0.length+1) [.gs bs.length 0 4 (acc.length+1)]),?_,?_⟩
   ·rw[zcc 167 rfl rfl];have e1: (bs.set g []++ [Qy acc ++ RB])[bs.length]? =some (Qy acc ++ RB):=by
     have:bs.length=(bs.set g []).length:=by simp
     rw[this];exact YZ
    have e2: (bs.set g []++ [Qy acc ++ RB]).set bs.length (Qy (acc ++ [x]))=bs.set g []++ [Qy (acc ++ [x])]:=by rw[Pp];simp
    have e3: (bs.set g []++ [Qy (acc ++ [x])])[B0.length+1]? =some [.gs g 0 4 acc.length]:=by
     rw[ZM (by simp;omega),Vs (by omega)];exact h4
    have hz:RB=[.int .i64 0,.str [],.int .i64 0,.sl false 4 []]:=rfl;rw[hz]at e1 e2 hput hzl;generalize Qy (acc ++ [x])=r2 at *;generalize Qy acc=r1 at *;simp[f167,f167C,hk,h3,h4,h5,appM,Wt,hl1,hb,hne0,hlen,hn1,htk,hst,XF];generalize r1 ++ [AV.int IntKind.i64 0,AV.str [],AV.int IntKind.i64 0,AV.sl false 4 []]=r3 at *;simp[hlt,e1,e2,e3,hput,hzl,hl1,XF,h3]
   ·refine⟨by simp;omega,?_,?_,.inr ⟨by simp[hk],bs.length,by omega,?_,?_⟩⟩
    ·rw[Lk (by simp;omega) (by omega),List.take_set_of_le (by omega)];exact h2
    ·rw[Vs (by omega),ZM (by simp;omega),Vs (by omega)];exact h3
    ·rw[Sj (by simp;omega)];simp[hk]
    ·rw[Vs (by omega)];have:bs.length=(bs.set g []).length:=by simp
     rw[this,YZ];simp[hk]
 ·refine⟨bs,?_,by simpa[hk]using⟨h1,h2,h3,h4⟩⟩;rw[zcc 167 rfl rfl];simp[f167,f167C,hk,h3]
end Go.Am
namespace Go.Am
set_option maxRecDepth 20000
mutual
def YH:Tm->List Tm
 | .mk k n s ks=> .mk k n s ks:: XA ks
def XA:List Tm->List Tm
 | []=>[]
 | t:: ts=>YH t ++ XA ts
end
def QgS (t:Tm):YH t=t:: XA t.kids:=by cases t;simp[YH]
def Qex (a b:Qe):XA (a ++ b)=XA a ++ XA b:=by
 induction a with
 | nil=>simp[XA]
 | cons t ts ih=>simp[XA,ih]
mutual
theorem SP: ∀t:Tm,(YH t).length=t.nodes
 | .mk k n s ks=>by simp only[YH,ZL,Tm.nodes,LY ks];omega
theorem LY: ∀ts:List Tm,(XA ts).length=QB ts
 | []=>by simp[XA,QB]
 | t:: ts=>by simp only[XA,Zo,QB,SP t,LY ts]
end
mutual
theorem UR: ∀(t x:Tm),x∈YH t->x.mass<=t.mass
 | .mk k n s ks,x,h=>by
  simp only[YH,ZS]at h;rcases h with rfl | h
  ·exact ZJ _
  ·have:=Iv ks x h;simp only[Tm.mass];omega
theorem Iv: ∀(ts:List Tm) (x:Tm),x∈XA ts->x.mass<=Qt ts
 | [],x,h=>by simp[XA]at h
 | t:: ts,x,h=>by
  simp only[XA,Wc]at h;simp only[Qt];rcases h with h | h
  ·have:=UR t x h;omega
  ·have:=Iv ts x h;omega
end
def XN (k:Int) (x:Tm):Bool:=decide (x.kind=k)
def WOk (B0:Qa) (k:Int) (acc:Qe) (r:Option (AV×Qa)):Prop:=∃bs',r=some (.tup [],bs')/\Wst B0 k acc bs'
def Pe:=@List.length_filter_le
def Qec (B0:Qa) (k:Int) (t:Tm) (B:Qa) (hm:t.mass < 100000000)
  (ih: ∀x∈t.kids,∀acc bs,Wst B0 k acc bs->acc.length+x.nodes < 100000000->WOk B0 k (acc ++ (YH x).filter (XN k)) (call tb 168 [.agg (Qf x),.fn 167 [.gp B0.length 0,.gp (B0.length+1) 0]] bs)):
  ∀(post pre acc:Qe) (bs:Qa) (ρ:Ql),t.kids=pre ++ post->Wst B0 k acc bs->acc.length+QB post < 100000000->ρ 1= .fn 167 [.gp B0.length 0,.gp (B0.length+1) 0]->ρ 10= .sl false 4 (Qb t.kids)->ρ 11= .int .i64 t.kids.length->ρ 12= .int .i64 pre.length->
  WOk B0 k (acc ++ (XA post).filter (XN k)) (R tb (.loop f168l0) ρ bs (Qq 0 (QP f168 B))):=by
 have hmk:=QF t;intro post
 induction post with
 | nil=>
  intro pre acc bs ρ hk hw ha h1 h10 h11 h12;simp only[QN]at hk;rw[<- hk]at h12;rw[Qg f168l0.eq_1];refine⟨bs,?_,by simpa[XA]using hw⟩;simp[h1,h10,h11,h12]
 | cons x post IH=>
  intro pre acc bs ρ hk hw ha h1 h10 h11 h12;have hg:=Qx hk;have hl:=QL hk;have hw1:=wr1 pre.length (by omega);have hlt:=QO hk;simp only[QB]at ha;obtain⟨bs',hc,hw'⟩:=ih x (by rw[hk];simp) acc bs hw (by omega);have hfl: ((YH x).filter (XN k)).length<=x.nodes:=by rw[<- SP];exact Pe _ _
  have h2:=fun ρ=>IH (pre ++ [x]) _ bs' ρ (by rw[hk];simp) hw' (by rw[Zo];omega);rw[ZR,<- List.filter_append,show YH x ++ XA post=XA (x:: post) by simp[XA]]at h2;rw[Qg f168l0.eq_1];simp[h1,h10,h11,h12,hg,hlt,hw1,hc];refine h2 _ ?_ ?_ ?_ ?_ <;> simp[h1,h10,h11]
def OH:=@List.filter_cons
def QcN (B0:Qa) (k:Int): ∀(t:Tm) (acc:Qe) (bs:Qa),t.mass < 100000000->Wst B0 k acc bs->acc.length+t.nodes < 100000000->
  WOk B0 k (acc ++ (YH t).filter (XN k)) (call tb 168 [.agg (Qf t),.fn 167 [.gp B0.length 0,.gp (B0.length+1) 0]] bs):=by
 refine Yn ?_;intro kk n s ks ih acc bs hm hw ha;have hmk:=QF (.mk kk n s ks);have hnk:=Wg (.mk kk n s ks);simp only[Zx,Z7]at hmk hnk;obtain⟨bs1,hc,hw1⟩:=AD B0 k acc bs (.mk kk n s ks) hw (by omega);have hl:=fun ρ=>Qec B0 k (.mk kk n s ks) bs hm (fun x hx acc bs hw ha=>ih x hx acc bs (by have:=Q4 hx;simp at this;omega) hw ha) ks [] _ bs1 ρ rfl hw1 (by
  rw[Zo];split <;> simp <;> omega)
 have he:acc ++ (YH (.mk kk n s ks)).filter (XN k)=(acc ++ if(Tm.mk kk n s ks).kind=k then [.mk kk n s ks]else [])++ (XA ks).filter (XN k):=by
  simp only[YH,OH,XN,Tg];by_cases h:kk=k <;> simp[h]
 rw[he,zcc 168 rfl rfl];simp[f168C,hc];simp only[Tg,Zx,ZR]at hl;refine hl _ ?_ ?_ ?_ ?_ <;> simp[Zr]
def Cd (t:Tm) (k:Int) (B:Qa) (hm:t.mass < 100000000):
  call tb 166 [.agg (Qf t),.int .i64 k] B=some (.sl true 4 (Qb (Vf ((YH t).filter (XN k)))),B):=by
 have hn:=Yx t;have hw0:Wst B k [] (B ++ [[.int .i64 k],[.gs 0 0 0 0]]):=by
  refine⟨by simp,by simp,by simp,.inl ⟨rfl,?_⟩⟩;rw[YS (by omega)];simp
 obtain⟨bs',hc,h1,h2,h3,h4⟩:=QcN B k t [] _ hm hw0 (by simp;omega);rw[zcc 166 rfl rfl];have e1: (B ++ [[AV.int .i64 k]])++ [[AV.gs 0 0 0 0]]=B ++ [[.int .i64 k],[.gs 0 0 0 0]]:=by simp
 have e2: (B ++ [[AV.int .i64 k]]).length=B.length+1:=by simp
 generalize hF: (YH t).filter (XN k)=A at *;have hlen:A.length < 100000000:=by rw[<- hF];have:=Pe (XN k) (YH t);rw[SP]at this;omega
 have hmm: ∀x∈A,x.mass < big:=fun x hx=>by
  rw[<- hF]at hx;have:=UR t x (Mo.1 hx).1;unfold big;omega
 have hgp:Zw (Qb (Vf A))=true:=XT _;simp only[X3]at h4;rcases h4 with⟨h5,h6⟩ | ⟨h5,g,h6,h7,h8⟩
 ·have ho:=Hr bs';subst h5;simp[f166,f166C,Qk,e1,e2,hc,h6,ho,h2,Vf,YM,Qb]
 ·have ho:=Ek A bs' g h8 h5 hlen hmm;have hgl:=WQ h8;have ht: (bs'.set g []).take B.length=B:=by rw[List.take_set_of_le (by omega)];exact h2
  simp[f166,f166C,Qk,e1,e2,hc,h7,ho,ht,hgp]
def SG (t:Tm):Qe:=Vf ((YH t).filter (XN 1))
def QcK (t:Tm) (B:Qa) (hm:t.mass < 100000000):call tb 165 [.agg (Qf t)] B=some (.sl true 4 (Qb (SG t)),B):=by
 rw[zcc 165 rfl rfl];have h:=Cd t 1 B hm;have hgp:Zw (Qb (Vf ((YH t).filter (XN 1))))=true:=XT _;simp[f165,f165C,Qk,h,SG]
end Go.Am
namespace Go.Am
set_option maxRecDepth 20000
def WI {n:Nat} (h:n<=200000000):n*56<=140737488355328:=by omega
def Qei (t:Tm) (bs:Qa) (hm:t.mass < 100000000) (ih: ∀x∈t.kids,∀bs,call tb 237 [.agg (Qf x)] bs=some (.sl false 4 (Qb (YH x)),bs)):
  ∀(post pre:Qe) (ρ:Ql),t.kids=pre ++ post->ρ 1= .bx (Qf t)->ρ 3= .sl true 4 (Qb (t:: XA pre))->ρ 4= .int .i64 pre.length->
  R tb (.loop f237l0) ρ bs (Qq 0 (QH tb f237r0 (QP f237 bs)))=some (.sl false 4 (Qb (YH t)),bs):=by
 have hmk:=QF t;have hn:=Yx t;have hnk:=Wg t;intro post
 induction post with
 | nil=>
  intro pre ρ hk h1 h3 h4;simp only[QN]at hk;rw[<- hk]at h3 h4;rw[<- QgS]at h3;rw[Qg f237l0.eq_1];simp[h1,h3,h4,f237r0]
 | cons x post IH=>
  intro pre ρ hk h1 h3 h4;have hg:=Qx hk;have hl:=QL hk;have hw1:=wr1 pre.length (by omega);have hlt:=QO hk;have hnn:QB t.kids=QB pre+ (x.nodes+QB post):=by rw[hk,XO];simp[QB]
  have hb: ((XA pre).length+1+ (YH x).length)*56<=140737488355328:=by rw[LY,SP];omega
  have hgl:t.kids[pre.length]'(by omega)=x:=by
   have:=Zv (l:=t.kids) (i:=pre.length) (by omega);rw[hg]at this;injection this with this;exact this.symm
  have hih:=ih x (by rw[hk];simp);have h2:=IH (pre ++ [x]);rw[Qex,show XA [x]=YH x by simp[XA]]at h2;rw[Qg f237l0.eq_1];simp[h1,h3,h4,hg,hgl,hlt,hw1,hih,hb,ZB];rw[h2] <;> simp[h1,hk]
def F8: ∀(t:Tm) (bs:Qa),t.mass < 100000000->call tb 237 [.agg (Qf t)] bs=some (.sl false 4 (Qb (YH t)),bs):=by
 refine Yn ?_;intro k n s ks ih bs hm;have hl:=fun ρ=>Qei (.mk k n s ks) bs hm (fun x hx bs=>ih x hx bs (by have:=Q4 hx;have:=QF (.mk k n s ks);simp at *;omega)) ks [] ρ rfl;rw[zcc 237 rfl rfl];simp[f237C,Qk];refine hl _ ?_ ?_ ?_ <;> simp[XA,Qb]
def Qeh (l:Qe) (t:Tm) (bs:Qa) (hl:l.length < 100000000) (hm: ∀x∈l,x.mass < big) (ht:t.mass < big):
  ∀(post pre acc:Qe) (d:Bool) (ρ:Ql),l=pre ++ post->acc.length<=pre.length+1->(d=false->acc.length=pre.length)->ρ 0= .sl false 4 (Qb l)->ρ 3= .bx (Qf t)->ρ 5= .sl true 4 (Qb acc)->ρ 6= .bool d->ρ 7= .int .i64 pre.length->
  R tb (.loop f239l0) ρ bs (Qq 0 (QH tb f239r0 (QP f239 bs)))=some (.sl false 4 (Qb (acc ++ if d then post else Xn t post)),bs):=by
 intro post
 induction post with
 | nil=>
  intro pre acc d ρ hk ha hd h0 h3 h5 h6 h7;simp only[QN]at hk;rw[<- hk]at h7 ha hd;have hb: (acc.length+1)*56<=140737488355328:=by omega
  rw[Qg f239l0.eq_1];cases d
  ·simp[h0,h3,h5,h6,h7,f239r0,hb,Xn,Qk,ZV,ZB]
  ·simp[h0,h3,h5,h6,h7,f239r0,hb,Xn]
 | cons x post IH=>
  intro pre acc d ρ hk ha hd h0 h3 h5 h6 h7;have hg:=Qx hk;have hll:=QL hk;have hw1:=wr1 pre.length (by omega);have hlt:=QO hk;have hb: (acc.length+1)*56<=140737488355328:=WI (by omega);have hb2: (acc.length+1+1)*56<=140737488355328:=WI (by clear hb;omega);have hc:=Uv t x bs ht (hm x (by rw[hk];simp));rw[Qg f239l0.eq_1];cases d
  ·have hd:=hd rfl;by_cases h1:Qp t x < 0
   ·have hle:Qp t x<=0:=by omega
    have e:acc ++ (if false=true then x:: post else Xn t (x:: post))=(acc ++ [t]++ [x])++ (if true=true then post else Xn t post):=by simp[Xn,h1]
    rw[e];simp[h0,h3,h5,h6,h7,hg,hlt,hw1,hc,h1,hle,hb,hb2,Qk,ZV,ZB];clear hb hb2;rw[IH (pre ++ [x]) (acc ++ [t]++ [x]) true] <;> simp[h0,h3,hk] <;> omega
   ·by_cases h2:Qp t x=0
    ·have e:acc ++ (if false=true then x:: post else Xn t (x:: post))=(acc ++ [x])++ (if true=true then post else Xn t post):=by simp[Xn,h2]
     rw[e];simp[h0,h3,h5,h6,h7,hg,hlt,hw1,hc,h1,h2,hb,Qk,ZV,ZB];clear hb hb2;rw[IH (pre ++ [x]) (acc ++ [x]) true] <;> simp[h0,h3,hk] <;> omega
    ·have hle: ¬Qp t x<=0:=by omega
     have e:acc ++ (if false=true then x:: post else Xn t (x:: post))=(acc ++ [x])++ (if false=true then post else Xn t post):=by simp[Xn,h1,h2]
     rw[e];simp[h0,h3,h5,h6,h7,hg,hlt,hw1,hc,h1,h2,hle,hb,Qk,ZV,ZB];clear hb hb2;rw[IH (pre ++ [x]) (acc ++ [x]) false] <;> simp[h0,h3,hk] <;> omega
  ·have e:acc ++ (if true=true then x:: post else Xn t (x:: post))=(acc ++ [x])++ (if true=true then post else Xn t post):=by simp
   rw[e];simp[h0,h3,h5,h6,h7,hg,hlt,hw1,hc,hb,Qk,ZV,ZB];clear hb hb2;rw[IH (pre ++ [x]) (acc ++ [x]) true] <;> simp[h0,h3,hk] <;> omega
def L5 (l:Qe) (t:Tm) (o:Bool) (bs:Qa) (hl:l.length < 100000000) (hm: ∀x∈l,x.mass < big) (ht:t.mass < big):
  call tb 239 [.sl o 4 (Qb l),.agg (Qf t)] bs=some (.sl false 4 (Qb (Xn t l)),bs):=by
 have h:=fun ρ=>Qeh l t bs hl hm ht l [] [] false ρ rfl (by simp) (fun _=>rfl);rw[zcc 239 rfl rfl];simp[f239C];simp at h;refine h _ ?_ ?_ ?_ ?_ ?_ <;> simp[Qb]
def Qes (l:Qe) (bs:Qa) (hl:l.length < 100000000) (hm: ∀x∈l,x.mass < big):
  ∀(post pre acc:Qe) (o:Bool) (ρ:Ql),l=pre ++ post->acc.length<=pre.length->(∀x∈acc,x.mass < big)->ρ 0= .sl false 4 (Qb l)->ρ 3= .sl o 4 (Qb acc)->ρ 4= .int .i64 pre.length->
  R tb (.loop f238l0) ρ bs (Qq 0 (QH tb f238r0 (QP f238 bs)))=some (.sl false 4 (Qb (YM acc post)),bs):=by
 intro post
 induction post with
 | nil=>
  intro pre acc o ρ hk ha hma h0 h3 h4;simp only[QN]at hk;rw[<- hk]at h4;rw[Qg f238l0.eq_1];simp[h0,h3,h4,f238r0,YM]
 | cons x post IH=>
  intro pre acc o ρ hk ha hma h0 h3 h4;have hg:=Qx hk;have hll:=QL hk;have hw1:=wr1 pre.length (by omega);have hlt:=QO hk;have hx:=hm x (by rw[hk];simp);have hc:=L5 acc x false bs (by omega) hma hx;have hln:=Pt x acc;rw[Qg f238l0.eq_1];simp[h0,h3,h4,hg,hlt,hw1,hc];rw[IH (pre ++ [x]) (Xn x acc) false] <;> (try simp[h0,hk,YM])
  ·omega
  ·intro y hy;rcases SZ.1 hy with rfl | hy
   ·exact hx
   ·exact hma y hy
def QeJ (l:Qe) (o:Bool) (bs:Qa) (hl:l.length < 100000000) (hm: ∀x∈l,x.mass < big):
  call tb 238 [.sl o 4 (Qb l)] bs=some (.sl false 4 (Qb (Vf l)),bs):=by
 have h:=fun ρ=>Qes l bs hl hm l [] [] true ρ rfl (by simp) (by simp);rw[zcc 238 rfl rfl];simp[f238C];refine h _ ?_ ?_ ?_ <;> simp[Qb]
def Qdi (t:Tm) (k:Int) (bs:Qa) (hm:t.mass < 100000000):
  ∀(post pre:Qe) (o:Bool) (ρ:Ql),YH t=pre ++ post->ρ 1= .int .i64 k->ρ 5= .sl true 4 (Qb (pre.filter (XN k)))->ρ 6= .sl o 4 (Qb (YH t))->ρ 7= .int .i64 pre.length->
  R tb (.loop f236l0) ρ bs (Qq 0 (QH tb f236r0 (QP f236 bs)))=some (.sl false 4 (Qb (Vf ((YH t).filter (XN k)))),bs):=by
 have hn:=Yx t;have hal:=SP t;intro post
 induction post with
 | nil=>
  intro pre o ρ hk h1 h5 h6 h7;simp only[QN]at hk;rw[<- hk]at h5 h7;have hfl:=Pe (XN k) (YH t);have hc:=fun o=>QeJ ((YH t).filter (XN k)) o bs (by omega) (fun x hx=>by have:=UR t x (Mo.1 hx).1;unfold big;omega);rw[Qg f236l0.eq_1];simp[h1,h5,h6,h7,f236r0,hc]
 | cons x post IH=>
  intro pre o ρ hk h1 h5 h6 h7;have hg:=Qx hk;have hll: (YH t).length=pre.length+ (post.length+1):=by rw[hk];simp
  have hw1:=wr1 pre.length (by omega);have hlt: (pre.length:Int) < ((YH t).length:Int):=by omega
  have hfl:=Pe (XN k) pre;have hb: ((pre.filter (XN k)).length+1)*56<=140737488355328:=by omega
  have h2:=IH (pre ++ [x]) o;rw[Qg f236l0.eq_1];by_cases hx:x.kind=k
  ·have hf: (pre ++ [x]).filter (XN k)=pre.filter (XN k)++ [x]:=by simp[OH,XN,hx]
   rw[hf]at h2;simp[h1,h5,h6,h7,hg,hlt,hw1,hx,hb,Qk,ZV,ZB];rw[h2] <;> simp[h1,h6,hk]
  ·have hf: (pre ++ [x]).filter (XN k)=pre.filter (XN k):=by simp[OH,XN,hx]
   rw[hf]at h2;simp[h1,h5,h6,h7,hg,hlt,hw1,hx];rw[h2] <;> simp[h1,h5,h6,hk]
def Aw (t:Tm) (k:Int) (bs:Qa) (hm:t.mass < 100000000):call tb 236 [.agg (Qf t),.int .i64 k] bs=some (.sl false 4 (Qb (Vf ((YH t).filter (XN k)))),bs):=by
 have h:=fun o ρ=>Qdi t k bs hm (YH t) [] o ρ rfl;have hc:=F8 t bs hm;rw[zcc 236 rfl rfl];simp[f236C,Qk,hc];refine h false _ ?_ ?_ ?_ ?_ <;> simp[Qb]
def Av (t:Tm) (bs:Qa) (hm:t.mass < 100000000):call tb 235 [.agg (Qf t)] bs=some (.sl false 4 (Qb (SG t)),bs):=by
 have h:=Aw t 1 bs hm;rw[zcc 235 rfl rfl];simp[f235,f235C,Qk,h,SG]
def D7 (t:Tm) (bs:Qa) (hm:t.mass < 100000000):call tb 234 [.agg (Qf t)] bs=some (.bool (decide ((SG t)=[])),bs):=by
 have h:=Av t bs hm;rw[zcc 234 rfl rfl];simp[f234,f234C,Qk,h]
end Go.Am
