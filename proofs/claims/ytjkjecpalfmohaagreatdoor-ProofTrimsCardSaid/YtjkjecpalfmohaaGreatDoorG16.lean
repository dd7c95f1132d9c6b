/-
  Ge26, Ge27, Ge28, Ge15, Rc1, Rc2, Rc3, Rc4, Rc5, Rc6, Rc7.
-/
import Derived.Test.YtjkjecpalfmohaaGreatDoorG15
set_option linter.all false
open Go.Am.F
namespace Go.Am
set_option maxRecDepth 20000
def Lo {α:Type} {l pre post:List α} {x:α} (h:l=pre ++ x:: post) (hb:l.length < 4611686018427387904):
  l[pre.length]? =some x/\IntKind.i64.wrap ((pre.length:Int)+1)=(pre.length:Int)+1/\(pre.length:Int) < (l.length:Int)/\x∈l:=by
 have hl:l.length=pre.length+ (post.length+1):=by rw[h];simp
 exact⟨Qw h,Zf (by omega) (by omega),by omega,by rw[h];simp⟩
def LR {t:Tm} (h:t.mass < big):t.kids.length < 4611686018427387904:=by
 have:=QK t;unfold big at h;omega
def Mi {t x:Tm} (h:t.mass < big) (hx:x∈t.kids):x.mass < big:=by
 have:=Q3 hx;have:=QK t;omega
def Vn:=@Bool.eq_false_or_eq_true
def QaQ (t:Tm) (bs:Qa) (hm:t.mass < big):call tb 56 [.agg (Qf t)] bs=some (.int .i64 (Pj t),bs):=by
 rw[zcc 56 rfl rfl];have hn:=Dj t.name bs (by have:=QK t;unfold big at hm;omega);have hks: ((8:Int) < t.kids.length)=(8 < t.kids.length):=by rw[WZ];omega
 obtain⟨k,n,s,ks⟩:=t;simp at hn hks;unfold Pj;simp only[U6,Rq,Ya,Zz];by_cases k1:k=1
 ·subst k1;simp[f56C,Qf,hn,hks];rcases Vn (Vd n)with c4 | c4 <;> by_cases c1:s < 0 <;> by_cases c2:5 < s <;> by_cases c3:0 < ks.length <;> simp[c1,c2,c3,c4] <;> omega
 by_cases k2:k=2
 ·subst k2;simp[f56C,Qf,hn,hks];rcases Vn (Vd n)with c4 | c4 <;> by_cases c1:s < 0 <;> by_cases c2:5 < s <;> by_cases c3:0 < ks.length <;> simp[c1,c2,c3,c4] <;> omega
 by_cases k3:k=3
 ·subst k3;simp[f56C,Qf,hn,hks];rcases Vn (Vd n)with c4 | c4 <;> by_cases c1:s < 0 <;> by_cases c2:5 < s <;> by_cases c3:s=0 <;> simp[c1,c2,c3,c4] <;> omega
 ·simp[f56C,Qf,hn,hks,k1,k2,k3]
def C3 (t:Tm) (bs:Qa) (hm:t.mass < big) (ih: ∀x∈t.kids,∀bs,call tb 55 [.agg (Qf x)] bs=some (.int .i64 (Wl x),bs)):
  ∀(post pre:Qc) (ρ:Ql),t.kids=pre ++ post->ρ 1= .bx (Qf t)->ρ 4= .int .i64 pre.length->
  R tb (.loop f55l0) ρ bs (Qo 0 (QB tb f55r0 (QN f55 bs)))=some (.int .i64 (Ug post),bs):=by
 intro post
 induction post with
 | nil=>
  intro pre ρ hk h1 h4;rw[Qe f55l0.eq_1];simp at hk;simp[h1,h4,<- hk,f55r0,Ug]
 | cons x post IH=>
  intro pre ρ hk h1 h4;obtain⟨hg,hw,hlt,hx⟩:=Lo hk (LR hm);have hh:=ih x hx bs;rw[Qe f55l0.eq_1];by_cases he:Wl x=0
  ·simp[h1,h4,hg,hw,hlt,hh,he,Ug];rw[IH (pre ++ [x])] <;> simp[h1,hk]
  ·simp[h1,h4,hg,hw,hlt,hh,he,Ug]
def Bd: ∀(t:Tm) (bs:Qa),t.mass < big->call tb 55 [.agg (Qf t)] bs=some (.int .i64 (Wl t),bs):=by
 refine Yq ?_;intro k n s ks ih bs hm;have hl:=C3 (.mk k n s ks) bs hm (fun x hx bs=>ih x hx bs (Mi hm hx)) ks [];have hn:=QaQ (.mk k n s ks) bs hm;rw[zcc 55 rfl rfl];by_cases he:Pj (.mk k n s ks)=0
 ·simp[f55C,hn,he,Wl];rw[hl] <;> simp
 ·simp[f55C,hn,he,Wl]
def W2 (t:Tm) (bs:Qa) (hm:t.mass < big):call tb 54 [.agg (Qf t)] bs=some (.int .i64 (Q4 t),bs):=by
 have h1:=Bd t bs hm;have h2:=NT t bs hm;have h3:=Bb t bs hm;rw[zcc 54 rfl rfl];have e1: (400 < (t.nodes:Int))=(400 < t.nodes):=by rw[WZ];omega
 have e2: (40 < (t.depth:Int))=(40 < t.depth):=by rw[WZ];omega
 simp[f54C,h1,h2,h3,e1,e2,Q4];by_cases he:Wl t=0 <;> by_cases c1:400 < t.nodes <;> by_cases c2:40 < t.depth <;> simp[he,c1,c2]
def MA (bs:Qa):call tb 129 [] bs=some (.sl true 4 (Vr Wn),bs):=by
 rw[zcc 129 rfl rfl];simp[f129,f129C,Wn,Vr,VP]
def Qb6 (n:Qu) (bs:Qa) (l:List Sy) (hl:l.length < 1000): ∀(post pre:List Sy) (ρ:Ql),l=pre ++ post->ρ 0= .str n->(∃o,ρ 3= .sl o 4 (Vr l))->ρ 4= .int .i64 pre.length->
  R tb (.loop f128l0) ρ bs (Qo 0 (QB tb f128r0 (QN f128 bs)))=some (.int .i64 (match Yp n post with | some y=>y.k | none=>0),bs):=by
 intro post
 induction post with
 | nil=>
  intro pre ρ hk h0 ⟨o,h3⟩ h4;rw[Qe f128l0.eq_1];simp at hk;rw[<- hk]at h4;simp[h0,h3,h4,f128r0,Yp]
 | cons x post IH=>
  intro pre ρ hk h0 ⟨o,h3⟩ h4;have hg:=LD hk;obtain⟨_,hw,hlt,_⟩:=Lo hk (by omega);rw[Qe f128l0.eq_1];by_cases hx:x.n=n
  ·simp[h0,h3,h4,hg,hw,hlt,VP,hx,Yp]
  ·have hxb: (x.n == n)=false:=by simp[hx]
   simp[h0,h3,h4,hg,hw,hlt,VP,hx,hxb,Yp];rw[IH (pre ++ [x])] <;> simp[h0,h3,hk]
def HB (n:Qu) (bs:Qa):call tb 128 [.str n] bs=some (.int .i64 (match Yp n Wn with | some y=>y.k | none=>0),bs):=by
 rw[zcc 128 rfl rfl];simp[f128C,MA];rw[Qb6 n bs Wn (by decide) Wn []] <;> simp
def Qer (t:Tm) (bs:Qa) (l:List Sy) (hl:l.length < 1000): ∀(post pre:List Sy) (ρ:Ql),l=pre ++ post->ρ 1= .bx (Qf t)->(∃o,ρ 3= .sl o 4 (Vr l))->ρ 4= .int .i64 pre.length->
  R tb (.loop f130l0) ρ bs (Qo 0 (QB tb f130r0 (QN f130 bs)))=
   some (.bool (match Yp t.name post with | some y=>decide (y.l<=t.kids.length) && decide (t.kids.length<=y.m) | none=>false),bs):=by
 intro post
 induction post with
 | nil=>
  intro pre ρ hk h1 ⟨o,h3⟩ h4;rw[Qe f130l0.eq_1];simp at hk;rw[<- hk]at h4;simp[h1,h3,h4,f130r0,Yp]
 | cons x post IH=>
  intro pre ρ hk h1 ⟨o,h3⟩ h4;have hg:=LD hk;obtain⟨_,hw,hlt,_⟩:=Lo hk (by omega);rw[Qe f130l0.eq_1];by_cases hx:x.n=t.name
  ·by_cases c1:x.l<=t.kids.length <;>
   simp[h1,h3,h4,hg,hw,hlt,VP,hx,Yp,c1]
  ·have hxb: (x.n == t.name)=false:=by simp[hx]
   simp[h1,h3,h4,hg,hw,hlt,VP,hx,hxb,Yp];rw[IH (pre ++ [x])] <;> simp[h1,h3,hk]
def Qd2 (t:Tm) (bs:Qa):call tb 130 [.agg (Qf t)] bs=
  some (.bool (match Yp t.name Wn with | some y=>decide (y.l<=t.kids.length) && decide (t.kids.length<=y.m) | none=>false),bs):=by
 rw[zcc 130 rfl rfl];simp[f130C,MA];rw[Qer t bs Wn (by decide) Wn []] <;> simp
def C7 (t:Tm) (bs:Qa) (hm:t.mass < big): ∀(post pre:Qc) (ρ:Ql),t.kids=pre ++ post->ρ 1= .bx (Qf t)->ρ 3= .int .i64 pre.length->
  R tb (.loop f131l0) ρ bs (Qo 0 (QB tb f131r0 (QN f131 bs)))=some (.bool (!(post.any TH)),bs):=by
 intro post
 induction post with
 | nil=>
  intro pre ρ hk h1 h3;rw[Qe f131l0.eq_1];simp at hk;simp[h1,h3,<- hk,f131r0]
 | cons x post IH=>
  intro pre ρ hk h1 h3;obtain⟨hg,hw,hlt,hx⟩:=Lo hk (LR hm);rw[Qe f131l0.eq_1];by_cases c1:x.kind=3 <;> by_cases c2:x.sort=1 <;>
   simp[h1,h3,hg,hw,hlt,c1,c2,TH]
  rw[IH (pre ++ [x])] <;> simp[h1,hk,TH]
def Be (t:Tm) (bs:Qa) (hm:t.mass < big) (hk:t.name=[110,101,119]->t.kids≠[]):call tb 131 [.agg (Qf t)] bs=
  some (.bool (if t.name=[110,101,119]then decide (t.kids.head?.map Tm.kind=some 2)else !(t.kids.any TH)),bs):=by
 rw[zcc 131 rfl rfl];by_cases hn:t.name=[110,101,119]
 ·cases hkk:t.kids with
  | nil=>exact absurd hkk (hk hn)
  | cons x xs=>simp[f131C,hn,hkk,Zt t,Qb]
 ·have hnb: (t.name == [110,101,119])=false:=by simp[hn]
  simp[f131C,hn,hnb];rw[C7 t bs hm t.kids []] <;> simp
def Gn (t:Tm) (bs:Qa) (hm:t.mass < big) (ih: ∀x∈t.kids,∀bs,call tb 127 [.agg (Qf x)] bs=some (.int .i64 (X2 x),bs)):
  ∀(post pre:Qc) (ρ:Ql),t.kids=pre ++ post->ρ 1= .bx (Qf t)->ρ 4= .int .i64 pre.length->
  R tb (.loop f127l0) ρ bs (Qo 0 (QB tb f127r0 (QN f127 bs)))=some (.int .i64 (SO post),bs):=by
 intro post
 induction post with
 | nil=>
  intro pre ρ hk h1 h4;rw[Qe f127l0.eq_1];simp at hk;simp[h1,h4,<- hk,f127r0,SO]
 | cons x post IH=>
  intro pre ρ hk h1 h4;obtain⟨hg,hw,hlt,hx⟩:=Lo hk (LR hm);have hh:=ih x hx bs;rw[Qe f127l0.eq_1];by_cases he:X2 x=0
  ·simp[h1,h4,hg,hw,hlt,hh,he,SO];rw[IH (pre ++ [x])] <;> simp[h1,hk]
  ·simp[h1,h4,hg,hw,hlt,hh,he,SO]
def Qfw {y:Sy} (h:y∈Wn): (y.k=2)=(y.n=[115,107]\/y.n=[115,104,107]\/y.n=[110,101,119]):=by
 have:Wn.all (fun y=>decide ((y.k=2)=(y.n=[115,107]\/y.n=[115,104,107]\/y.n=[110,101,119])))=true:=by
  simp only[WZ];decide
 have:=XO.1 this y h;exact of_decide_eq_true this
def Gt: ∀(t:Tm) (bs:Qa),t.mass < big->call tb 127 [.agg (Qf t)] bs=some (.int .i64 (X2 t),bs):=by
 refine Yq ?_;intro k n s ks ih bs hm;have hl:=Gn (.mk k n s ks) bs hm (fun x hx bs=>ih x hx bs (Mi hm hx)) ks [];have hf:=Qd2 (.mk k n s ks) bs;have ha:=Be (.mk k n s ks) bs hm;have hkd:=HB n bs;simp only[Ya,Zz]at hf ha;rw[zcc 127 rfl rfl];by_cases hk:k=3
 ·subst hk;simp only[Qf]at hf ha hl;cases hy:Yp n Wn with
  | none=>
   rw[hy]at hkd;simp[f127C,Qf,hkd,hy,X2]
  | some y=>
   obtain⟨hy1,hy2⟩:=N9 hy;obtain⟨hy3,hy4⟩:=Qfv hy1;have hp:=Qfw hy1;rw[hy]at hkd hf;simp only at hkd hf;by_cases c:y.l<=ks.length/\(ks.length:Int)<=y.m
   ·have c1:=c.1;have c2:=c.2;have d1: ¬(ks.length:Int) < y.l:=by omega
    have d2: ¬y.m < (ks.length:Int):=by omega
    have ha':=ha (fun e=>by
     have:=hy4 (by rw[hy2];exact e);intro e2;subst e2;simp at c1;omega)
    rw[hy2]at hp;have hl':=fun ρ=>hl ρ rfl;by_cases h1:n=[115,107]
    ·subst h1;have hk2:y.k=2:=by rw[hp];simp
     simp at ha';rcases Vn (ks.any TH)with c4 | c4 <;>
      simp[f127C,Qf,hkd,hk2,hf,c1,c2,d1,d2,ha',X2,hy,c4]
     rw[hl'] <;> simp
    by_cases h2:n=[115,104,107]
    ·subst h2;have hk2:y.k=2:=by rw[hp];simp
     simp at ha';rcases Vn (ks.any TH)with c4 | c4 <;>
      simp[f127C,Qf,hkd,hk2,hf,c1,c2,d1,d2,ha',X2,hy,c4]
     rw[hl'] <;> simp
    by_cases h3:n=[110,101,119]
    ·subst h3;have hk2:y.k=2:=by rw[hp];simp
     simp at ha';by_cases c4: ∃a,ks.head?=some a/\a.kind=2 <;>
      simp[f127C,Qf,hkd,hk2,hf,c1,c2,d1,d2,ha',X2,hy,c4]
     rw[hl'] <;> simp
    ·have hk2: ¬y.k=2:=by rw[hp];simp[h1,h2,h3]
     have hk2b: (y.k == 2)=false:=by simp[hk2]
     simp[f127C,Qf,hkd,hk2,hy3,hf,c1,c2,d1,d2,X2,hy,h1,h2,h3];rw[hl'] <;> simp
   ·have d: (ks.length:Int) < y.l\/y.m < ks.length:=by omega
    have e: (decide (y.l<=ks.length) && decide ((ks.length:Int)<=y.m))=false:=by
     rw[EN];simp;omega
    have hf2:call tb 130 [.agg [.int .i64 3,.str n,.int .i64 s,.sl false 4 (Qb ks)]] bs=some (.bool (decide (y.l<=(ks.length:Int)) && decide ((ks.length:Int)<=y.m)),bs):=hf;rw[e]at hf2;simp[f127C,Qf,hkd,hy,hy3,hf2,d,X2]
 ·simp[f127C,Qf,hk,X2]
def Lp (t:Tm) (bs:Qa) (hm:t.mass < big):call tb 126 [.agg (Qf t)] bs=some (.int .i64 (thV t),bs):=by
 have h1:=W2 t bs hm;have h2:=Gt t bs hm;rw[zcc 126 rfl rfl];rw[Zt]at *;by_cases h:Q4 t=0
 ·simp[f126C,h1,h2,h,thV]
 ·simp[f126C,h1,h,thV]
def Dd: ∀{a b:Qu},WI a b=0->a=b:=by
 intro a b h;unfold WI at h;split at h
 ·simp at h
 ·split at h
  ·rename_i h2;exact Up.1 h2
  ·simp at h
mutual
theorem Xg: ∀(t u:Tm),Qq t u=0->t=u
 | .mk k n s ks,.mk k' n' s' ks',h=>by
  rw[Ri,Rt]at h;obtain⟨h1,h2⟩:=h;unfold hdT at h1;simp only[Rt,Oq,U6,Ya,Rq,Zz]at h1 h2;obtain⟨_,h3,h4,h5,h6⟩:=h1;have e1:=Dd h4;have e2:=DA ks ks' (by omega) h2;rw[h3,e1,h5,e2]
theorem DA: ∀(ts us:List Tm),ts.length=us.length->XH ts us=0->ts=us
 | [],[],_,_=>rfl
 | [],_:: _,h,_=>by simp at h
 | _:: _,[],h,_=>by simp at h
 | t:: ts,u:: us,h,h2=>by
  rw[XH,Rt]at h2;rw[Xg t u h2.1,DA ts us (by simpa using h) h2.2]
end
def Wt {t u:Tm}:Qq t u=0↔t=u:=⟨Xg t u,fun h=>h▸V2 t⟩
def isB (t:Tm) (n:Qu):Bool:=decide (t.kind=3) && (t.name == n)
def Sm {t:Tm} {n:Qu}:isB t n=true↔t.kind=3/\t.name=n:=by simp[isB]
def Lu (t:Tm) (n:Qu) (bs:Qa):call tb 71 [.agg (Qf t),.str n] bs=some (.bool (isB t n),bs):=by
 rw[zcc 71 rfl rfl];by_cases h:t.kind=3 <;> simp[f71,f71C,isB,h]
def P7 (t:Tm) (n:Qu) (bs:Qa):call tb 132 [.agg (Qf t),.str n] bs=some (.bool (isB t n),bs):=by
 rw[zcc 132 rfl rfl];by_cases h:t.kind=3 <;> simp[f132,f132C,isB,h]
def HC (n:Qu) (ks:Qc) (o:Bool) (bs:Qa) (hl:ks.length<=1000):call tb 120 [.str n,.sl o 4 (Qb ks)] bs=some (.agg (Qf (.mk 3 n 0 ks)),bs):=by
 rw[zcc 120 rfl rfl];have ha:ks.length*56<=140737488355328:=by omega
 simp[f120,f120C,Tq,Ur,ha,Xh]
def Mv (a b:Int):sgn b a= - sgn a b:=by unfold sgn;split <;> (try split) <;> (try split) <;> omega
def Qfr {a b:Int}:sgn a b<=0↔a<=b:=by unfold sgn;split <;> (try split) <;> omega
def K8: ∀a b:Qu,Op.bytesLess a b=true\/a=b\/Op.bytesLess b a=true
 | [],[]=> .inr (.inl rfl)
 | [],_:: _=> .inl rfl
 | _:: _,[]=> .inr (.inr rfl)
 | x:: xs,y:: ys=>by
  simp only[Op.bytesLess,VG,Qy,Qp,Up,List.cons.injEq];rcases JM x.toNat y.toNat with h | h | h
  ·have:x < y:=by rw[PQ];exact h
   simp[this]
  ·have e:x=y:=UInt8.toNat_inj.1 h;subst e;have hi: ¬x < x:=by rw[PQ];omega
   rcases K8 xs ys with h | h | h
   ·simp[hi,h]
   ·simp[hi,h]
   ·simp[hi,h]
  ·have:y < x:=by rw[PQ];exact h
   have h2: ¬x < y:=by rw[PQ];omega
   simp[this,h2]
def Mf: ∀a b c:Qu,Op.bytesLess a b=true->Op.bytesLess b c=true->Op.bytesLess a c=true
 | [],_,[],_,h=>by cases ‹Qu› <;> simp[Op.bytesLess]at h
 | [],_,_:: _,_,_=>rfl
 | _:: _,[],_,h,_=>by simp[Op.bytesLess]at h
 | _:: _,_:: _,[],_,h=>by simp[Op.bytesLess]at h
 | x:: xs,y:: ys,z:: zs,h1,h2=>by
  have ih:=Mf xs ys zs;simp only[Op.bytesLess,VG,Qy,Qp,Up]at h1 h2 ⊢;rcases h1 with h1 | ⟨rfl,h1⟩
  ·rcases h2 with h2 | ⟨rfl,h2⟩
   ·left;rw[PQ]at *;omega
   ·exact .inl h1
  ·rcases h2 with h2 | ⟨rfl,h2⟩
   ·exact .inl h2
   ·exact .inr ⟨rfl,ih h1 h2⟩
def Ir (a b:Qu) (h:Op.bytesLess a b=true):Op.bytesLess b a=false:=by
 cases hb:Op.bytesLess b a
 ·rfl
 ·have:=Mf a b a h hb;rw[WH]at this;cases this
def Ly (a b:Qu):WI b a= - WI a b:=by
 unfold WI;rcases K8 a b with h | h | h
 ·have h2:=Ir a b h;have hne: (b == a)=false:=by
   rw[EU];intro e;subst e;rw[WH]at h;cases h
  simp[h,h2,hne]
 ·subst h;simp[WH]
 ·have h2:=Ir b a h;have hne: (a == b)=false:=by
   rw[EU];intro e;subst e;rw[WH]at h;cases h
  simp[h,h2,hne]
def QjR {a b:Qu}:WI a b<=0↔Op.bytesLess a b=true\/a=b:=by
 unfold WI;split
 ·rename_i h;simp[h]
 ·rename_i h;split
  ·rename_i h2;simp at h2;simp[h2]
  ·rename_i h2;simp at h2;simp[h,h2]
def QaZ {a b c:Qu} (h1:WI a b<=0) (h2:WI b c<=0):WI a c<=0:=by
 rw[QjR]at *;rcases h1 with h1 | rfl
 ·rcases h2 with h2 | rfl
  ·exact .inl (Mf _ _ _ h1 h2)
  ·exact .inl h1
 ·exact h2
def DB {a b:Qu} (h:WI a b=0):a=b:=by
 rcases K8 a b with h2 | h2 | h2
 ·simp[WI,h2]at h
 ·exact h2
 ·have:=Ly a b;rw[h]at this;simp[WI,h2]at this
def Rs {a b a' b':Int} (h1:a'= -a) (h2:b'= -b):or0 a' b'= - or0 a b:=by
 subst h1 h2;unfold or0;split <;> split <;> omega
def Sr {a1 a2 a3 b1 b2 b3:Int} (ha:a1<=0->a2<=0->a3<=0) (hz:a3=0->a1<=0->a2<=0->a1=0/\a2=0) (hb:a1=0->a2=0->b1<=0->b2<=0->b3<=0)
  (h1:or0 a1 b1<=0) (h2:or0 a2 b2<=0):or0 a3 b3<=0:=by
 have g1:a1<=0:=by unfold or0 at h1;split at h1 <;> omega
 have g2:a2<=0:=by unfold or0 at h2;split at h2 <;> omega
 have g3:=ha g1 g2;by_cases hc:a3=0
 ·obtain⟨z1,z2⟩:=hz hc g1 g2;rw[z1,TK]at h1;rw[z2,TK]at h2;rw[hc,TK];exact hb z1 z2 h1 h2
 ·rw[S1 hc];exact g3
def OS {a b c:Int} (h1:sgn a b<=0) (h2:sgn b c<=0):sgn a c<=0:=by rw[Qfr]at *;omega
def Ji {a b c:Int} (h:sgn a c=0) (h1:sgn a b<=0) (h2:sgn b c<=0):sgn a b=0/\sgn b c=0:=by
 rw[Oq]at *;rw[Qfr]at h1 h2;rw[Oq];omega
def Qd7 {a b c:Qu} (h:WI a c=0) (h1:WI a b<=0) (h2:WI b c<=0):WI a b=0/\WI b c=0:=by
 have e:=DB h;subst e;have:=Ly a b;constructor <;> omega
def D4 (t u:Tm):hdT u t= - hdT t u:=by
 unfold hdT;exact Rs (Mv _ _) (Rs (Mv _ _) (Rs (Ly _ _) (Rs (Mv _ _) (Mv _ _))))
def K6 {t u:Tm}:hdT t u=0↔t.nodes=u.nodes/\t.kind=u.kind/\t.name=u.name/\t.sort=u.sort/\t.kids.length=u.kids.length:=by
 unfold hdT;rw[Rt,Rt,Rt,Rt,Oq,Oq,Oq,Oq];constructor
 ·rintro⟨h1,h2,h3,h4,h5⟩
  exact⟨by omega,h2,DB h3,h4,by omega⟩
 ·rintro⟨h1,h2,h3,h4,h5⟩
  exact⟨by omega,h2,by rw[h3];exact HK _,h4,by omega⟩
def Qex {t u v:Tm} (h1:hdT t u<=0) (h2:hdT u v<=0):hdT t v<=0:=by
 unfold hdT at *;refine Sr OS (fun h a b=>Ji h a b) (fun _ _=> ?_) h1 h2;refine Sr OS (fun h a b=>Ji h a b) (fun _ _=> ?_);refine Sr QaZ (fun h a b=>Qd7 h a b) (fun _ _=> ?_);exact Sr OS (fun h a b=>Ji h a b) (fun _ _=>OS)
def Lx: ∀(ts us:Qc),(∀x∈ts,∀y,Qq y x= - Qq x y)->XH us ts= - XH ts us
 | [],[],_=>by simp[XH]
 | [],_:: _,_=>by simp[XH]
 | _:: _,[],_=>by simp[XH]
 | t:: ts,u:: us,h=>by
  simp only[XH];exact Rs (h t (by simp) u) (Lx ts us fun x hx=>h x (by simp[hx]))
def Xn: ∀(t u:Tm),Qq u t= - Qq t u:=by
 refine Yq ?_;intro k n s ks ih u;rw[Ri,Ri];exact Rs (D4 _ _) (Lx _ _ fun x hx y=>ih x hx y)
def MC: ∀(ts us vs:Qc),ts.length=us.length->us.length=vs.length->(∀x∈ts,∀y z,Qq x y<=0->Qq y z<=0->Qq x z<=0)->XH ts us<=0->XH us vs<=0->XH ts vs<=0
 | [],[],[],_,_,_,_,_=>by simp[XH]
 | t:: ts,u:: us,v:: vs,h1,h2,h,g1,g2=>by
  simp only[XH]at g1 g2 ⊢;refine Sr (h t (by simp) u v) (fun h0 a b=> ?_) (fun _ _=>MC ts us vs (by simpa using h1) (by simpa using h2) fun x hx=>h x (by simp[hx])) g1 g2;have e:=Xg _ _ h0;subst e;have:=Xn t u;constructor <;> omega
 | [],_:: _,_,h1,_,_,_,_=>by simp at h1
 | _:: _,[],_,h1,_,_,_,_=>by simp at h1
 | [],[],_:: _,_,h2,_,_,_=>by simp at h2
 | _:: _,_:: _,[],_,h2,_,_,_=>by simp at h2
def NW: ∀(t u v:Tm),Qq t u<=0->Qq u v<=0->Qq t v<=0:=by
 refine Yq ?_;intro k n s ks ih u v h1 h2;rw[Ri]at *;refine Sr Qex (fun h0 a b=> ?_) (fun e1 e2=> ?_) h1 h2
 ·rw[K6]at h0;have z1:=K6 (t:= .mk k n s ks) (u:=u);have e2:hdT u v=hdT u (.mk k n s ks):=by unfold hdT;rw[h0.1,h0.2.1,h0.2.2.1,h0.2.2.2.1,h0.2.2.2.2]
  rw[e2]at b ⊢;have:=D4 (.mk k n s ks) u;constructor <;> omega
 ·rw[K6]at e1 e2;exact MC _ _ _ e1.2.2.2.2 e2.2.2.2.2 fun x hx=>ih x hx
def Xy {a b c:Tm} (h1:Qq a b < 0) (h2:Qq b c < 0):Qq a c < 0:=by
 have h:=NW a b c (by omega) (by omega);rcases Int.lt_or_eq_of_le h with h | h
 ·exact h
 ·have e:=Xg _ _ h;subst e;have:=Xn a b;omega
def Ut (a:Tm): ¬Qq a a < 0:=by rw[V2];omega
def Ig {a b:Tm}:0 < Qq a b↔Qq b a < 0:=by have:=Xn a b;omega
def KZ (a b:Tm):Qq a b < 0\/a=b\/Qq b a < 0:=by
 rcases Int.lt_trichotomy (Qq a b) 0 with h | h | h
 ·exact .inl h
 ·exact .inr (.inl (Xg _ _ h))
 ·exact .inr (.inr (Ig.1 h))
def Asc (l:Qc):Prop:=l.Pairwise fun a b=>Qq a b < 0
def Asc.nil:Asc []:=List.Pairwise.nil
def I1 (t:Tm):Asc [t]:=by simp[Asc]
def X1 {x:Tm} {l:Qc}:Asc (x:: l)↔(∀y∈l,Qq x y < 0)/\Asc l:=VY
def I0: ∀{a b:Qc},Asc a->Asc b->(∀x,x∈a↔x∈b)->a=b
 | [],[],_,_,_=>rfl
 | [],y:: ys,_,_,h=>by have:=(h y).2 (by simp);simp at this
 | x:: xs,[],_,_,h=>by have:=(h x).1 (by simp);simp at this
 | x:: xs,y:: ys,ha,hb,h=>by
  rw[X1]at ha hb;have hxy:x=y:=by
   rcases KZ x y with h1 | h1 | h1
   ·have:=(h x).1 (by simp);rcases ZE.1 this with e | e
    ·exact e
    ·have:=Xy h1 (hb.1 x e);exact absurd this (Ut x)
   ·exact h1
   ·have:=(h y).2 (by simp);rcases ZE.1 this with e | e
    ·exact e.symm
    ·have:=Xy h1 (ha.1 y e);exact absurd this (Ut y)
  subst hxy;congr 1;refine I0 ha.2 hb.2 fun z=> ?_;have hz:=h z;simp only[ZE]at hz;constructor
  ·intro hm;rcases hz.1 (.inr hm)with e | e
   ·subst e;exact absurd (ha.1 z hm) (Ut z)
   ·exact e
  ·intro hm;rcases hz.2 (.inr hm)with e | e
   ·subst e;exact absurd (hb.1 z hm) (Ut z)
   ·exact e
def ZZ (t:Tm):Qc->Qc
 | []=>[t]
 | x:: xs=>if Qq t x < 0 then t:: x:: xs else if Qq t x=0 then x:: xs else x:: ZZ t xs
def Ro {t y:Tm}: ∀{l:Qc},y∈ZZ t l↔y=t\/y∈l
 | []=>by simp[ZZ]
 | x:: xs=>by
  simp only[ZZ];split
  ·simp
  ·split
   ·rename_i h;have:=Xg _ _ h;subst this;simp
   ·simp only[ZE,Ro (l:=xs)];constructor
    ·rintro(h | h | h) <;> simp[h]
    ·rintro(h | h | h) <;> simp[h]
def KQ {t:Tm}: ∀{l:Qc},Asc l->Asc (ZZ t l)
 | [],_=>I1 t
 | x:: xs,h=>by
  have h0:=h;rw[X1]at h;simp only[ZZ];split
  ·rename_i h1;rw[X1];refine⟨fun y hy=> ?_,h0⟩;rcases ZE.1 hy with rfl | hy
   ·exact h1
   ·exact Xy h1 (h.1 y hy)
  ·split
   ·exact h0
   ·rename_i h1 h2;rw[X1];refine⟨fun y hy=> ?_,KQ h.2⟩;rcases Ro.1 hy with rfl | hy
    ·exact Ig.1 (by omega)
    ·exact h.1 y hy
def P3 (t:Tm): ∀l:Qc,(ZZ t l).length<=l.length+1
 | []=>by simp[ZZ]
 | x:: xs=>by
  simp only[ZZ];have:=P3 t xs;split
  ·simp
  ·split <;> simp <;> omega
def YG (acc:Qc) (l:Qc):Qc:=l.foldl (fun a x=>ZZ x a) acc
def Yv (l:Qc):Qc:=YG [] l
def Mj {y:Tm}: ∀{l acc:Qc},y∈YG acc l↔y∈acc\/y∈l
 | [],acc=>by simp[YG]
 | x:: xs,acc=>by
  have:=Mj (y:=y) (l:=xs) (acc:=ZZ x acc);simp only[YG,Nr]at this ⊢;rw[this,Ro];simp only[ZE];constructor
  ·rintro((h | h) | h) <;> simp[h]
  ·rintro(h | h | h) <;> simp[h]
def JX: ∀{l acc:Qc},Asc acc->Asc (YG acc l)
 | [],_,h=>h
 | x:: xs,acc,h=>JX (l:=xs) (KQ h)
def UO {y:Tm} {l:Qc}:y∈Yv l↔y∈l:=by unfold Yv;rw[Mj];simp
def KR (l:Qc):Asc (Yv l):=JX Asc.nil
def QaH (acc a b:Qc):YG acc (a ++ b)=YG (YG acc a) b:=by simp[YG]
def NO: ∀(l acc:Qc),(YG acc l).length<=acc.length+l.length
 | [],acc=>by simp[YG]
 | x:: xs,acc=>by
  have h1:=NO xs (ZZ x acc);have h2:=P3 x acc;simp only[YG,Nr,ZQ]at *;omega
def Mu (l:Qc): (Yv l).length<=l.length:=by have:=NO l [];simpa[Yv]using this
def Mk {t y:Tm}: ∀{l:Qc},y∈Sb t l↔y=t\/y∈l
 | []=>by simp[Sb]
 | x:: xs=>by
  simp only[Sb];split
  ·simp only[ZE,Mk (l:=xs)];constructor
   ·rintro(h | h | h) <;> simp[h]
   ·rintro(h | h | h) <;> simp[h]
  ·simp
def R0 {y:Tm}: ∀{l:Qc},y∈Xm l↔y∈l
 | []=>by simp[Xm]
 | x:: xs=>by simp only[Xm,Mk,R0 (l:=xs),ZE]
def D9 (t:Tm): ∀l:Qc,(Sb t l).length=l.length+1
 | []=>rfl
 | x:: xs=>by simp only[Sb];split <;> simp[D9 t xs]
def Tx: ∀l:Qc,(Xm l).length=l.length
 | []=>rfl
 | x:: xs=>by simp[Xm,D9,Tx xs]
def Srt (l:Qc):Prop:=l.Pairwise fun a b=>Qq a b<=0
def CS {t:Tm}: ∀{l:Qc},Srt l->Srt (Sb t l)
 | [],_=>by simp[Sb,Srt]
 | x:: xs,h=>by
  have h0:=h;unfold Srt at h;rw[VY]at h;simp only[Sb];split
  ·rename_i h1;unfold Srt;rw[VY];refine⟨fun y hy=> ?_,CS h.2⟩;rcases Mk.1 hy with rfl | hy
   ·omega
   ·exact h.1 y hy
  ·rename_i h1;unfold Srt;rw[VY];refine⟨fun y hy=> ?_,h0⟩;have htx:Qq t x<=0:=by have:=Xn x t;omega
   rcases ZE.1 hy with rfl | hy
   ·exact htx
   ·exact NW _ _ _ htx (h.1 y hy)
def Gg: ∀l:Qc,Srt (Xm l)
 | []=>List.Pairwise.nil
 | x:: xs=>CS (Gg xs)
def Vc:List Tm->List Tm
 | []=>[]
 | [x]=>[x]
 | x:: y:: r=>if Qq y x=0 then Vc (x:: r)else x:: Vc (y:: r)
termination_by l=>l.length
def OM: ∀(n:Nat) (l:Qc) (y:Tm),l.length<=n->(y∈Vc l↔y∈l)
 | _,[],y,_=>by simp[Vc]
 | _,[x],y,_=>by simp[Vc]
 | n+1,x:: z:: r,y,h=>by
  rw[Vc];split
  ·rename_i e;have e:=Xg _ _ e;subst e;rw[OM n (z:: r) y (by simp at h ⊢;omega)];simp
  ·rw[ZE,OM n (z:: r) y (by simp at h ⊢;omega)];simp only[ZE]
 | 0,_:: _:: _,_,h=>by simp at h
def Ln: ∀(n:Nat) (l:Qc),l.length<=n->Srt l->Asc (Vc l)
 | _,[],_,_=>by simp[Vc,Asc.nil]
 | _,[x],_,_=>by simp[Vc,I1]
 | n+1,x:: z:: r,h,hs=>by
  have hs0:=hs;unfold Srt at hs;rw[VY]at hs;rw[Vc];split
  ·rename_i e;have e:=Xg _ _ e;subst e;exact Ln n _ (by simp at h ⊢;omega) hs.2
  ·rename_i e;rw[X1];refine⟨fun y hy=> ?_,Ln n _ (by simp at h ⊢;omega) hs.2⟩;rw[OM n _ y (by simp at h ⊢;omega)]at hy;have hxz:Qq x z < 0:=by
    have h1:=hs.1 z (by simp);have h2:=Xn x z;omega
   rcases ZE.1 hy with rfl | hy
   ·exact hxz
   ·have h2:Qq z y<=0:=by
     have:=hs.2;rw[VY]at this;exact this.1 y hy
    rcases Int.lt_or_eq_of_le (NW x z y (by omega) h2)with h3 | h3
    ·exact h3
    ·have e3:=Xg _ _ h3;subst e3;have:=Xn x z;omega
 | 0,_:: _:: _,h,_=>by simp at h
def Ks (l:Qc):Vc (Xm l)=Yv l:=
 I0 (Ln _ _ (Zm _) (Gg l)) (KR l) fun x=>by rw[OM _ _ x (Zm _),R0,UO]
def O1: ∀a b:Qh,QY (a ++ b)=(QY a && QY b)
 | [],b=>by simp
 | x:: a,b=>by simp[O1 a b,Bool.and_assoc]
section
variable {α:Type} (f:α->List AV) (k:Nat)
def YI (f:α->Qh) (l:List α):Qh:=(l.map f).flatten
def Tw (x:α) (l:List α):YI f (x:: l)=f x ++ YI f l:=by simp[YI]
def Vx (a b:List α):YI f (a ++ b)=YI f a ++ YI f b:=by simp[YI]
def PB (x:α):YI f [x]=f x:=by simp[YI]
variable {f k}
def YC (hk: ∀x,(f x).length=k): ∀l:List α,(YI f l).length=l.length*k
 | []=>by simp[YI]
 | x:: l=>by rw[Tw,Zk,hk,YC hk l,ZQ,VH];omega
def YV (hs: ∀x,(f x).map AV.strip=f x): ∀l:List α,(YI f l).map AV.strip=YI f l
 | []=>rfl
 | x:: l=>by rw[Tw,Uk,hs,YV hs l]
def CD (hg: ∀x,QY (f x)=true): ∀l:List α,QY (YI f l)=true
 | []=>rfl
 | x:: l=>by
  rw[Tw,O1,hg x,CD hg l];rfl
def PL:=@List.take_append_of_le_length
def U0 (hk: ∀x,(f x).length=k) {l pre post:List α} {x:α} (h:l=pre ++ x:: post) (t:Qh): ((YI f l ++ t).drop (pre.length*k)).take k=f x:=by
 subst h;rw[Vx,Tw,ZY,<- YC hk pre,List.drop_left,ZY];have:=hk x;rw[PL (by omega),YH (by omega)]
def PY:=@List.take_left
def Rv (hk: ∀x,(f x).length=k) {l pre post:List α} (h:l=pre ++ post) (t:Qh): (YI f l ++ t).take (pre.length*k)=YI f pre:=by
 subst h;rw[Vx,ZY,<- YC hk pre,PY]
def Mr (hk: ∀x,(f x).length=k) {l pre post:List α} (h:l=pre ++ post) (t:Qh): (YI f l ++ t).drop (pre.length*k)=YI f post ++ t:=by
 subst h;rw[Vx,ZY,<- YC hk pre,List.drop_left]
def PC (hk: ∀x,(f x).length=k) {l pre post:List α} {x:α} (y:α) (h:l=pre ++ x:: post) (t:Qh):
  (YI f l ++ t).take (pre.length*k)++ (f y ++ (YI f l ++ t).drop (pre.length*k+k))=YI f (pre ++ y:: post)++ t:=by
 rw[Rv hk h,Vx,Tw];have h2:l=(pre ++ [x])++ post:=by rw[h];simp
 have:=Mr hk h2 t;rw[Zk,RA,Z2,Nat.one_mul]at this;rw[this];simp
def QdS:=@List.getElem?_eq_none_iff
def XZ (hk: ∀x,(f x).length=k) (hs: ∀x,(f x).map AV.strip=f x) (l:List α) (t:Qh):Z3 (YI f l ++ t) 0 k l.length=l.map f:=by
 apply Tl;intro i;cases hc: (Z3 (YI f l ++ t) 0 k l.length)[i]? with
 | none=>
  rw[QdS,WT]at hc;rw[Q2 (by simpa using hc)]
 | some y=>
  obtain⟨hi,rfl⟩:=SP hc;have hl:l=l.take i ++ l[i]:: l.drop (i+1):=by rw[List.getElem_cons_drop,M3]
  have hr:=U0 hk hl t;rw[Xr,E4 (by omega)]at hr;rw[Zl,hr,hs];simp[Zq hi]
end
def QR (x:Tm): (Qf x).length=4:=Y3 x
abbrev Qr (l:List Tm):List AV:=YI Qf l
def Sd (l:Qc):l.map Qf=Qb l:=(YU l).symm
def J1 (x y:Tm) (bs:Qa) (hx:x.mass < big) (hy:y.mass < big):call tb 171 [.agg (Qf x),.agg (Qf y)] bs=some (.bool (decide (Qq x y=0)),bs):=by
 rw[zcc 171 rfl rfl];have h:=call_Compare x y bs hx hy;simp[f171,f171C,Qk,h]
def YA (prev:Tm):Qc->Qc
 | []=>[]
 | x:: r=>if Qq x prev=0 then YA x r else x:: YA x r
def Pg (x:Tm): ∀(r:Qc),Vc (x:: r)=x:: YA x r
 | []=>by simp[Vc,YA]
 | y:: r=>by
  rw[Vc];simp only[YA];split
  ·rename_i h;have:=Xg _ _ h;subst this;exact Pg y r
  ·rw[Pg y r]
def Qil (B:Qa) (id n:Nat) (D:Qc) (c:Qh) (hB:id < B.length) (hc:c.length=n*4) (hD:D.length<=n) (hn:n < 100000000) (ht:c.take (D.length*4)=Qr D)
  (ρ:Ql) (h0:ρ 0= .gs id 0 4 n) (h5:ρ 5= .int .i64 D.length):
  R tb f172r0 ρ (B.set id c) (Qo 1 (QB tb f172r1 (QB tb (.loop f172l1) (Qo 0 (QB tb f172r2 (QN f172 B))))))=
   some (.gs id 0 4 D.length,B.set id (Qr D ++ List.replicate ((n - D.length)*4) .undef)):=by
 have e1: (0:Int)<=(D.length:Int):=by omega
 have e2: (D.length:Int)<=(n:Int):=by omega
 have hput:c.take (D.length*4)++ (List.replicate ((n - D.length)*4) AV.undef ++ c.drop (D.length*4+ (n - D.length)*4))=Qr D ++ List.replicate ((n - D.length)*4) .undef:=by
  rw[ht,Nf (by rw[hc,<- Z2];exact Yg _ (by omega))];simp
 have hle:D.length*4+ (n - D.length)*4<=n*4:=by rw[<- Z2];exact Yg _ (by omega)
 by_cases hz:n - D.length=0
 ·have hDn:D.length=n:=by omega
  have hcc:c=Qr D:=by rw[<- ht,YH (by omega)]
  simp[f172r0,h0,h5,e1,e2,hD,hz,hcc]
 ·simp[f172r0,h0,h5,e1,e2,hD,hz,hB,hc,hle,hput]
end Go.Am
namespace Go.Am
set_option maxRecDepth 20000
def GV (L:Qc) (B:Qa) (id:Nat) (r:Option (AV×Qa)):Prop:=∃t,r=some (.gs id 0 4 L.length,B.set id (Qr L ++ t))
def Qij (B:Qa) (id n k0:Nat) (hB:id < B.length) (hn:n < 100000000): ∀(post D mid:Qc) (prev:Tm) (k2:Nat) (ρ:Ql),D.length+mid.length+1+post.length=n->k0+k2=D.length+mid.length+1->0 < k2->
   (∀x∈prev:: post,x.mass < big)->ρ 0= .gs id 0 4 n->ρ 1= .fn 171 []->ρ 5= .int .i64 D.length->ρ 6= .gs id (k0*4) 4 (n - k0)->ρ 7= .int .i64 k2->
  GV (D ++ YA prev post) B id (R tb (.loop f172l0) ρ (B.set id (Qr (D ++ mid ++ prev:: post)))
   (Qo 2 (QB tb f172r0 (Qo 1 (QB tb f172r1 (QB tb (.loop f172l1) (Qo 0 (QB tb f172r2 (QN f172 B))))))))):=by
 intro post
 induction post with
 | nil=>
  intro D mid prev k2 ρ hl hk hk2 hm h0 h1 h5 h6 h7;have hlen: (Qr (D ++ mid ++ [prev])).length=n*4:=by rw[YC QR];simp at hl ⊢;omega
  have ht: (Qr (D ++ mid ++ [prev])).take (D.length*4)=Qr D:=by
   have:=Rv (f:=Qf) (k:=4) QR (l:=D ++ mid ++ [prev]) (pre:=D) (post:=mid ++ [prev]) (by simp) [];simpa using this
  have hr:=fun ρ a b=>Qil B id n D (Qr (D ++ mid ++ [prev])) hB hlen (by omega) hn ht ρ a b;have hl':D.length+mid.length+1=n:=by simpa using hl
  have hnl: ¬((k2:Int) < ((n - k0:Nat):Int)):=by omega
  have hnl2: ¬(k2 < n - k0):=by omega
  rw[Qe f172l0.eq_1];simp only[YA,QH];refine⟨List.replicate ((n - D.length)*4) .undef,?_⟩;simp[h0,h1,h5,h6,h7,hnl,hnl2];simp only[ZY]at hr;refine hr _ ?_ ?_ <;> simp[h0,h5]
 | cons x post IH=>
  intro D mid prev k2 ρ hl hk hk2 hm h0 h1 h5 h6 h7;have hlen: (Qr (D ++ mid ++ prev:: x:: post)).length=n*4:=by rw[YC QR];simp at hl ⊢;omega
  have hst: (Qr (D ++ mid ++ prev:: x:: post)).map AV.strip=Qr (D ++ mid ++ prev:: x:: post):=YV ZI _;have r1: ((Qr (D ++ mid ++ prev:: x:: post)).drop (k0*4+k2*4)).take 4=Qf x:=by
   have:=U0 (f:=Qf) (k:=4) QR (l:=D ++ mid ++ prev:: x:: post) (pre:=D ++ mid ++ [prev]) (post:=post) (x:=x) (by simp) [];rw[<- Z2,hk];simpa[Uo]using this
  have r2: ((Qr (D ++ mid ++ prev:: x:: post)).drop (k0*4+ (k2 - 1)*4)).take 4=Qf prev:=by
   have:=U0 (f:=Qf) (k:=4) QR (l:=D ++ mid ++ prev:: x:: post) (pre:=D ++ mid) (post:=x:: post) (x:=prev) (by simp) [];rw[<- Z2,show k0+ (k2 - 1)=D.length+mid.length by omega];simpa[Uo]using this
  have hput: (Qr (D ++ mid ++ prev:: x:: post)).take (D.length*4)++ (Qf x ++ (Qr (D ++ mid ++ prev:: x:: post)).drop (D.length*4+4))=Qr ((D ++ [x])++ (mid ++ [prev]).tail ++ x:: post):=by
   obtain⟨y,m2,hy⟩: ∃y m2,mid ++ [prev]=y:: m2:=by cases mid <;> simp
   have:=PC (f:=Qf) (k:=4) QR (l:=D ++ mid ++ prev:: x:: post) (pre:=D) (post:=m2 ++ x:: post) (x:=y) x (by
    have:D ++ mid ++ prev:: x:: post=D ++ (mid ++ [prev])++ x:: post:=by simp
    rw[this,hy];simp) []
   rw[hy];simpa using this
  have hw1:IntKind.i64.wrap ((k2:Int) - 1)=((k2 - 1:Nat):Int):=by rw[Zf (by omega) (by omega)];omega
  have hw2:IntKind.i64.wrap ((k2:Int)+1)=((k2+1:Nat):Int):=by rw[Zf (by simp at hl;omega) (by simp at hl;omega)];omega
  have hw3:IntKind.i64.wrap ((D.length:Int)+1)=((D.length+1:Nat):Int):=by rw[Zf (by simp at hl;omega) (by simp at hl;omega)];omega
  have hlt: (k2:Int) < ((n - k0:Nat):Int):=by simp at hl;omega
  have hlt1:k2 < n - k0:=by simp at hl;omega
  have hlt2: ((k2 - 1:Nat):Int) < ((n - k0:Nat):Int):=by simp at hl;omega
  have hlt2':k2 - 1 < n - k0:=by simp at hl;omega
  have hlt3: (D.length:Int) < (n:Int):=by simp at hl;omega
  have hlt3':D.length < n:=by simp at hl;omega
  have hb1:k0*4+k2*4+4<=n*4:=by simp at hl;omega
  have hb2:k0*4+ (k2 - 1)*4+4<=n*4:=by simp at hl;omega
  have hb3:D.length*4+4<=n*4:=by simp at hl;omega
  have hnn: (0:Int)<=((k2 - 1:Nat):Int):=by omega
  have hc:=fun bs=>J1 x prev bs (hm x (by simp)) (hm prev (by simp));have hcast: ((k2 - 1:Nat):Int).toNat=k2 - 1:=by omega
  have ih1:=IH D (mid ++ [prev]) x (k2+1);have ih2:=IH (D ++ [x]) (mid ++ [prev]).tail x (k2+1);have htl: ((mid ++ [prev]).tail).length=mid.length:=by simp
  rw[show D ++ (mid ++ [prev])++ x:: post=D ++ mid ++ prev:: x:: post by simp]at ih1;rw[Qe f172l0.eq_1];generalize Qr (D ++ mid ++ prev:: x:: post)=c at *;generalize hkm:k2 - 1=km at *;generalize n - k0=nk at *;by_cases he:Qq x prev=0
  ·have e:YA prev (x:: post)=YA x post:=by simp[YA,he]
   rw[e];simp[h0,h1,h5,h6,h7,hlt,hlt1,hlt2,hlt2',hnn,hw1,hw2,hb1,hb2,hB,hlen,hst,r1,r2,hc,he,hcast];refine ih1 _ (by simp at hl ⊢;omega) (by simp;omega) (by omega) (fun y hy=>hm y (by simp at hy ⊢;rcases hy with h | h <;> simp[h])) ?_ ?_ ?_ ?_ ?_ <;> simp[h0,h1,h5,h6]
  ·have e:D ++ YA prev (x:: post)=D ++ x:: YA x post:=by simp[YA,he]
   rw[e];simp only[ZY,WC,XP]at ih2;simp[h0,h1,h5,h6,h7,hlt,hlt1,hlt2,hlt2',hlt3,hlt3',hnn,hw1,hw2,hw3,hb1,hb2,hb3,hB,hlen,hst,r1,r2,hc,he,hcast,hput];refine ih2 _ (by simp at hl ⊢;omega) (by simp;omega) (by omega) (fun y hy=>hm y (by simp at hy ⊢;rcases hy with h | h <;> simp[h])) ?_ ?_ ?_ ?_ ?_ <;> simp[h0,h1,h5,h6]
def Qik (B:Qa) (id n:Nat) (hB:id < B.length) (hn:n < 100000000): ∀(post pre:Qc) (prev:Tm) (ρ:Ql),pre.length+1+post.length=n->
   (∀x∈prev:: post,x.mass < big)->ρ 0= .gs id 0 4 n->ρ 1= .fn 171 []->ρ 5= .int .i64 (pre.length+1:Nat)->
  GV (pre ++ prev:: YA prev post) B id (R tb (.loop f172l1) ρ (B.set id (Qr (pre ++ prev:: post)))
   (Qo 0 (QB tb f172r2 (QN f172 B)))):=by
 intro post
 induction post with
 | nil=>
  intro pre prev ρ hl hm h0 h1 h5;have hl':pre.length+1=n:=by simpa using hl
  have hnl: ¬((pre.length:Int)+1 < (n:Int)):=by omega
  rw[Qe f172l1.eq_1];refine⟨[],?_⟩;simp[h0,h1,h5,hnl,YA,f172r2,hl']
 | cons x post IH=>
  intro pre prev ρ hl hm h0 h1 h5;have hl':pre.length+1+ (post.length+1)=n:=by simpa using hl
  have hlen: (Qr (pre ++ prev:: x:: post)).length=n*4:=by rw[YC QR];simp;omega
  have hst: (Qr (pre ++ prev:: x:: post)).map AV.strip=Qr (pre ++ prev:: x:: post):=YV ZI _;have r1: ((Qr (pre ++ prev:: x:: post)).drop ((pre.length+1)*4)).take 4=Qf x:=by
   have:=U0 (f:=Qf) (k:=4) QR (l:=pre ++ prev:: x:: post) (pre:=pre ++ [prev]) (post:=post) (x:=x) (by simp) [];simpa using this
  have r2: ((Qr (pre ++ prev:: x:: post)).drop (pre.length*4)).take 4=Qf prev:=by
   have:=U0 (f:=Qf) (k:=4) QR (l:=pre ++ prev:: x:: post) (pre:=pre) (post:=x:: post) (x:=prev) (by simp) [];simpa using this
  have hw1:IntKind.i64.wrap (pre.length:Int)=(pre.length:Int):=Zf (by omega) (by omega);have hw2:IntKind.i64.wrap ((pre.length:Int)+1+1)=(pre.length:Int)+1+1:=Zf (by omega) (by omega);have hlt: (pre.length:Int)+1 < (n:Int):=by omega
  have hlt2: (pre.length:Int) < (n:Int):=by omega
  have hb1: (pre.length+1)*4+4<=n*4:=by omega
  have hb2:pre.length*4+4<=n*4:=by omega
  have hnn: (0:Int)<=(pre.length:Int)+1:=by omega
  have hle: (pre.length:Int)+1<=(n:Int):=by omega
  have hcast: ((pre.length:Int)+1).toNat=pre.length+1:=by omega
  have hc:=fun bs=>J1 x prev bs (hm x (by simp)) (hm prev (by simp));have ih1:=IH (pre ++ [prev]) x;have ih2:=Qij B id n (pre.length+1) hB hn post (pre ++ [prev]) [] x 1;simp only[ZY,WC,XP]at ih1 ih2;rw[Qe f172l1.eq_1];generalize Qr (pre ++ prev:: x:: post)=c at *;by_cases he:Qq x prev=0
  ·have e:YA prev (x:: post)=YA x post:=by simp[YA,he]
   rw[e];simp[h0,h1,h5,hlt,hlt2,hnn,hle,hw1,hw2,hb1,hb2,hB,hlen,hst,r1,r2,hc,he,hcast];refine ih2 _ (by simp;omega) (by simp) (by omega) (fun y hy=>hm y (by simp at hy ⊢;rcases hy with h | h <;> simp[h])) ?_ ?_ ?_ ?_ ?_ <;> simp[h0,h1,h5]
  ·have e:pre ++ prev:: YA prev (x:: post)=pre ++ prev:: x:: YA x post:=by simp[YA,he]
   rw[e];simp[h0,h1,h5,hlt,hlt2,hnn,hle,hw1,hw2,hb1,hb2,hB,hlen,hst,r1,r2,hc,he,hcast,f172r1];refine ih1 _ (by simp;omega) (fun y hy=>hm y (by simp at hy ⊢;rcases hy with h | h <;> simp[h])) ?_ ?_ ?_ <;> simp[h0,h1,h5]
def Di (L:Qc) (B:Qa) (id:Nat) (hid:B[id]? =some (Qr L)) (hn:L.length < 100000000) (hm: ∀x∈L,x.mass < big):
  GV (Vc L) B id (call tb 172 [.gs id 0 4 L.length,.fn 171 []] B):=by
 have hB:id < B.length:=by
  rcases QT id B.length with h | h
  ·exact h
  ·rw[Q2 h]at hid;cases hid
 have hset:B.set id (Qr L)=B:=by
  apply Tl;intro i;rw[Xq];split
  ·rename_i h;subst h;rw[hid]
  ·rfl
 match L with
 | []=>
  refine⟨[],?_⟩;rw[zcc 172 rfl rfl];simp[f172C,Vc];simpa using hset.symm
 | [x]=>
  refine⟨[],?_⟩;rw[zcc 172 rfl rfl];simp[f172C,Vc];simpa using hset.symm
 | x:: y:: r=>
  have h:=Qik B id (r.length+2) hB (by simpa using hn) (y:: r) [] x;rw[zcc 172 rfl rfl,Pg];simp only[XP,hset]at h;have hge: ¬((r.length:Int)+1+1 < 2):=by omega
  simp[f172C,hge];refine h _ (by simp;omega) (fun z hz=>hm z hz) ?_ ?_ ?_ <;> simp
end Go.Am
namespace Go.Am
set_option maxRecDepth 20000
def Rw {α:Type} {B:List α} {i:Nat} {x:α} (h:B[i]? =some x):B.set i x=B:=by
 apply Tl;intro j;rw[Xq];split
 ·rename_i e;subst e;split
  ·exact h.symm
  ·rename_i hl;rw[Q2 (by omega)]
 ·rfl
def YT {α:Type} {B:List α} {i:Nat} {x:α} (h:B[i]? =some x):i < B.length:=by
 rcases QT i B.length with h1 | h1
 ·exact h1
 ·rw[Q2 h1]at h;cases h
def J9 (l:Qc): (Qb l).flatten=Qr l:=by rw[YU];rfl
def HF (L:Qc) (B:Qa) (g:Nat) (hg:B[g]? =some (Qr L)) (hn:L.length < 100000000) (hm: ∀x∈L,x.mass < big):
  call tb 170 [.gs g 0 4 L.length,.fn 30 []] B=some (.tup [],B.set g (Qr (Xm L))):=by
 rw[Ws tb_170];have hlen: (Qr L).length=L.length*4:=YC QR L;have hch:Z3 (Qr L) 0 4 L.length=Qb L:=by
  have:=XZ (f:=Qf) (k:=4) QR ZI L [];rw[QH,Sd]at this;exact this
 have hall:L.all (fun t=>decide (t.mass < big))=true:=by
  rw[XO];intro x hx;simpa using hm x hx
 simp only[Mw];by_cases h0:L.length=0
 ·have:L=[]:=YX h0;subst this;simp[Xm];exact(Rw hg).symm
 ·have hsl: (Qr (Xm L)).length=(Qr L).length:=by rw[YC QR,YC QR,Tx]
  have hput:put (Qr L) 0 (Qb (Xm L)).flatten=Qr (Xm L):=by
   rw[J9];simp only[put,List.take_zero,XP,Zl];rw[hsl,List.drop_length,QH]
  rw[Qm h0,Qn ⟨trivial,by omega⟩,hg];simp only[QC];rw[Qn (by omega),hch,K1];simp only[QC];rw[Qn hall,hput]
def Ns:=@List.map_take
def Lg:=@List.map_drop
def Qg9 (C:Qc) (t:Qh) (B:Qa) (g:Nat) (hB:g < B.length) (hn:C.length < 100000000) (hne:C≠[]) (hm: ∀x∈C,x.mass < big): ∀(post pre:Qc) (ρ:Ql),C=pre ++ post->ρ 0= .gs g 0 4 C.length->ρ 9= .int .i64 C.length->ρ 10= .int .i64 pre.length->
  R tb (.loop f169l0) ρ (B.set g (Qr C ++ t)) (Qo 0 (QB tb f169r0 (QN f169 B)))=some (.sl true 4 (Qb C),B.set g []):=by
 have hch:Z3 (Qr C ++ t) 0 4 C.length=Qb C:=by
  have:=XZ (f:=Qf) (k:=4) QR ZI C t;rw[Sd]at this;exact this
 have hlen: (Qr C).length=C.length*4:=YC QR C;intro post
 induction post with
 | nil=>
  intro pre ρ hk h0 h9 h10;simp only[QH]at hk;rw[<- hk]at h10;have hz: ¬C.length=0:=fun e=>hne (YX e);have hle:C.length*4<=(Qr C ++ t).length:=by rw[Zk,hlen];omega
  have hg:ZV (Qb C)=true:=Xh C;rw[Qe f169l0.eq_1];generalize Qr C ++ t=c at *;simp[h0,h9,h10,f169r0,Yr,hz,hle,hB,hch,hne,YH]
 | cons x post IH=>
  intro pre ρ hk h0 h9 h10;have hl:=QE hk;have hst: (Qr C).map AV.strip=Qr C:=YV ZI C;have r1:=U0 (f:=Qf) (k:=4) QR hk t;have r1': (((Qr C ++ t).drop (pre.length*4)).take 4).map AV.strip=Qf x:=by rw[r1];exact ZI x
  have hput:=PC (f:=Qf) (k:=4) QR x hk t;rw[<- hk]at hput;have hw1:=wr1 pre.length (by omega);have hlt:=QI hk;have hlt':pre.length < C.length:=by omega
  have hle:pre.length*4+4<=(Qr C ++ t).length:=by rw[Zk,hlen];omega
  have hc:=fun bs=>NU x bs (hm x (by rw[hk];simp));rw[Qe f169l0.eq_1];rw[Ns,Lg]at r1';have ih:=IH (pre ++ [x]);change List.take (pre.length*4) (Qr C ++ t)++ (Qf x ++ List.drop (pre.length*4+4) (Qr C ++ t))=Qr C ++ t at hput;generalize Qr C ++ t=c at *;simp[h0,h9,h10,hlt,hlt',hw1,hB,hle,r1',hc,hput];rw[ih] <;> simp[h0,h9,hk]
def QdR:=@List.exists_mem_of_ne_nil
def Lq (L:Qc) (B:Qa) (g:Nat) (hg:B[g]? =some (Qr L)) (hne:L≠[]) (hn:L.length < 100000000) (hm: ∀x∈L,x.mass < big):
  call tb 169 [.gs g 0 4 L.length] B=some (.sl true 4 (Qb (Yv L)),B.set g []):=by
 have hB:=YT hg;have hs:=HF L B g hg hn hm;have hS: (B.set g (Qr (Xm L)))[g]? =some (Qr (Xm L)):=by simp[hB]
 obtain⟨t,hc⟩:=Di (Xm L) (B.set g (Qr (Xm L))) g hS (by rw[Tx];exact hn) (fun x hx=>hm x (R0.1 hx));rw[Ks,Tx,TX]at hc;have hCne:Yv L≠[]:=by
  obtain⟨x,hx⟩:=QdR L hne;intro e;have:=UO.2 hx;rw[e]at this;simp at this
 have hl:=Qg9 (Yv L) t B g hB (by have:=Mu L;omega) hCne (fun x hx=>hm x (UO.1 hx)) (Yv L) [];rw[zcc 169 rfl rfl];simp[f169C,hs,hc];refine hl _ rfl ?_ ?_ ?_ <;> simp
def MB (B:Qa):call tb 169 [.gs 0 0 0 0] B=some (.sl true 4 [],B):=by
 rw[zcc 169 rfl rfl];have hs:call tb 170 [.gs 0 0 0 0,.fn 30 []] B=some (.tup [],B):=by rw[Ws tb_170];simp[Mw]
 have hc:call tb 172 [.gs 0 0 0 0,.fn 171 []] B=some (.gs 0 0 0 0,B):=by
  rw[zcc 172 rfl rfl];simp[f172C]
 simp[f169C,hs,hc];rw[Qe f169l0.eq_1];simp[f169r0,Yr]
end Go.Am
namespace Go.Am
set_option maxRecDepth 20000
def Wst (B0:Qa) (k:Int) (acc:Qc) (bs:Qa):Prop:=
 B0.length+2<=bs.length/\bs.take B0.length=B0/\bs[B0.length]? =some [.int .i64 k]/\
  ((acc=[]/\bs[B0.length+1]? =some [.gs 0 0 0 0])\/(acc≠[]/\∃g,B0.length+1 < g/\bs[B0.length+1]? =some [.gs g 0 4 acc.length]/\bs[g]? =some (Qr acc)))
def Rb {α:Type} {bs c:List α} {n i:Nat} {y:α} (h:n<=bs.length) (hi:n<=i): ((bs ++ c).set i y).take n=bs.take n:=by
 apply Tl;intro j;rw[VX,VX];split
 ·rw[Wq (by omega),ZH (by omega)]
 ·rfl
def Vu:Qh:=[.int .i64 0,.str [],.int .i64 0,.sl false 4 []]
def SK:=@List.set_append
def JD:=@List.take_set_of_le
def QaV (B0:Qa) (k:Int) (acc:Qc) (bs:Qa) (x:Tm) (hw:Wst B0 k acc bs) (ha:acc.length < 100000000):
  ∃bs',call tb 167 [.agg (Qf x),.gp B0.length 0,.gp (B0.length+1) 0] bs=some (.tup [],bs')/\Wst B0 k (acc ++ if x.kind=k then [x]else []) bs':=by
 obtain⟨h1,h2,h3,h4⟩:=hw;have hgx:=Qk x;by_cases hk:x.kind=k
 ·rcases h4 with⟨rfl,h4⟩ | ⟨hne,g,hg,h4,h5⟩
  ·have hl1: ¬bs.length=B0.length+1:=by omega
   refine⟨((bs ++ [Qf x]).set (B0.length+1) [.gs bs.length 0 4 1]),?_,?_⟩
   ·rw[zcc 167 rfl rfl];have e1: (bs ++ [Vu])[bs.length]? =some Vu:=Ye;have e2: (bs ++ [Vu]).set bs.length (Qf x)=bs ++ [Qf x]:=by rw[SK];simp
    have e3: (bs ++ [Qf x])[B0.length+1]? =some [.gs 0 0 0 0]:=by rw[ZH (by omega)];exact h4
    simp only[Vu]at e1 e2;simp[f167,f167C,hk,h3,h4,appM,Wh,hl1,e1,e2,e3,Y3]
   ·refine⟨by simp;omega,?_,?_,.inr ⟨by simp[hk],bs.length,by omega,?_,?_⟩⟩
    ·rw[Rb (by omega) (by omega)];exact h2
    ·rw[Wq (by omega),ZH (by omega)];exact h3
    ·rw[Vo (by simp;omega)];simp[hk]
    ·rw[Wq (by omega),Ye];simp[hk,YI]
  ·have hl1: ¬bs.length=B0.length+1:=by omega
   have hgl:=YT h5;have hlen: (Qr acc).length=acc.length*4:=YC QR acc;have hst: (Qr acc).map AV.strip=Qr acc:=YV ZI acc;have htk: (Qr acc).take (acc.length*4)=Qr acc:=YH (by omega);have hb: (acc.length+1)*56<=140737488355328:=by omega
   have hn1: ¬(acc.length+1)*4<=acc.length*4:=by omega
   have hput: (Qr acc ++ Vu).take (acc.length*4)++ (Qf x ++ (Qr acc ++ Vu).drop (acc.length*4+4))=Qr (acc ++ [x]):=by
    rw[<- hlen,PY,Nf (by simp[Vu])];simp[Qr,Vx,PB]
   have hzl: (Qr acc ++ Vu).length=acc.length*4+4:=by rw[Zk,hlen];rfl
   have hne0:Qr acc≠[]:=fun e=>by rw[e]at hlen;cases acc with
    | nil=>exact hne rfl
    | cons y ys=>simp at hlen
   have hlt: (acc.length:Int) < (acc.length:Int)+1:=by omega
   refine⟨((bs.set g []++ [Qr (acc ++ [x])]).set (B0.length+1) [.gs bs.length 0 4 (acc.length+1)]),?_,?_⟩
   ·rw[zcc 167 rfl rfl];have e1: (bs.set g []++ [Qr acc ++ Vu])[bs.length]? =some (Qr acc ++ Vu):=by
     have:bs.length=(bs.set g []).length:=by simp
     rw[this];exact Ye
    have e2: (bs.set g []++ [Qr acc ++ Vu]).set bs.length (Qr (acc ++ [x]))=bs.set g []++ [Qr (acc ++ [x])]:=by rw[SK];simp
    have e3: (bs.set g []++ [Qr (acc ++ [x])])[B0.length+1]? =some [.gs g 0 4 acc.length]:=by
     rw[ZH (by simp;omega),Wq (by omega)];exact h4
    have hz:Vu=[.int .i64 0,.str [],.int .i64 0,.sl false 4 []]:=rfl;rw[hz]at e1 e2 hput hzl;generalize Qr (acc ++ [x])=r2 at *;generalize Qr acc=r1 at *;simp[f167,f167C,hk,h3,h4,h5,appM,Wh,hl1,hb,hne0,hlen,hn1,htk,hst,Y3];generalize r1 ++ [AV.int IntKind.i64 0,AV.str [],AV.int IntKind.i64 0,AV.sl false 4 []]=r3 at *;simp[hlt,e1,e2,e3,hput,hzl,hl1,Y3,h3]
   ·refine⟨by simp;omega,?_,?_,.inr ⟨by simp[hk],bs.length,by omega,?_,?_⟩⟩
    ·rw[Rb (by simp;omega) (by omega),JD (by omega)];exact h2
    ·rw[Wq (by omega),ZH (by simp;omega),Wq (by omega)];exact h3
    ·rw[Vo (by simp;omega)];simp[hk]
    ·rw[Wq (by omega)];have:bs.length=(bs.set g []).length:=by simp
     rw[this,Ye];simp[hk]
 ·refine⟨bs,?_,by simpa[hk]using⟨h1,h2,h3,h4⟩⟩;rw[zcc 167 rfl rfl];simp[f167,f167C,hk,h3]
end Go.Am
namespace Go.Am
set_option maxRecDepth 20000
mutual
def ZB:Tm->List Tm
 | .mk k n s ks=> .mk k n s ks:: ZA ks
def ZA:List Tm->List Tm
 | []=>[]
 | t:: ts=>ZB t ++ ZA ts
end
def BW (t:Tm):ZB t=t:: ZA t.kids:=by cases t;simp[ZB]
def QfY (a b:Qc):ZA (a ++ b)=ZA a ++ ZA b:=by
 induction a with
 | nil=>simp[ZA]
 | cons t ts ih=>simp[ZA,ih]
mutual
theorem UH: ∀t:Tm,(ZB t).length=t.nodes
 | .mk k n s ks=>by simp only[ZB,ZQ,Tm.nodes,NP ks];omega
theorem NP: ∀ts:List Tm,(ZA ts).length=Qx ts
 | []=>by simp[ZA,Qx]
 | t:: ts=>by simp only[ZA,Zk,Qx,UH t,NP ts]
end
mutual
theorem UB: ∀(t x:Tm),x∈ZB t->x.mass<=t.mass
 | .mk k n s ks,x,h=>by
  simp only[ZB,ZE]at h;rcases h with rfl | h
  ·exact Zm _
  ·have:=Hv ks x h;simp only[Tm.mass];omega
theorem Hv: ∀(ts:List Tm) (x:Tm),x∈ZA ts->x.mass<=Qv ts
 | [],x,h=>by simp[ZA]at h
 | t:: ts,x,h=>by
  simp only[ZA,Xe]at h;simp only[Qv];rcases h with h | h
  ·have:=UB t x h;omega
  ·have:=Hv ts x h;omega
end
def Xt (k:Int) (x:Tm):Bool:=decide (x.kind=k)
def WOk (B0:Qa) (k:Int) (acc:Qc) (r:Option (AV×Qa)):Prop:=∃bs',r=some (.tup [],bs')/\Wst B0 k acc bs'
def RO:=@List.length_filter_le
def QfA (B0:Qa) (k:Int) (t:Tm) (B:Qa) (hm:t.mass < 100000000)
  (ih: ∀x∈t.kids,∀acc bs,Wst B0 k acc bs->acc.length+x.nodes < 100000000->WOk B0 k (acc ++ (ZB x).filter (Xt k)) (call tb 168 [.agg (Qf x),.fn 167 [.gp B0.length 0,.gp (B0.length+1) 0]] bs)):
  ∀(post pre acc:Qc) (bs:Qa) (ρ:Ql),t.kids=pre ++ post->Wst B0 k acc bs->acc.length+Qx post < 100000000->ρ 1= .fn 167 [.gp B0.length 0,.gp (B0.length+1) 0]->ρ 10= .sl false 4 (Qb t.kids)->ρ 11= .int .i64 t.kids.length->ρ 12= .int .i64 pre.length->
  WOk B0 k (acc ++ (ZA post).filter (Xt k)) (R tb (.loop f168l0) ρ bs (Qo 0 (QN f168 B))):=by
 have hmk:=QK t;intro post
 induction post with
 | nil=>
  intro pre acc bs ρ hk hw ha h1 h10 h11 h12;simp only[QH]at hk;rw[<- hk]at h12;rw[Qe f168l0.eq_1];refine⟨bs,?_,by simpa[ZA]using hw⟩;simp[h1,h10,h11,h12]
 | cons x post IH=>
  intro pre acc bs ρ hk hw ha h1 h10 h11 h12;have hg:=Qw hk;have hl:=QE hk;have hw1:=wr1 pre.length (by omega);have hlt:=QI hk;simp only[Qx]at ha;obtain⟨bs',hc,hw'⟩:=ih x (by rw[hk];simp) acc bs hw (by omega);have hfl: ((ZB x).filter (Xt k)).length<=x.nodes:=by rw[<- UH];exact RO _ _
  have h2:=fun ρ=>IH (pre ++ [x]) _ bs' ρ (by rw[hk];simp) hw' (by rw[Zk];omega);rw[ZY,<- List.filter_append,show ZB x ++ ZA post=ZA (x:: post) by simp[ZA]]at h2;rw[Qe f168l0.eq_1];simp[h1,h10,h11,h12,hg,hlt,hw1,hc];refine h2 _ ?_ ?_ ?_ ?_ <;> simp[h1,h10,h11]
def Np:=@List.filter_cons
def Qd3 (B0:Qa) (k:Int): ∀(t:Tm) (acc:Qc) (bs:Qa),t.mass < 100000000->Wst B0 k acc bs->acc.length+t.nodes < 100000000->
  WOk B0 k (acc ++ (ZB t).filter (Xt k)) (call tb 168 [.agg (Qf t),.fn 167 [.gp B0.length 0,.gp (B0.length+1) 0]] bs):=by
 refine Yq ?_;intro kk n s ks ih acc bs hm hw ha;have hmk:=QK (.mk kk n s ks);have hnk:=X5 (.mk kk n s ks);simp only[Zz,Ya]at hmk hnk;obtain⟨bs1,hc,hw1⟩:=QaV B0 k acc bs (.mk kk n s ks) hw (by omega);have hl:=fun ρ=>QfA B0 k (.mk kk n s ks) bs hm (fun x hx acc bs hw ha=>ih x hx acc bs (by have:=Q3 hx;simp at this;omega) hw ha) ks [] _ bs1 ρ rfl hw1 (by
  rw[Zk];split <;> simp <;> omega)
 have he:acc ++ (ZB (.mk kk n s ks)).filter (Xt k)=(acc ++ if(Tm.mk kk n s ks).kind=k then [.mk kk n s ks]else [])++ (ZA ks).filter (Xt k):=by
  simp only[ZB,Np,Xt,U6];by_cases h:kk=k <;> simp[h]
 rw[he,zcc 168 rfl rfl];simp[f168C,hc];simp only[U6,Zz,ZY]at hl;refine hl _ ?_ ?_ ?_ ?_ <;> simp[Zt]
def Bg (t:Tm) (k:Int) (B:Qa) (hm:t.mass < 100000000):
  call tb 166 [.agg (Qf t),.int .i64 k] B=some (.sl true 4 (Qb (Yv ((ZB t).filter (Xt k)))),B):=by
 have hn:=YK t;have hw0:Wst B k [] (B ++ [[.int .i64 k],[.gs 0 0 0 0]]):=by
  refine⟨by simp,by simp,by simp,.inl ⟨rfl,?_⟩⟩;rw[YQ (by omega)];simp
 obtain⟨bs',hc,h1,h2,h3,h4⟩:=Qd3 B k t [] _ hm hw0 (by simp;omega);rw[zcc 166 rfl rfl];have e1: (B ++ [[AV.int .i64 k]])++ [[AV.gs 0 0 0 0]]=B ++ [[.int .i64 k],[.gs 0 0 0 0]]:=by simp
 have e2: (B ++ [[AV.int .i64 k]]).length=B.length+1:=by simp
 generalize hF: (ZB t).filter (Xt k)=A at *;have hlen:A.length < 100000000:=by rw[<- hF];have:=RO (Xt k) (ZB t);rw[UH]at this;omega
 have hmm: ∀x∈A,x.mass < big:=fun x hx=>by
  rw[<- hF]at hx;have:=UB t x (PV.1 hx).1;unfold big;omega
 have hgp:ZV (Qb (Yv A))=true:=Xh _;simp only[XP]at h4;rcases h4 with⟨h5,h6⟩ | ⟨h5,g,h6,h7,h8⟩
 ·have ho:=MB bs';subst h5;simp[f166,f166C,Qk,e1,e2,hc,h6,ho,h2,Yv,YG,Qb]
 ·have ho:=Lq A bs' g h8 h5 hlen hmm;have hgl:=YT h8;have ht: (bs'.set g []).take B.length=B:=by rw[JD (by omega)];exact h2
  simp[f166,f166C,Qk,e1,e2,hc,h7,ho,ht,hgp]
def WX (t:Tm):Qc:=Yv ((ZB t).filter (Xt 1))
def HD (t:Tm) (B:Qa) (hm:t.mass < 100000000):call tb 165 [.agg (Qf t)] B=some (.sl true 4 (Qb (WX t)),B):=by
 rw[zcc 165 rfl rfl];have h:=Bg t 1 B hm;have hgp:ZV (Qb (Yv ((ZB t).filter (Xt 1))))=true:=Xh _;simp[f165,f165C,Qk,h,WX]
end Go.Am
namespace Go.Am
set_option maxRecDepth 20000
def WV {n:Nat} (h:n<=200000000):n*56<=140737488355328:=by omega
def QfG (t:Tm) (bs:Qa) (hm:t.mass < 100000000) (ih: ∀x∈t.kids,∀bs,call tb 237 [.agg (Qf x)] bs=some (.sl false 4 (Qb (ZB x)),bs)):
  ∀(post pre:Qc) (ρ:Ql),t.kids=pre ++ post->ρ 1= .bx (Qf t)->ρ 3= .sl true 4 (Qb (t:: ZA pre))->ρ 4= .int .i64 pre.length->
  R tb (.loop f237l0) ρ bs (Qo 0 (QB tb f237r0 (QN f237 bs)))=some (.sl false 4 (Qb (ZB t)),bs):=by
 have hmk:=QK t;have hn:=YK t;have hnk:=X5 t;intro post
 induction post with
 | nil=>
  intro pre ρ hk h1 h3 h4;simp only[QH]at hk;rw[<- hk]at h3 h4;rw[<- BW]at h3;rw[Qe f237l0.eq_1];simp[h1,h3,h4,f237r0]
 | cons x post IH=>
  intro pre ρ hk h1 h3 h4;have hg:=Qw hk;have hl:=QE hk;have hw1:=wr1 pre.length (by omega);have hlt:=QI hk;have hnn:Qx t.kids=Qx pre+ (x.nodes+Qx post):=by rw[hk,XC];simp[Qx]
  have hb: ((ZA pre).length+1+ (ZB x).length)*56<=140737488355328:=by rw[NP,UH];omega
  have hgl:t.kids[pre.length]'(by omega)=x:=by
   have:=Zq (l:=t.kids) (i:=pre.length) (by omega);rw[hg]at this;injection this with this;exact this.symm
  have hih:=ih x (by rw[hk];simp);have h2:=IH (pre ++ [x]);rw[QfY,show ZA [x]=ZB x by simp[ZA]]at h2;rw[Qe f237l0.eq_1];simp[h1,h3,h4,hg,hgl,hlt,hw1,hih,hb,ZL];rw[h2] <;> simp[h1,hk]
def Dh: ∀(t:Tm) (bs:Qa),t.mass < 100000000->call tb 237 [.agg (Qf t)] bs=some (.sl false 4 (Qb (ZB t)),bs):=by
 refine Yq ?_;intro k n s ks ih bs hm;have hl:=fun ρ=>QfG (.mk k n s ks) bs hm (fun x hx bs=>ih x hx bs (by have:=Q3 hx;have:=QK (.mk k n s ks);simp at *;omega)) ks [] ρ rfl;rw[zcc 237 rfl rfl];simp[f237C,Qk];refine hl _ ?_ ?_ ?_ <;> simp[ZA,Qb]
def QfF (l:Qc) (t:Tm) (bs:Qa) (hl:l.length < 100000000) (hm: ∀x∈l,x.mass < big) (ht:t.mass < big):
  ∀(post pre acc:Qc) (d:Bool) (ρ:Ql),l=pre ++ post->acc.length<=pre.length+1->(d=false->acc.length=pre.length)->ρ 0= .sl false 4 (Qb l)->ρ 3= .bx (Qf t)->ρ 5= .sl true 4 (Qb acc)->ρ 6= .bool d->ρ 7= .int .i64 pre.length->
  R tb (.loop f239l0) ρ bs (Qo 0 (QB tb f239r0 (QN f239 bs)))=some (.sl false 4 (Qb (acc ++ if d then post else ZZ t post)),bs):=by
 intro post
 induction post with
 | nil=>
  intro pre acc d ρ hk ha hd h0 h3 h5 h6 h7;simp only[QH]at hk;rw[<- hk]at h7 ha hd;have hb: (acc.length+1)*56<=140737488355328:=by omega
  rw[Qe f239l0.eq_1];cases d
  ·simp[h0,h3,h5,h6,h7,f239r0,hb,ZZ,Qk,Z4,ZL]
  ·simp[h0,h3,h5,h6,h7,f239r0,hb,ZZ]
 | cons x post IH=>
  intro pre acc d ρ hk ha hd h0 h3 h5 h6 h7;have hg:=Qw hk;have hll:=QE hk;have hw1:=wr1 pre.length (by omega);have hlt:=QI hk;have hb: (acc.length+1)*56<=140737488355328:=WV (by omega);have hb2: (acc.length+1+1)*56<=140737488355328:=WV (by clear hb;omega);have hc:=UY t x bs ht (hm x (by rw[hk];simp));rw[Qe f239l0.eq_1];cases d
  ·have hd:=hd rfl;by_cases h1:Qq t x < 0
   ·have hle:Qq t x<=0:=by omega
    have e:acc ++ (if false=true then x:: post else ZZ t (x:: post))=(acc ++ [t]++ [x])++ (if true=true then post else ZZ t post):=by simp[ZZ,h1]
    rw[e];simp[h0,h3,h5,h6,h7,hg,hlt,hw1,hc,h1,hle,hb,hb2,Qk,Z4,ZL];clear hb hb2;rw[IH (pre ++ [x]) (acc ++ [t]++ [x]) true] <;> simp[h0,h3,hk] <;> omega
   ·by_cases h2:Qq t x=0
    ·have e:acc ++ (if false=true then x:: post else ZZ t (x:: post))=(acc ++ [x])++ (if true=true then post else ZZ t post):=by simp[ZZ,h2]
     rw[e];simp[h0,h3,h5,h6,h7,hg,hlt,hw1,hc,h1,h2,hb,Qk,Z4,ZL];clear hb hb2;rw[IH (pre ++ [x]) (acc ++ [x]) true] <;> simp[h0,h3,hk] <;> omega
    ·have hle: ¬Qq t x<=0:=by omega
     have e:acc ++ (if false=true then x:: post else ZZ t (x:: post))=(acc ++ [x])++ (if false=true then post else ZZ t post):=by simp[ZZ,h1,h2]
     rw[e];simp[h0,h3,h5,h6,h7,hg,hlt,hw1,hc,h1,h2,hle,hb,Qk,Z4,ZL];clear hb hb2;rw[IH (pre ++ [x]) (acc ++ [x]) false] <;> simp[h0,h3,hk] <;> omega
  ·have e:acc ++ (if true=true then x:: post else ZZ t (x:: post))=(acc ++ [x])++ (if true=true then post else ZZ t post):=by simp
   rw[e];simp[h0,h3,h5,h6,h7,hg,hlt,hw1,hc,hb,Qk,Z4,ZL];clear hb hb2;rw[IH (pre ++ [x]) (acc ++ [x]) true] <;> simp[h0,h3,hk] <;> omega
def KW (l:Qc) (t:Tm) (o:Bool) (bs:Qa) (hl:l.length < 100000000) (hm: ∀x∈l,x.mass < big) (ht:t.mass < big):
  call tb 239 [.sl o 4 (Qb l),.agg (Qf t)] bs=some (.sl false 4 (Qb (ZZ t l)),bs):=by
 have h:=fun ρ=>QfF l t bs hl hm ht l [] [] false ρ rfl (by simp) (fun _=>rfl);rw[zcc 239 rfl rfl];simp[f239C];simp at h;refine h _ ?_ ?_ ?_ ?_ ?_ <;> simp[Qb]
def QfR (l:Qc) (bs:Qa) (hl:l.length < 100000000) (hm: ∀x∈l,x.mass < big):
  ∀(post pre acc:Qc) (o:Bool) (ρ:Ql),l=pre ++ post->acc.length<=pre.length->(∀x∈acc,x.mass < big)->ρ 0= .sl false 4 (Qb l)->ρ 3= .sl o 4 (Qb acc)->ρ 4= .int .i64 pre.length->
  R tb (.loop f238l0) ρ bs (Qo 0 (QB tb f238r0 (QN f238 bs)))=some (.sl false 4 (Qb (YG acc post)),bs):=by
 intro post
 induction post with
 | nil=>
  intro pre acc o ρ hk ha hma h0 h3 h4;simp only[QH]at hk;rw[<- hk]at h4;rw[Qe f238l0.eq_1];simp[h0,h3,h4,f238r0,YG]
 | cons x post IH=>
  intro pre acc o ρ hk ha hma h0 h3 h4;have hg:=Qw hk;have hll:=QE hk;have hw1:=wr1 pre.length (by omega);have hlt:=QI hk;have hx:=hm x (by rw[hk];simp);have hc:=KW acc x false bs (by omega) hma hx;have hln:=P3 x acc;rw[Qe f238l0.eq_1];simp[h0,h3,h4,hg,hlt,hw1,hc];rw[IH (pre ++ [x]) (ZZ x acc) false] <;> (try simp[h0,hk,YG])
  ·omega
  ·intro y hy;rcases Ro.1 hy with rfl | hy
   ·exact hx
   ·exact hma y hy
def Qgc (l:Qc) (o:Bool) (bs:Qa) (hl:l.length < 100000000) (hm: ∀x∈l,x.mass < big):
  call tb 238 [.sl o 4 (Qb l)] bs=some (.sl false 4 (Qb (Yv l)),bs):=by
 have h:=fun ρ=>QfR l bs hl hm l [] [] true ρ rfl (by simp) (by simp);rw[zcc 238 rfl rfl];simp[f238C];refine h _ ?_ ?_ ?_ <;> simp[Qb]
def QeE (t:Tm) (k:Int) (bs:Qa) (hm:t.mass < 100000000):
  ∀(post pre:Qc) (o:Bool) (ρ:Ql),ZB t=pre ++ post->ρ 1= .int .i64 k->ρ 5= .sl true 4 (Qb (pre.filter (Xt k)))->ρ 6= .sl o 4 (Qb (ZB t))->ρ 7= .int .i64 pre.length->
  R tb (.loop f236l0) ρ bs (Qo 0 (QB tb f236r0 (QN f236 bs)))=some (.sl false 4 (Qb (Yv ((ZB t).filter (Xt k)))),bs):=by
 have hn:=YK t;have hal:=UH t;intro post
 induction post with
 | nil=>
  intro pre o ρ hk h1 h5 h6 h7;simp only[QH]at hk;rw[<- hk]at h5 h7;have hfl:=RO (Xt k) (ZB t);have hc:=fun o=>Qgc ((ZB t).filter (Xt k)) o bs (by omega) (fun x hx=>by have:=UB t x (PV.1 hx).1;unfold big;omega);rw[Qe f236l0.eq_1];simp[h1,h5,h6,h7,f236r0,hc]
 | cons x post IH=>
  intro pre o ρ hk h1 h5 h6 h7;have hg:=Qw hk;have hll: (ZB t).length=pre.length+ (post.length+1):=by rw[hk];simp
  have hw1:=wr1 pre.length (by omega);have hlt: (pre.length:Int) < ((ZB t).length:Int):=by omega
  have hfl:=RO (Xt k) pre;have hb: ((pre.filter (Xt k)).length+1)*56<=140737488355328:=by omega
  have h2:=IH (pre ++ [x]) o;rw[Qe f236l0.eq_1];by_cases hx:x.kind=k
  ·have hf: (pre ++ [x]).filter (Xt k)=pre.filter (Xt k)++ [x]:=by simp[Np,Xt,hx]
   rw[hf]at h2;simp[h1,h5,h6,h7,hg,hlt,hw1,hx,hb,Qk,Z4,ZL];rw[h2] <;> simp[h1,h6,hk]
  ·have hf: (pre ++ [x]).filter (Xt k)=pre.filter (Xt k):=by simp[Np,Xt,hx]
   rw[hf]at h2;simp[h1,h5,h6,h7,hg,hlt,hw1,hx];rw[h2] <;> simp[h1,h5,h6,hk]
def QaP (t:Tm) (k:Int) (bs:Qa) (hm:t.mass < 100000000):call tb 236 [.agg (Qf t),.int .i64 k] bs=some (.sl false 4 (Qb (Yv ((ZB t).filter (Xt k)))),bs):=by
 have h:=fun o ρ=>QeE t k bs hm (ZB t) [] o ρ rfl;have hc:=Dh t bs hm;rw[zcc 236 rfl rfl];simp[f236C,Qk,hc];refine h false _ ?_ ?_ ?_ ?_ <;> simp[Qb]
def QaO (t:Tm) (bs:Qa) (hm:t.mass < 100000000):call tb 235 [.agg (Qf t)] bs=some (.sl false 4 (Qb (WX t)),bs):=by
 have h:=QaP t 1 bs hm;rw[zcc 235 rfl rfl];simp[f235,f235C,Qk,h,WX]
def Ba (t:Tm) (bs:Qa) (hm:t.mass < 100000000):call tb 234 [.agg (Qf t)] bs=some (.bool (decide ((WX t)=[])),bs):=by
 have h:=QaO t bs hm;rw[zcc 234 rfl rfl];simp[f234,f234C,Qk,h]
end Go.Am
