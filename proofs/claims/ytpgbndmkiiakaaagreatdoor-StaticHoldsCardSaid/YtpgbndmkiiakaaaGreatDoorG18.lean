/-
  Rc16, Rc17, Rc18, Rc19.
-/
import Derived.Test.YtpgbndmkiiakaaaGreatDoorG17
set_option linter.unusedVariables false
set_option linter.unusedSimpArgs false
namespace Go.Am
set_option maxRecDepth 8000
theorem IY: ∀(l:List Pw) (t:Tm) (n:Int),(ZS l t n).length≤l.length+1
 | [],_,_=>by simp[ZS]
 | p:: l,t,n=>by
  have:=IY l t n
  simp only[ZS]
  split
  ·simp;omega
  ·split
   ·split <;> simp <;> omega
   ·simp
theorem VT: ∀{l:List Pw} {t:Tm} {n:Int} {q:Pw},q∈ZS l t n→q∈l∨q=(t,n)∨∃m,(t,m)∈l∧q=(t,m+n)∧m+n≠0
 | [],t,n,q,h=>by simp[ZS]at h;exact .inr (.inl h)
 | p:: l,t,n,q,h=>by
  simp only[ZS]at h
  split at h
  ·rcases List.mem_cons.1 h with h | h
   ·exact .inl (by simp[h])
   ·rcases VT h with h | h | ⟨m,h1,h2⟩
    ·exact .inl (by simp[h])
    ·exact .inr (.inl h)
    ·exact .inr (.inr ⟨m,by simp[h1],h2⟩)
  ·split at h
   ·rename_i hc
    have he:=ZP _ _ hc
    split at h
    ·exact .inl (by simp[h])
    ·rename_i hz
     rcases List.mem_cons.1 h with h | h
     ·exact .inr (.inr ⟨p.2,by rw[← he];simp,by rw[← he];exact h,hz⟩)
     ·exact .inl (by simp[h])
   ·rcases List.mem_cons.1 h with h | h
    ·exact .inr (.inl h)
    ·exact .inl h
theorem I3: ∀{l:List Pw} {t:Tm} {n:Int},Asc (Xr l)→Asc (Xr (ZS l t n))
 | [],t,n,_=>by simp[ZS,Xr,Asc]
 | p:: l,t,n,h=>by
  have h':=h
  simp only[Xr,List.map_cons]at h'
  obtain⟨h1,h2⟩:=ZT.1 h'
  simp only[ZS]
  split
  ·rename_i c
   simp only[Xr,List.map_cons]
   refine ZT.2 ⟨fun y hy=> ?_,I3 h2⟩
   obtain⟨q,hq,rfl⟩:=List.mem_map.1 hy
   rcases VT hq with hq | rfl | ⟨m,hm,rfl,_⟩
   ·exact h1 _ (List.mem_map_of_mem hq)
   ·exact c
   ·exact c
  ·split
   ·split
    ·exact h2
    ·simp only[Xr,List.map_cons];exact h'
   ·rename_i c1 c2
    simp only[Xr,List.map_cons]
    have c3:Qm t p.1 < 0:=by have:=YP t p.1;omega
    refine ZT.2 ⟨fun y hy=> ?_,h'⟩
    rcases List.mem_cons.1 hy with rfl | hy
    ·exact c3
    ·exact Z8 c3 (h1 y hy)
structure Xs (l:List Pw) (b:Nat):Prop where
 asc:Asc (Xr l)
 nz:NZ l
 len:l.length≤b
 bd: ∀q∈l,q.1.mass < big∧ -(b:Int)≤q.2∧q.2≤b
theorem H1:Xs [] 0:=⟨Asc.nil,fun q h=>by simp at h,by simp,fun q h=>by simp at h⟩
theorem Xs.mono {l:List Pw} {b c:Nat} (h:Xs l b) (hbc:b≤c):Xs l c:=⟨h.asc,h.nz,Nat.le_trans h.len hbc,fun q hq=>by obtain⟨h1,h2,h3⟩:=h.bd q hq;exact⟨h1,by omega,by omega⟩⟩
theorem Xs.add {l:List Pw} {b c:Nat} {t:Tm} {n:Int} (h:Xs l b) (ht:t.mass < big) (hn:n≠0) (h1: -(c:Int)≤n) (h2:n≤c):Xs (ZS l t n) (b+c):=by
 refine⟨I3 h.asc,?_,?_,?_⟩
 ·intro q hq
  rcases VT hq with hq | rfl | ⟨m,hm,rfl,hz⟩
  ·exact h.nz q hq
  ·exact hn
  ·exact hz
 ·have:=IY l t n;have:=h.len;omega
 ·intro q hq
  rcases VT hq with hq | rfl | ⟨m,hm,rfl,hz⟩
  ·obtain⟨a1,a2,a3⟩:=h.bd q hq;exact⟨a1,by omega,by omega⟩
  ·exact⟨ht,by simp;omega,by simp;omega⟩
  ·obtain⟨a1,a2,a3⟩:=h.bd _ hm;simp at a2 a3;exact⟨ht,by simp;omega,by simp;omega⟩
def uno (m:Int):Prop:=m=1∨m= -1
theorem uno.neg {m:Int} (h:uno m):uno (-m):=by rcases h with rfl | rfl <;> simp[uno]
theorem uno.ite {m:Int} (h:uno m) (c:Bool):uno (if c then -m else m):=by cases c <;> simp[h,h.neg]
theorem KL: ∀(t:Tm) (l:List Pw) (m:Int) (b:Nat),t.mass < big→uno m→Xs l b→Xs (Xi l t m) (b+t.nodes):=by
 refine Zd ?_
 intro k n s ks ih l m b hm hu h
 have hne:=Yo (.mk k n s ks)
 have hme:=Qq (.mk k n s ks)
 simp only[QO,Za]at hne hme
 have hL: ∀(xs:List Tm) (l:List Pw) (m:Int) (b:Nat),(∀x∈xs,x∈ks)→uno m→Xs l b→Xs (colL l xs m) (b+nodesL xs):=by
  intro xs
  induction xs with
  | nil=>intro l m b _ _ h;simpa[colL,nodesL]using h
  | cons x xs IH=>
   intro l m b hx hu h
   have h1:=ih x (hx x (by simp)) l m b (by have:=QA (hx x (by simp));omega) hu h
   have h2:=IH _ m _ (fun y hy=>hx y (by simp[hy])) hu h1
   simp only[colL,nodesL]
   rw[← Nat.add_assoc];exact h2
 rw[RQ]
 split
 ·have:=hL ks l _ b (fun x hx=>hx) (hu.ite ((Tm.mk k n s ks).name == INV)) h
  exact this.mono (by omega)
 ·have:Xs (ZS l (.mk k n s ks) m) (b+1):=h.add (c:=1) hm (by rcases hu with rfl | rfl <;> simp) (by rcases hu with rfl | rfl <;> simp) (by rcases hu with rfl | rfl <;> simp)
  exact this.mono (by omega)
theorem FW {l:List Pw} {t:Tm} {m:Int} {b:Nat} (o:Bool) (bs:List (List AV)) (h:Xs l b) (hb:b < 40000000) (ht:t.mass < big) (hm: -100000000 < m∧m < 100000000):
  call F.tb 257 [.sl o 5 (QG l),.agg (Qb t),.int .i64 m] bs=some (.sl false 5 (QG (ZS l t m)),bs):=by
 have hl:=h.len
 have hp:=fun ρ=>Qa9 l t m bs (by omega) (fun q hq=>by obtain⟨a1,a2,a3⟩:=h.bd q hq;exact⟨a1,by omega,by omega⟩) hm ht h.asc h.nz l [] [] false ρ rfl (by simp;omega)
 rw[Qa F.tb_257 _ _ rfl]
 simp only[List.nil_append]at hp
 simp[F.f257B,F.f257C]
 refine hp _ ?_ ?_ ?_ ?_ ?_ ?_ <;> simp[QG]
def Qa2 (l:List Pw) (bs:List (List AV)) (r:Out):Prop:=∃o,r=some (.sl o 5 (QG l),bs)
theorem Cs (t:Tm) (bs:List (List AV)) (hm:t.mass < big) (m:Int) (hu:uno m) (ih: ∀x∈t.kids,∀l b o,Xs l b→b+x.nodes < 40000000→Qa2 (Xi l x m) bs (call F.tb 256 [.sl o 5 (QG l),.agg (Qb x),.int .i64 m] bs)):
  ∀(post pre:List Tm) (l:List Pw) (b:Nat) (o:Bool) (ρ:Nat→AV),t.kids=pre ++ post→Xs l b→b+nodesL post < 40000000→ρ 0= .sl o 5 (QG l)→ρ 2= .int .i64 m→ρ 4= .bx (Qb t)→ρ 7= .int .i64 pre.length→
  Qa2 (colL l post m) bs (R F.tb (.loop F.f256l0) ρ bs (Qk 0 (Qw F.tb F.f256r0 (QB F.f256 bs)))):=by
 have hm2:=Qq t
 have hmb:=hm
 unfold big at hm
 intro post
 induction post with
 | nil=>
  intro pre l b o ρ hk hl hb h0 h2 h4 h7
  simp only[List.append_nil]at hk
  rw[← hk]at h7
  rw[Qc F.f256l0.eq_1]
  refine⟨false,?_⟩
  simp[h0,h2,h4,h7,F.f256r0,F.f256R,F.f256K,colL]
 | cons x post IH=>
  intro pre l b o ρ hk hl hb h0 h2 h4 h7
  have hg:=Qp hk
  have hll:t.kids.length=pre.length+ (post.length+1):=by rw[hk];simp
  have hw1:IntKind.i64.wrap ((pre.length:Int)+1)=(pre.length:Int)+1:=Qj (by omega) (by omega)
  have hlt: (pre.length:Int) < (t.kids.length:Int):=by omega
  have hxk:x∈t.kids:=by rw[hk];simp
  simp only[nodesL]at hb
  obtain⟨o1,hc⟩:=ih x hxk l b false hl (by omega)
  have h3:=fun ρ=>IH (pre ++ [x]) (Xi l x m) (b+x.nodes) o1 ρ (by rw[hk];simp) (KL x l m b (by have:=QA hxk;omega) hu hl) (by omega)
  rw[Qc F.f256l0.eq_1]
  simp[h0,h2,h4,h7,hg,hlt,hw1,hc,QD,colL]
  refine h3 _ ?_ ?_ ?_ ?_ <;> simp[h2,h4]
theorem Qeu: ∀(t:Tm) (bs:List (List AV)) (m:Int) (l:List Pw) (b:Nat) (o:Bool),t.mass < big→uno m→Xs l b→b+t.nodes < 40000000→Qa2 (Xi l t m) bs (call F.tb 256 [.sl o 5 (QG l),.agg (Qb t),.int .i64 m] bs):=by
 refine Zd ?_
 intro k n s ks ih bs m l b o hm hu hl hb
 have hme:=Qq (.mk k n s ks)
 have hne:=Yo (.mk k n s ks)
 simp only[QO,Za]at hne hme
 have hsp:=Tn (.mk k n s ks) bs
 rw[Qa F.tb_256 _ _ rfl,RQ]
 cases hs:Y9 (.mk k n s ks)
 ·have hc:=FW (t:= .mk k n s ks) (m:=m) false bs hl (by omega) hm (by rcases hu with rfl | rfl <;> simp)
  refine⟨false,?_⟩
  simp[F.f256B,F.f256C,hsp,hs,hc,F.f256R,F.f256K]
 ·have h2:=fun m hu ρ=>Cs (.mk k n s ks) bs hm m hu (fun x hx l b o hl hb=>ih x hx bs m l b o (by have:=QA hx;simp at this;omega) hu hl hb) ks [] l b false ρ rfl hl (by omega)
  cases hi:n == INV
  ·have h3:=h2 m hu
   simp only[INV]at hi
   simp[F.f256B,F.f256C,hsp,hs,hi,INV]
   refine h3 _ ?_ ?_ ?_ ?_ <;> simp
  ·have h3:=h2 (-m) hu.neg
   have hw:IntKind.i64.wrap (-m)= -m:=by rcases hu with rfl | rfl <;> rfl
   simp only[INV]at hi
   simp[F.f256B,F.f256C,hsp,hs,hi,hw,INV]
   refine h3 _ ?_ ?_ ?_ ?_ <;> simp
def EI (B0:List (List AV)) (l:List Pw) (ok:Bool) (r:Out):Prop:=∃v B,r=some (.tup [v,.bool ok],B)∧PS B0 B v (if ok then l else [])
theorem Wb {B0 B:List (List AV)} {v:AV} {l:List Pw} (h:PS B0 B v l): ∃id sz,v= .gs id 0 sz l.length:=by
 obtain⟨M,id,sz,_,rfl,_⟩:=h;exact⟨id,sz,rfl⟩
theorem OY {B0 B:List (List AV)} {v:AV} {l:List Pw} (h:PS B0 B v l):PS B0 B (.gs 0 0 0 0) []:=by
 obtain⟨M,id,sz,rfl,_,_⟩:=h;exact⟨M,0,0,rfl,rfl,.inl ⟨rfl,rfl,rfl⟩⟩
theorem Qbo (t:Tm) (B0:List (List AV)) (hm:t.mass < big) (m:Int) (hu:uno m) (ih: ∀x∈t.kids,∀B v l b,PS B0 B v l→Xs l b→b+x.nodes < 40000000→EI B0 (Xi l x m) (arB x) (call F.tb 187 [v,.agg (Qb x),.int .i64 m] B)) (K:List (List AV)):
  ∀(post pre:List Tm) (l:List Pw) (b:Nat) (B:List (List AV)) (v:AV) (ρ:Nat→AV),t.kids=pre ++ post→PS B0 B v l→Xs l b→b+nodesL post < 40000000→ρ 0=v→ρ 2= .int .i64 m→ρ 52= .sl false 4 (encTs t.kids)→ρ 53= .int .i64 t.kids.length→ρ 54= .int .i64 pre.length→
  EI B0 (colL l post m) (arL post) (R F.tb (.loop F.f187l0) ρ B (Qk 1 (Qw F.tb F.f187r0 (QB F.f187 K)))):=by
 have hm2:=Qq t
 have hmb:=hm
 unfold big at hm
 intro post
 induction post with
 | nil=>
  intro pre l b B v ρ hk hps hl hb h0 h2 h52 h53 h54
  simp only[List.append_nil]at hk
  rw[← hk]at h54
  obtain⟨id,sz,rfl⟩:=Wb hps
  rw[Qc F.f187l0.eq_1]
  refine⟨_,B,?_,by simpa[colL,arL]using hps⟩
  simp[h0,h2,h52,h53,h54,F.f187r0,F.f187R,F.f187K,colL,arL]
 | cons x post IH=>
  intro pre l b B v ρ hk hps hl hb h0 h2 h52 h53 h54
  have hg:=Qp hk
  have hll:t.kids.length=pre.length+ (post.length+1):=by rw[hk];simp
  have hw1:IntKind.i64.wrap ((pre.length:Int)+1)=(pre.length:Int)+1:=Qj (by omega) (by omega)
  have hlt: (pre.length:Int) < (t.kids.length:Int):=by omega
  have hxk:x∈t.kids:=by rw[hk];simp
  simp only[nodesL]at hb
  obtain⟨v2,B2,hc,hps2⟩:=ih x hxk B v l b hps hl (by omega)
  obtain⟨id,sz,rfl⟩:=Wb hps
  obtain⟨id2,sz2,rfl⟩:=Wb hps2
  rw[Qc F.f187l0.eq_1]
  cases ha:arB x
  ·rw[ha]at hc hps2
   refine⟨.gs 0 0 0 0,B2,?_,by simpa[arL,ha]using OY hps2⟩
   simp only[Bool.false_eq_true,if_false]at hc
   simp[h0,h2,h52,h53,h54,hg,hlt,hc,QD,arL,ha,F.f187R,F.f187K]
  ·rw[ha]at hc hps2
   simp only[if_true]at hc hps2
   have h3:=fun ρ=>IH (pre ++ [x]) (Xi l x m) (b+x.nodes) B2 _ ρ (by rw[hk];simp) hps2 (KL x l m b (by have:=QA hxk;omega) hu hl) (by omega)
   have e1:colL l (x:: post) m=colL (Xi l x m) post m:=by simp[colL]
   have e2:arL (x:: post)=arL post:=by simp[arL,ha]
   rw[e1,e2]
   simp[h0,h2,h52,h53,h54,hg,hlt,hw1,hc,QD]
   refine h3 _ ?_ ?_ ?_ ?_ ?_ <;> simp[h2,h52,h53]
theorem Qd3: ∀(t:Tm) (B0 B:List (List AV)) (v:AV) (l:List Pw) (m:Int) (b:Nat),t.mass < big→uno m→PS B0 B v l→Xs l b→b+t.nodes < 40000000→EI B0 (Xi l t m) (arB t) (call F.tb 187 [v,.agg (Qb t),.int .i64 m] B):=by
 refine Zd ?_
 intro k n s ks ih B0 B v l m b hm hu hps hl hb
 have hme:=Qq (.mk k n s ks)
 have hne:=Yo (.mk k n s ks)
 simp only[QO,Za]at hne hme
 have hsp:=PY (.mk k n s ks) B
 obtain⟨id,sz,rfl⟩:=Wb hps
 rw[Qa F.tb_187 _ _ rfl,RQ,Ao]
 cases hs:Y9 (.mk k n s ks)
 ·obtain⟨v2,B2,hc,hps2⟩:=FO (p:=(.mk k n s ks,m)) hps (by have:=hl.len;omega) (fun q hq=>by obtain⟨a1,a2,a3⟩:=hl.bd q hq;exact⟨a1,by omega,by omega⟩) hm (by rcases hu with rfl | rfl <;> simp) hl.asc
  obtain⟨id2,sz2,rfl⟩:=Wb hps2
  have hf:Qb (.mk k n s ks)++ [.int .i64 m]=QU (.mk k n s ks,m):=rfl
  refine⟨_,B2,?_,by simpa using hps2⟩
  simp[F.f187B,F.f187C,hsp,hs,List.take_append,List.drop_append,hf,hc,F.f187R,F.f187K]
 ·have h2:=fun m hu ρ=>Qbo (.mk k n s ks) B0 hm m hu (fun x hx B v l b hps hl hb=>ih x hx B0 B v l m b (by have:=QA hx;simp at this;omega) hu hps hl hb) B ks [] l b B _ ρ rfl hps hl (by omega)
  obtain⟨rfl,hn⟩:=Gp hs
  simp only[Za]at hn
  simp only[QO]at h2
  simp only[Bool.not_true,Bool.false_or,if_true]
  rcases hn with rfl | rfl | rfl
  ·have h3:=h2 m hu
   by_cases d:ks.length < 2
   ·have d': (ks.length:Int) < 2:=by omega
    have hc:YQ (.mk 3 MUL s ks)=false:=by simp[YQ,d]
    refine⟨.gs 0 0 0 0,B,?_,by simpa[hc]using OY hps⟩
    simp only[hc]
    simp[MUL]at hsp hs hc
    simp[F.f187B,F.f187C,hsp,hs,MUL,d',F.f187R,F.f187K]
   ·have d': ¬(ks.length:Int) < 2:=by omega
    have hc:YQ (.mk 3 MUL s ks)=true:=by simp[YQ,d];simp[MUL,INV,ONE]
    have e: ((Tm.mk 3 MUL s ks).name == INV)=false:=by simp[MUL,INV]
    rw[e]
    simp only[hc,Bool.true_and,QO,Bool.false_eq_true,if_false]
    simp[MUL]at hsp hs
    simp[F.f187B,F.f187C,hsp,hs,MUL,d']
    refine h3 _ ?_ ?_ ?_ ?_ ?_ <;> simp
  ·have h3:=h2 (-m) hu.neg
   have hw:IntKind.i64.wrap (-m)= -m:=by rcases hu with rfl | rfl <;> rfl
   by_cases d:ks.length=1
   ·have d': (ks.length:Int)=1:=by omega
    have hc:YQ (.mk 3 INV s ks)=true:=by simp[YQ,d];simp[MUL,INV,ONE]
    have e: ((Tm.mk 3 INV s ks).name == INV)=true:=by simp
    rw[e]
    simp only[hc,Bool.true_and,QO,if_true]
    simp[INV]at hsp hs
    simp[F.f187B,F.f187C,hsp,hs,INV,d',hw]
    refine h3 _ ?_ ?_ ?_ ?_ ?_ <;> simp[d]
   ·have d': ¬(ks.length:Int)=1:=by omega
    have hc:YQ (.mk 3 INV s ks)=false:=by simp[YQ,d]
    refine⟨.gs 0 0 0 0,B,?_,by simpa[hc]using OY hps⟩
    simp only[hc]
    simp[INV]at hsp hs hc
    simp[F.f187B,F.f187C,hsp,hs,INV,d',F.f187R,F.f187K]
  ·have h3:=h2 m hu
   by_cases d:ks=[]
   ·subst d
    have hc:YQ (.mk 3 ONE s [])=true:=by simp[YQ];simp[MUL,INV,ONE]
    have e: ((Tm.mk 3 ONE s []).name == INV)=false:=by simp[ONE,INV]
    rw[e]
    simp only[hc,Bool.true_and,QO,Bool.false_eq_true,if_false]
    simp[ONE]at hsp hs
    simp[F.f187B,F.f187C,hsp,hs,ONE]
    refine h3 _ ?_ ?_ ?_ ?_ ?_ <;> simp
   ·have d0: ¬ks.length=0:=fun e=>d (List.eq_nil_of_length_eq_zero e)
    have d': ¬(ks.length:Int)=0:=by omega
    have hc:YQ (.mk 3 ONE s ks)=false:=by simp[YQ,d]
    refine⟨.gs 0 0 0 0,B,?_,by simpa[hc]using OY hps⟩
    simp only[hc]
    simp[ONE]at hsp hs hc
    simp[F.f187B,F.f187C,hsp,hs,ONE,d,d',F.f187R,F.f187K]
def ofE (t:Tm):Int:=if QK t≠0 then QK t else if arB t then(if 200 < (Xi [] t 1).length then 3 else 0)else 6
def ofP (t:Tm):List Pw:=if ofE t=0 then Xi [] t 1 else []
theorem LJ (t:Tm) (bs:List (List AV)) (hm:t.mass < 30000000):call F.tb 253 [.agg (Qb t)] bs=some (.tup [.sl false 5 (QG (ofP t)),.int .i64 (ofE t)],bs):=by
 have hmb:t.mass < big:=by unfold big;omega
 have hnm:=Ze t
 have h1:=Yl t bs hmb
 have h2:=De t bs hmb
 obtain⟨o,h3⟩:=Qeu t bs 1 [] 0 true hmb (.inl rfl) H1 (by omega)
 have h3':call F.tb 256 [.sl true 5 [],.agg (Qb t),.int .i64 1] bs=some (.sl o 5 (QG (Xi [] t 1)),bs):=h3
 rw[Qa F.tb_253 _ _ rfl]
 by_cases hv:QK t=0
 ·cases ha:arB t
  ·simp[F.f253B,F.f253C,F.f253R,F.f253K,h1,h2,hv,ha,ofE,ofP,QG]
  ·by_cases hl:200 < (Xi [] t 1).length
   ·have hl': (200:Int) < ((Xi [] t 1).length:Int):=by omega
    simp[F.f253B,F.f253C,F.f253R,F.f253K,h1,h2,h3',hv,ha,ofE,ofP,hl,hl']
    simp[QG]
   ·have hl': ¬(200:Int) < ((Xi [] t 1).length:Int):=by omega
    simp[F.f253B,F.f253C,F.f253R,F.f253K,h1,h2,h3',hv,ha,ofE,ofP,hl,hl']
 ·simp[F.f253B,F.f253C,F.f253R,F.f253K,h1,hv,ofE,ofP,QG]
theorem Qiz {B0 B:List (List AV)} {v:AV} {l:List Pw} (h:PS B0 B v l) (n:Nat): ∃o M2,∀ρ:Nat→AV,ρ n=v→Z0 {env:=ρ,bs:=B} n 5=some (.sl o 5 (QG l),{env:=upd ρ n .undef,bs:=B0 ++ M2}):=by
 obtain⟨M,id,sz,rfl,rfl,hc⟩:=h
 rcases hc with⟨rfl,rfl,rfl⟩ | ⟨rfl,hid,t,hb,hne⟩
 ·exact⟨true,M,fun ρ hn=>by simp[Z0,hn,QG]⟩
 ·by_cases hl:l.length=0
  ·have:l=[]:=List.eq_nil_of_length_eq_zero hl
   subst this
   exact⟨false,M,fun ρ hn=>by simp[Z0,hn,QG]⟩
  ·refine⟨true,M.set (id - B0.length) [],fun ρ hn=> ?_⟩
   have hle:0+l.length*5≤(QI l ++ t).length:=by rw[List.length_append,Yq];omega
   have hch:ZO (QI l ++ t) 0 5 l.length=QG l:=Wc (f:=QU) (k:=5) XN X9 l t
   simp only[Z0,hn]
   rw[if_pos ⟨trivial,by omega⟩,if_neg hl,hb]
   simp only[Option.bind_some]
   rw[if_pos hle,hch,Xo hid]
   rfl
theorem LE (t:Tm) (bs:List (List AV)) (hm:t.mass < 30000000):call F.tb 186 [.agg (Qb t)] bs=some (.tup [.sl false 5 (QG (ofP t)),.int .i64 (ofE t)],bs):=by
 have hmb:t.mass < big:=by unfold big;omega
 have hnm:=Ze t
 have h1:=Xz t bs hmb
 obtain⟨v,B,hc,hps⟩:=Qd3 t bs bs (.gs 0 0 0 0) [] 1 0 hmb (.inl rfl) (Qah bs) H1 (by omega)
 obtain⟨id,sz,rfl⟩:=Wb hps
 obtain⟨M,hM⟩: ∃M,B=bs ++ M:=by obtain⟨M,_,_,h,_⟩:=hps;exact⟨M,h⟩
 have hgn:=Nx (Xi [] t 1)
 rw[Qa F.tb_186 _ _ rfl]
 by_cases hv:QK t=0
 ·cases ha:arB t
  ·rw[ha]at hc hps
   simp only[Bool.false_eq_true,if_false]at hc
   simp[F.f186B,F.f186C,F.f186R,F.f186K,h1,hv,hc,ha,ofE,ofP,QG,hM]
  ·rw[ha]at hc hps
   simp only[if_true]at hc hps
   by_cases hl:200 < (Xi [] t 1).length
   ·have hl': (200:Int) < ((Xi [] t 1).length:Int):=by omega
    simp[F.f186B,F.f186C,F.f186R,F.f186K,h1,hv,hc,ha,ofE,ofP,hl,hl',hM]
    simp[QG]
   ·have hl': ¬(200:Int) < ((Xi [] t 1).length:Int):=by omega
    obtain⟨o,M2,hf⟩:=Qiz hps 24
    simp[F.f186B,F.f186C,F.f186R,F.f186K,h1,hv,hc,ha,ofE,ofP,hl,hl',hf]
 ·simp[F.f186B,F.f186C,F.f186R,F.f186K,h1,hv,ofE,ofP,QG]
end Go.Am
namespace Go.Am
set_option maxRecDepth 8000
def gtO (prev:Option Tm) (t:Tm):Bool:=match prev with
 | none=>true
 | some q=>decide (Qm q t < 0)
def Yf (n:Int):Bool:=decide (n < -1000) || decide (1000 < n)
def vPL:Option Tm→List Pw→Int
 | _,[]=>0
 | prev,p:: r=>if QK p.1≠0 then QK p.1 else if Y9 p.1 then 1 else if p.2=0∨Yf p.2=true then 7 else if gtO prev p.1 then vPL (some p.1) r else 5
def ZD (l:List Pw):Int:=if 200 < l.length then 3 else vPL none l
def My (l:List Pw):Option Tm:=l.getLast?.map (·.1)
theorem KB:My []=none:=rfl
theorem TR (l:List Pw) (p:Pw):My (l ++ [p])=some p.1:=by simp[My]
theorem Ci (l:List Pw) (bs:List (List AV)) (hl:l.length < 100000000) (hm: ∀q∈l,q.1.mass < big):
  ∀(post pre:List Pw) (o:Bool) (ρ:Nat→AV),l=pre ++ post→ρ 0= .sl o 5 (QG l)→ρ 9= .sl false 5 (QG l)→ρ 10= .int .i64 l.length→ρ 11= .int .i64 pre.length→
  R F.tb (.loop F.f197l0) ρ bs (Qk 0 (Qw F.tb F.f197r0 (QB F.f197 bs)))=some (.int .i64 (vPL (My pre) post),bs):=by
 intro post
 induction post with
 | nil=>
  intro pre o ρ hk h0 h9 h10 h11
  simp only[List.append_nil]at hk
  rw[← hk]at h11
  rw[Qc F.f197l0.eq_1]
  simp[h0,h9,h10,h11,F.f197r0,F.f197R,F.f197K,vPL]
 | cons p post IH=>
  intro pre o ρ hk h0 h9 h10 h11
  have hg:=Qp hk
  have hll:l.length=pre.length+ (post.length+1):=by rw[hk];simp
  have hw1:IntKind.i64.wrap ((pre.length:Int)+1)=(pre.length:Int)+1:=Qj (by omega) (by omega)
  have hlt: (pre.length:Int) < (l.length:Int):=by omega
  have hmp:=hm p (by rw[hk];simp)
  have h1:=Xz p.1 bs hmp
  have h2:=PY p.1 bs
  have h3:=fun ρ=>IH (pre ++ [p]) o ρ (by rw[hk];simp)
  rw[TR]at h3
  rw[Qc F.f197l0.eq_1]
  by_cases c1:QK p.1=0
  ·cases c2:Y9 p.1
   ·by_cases c3:p.2=0
    ·simp[h0,h9,h10,h11,hg,hlt,h1,h2,c1,c2,c3,F.f197R,F.f197K,vPL]
    ·by_cases c4:p.2 < -1000
     ·simp[h0,h9,h10,h11,hg,hlt,h1,h2,c1,c2,c3,c4,F.f197R,F.f197K,vPL,Yf]
     ·by_cases c5:1000 < p.2
      ·simp[h0,h9,h10,h11,hg,hlt,h1,h2,c1,c2,c3,c4,c5,F.f197R,F.f197K,vPL,Yf]
      ·rcases List.eq_nil_or_concat pre with rfl | ⟨pre2,q,rfl⟩
       ·have h11':ρ 11= .int .i64 0:=h11
        have hg':l[0]? =some p:=hg
        have hlt':0 < l.length:=by omega
        have hw0:IntKind.i64.wrap 1=1:=rfl
        clear h11 hg hlt hw1
        simp[-getElem?_pos,h0,h9,h10,h11',hg',hlt',hw0,h1,h2,c1,c2,c3,c4,c5,vPL,Yf,KB,gtO]
        refine h3 _ ?_ ?_ ?_ ?_ <;> simp[h0,h9,h10]
       ·have hg2:l[pre2.length]? =some q:=by rw[hk];simp
        have hq:=hm q (by rw[hk];simp)
        have h4:=call_Compare q.1 p.1 bs hq hmp
        have hp0: (0:Int) < (pre2.length:Int)+1:=by omega
        have hp1: (0:Int)≤(pre2.length:Int)+1:=by omega
        have hp2: ((pre2.length:Int)+1).toNat=pre2.length+1:=by omega
        have hw2:IntKind.i64.wrap (pre2.length:Int)=(pre2.length:Int):=Qj (by simp at hll;omega) (by simp at hll;omega)
        simp only[List.concat_eq_append]at *
        rw[TR]
        simp only[List.length_append,List.length_singleton,Int.natCast_add,Int.natCast_one]at h11 hg hlt hw1 h3
        by_cases c6:Qm q.1 p.1 < 0
        ·have c6': ¬0≤Qm q.1 p.1:=by omega
         simp[h0,h9,h10,h11,hg,hg2,hlt,hw1,hw2,hp0,hp1,hp2,h1,h2,h4,c1,c2,c3,c4,c5,c6,c6',vPL,Yf,gtO]
         refine h3 _ ?_ ?_ ?_ ?_ <;> simp[h0,h9,h10]
        ·have c6':0≤Qm q.1 p.1:=by omega
         simp[h0,h9,h10,h11,hg,hg2,hlt,hw1,hw2,hp0,hp1,hp2,h1,h2,h4,c1,c2,c3,c4,c5,c6,c6',vPL,Yf,gtO,F.f197R,F.f197K]
   ·simp[h0,h9,h10,h11,hg,hlt,h1,h2,c1,c2,F.f197R,F.f197K,vPL]
  ·simp[h0,h9,h10,h11,hg,hlt,h1,h2,c1,F.f197R,F.f197K,vPL]
theorem LF (l:List Pw) (o:Bool) (bs:List (List AV)) (hl:l.length < 100000000) (hm: ∀q∈l,q.1.mass < big):call F.tb 197 [.sl o 5 (QG l)] bs=some (.int .i64 (ZD l),bs):=by
 have h:=fun ρ=>Ci l bs hl hm l [] false ρ rfl
 rw[Qa F.tb_197 _ _ rfl]
 by_cases c:200 < l.length
 ·have c': (200:Int) < (l.length:Int):=by omega
  simp[F.f197B,F.f197C,F.f197R,F.f197K,c,c',ZD]
 ·have c': ¬(200:Int) < (l.length:Int):=by omega
  simp[F.f197B,F.f197C,c,c',ZD]
  refine h _ ?_ ?_ ?_ ?_ <;> simp
theorem Gu (l:List Pw) (bs:List (List AV)) (hl:l.length < 100000000) (hm: ∀q∈l,q.1.mass < big):
  ∀(post pre:List Pw) (o:Bool) (ρ:Nat→AV),l=pre ++ post→ρ 0= .sl o 5 (QG l)→ρ 3= .int .i64 pre.length→
  R F.tb (.loop F.f259l0) ρ bs (Qk 0 (Qw F.tb F.f259r0 (QB F.f259 bs)))=some (.int .i64 (vPL (My pre) post),bs):=by
 intro post
 induction post with
 | nil=>
  intro pre o ρ hk h0 h3
  simp only[List.append_nil]at hk
  rw[← hk]at h3
  rw[Qc F.f259l0.eq_1]
  simp[h0,h3,F.f259r0,F.f259R,F.f259K,vPL]
 | cons p post IH=>
  intro pre o ρ hk h0 h3
  have hg:=Qp hk
  have hll:l.length=pre.length+ (post.length+1):=by rw[hk];simp
  have hw1:IntKind.i64.wrap ((pre.length:Int)+1)=(pre.length:Int)+1:=Qj (by omega) (by omega)
  have hlt: (pre.length:Int) < (l.length:Int):=by omega
  have hmp:=hm p (by rw[hk];simp)
  have h1:=Yl p.1 bs hmp
  have h2:=Tn p.1 bs
  have hh:=fun ρ=>IH (pre ++ [p]) o ρ (by rw[hk];simp)
  rw[TR]at hh
  rw[Qc F.f259l0.eq_1]
  by_cases c1:QK p.1=0
  ·cases c2:Y9 p.1
   ·by_cases c3:p.2=0
    ·simp[h0,h3,hg,hlt,h1,h2,c1,c2,c3,F.f259R,F.f259K,vPL]
    ·by_cases c4:p.2 < -1000
     ·simp[h0,h3,hg,hlt,h1,h2,c1,c2,c3,c4,F.f259R,F.f259K,vPL,Yf]
     ·by_cases c5:1000 < p.2
      ·simp[h0,h3,hg,hlt,h1,h2,c1,c2,c3,c4,c5,F.f259R,F.f259K,vPL,Yf]
      ·rcases List.eq_nil_or_concat pre with rfl | ⟨pre2,q,rfl⟩
       ·have h3':ρ 3= .int .i64 0:=h3
        have hg':l[0]? =some p:=hg
        have hlt':0 < l.length:=by omega
        have hw0:IntKind.i64.wrap 1=1:=rfl
        clear h3 hg hlt hw1
        simp[-getElem?_pos,h0,h3',hg',hlt',hw0,h1,h2,c1,c2,c3,c4,c5,vPL,Yf,KB,gtO]
        refine hh _ ?_ ?_ <;> simp[h0]
       ·have hg2:l[pre2.length]? =some q:=by rw[hk];simp
        have hq:=hm q (by rw[hk];simp)
        have h4:=Xv q.1 p.1 bs hq hmp
        have hp0: (0:Int) < (pre2.length:Int)+1:=by omega
        have hp1: (0:Int)≤(pre2.length:Int)+1:=by omega
        have hp2: ((pre2.length:Int)+1).toNat=pre2.length+1:=by omega
        have hw2:IntKind.i64.wrap (pre2.length:Int)=(pre2.length:Int):=Qj (by simp at hll;omega) (by simp at hll;omega)
        simp only[List.concat_eq_append]at *
        rw[TR]
        simp only[List.length_append,List.length_singleton,Int.natCast_add,Int.natCast_one]at h3 hg hlt hw1 hh
        by_cases c6:Qm q.1 p.1 < 0
        ·have c6': ¬0≤Qm q.1 p.1:=by omega
         simp[h0,h3,hg,hg2,hlt,hw1,hw2,hp0,hp1,hp2,h1,h2,h4,c1,c2,c3,c4,c5,c6,c6',vPL,Yf,gtO]
         refine hh _ ?_ ?_ <;> simp[h0]
        ·have c6':0≤Qm q.1 p.1:=by omega
         simp[h0,h3,hg,hg2,hlt,hw1,hw2,hp0,hp1,hp2,h1,h2,h4,c1,c2,c3,c4,c5,c6,c6',vPL,Yf,gtO,F.f259R,F.f259K]
   ·simp[h0,h3,hg,hlt,h1,h2,c1,c2,F.f259R,F.f259K,vPL]
  ·simp[h0,h3,hg,hlt,h1,h2,c1,F.f259R,F.f259K,vPL]
theorem LK (l:List Pw) (o:Bool) (bs:List (List AV)) (hl:l.length < 100000000) (hm: ∀q∈l,q.1.mass < big):call F.tb 259 [.sl o 5 (QG l)] bs=some (.int .i64 (ZD l),bs):=by
 have h:=fun ρ=>Gu l bs hl hm l [] false ρ rfl
 rw[Qa F.tb_259 _ _ rfl]
 by_cases c:200 < l.length
 ·have c': (200:Int) < (l.length:Int):=by omega
  simp[F.f259B,F.f259C,F.f259R,F.f259K,c,c',ZD]
 ·have c': ¬(200:Int) < (l.length:Int):=by omega
  simp[F.f259B,F.f259C,c,c',ZD]
  refine h _ ?_ ?_ <;> simp
theorem QaP: ∀(l:List Pw) (prev:Option Tm),vPL prev l=0→(∀q∈l,QK q.1=0∧Y9 q.1=false∧q.2≠0∧ -1000≤q.2∧q.2≤1000)∧Asc (Xr l)∧(∀a,prev=some a→∀q∈l,Qm a q.1 < 0)
 | [],prev,_=>⟨fun q h=>by simp at h,Asc.nil,fun a _ q h=>by simp at h⟩
 | p:: r,prev,h=>by
  simp only[vPL]at h
  split at h
  ·rename_i c;exact absurd h c
  rename_i c1
  split at h
  ·cases h
  rename_i c2
  split at h
  ·cases h
  rename_i c3
  split at h
  ·rename_i c4
   obtain⟨h1,h2,h3⟩:=QaP r (some p.1) h
   have hpr:=h3 p.1 rfl
   refine⟨fun q hq=> ?_,?_,?_⟩
   ·rcases List.mem_cons.1 hq with rfl | hq
    ·simp[Yf]at c3
     exact⟨by simpa using c1,by simpa using c2,c3.1,c3.2.1,c3.2.2⟩
    ·exact h1 q hq
   ·simp only[Xr,List.map_cons]
    refine ZT.2 ⟨fun y hy=> ?_,h2⟩
    obtain⟨q,hq,rfl⟩:=List.mem_map.1 hy
    exact hpr q hq
   ·intro a ha q hq
    subst ha
    have c5:Qm a p.1 < 0:=by simpa[gtO]using c4
    rcases List.mem_cons.1 hq with rfl | hq
    ·exact c5
    ·exact Z8 c5 (hpr q hq)
  ·cases h
theorem VR {l:List Pw} (h:ZD l=0) (hm: ∀q∈l,q.1.mass < big):Xs l 1000∧l.length≤200∧∀q∈l,QK q.1=0∧Y9 q.1=false:=by
 unfold ZD at h
 split at h
 ·cases h
 ·obtain⟨h1,h2,_⟩:=QaP l none h
  exact⟨⟨h2,fun q hq=>(h1 q hq).2.2.1,by omega,fun q hq=>⟨hm q hq,(h1 q hq).2.2.2.1,(h1 q hq).2.2.2.2⟩⟩,by omega,fun q hq=>⟨(h1 q hq).1,(h1 q hq).2.1⟩⟩
end Go.Am
namespace Go.Am
set_option maxRecDepth 8000
def Vf (t:Tm):Tm:= .mk 3 INV 0 [t]
def YT (l:List Pw):List Tm:=(l.map fun p=>List.replicate p.2.toNat p.1).flatten
def Y6 (l:List Pw):List Tm:=(l.map fun p=>List.replicate (-p.2).toNat (Vf p.1)).flatten
def Zm (l:List Pw):List Tm:=YT l ++ Y6 l
def Zj:List Tm→Tm
 | []=> .mk 3 ONE 0 []
 | [p]=>p
 | p:: q:: r=> .mk 3 MUL 0 (p:: q:: r)
def Zq (l:List Pw):Tm×Int:=
 if ZD l≠0 then(QC,ZD l)else if 8 < (Zm l).length then(QC,3)else if QK (Zj (Zm l))≠0 then(QC,QK (Zj (Zm l)))else(Zj (Zm l),0)
theorem H4 (a:List Pw) (p:Pw):YT (a ++ [p])=YT a ++ List.replicate p.2.toNat p.1:=by simp[YT]
theorem HV (a:List Pw) (p:Pw):Y6 (a ++ [p])=Y6 a ++ List.replicate (-p.2).toNat (Vf p.1):=by simp[Y6]
theorem H5 {l:List Pw} (h: ∀q∈l,q.2≤8): (YT l).length≤8*l.length:=by
 induction l with
 | nil=>simp[YT]
 | cons p l ih=>
  have h1:=ih fun q hq=>h q (by simp[hq])
  have h2:=h p (by simp)
  simp only[YT,List.map_cons,List.flatten_cons,List.length_append,List.length_replicate,List.length_cons]at h1 ⊢
  omega
theorem HW {l:List Pw} (h: ∀q∈l,-8≤q.2): (Y6 l).length≤8*l.length:=by
 induction l with
 | nil=>simp[Y6]
 | cons p l ih=>
  have h1:=ih fun q hq=>h q (by simp[hq])
  have h2:=h p (by simp)
  simp only[Y6,List.map_cons,List.flatten_cons,List.length_append,List.length_replicate,List.length_cons]at h1 ⊢
  omega
theorem H6 {l:List Pw} {p:Pw} (h:p∈l):p.2.toNat≤(YT l).length:=by
 induction l with
 | nil=>simp at h
 | cons q l ih=>
  simp only[YT,List.map_cons,List.flatten_cons,List.length_append,List.length_replicate]at ih ⊢
  rcases List.mem_cons.1 h with rfl | h
  ·omega
  ·have:=ih h;omega
theorem HX {l:List Pw} {p:Pw} (h:p∈l): (-p.2).toNat≤(Y6 l).length:=by
 induction l with
 | nil=>simp at h
 | cons q l ih=>
  simp only[Y6,List.map_cons,List.flatten_cons,List.length_append,List.length_replicate]at ih ⊢
  rcases List.mem_cons.1 h with rfl | h
  ·omega
  ·have:=ih h;omega
theorem LG (n:List UInt8) (ks:List Tm) (o:Bool) (bs:List (List AV)):call F.tb 198 [.str n,.sl o 4 (encTs ks)] bs=some (.agg (Qb (.mk 3 n 0 ks)),bs):=by
 rw[Qa F.tb_198 _ _ rfl]
 simp[F.f198,F.f198C,X2]
theorem OZ {k:Nat} (acc:List Tm) (x:Tm): (acc ++ [x])++ List.replicate k x=acc ++ List.replicate (k+1) x:=by simp[List.replicate_succ]
theorem Qf2 {p:Pw} {bs:List (List AV)} (hp:p.1.mass < big) (hN: -8≤p.2∧p.2≤8) (c:AC) (K:Kn) (X:Out): ∀(k:Nat) (acc:List Tm) (i:Nat) (ρ:Nat→AV),i+k=p.2.toNat→acc.length+k < 100000000→ρ 5= .sl true 4 (encTs acc)→ρ 8= .bx (QU p)→ρ 34= .int .i64 p.2→ρ 35= .int .i64 i→
  (∀ρ':Nat→AV,ρ' 5= .sl true 4 (encTs (acc ++ List.replicate k p.1))→(∀j,j < 34→j≠5→ρ' j=ρ j)→R F.tb c ρ' bs K=X)→
  R F.tb (.loop F.f196l0) ρ bs (Qk 2 (Qw F.tb c K))=X:=by
 intro k
 induction k with
 | zero=>
  intro acc i ρ hi hl h5 h8 h34 h35 h
  have hn: ¬(i:Int) < p.2:=by omega
  rw[Qc F.f196l0.eq_1]
  simp[h5,h8,h34,h35,hn]
  apply h
  ·simp[h5]
  ·intro j hj h5j
   have:j≠36:=by omega
   simp[this]
 | succ k IH=>
  intro acc i ρ hi hl h5 h8 h34 h35 h
  have hn: (i:Int) < p.2:=by omega
  have hw1:IntKind.i64.wrap ((i:Int)+1)=((i+1:Nat):Int):=by rw[Qj (by omega) (by omega)];omega
  have hb: (acc.length+1)*56≤140737488355328:=Yn (by omega)
  have hc:=V7 p.1 bs hp
  rw[Qc F.f196l0.eq_1]
  simp[h5,h8,h34,h35,hn,hw1,hb,hc,Q0,QS]
  refine IH (acc ++ [p.1]) (i+1) _ (by omega) (by simp;omega) ?_ ?_ ?_ ?_ ?_
  ·simp
  ·simp[h8]
  ·simp[h34]
  ·simp
  ·intro ρ' g5 gj
   rw[OZ]at g5
   refine h ρ' g5 fun j hj h5j=> ?_
   rw[gj j hj h5j]
   have e1:j≠35:=by omega
   have e2:j≠36:=by omega
   have e3:j≠37:=by omega
   have e4:j≠38:=by omega
   have e5:j≠39:=by omega
   have e6:j≠40:=by omega
   have e7:j≠41:=by omega
   have e8:j≠42:=by omega
   have e9:j≠43:=by omega
   simp[*]
theorem Qf3 {p:Pw} {bs:List (List AV)} (hp:p.1.mass < big) (hN: -8≤p.2∧p.2≤8) (c:AC) (K:Kn) (X:Out): ∀(k:Nat) (acc:List Tm) (i:Nat) (ρ:Nat→AV),i+k=(-p.2).toNat→acc.length+k < 100000000→ρ 6= .sl true 4 (encTs acc)→ρ 8= .bx (QU p)→ρ 46= .int .i64 (-p.2)→ρ 47= .int .i64 i→
  (∀ρ':Nat→AV,ρ' 6= .sl true 4 (encTs (acc ++ List.replicate k (Vf p.1)))→(∀j,j < 34→j≠6→ρ' j=ρ j)→R F.tb c ρ' bs K=X)→
  R F.tb (.loop F.f196l1) ρ bs (Qk 4 (Qk 1 (Qw F.tb c K)))=X:=by
 intro k
 induction k with
 | zero=>
  intro acc i ρ hi hl h6 h8 h46 h47 h
  have hn: ¬(i:Int) < -p.2:=by omega
  rw[Qc F.f196l1.eq_1]
  simp[h6,h8,h46,h47,hn]
  apply h
  ·simp[h6]
  ·intro j hj h5j
   have:j≠48:=by omega
   simp[this]
 | succ k IH=>
  intro acc i ρ hi hl h6 h8 h46 h47 h
  have hn: (i:Int) < -p.2:=by omega
  have hw1:IntKind.i64.wrap ((i:Int)+1)=((i+1:Nat):Int):=by rw[Qj (by omega) (by omega)];omega
  have hb: (acc.length+1)*56≤140737488355328:=Yn (by omega)
  have hc:=V7 p.1 bs hp
  have hc2:=LG INV [p.1] false bs
  simp only[INV]at hc2
  rw[Qc F.f196l1.eq_1]
  simp[h6,h8,h46,h47,hn,hw1,hb,hc,hc2,Q0]
  rw[show Qb (Tm.mk 3 [105,110,118] 0 [p.1])=Qb (Vf p.1)from rfl]
  simp[Q0,QS]
  refine IH (acc ++ [Vf p.1]) (i+1) _ (by omega) (by simp;omega) ?_ ?_ ?_ ?_ ?_
  ·simp[Vf,INV]
  ·simp[h8]
  ·simp[h46]
  ·simp
  ·intro ρ' g6 gj
   rw[OZ]at g6
   refine h ρ' g6 fun j hj h5j=> ?_
   rw[gj j hj h5j]
   have e1:j≠47:=by omega
   have e2:j≠48:=by omega
   have e3:j≠49:=by omega
   have e4:j≠50:=by omega
   have e5:j≠51:=by omega
   have e6:j≠52:=by omega
   have e7:j≠53:=by omega
   have e8:j≠54:=by omega
   have e9:j≠55:=by omega
   have e10:j≠56:=by omega
   have e11:j≠57:=by omega
   simp[*]
theorem Qf5 (l:List Pw) (bs:List (List AV)) (hv:ZD l=0) (hl: (Zm l).length < 100000000) (hm:massL (Zm l) < big - 100) (ρ:Nat→AV) (h2:ρ 2= .bx [.int .i64 0,.str [],.int .i64 0,.sl true 4 []]) (h5:ρ 5= .sl true 4 (encTs (YT l))) (h6:ρ 6= .sl true 4 (encTs (Y6 l))):
  R F.tb F.f196r2 ρ bs (QB F.f196 bs)=some (QN (Zq l),bs):=by
 have hc:=T5 [YT l,Y6 l] false bs (by simp) (by simpa[Zm]using hl)
 have hfl: [YT l,Y6 l].flatten=Zm l:=by simp[Zm]
 rw[hfl]at hc
 simp only[VG,List.map_cons,List.map_nil]at hc
 have ha:=LG MUL (Zm l) false bs
 have ha1:=LG ONE [] true bs
 simp only[MUL]at ha
 simp only[ONE,encTs]at ha1
 by_cases c8:8 < (Zm l).length
 ·have c8': (8:Int) < ((Zm l).length:Int):=by omega
  have e:Zq l=(QC,3):=by simp[Zq,hv,c8]
  rw[e]
  simp[F.f196r2,h2,h5,h6,hc,c8',F.f196R,F.f196K,QN,QE]
 ·have c8': ¬(8:Int) < ((Zm l).length:Int):=by omega
  have hpm: (Zj (Zm l)).mass < big:=by
   unfold big at *
   match h:Zm l with
   | []=>simp[Zj,Qq,massL,ONE]
   | [p]=>rw[h]at hm;simp[Zj,massL]at hm ⊢;omega
   | p:: q:: r=>rw[h]at hm c8;simp[Zj,Qq,massL,MUL]at hm c8 ⊢;omega
  have hvv:=Xz (Zj (Zm l)) bs hpm
  have e:Zq l=if QK (Zj (Zm l))≠0 then(QC,QK (Zj (Zm l)))else(Zj (Zm l),0):=by simp[Zq,hv,c8]
  rw[e]
  generalize hL:Zm l=L at *
  match L,hL with
  | [],hL=>
   simp only[Zj,ONE]at hvv
   simp only[encTs]at ha hc
   by_cases cv:QK (.mk 3 [111,110,101] 0 [])=0
   ·rw[cv]at hvv
    simp[F.f196r2,h2,h5,h6,hc,ha,ha1,hvv,cv,F.f196R,F.f196K,QN,Zj,ONE]
   ·simp[F.f196r2,h2,h5,h6,hc,ha,ha1,hvv,cv,F.f196R,F.f196K,QN,QE,Zj,ONE]
  | [p],hL=>
   simp only[Zj]at hvv
   by_cases cv:QK p=0
   ·rw[cv]at hvv
    simp[F.f196r2,h2,h5,h6,hc,ha,hvv,cv,F.f196R,F.f196K,QN,Zj]
   ·simp[F.f196r2,h2,h5,h6,hc,ha,hvv,cv,F.f196R,F.f196K,QN,QE,Zj]
  | p:: q:: r,hL=>
   simp only[Zj,MUL]at hvv
   have c8'': ¬(8:Int) < (r.length:Int)+1+1:=by simpa using c8'
   have n0: ¬(r.length:Int)+1+1=0:=by omega
   have n1: ¬(r.length:Int)+1+1=1:=by omega
   by_cases cv:QK (.mk 3 [109,117,108] 0 (p:: q:: r))=0
   ·rw[cv]at hvv
    simp[F.f196r2,h2,h5,h6,hc,ha,hvv,cv,c8'',n0,n1,F.f196R,F.f196K,QN,Zj,MUL]
   ·simp[F.f196r2,h2,h5,h6,hc,ha,hvv,cv,c8'',n0,n1,F.f196R,F.f196K,QN,QE,Zj,MUL]
theorem Qf4 (l:List Pw) (bs:List (List AV)) (hv:ZD l=0) (hl:l.length < 5000000) (hk: ∀q∈l,q.1.mass < big) (hm: (∀q∈l,-8≤q.2∧q.2≤8)→massL (Zm l) < big - 100):
  ∀(post pre:List Pw) (ρ:Nat→AV),l=pre ++ post→(∀q∈pre,-8≤q.2∧q.2≤8)→ρ 2= .bx [.int .i64 0,.str [],.int .i64 0,.sl true 4 []]→ρ 5= .sl true 4 (encTs (YT pre))→ρ 6= .sl true 4 (encTs (Y6 pre))→
   ρ 18= .sl false 5 (QG l)→ρ 19= .int .i64 l.length→ρ 20= .int .i64 pre.length→
  R F.tb (.loop F.f196l2) ρ bs (Qk 0 (Qw F.tb F.f196r2 (QB F.f196 bs)))=some (QN (Zq l),bs):=by
 intro post
 induction post with
 | nil=>
  intro pre ρ hkk hq h2 h5 h6 h18 h19 h20
  simp only[List.append_nil]at hkk
  subst hkk
  have hr:=Qf5 l bs hv (by
   have h1:=H5 (l:=l) fun q h=>(hq q h).2
   have h2:=HW (l:=l) fun q h=>(hq q h).1
   simp only[Zm,List.length_append];omega) (hm hq)
  rw[Qc F.f196l2.eq_1]
  simp[h18,h19,h20]
  apply hr <;> simp[h2,h5,h6]
 | cons p post IH=>
  intro pre ρ hkk hq h2 h5 h6 h18 h19 h20
  have hg:=Qp hkk
  have hll:l.length=pre.length+ (post.length+1):=by rw[hkk];simp
  have hw1:IntKind.i64.wrap ((pre.length:Int)+1)=(pre.length:Int)+1:=Qj (by omega) (by omega)
  have hlt: (pre.length:Int) < (l.length:Int):=by omega
  have hpl:p∈l:=by rw[hkk];simp
  have hmp:=hk p hpl
  have hbig: ∀n,n < (Zm l).length→8≤n→Zq l=(QC,3):=by
   intro n h1 h2
   have:8 < (Zm l).length:=by omega
   simp[Zq,hv,this]
  rw[Qc F.f196l2.eq_1]
  by_cases c1:8 < p.2
  ·have h1:=H6 hpl
   have e:=hbig 8 (by simp only[Zm,List.length_append];omega) (by omega)
   rw[e]
   simp[h2,h5,h6,h18,h19,h20,hg,hlt,c1,F.f196R,F.f196K,QN,QE]
  ·by_cases c2:p.2 < -8
   ·have h1:=HX hpl
    have e:=hbig 8 (by simp only[Zm,List.length_append];omega) (by omega)
    rw[e]
    simp[h2,h5,h6,h18,h19,h20,hg,hlt,c1,c2,F.f196R,F.f196K,QN,QE]
   ·have hN: -8≤p.2∧p.2≤8:=by omega
    have hw:IntKind.i64.wrap (-p.2)= -p.2:=Qj (by omega) (by omega)
    have hq2: ∀q∈pre ++ [p],-8≤q.2∧q.2≤8:=by
     intro q h
     rcases List.mem_append.1 h with h | h
     ·exact hq q h
     ·simp at h;subst h;exact hN
    have h1:=H5 (l:=pre) fun q h=>(hq q h).2
    have h3:=HW (l:=pre) fun q h=>(hq q h).1
    have ih:=fun ρ=>IH (pre ++ [p]) ρ (by rw[hkk];simp) hq2
    simp[h2,h5,h6,h18,h19,h20,hg,hlt,c1,c2]
    refine Qf2 hmp hN _ _ _ p.2.toNat (YT pre) 0 _ (by omega) (by omega) ?_ ?_ ?_ ?_ ?_
    ·simp[h5]
    ·simp
    ·simp
    ·simp
    ·intro ρ' g5 gj
     have g2:ρ' 2=_:=gj 2 (by omega) (by omega)
     have g6:ρ' 6=_:=gj 6 (by omega) (by omega)
     have g8:ρ' 8=_:=gj 8 (by omega) (by omega)
     have g18:ρ' 18=_:=gj 18 (by omega) (by omega)
     have g19:ρ' 19=_:=gj 19 (by omega) (by omega)
     have g20:ρ' 20=_:=gj 20 (by omega) (by omega)
     simp[h2,h6,h18,h19,h20]at g2 g6 g8 g18 g19 g20
     simp[F.f196r0,g8,hw]
     refine Qf3 hmp hN _ _ _ (-p.2).toNat (Y6 pre) 0 _ (by omega) (by omega) ?_ ?_ ?_ ?_ ?_
     ·simp[g6]
     ·simp[g8]
     ·simp
     ·simp
     ·intro ρ'' k6 kj
      have k2:ρ'' 2=_:=kj 2 (by omega) (by omega)
      have k5:ρ'' 5=_:=kj 5 (by omega) (by omega)
      have k18:ρ'' 18=_:=kj 18 (by omega) (by omega)
      have k19:ρ'' 19=_:=kj 19 (by omega) (by omega)
      have k20:ρ'' 20=_:=kj 20 (by omega) (by omega)
      simp[g2,g5,g18,g19,g20]at k2 k5 k18 k19 k20
      simp[F.f196r1,k20,hw1]
      apply ih <;> simp[k2,k5,k6,k18,k19,H4,HV]
theorem Qd6 (l:List Pw) (o:Bool) (bs:List (List AV)) (hl:l.length < 5000000) (hk: ∀q∈l,q.1.mass < big) (hm: (∀q∈l,-8≤q.2∧q.2≤8)→massL (Zm l) < big - 100):
  call F.tb 196 [.sl o 5 (QG l)] bs=some (QN (Zq l),bs):=by
 have h1:=LF l false bs (by omega) hk
 rw[Qa F.tb_196 _ _ rfl]
 by_cases hv:ZD l=0
 ·have h:=fun ρ=>Qf4 l bs hv hl hk hm l [] ρ rfl (by simp)
  simp[F.f196B,F.f196C,h1,hv]
  apply h <;> simp[YT,Y6,encTs]
 ·have e:Zq l=(QC,ZD l):=by simp[Zq,hv]
  rw[e]
  simp[F.f196B,F.f196C,h1,hv,F.f196R,F.f196K,QN,QE]
end Go.Am
namespace Go.Am
set_option maxRecDepth 8000
theorem Vj (n:List UInt8) (ks:List Tm) (o:Bool) (bs:List (List AV)) (hl:ks.length < 100000000):call F.tb 120 [.str n,.sl o 4 (encTs ks)] bs=some (.agg (Qb (.mk 3 n 0 ks)),bs):=by
 have hb:ks.length*56≤140737488355328:=Yn (by omega)
 rw[Qa F.tb_120 _ _ rfl]
 simp[F.f120B,F.f120C,F.f120R,F.f120K,hb,X2]
theorem PF {α:Type} (n:Nat) (a b:List α): (a.take n ++ b).take n=(a ++ b).take n:=by
 rw[List.take_append,List.take_append,List.take_take,List.length_take,Nat.min_self]
 congr 2
 omega
theorem Qiu {l:List Pw} {p:Pw} {bs:List (List AV)} (hN: -1000≤p.2∧p.2≤1000) (c:AC) (K:Kn) (X:Out): ∀(k:Nat) (acc:List Tm) (i n:Nat) (o:Bool) (ρ:Nat→AV),l[n]? =some p→i+k=p.2.toNat→acc.length≤9→ρ 0= .sl o 5 (QG l)→ρ 3= .sl true 4 (encTs acc)→ρ 4= .int .i64 n→ρ 5= .int .i64 i→
  (∀ρ':Nat→AV,ρ' 0= .sl o 5 (QG l)→ρ' 4= .int .i64 n→ρ' 3= .sl true 4 (encTs ((acc ++ List.replicate k p.1).take 9))→R F.tb c ρ' bs K=X)→
  R F.tb (.loop F.f260l0) ρ bs (Qk 2 (Qk 1 (Qw F.tb c K)))=X:=by
 intro k
 induction k with
 | zero=>
  intro acc i n o ρ hg hi ha h0 h3 h4 h5 h
  have hn: ¬(i:Int) < p.2:=by omega
  rw[Qc F.f260l0.eq_1]
  simp[h0,h3,h4,h5,hg,hn]
  apply h <;> simp[h0,h3,h4,List.take_of_length_le ha]
 | succ k IH=>
  intro acc i n o ρ hg hi ha h0 h3 h4 h5 h
  have hn: (i:Int) < p.2:=by omega
  have hw1:IntKind.i64.wrap ((i:Int)+1)=((i+1:Nat):Int):=by rw[Qj (by omega) (by omega)];omega
  rw[Qc F.f260l0.eq_1]
  by_cases c9:acc.length < 9
  ·have c9': (acc.length:Int) < 9:=by omega
   have hb: (acc.length+1)*56≤140737488355328:=Yn (by omega)
   simp[h0,h3,h4,h5,hg,hn,hw1,hb,c9',Q0,QS]
   refine IH (acc ++ [p.1]) (i+1) n o _ hg (by omega) (by simp;omega) ?_ ?_ ?_ ?_ ?_
   ·simp[h0]
   ·simp
   ·simp[h4]
   ·simp
   ·intro ρ' g0 g4 g3
    rw[OZ]at g3
    exact h ρ' g0 g4 g3
  ·have c9': ¬(acc.length:Int) < 9:=by omega
   have e: (acc ++ List.replicate (k+1) p.1).take 9=acc:=by rw[List.take_append_of_le_length (by omega),List.take_of_length_le ha]
   simp[h0,h3,h4,h5,hg,hn,c9']
   apply h <;> simp[h0,h3,h4,e]
theorem Qiw {l:List Pw} {p:Pw} {bs:List (List AV)} (hN: -1000≤p.2∧p.2≤1000) (c:AC) (K:Kn) (X:Out): ∀(k:Nat) (acc:List Tm) (i n:Nat) (o:Bool) (ρ:Nat→AV),l[n]? =some p→i+k=(-p.2).toNat→acc.length≤9→ρ 0= .sl o 5 (QG l)→ρ 3= .sl true 4 (encTs acc)→ρ 6= .int .i64 n→ρ 7= .int .i64 i→
  (∀ρ':Nat→AV,ρ' 0= .sl o 5 (QG l)→ρ' 6= .int .i64 n→ρ' 3= .sl true 4 (encTs ((acc ++ List.replicate k (Vf p.1)).take 9))→R F.tb c ρ' bs K=X)→
  R F.tb (.loop F.f260l2) ρ bs (Qk 6 (Qk 5 (Qw F.tb c K)))=X:=by
 have hw:IntKind.i64.wrap (-p.2)= -p.2:=Qj (by omega) (by omega)
 intro k
 induction k with
 | zero=>
  intro acc i n o ρ hg hi ha h0 h3 h4 h5 h
  have hn: ¬(i:Int) < -p.2:=by omega
  rw[Qc F.f260l2.eq_1]
  simp[h0,h3,h4,h5,hg,hw,hn]
  apply h <;> simp[h0,h3,h4,List.take_of_length_le ha]
 | succ k IH=>
  intro acc i n o ρ hg hi ha h0 h3 h4 h5 h
  have hn: (i:Int) < -p.2:=by omega
  have hw1:IntKind.i64.wrap ((i:Int)+1)=((i+1:Nat):Int):=by rw[Qj (by omega) (by omega)];omega
  rw[Qc F.f260l2.eq_1]
  by_cases c9:acc.length < 9
  ·have c9': (acc.length:Int) < 9:=by omega
   have hb: (acc.length+1)*56≤140737488355328:=Yn (by omega)
   have hc2:=Vj INV [p.1] false bs (by simp)
   simp only[INV]at hc2
   simp[h0,h3,h4,h5,hg,hw,hn,hw1,hb,hc2,c9',Q0]
   rw[show Qb (Tm.mk 3 [105,110,118] 0 [p.1])=Qb (Vf p.1)from rfl]
   simp[Q0,QS]
   refine IH (acc ++ [Vf p.1]) (i+1) n o _ hg (by omega) (by simp;omega) ?_ ?_ ?_ ?_ ?_
   ·simp[h0]
   ·simp[Vf,INV]
   ·simp[h4]
   ·simp
   ·intro ρ' g0 g4 g3
    rw[OZ]at g3
    exact h ρ' g0 g4 g3
  ·have c9': ¬(acc.length:Int) < 9:=by omega
   have e: (acc ++ List.replicate (k+1) (Vf p.1)).take 9=acc:=by rw[List.take_append_of_le_length (by omega),List.take_of_length_le ha]
   simp[h0,h3,h4,h5,hg,hw,hn,c9']
   apply h <;> simp[h0,h3,h4,e]
theorem Qix (l:List Pw) (bs:List (List AV)) (hl:l.length < 5000000) (hN: ∀q∈l,-1000≤q.2∧q.2≤1000):
  ∀(post pre:List Pw) (o:Bool) (ρ:Nat→AV),l=pre ++ post→ρ 0= .sl o 5 (QG l)→ρ 3= .sl true 4 (encTs ((YT l ++ Y6 pre).take 9))→ρ 6= .int .i64 pre.length→
  R F.tb (.loop F.f260l3) ρ bs (Qk 4 (Qw F.tb F.f260r2 (QB F.f260 bs)))=some (.sl false 4 (encTs ((Zm l).take 9)),bs):=by
 intro post
 induction post with
 | nil=>
  intro pre o ρ hk h0 h3 h6
  simp only[List.append_nil]at hk
  subst hk
  rw[Qc F.f260l3.eq_1]
  simp[h0,h3,h6,F.f260r2,F.f260R,F.f260K,Zm]
 | cons p post IH=>
  intro pre o ρ hk h0 h3 h6
  have hg:=Qp hk
  have hll:l.length=pre.length+ (post.length+1):=by rw[hk];simp
  have hw1:IntKind.i64.wrap ((pre.length:Int)+1)=(pre.length:Int)+1:=Qj (by omega) (by omega)
  have hlt: (pre.length:Int) < (l.length:Int):=by omega
  have ih:=fun ρ=>IH (pre ++ [p]) o ρ (by rw[hk];simp)
  have hpN:=hN p (by rw[hk];simp)
  rw[Qc F.f260l3.eq_1]
  simp[h0,h3,h6,hlt]
  refine Qiw hpN _ _ _ (-p.2).toNat ((YT l ++ Y6 pre).take 9) 0 pre.length o _ hg (by omega) (by rw[List.length_take];omega) ?_ ?_ ?_ ?_ ?_
  ·simp[h0]
  ·simp[h3]
  ·simp[h6]
  ·simp
  ·intro ρ' g0 g6 g3
   rw[PF,List.append_assoc,← HV]at g3
   simp[F.f260r1,g6,hw1]
   apply ih <;> simp[g0,g3]
theorem Qiv (l:List Pw) (bs:List (List AV)) (hl:l.length < 5000000) (hN: ∀q∈l,-1000≤q.2∧q.2≤1000):
  ∀(post pre:List Pw) (o:Bool) (ρ:Nat→AV),l=pre ++ post→ρ 0= .sl o 5 (QG l)→ρ 3= .sl true 4 (encTs ((YT pre).take 9))→ρ 4= .int .i64 pre.length→
  R F.tb (.loop F.f260l1) ρ bs (Qk 0 (Qw F.tb F.f260r3 (QB F.f260 bs)))=some (.sl false 4 (encTs ((Zm l).take 9)),bs):=by
 intro post
 induction post with
 | nil=>
  intro pre o ρ hk h0 h3 h4
  simp only[List.append_nil]at hk
  subst hk
  have h:=fun ρ=>Qix l bs hl hN l [] o ρ rfl
  rw[Qc F.f260l1.eq_1]
  simp[h0,h3,h4,F.f260r3]
  apply h <;> simp[h0,h3,Y6]
 | cons p post IH=>
  intro pre o ρ hk h0 h3 h4
  have hg:=Qp hk
  have hll:l.length=pre.length+ (post.length+1):=by rw[hk];simp
  have hw1:IntKind.i64.wrap ((pre.length:Int)+1)=(pre.length:Int)+1:=Qj (by omega) (by omega)
  have hlt: (pre.length:Int) < (l.length:Int):=by omega
  have ih:=fun ρ=>IH (pre ++ [p]) o ρ (by rw[hk];simp)
  have hpN:=hN p (by rw[hk];simp)
  rw[Qc F.f260l1.eq_1]
  simp[h0,h3,h4,hlt]
  refine Qiu hpN _ _ _ p.2.toNat ((YT pre).take 9) 0 pre.length o _ hg (by omega) (by rw[List.length_take];omega) ?_ ?_ ?_ ?_ ?_
  ·simp[h0]
  ·simp[h3]
  ·simp[h4]
  ·simp
  ·intro ρ' g0 g4 g3
   rw[PF,← H4]at g3
   simp[F.f260r0,g4,hw1]
   apply ih <;> simp[g0,g3]
theorem Qew (l:List Pw) (o:Bool) (bs:List (List AV)) (hl:l.length < 5000000) (hN: ∀q∈l,-1000≤q.2∧q.2≤1000):
  call F.tb 260 [.sl o 5 (QG l)] bs=some (.sl false 4 (encTs ((Zm l).take 9)),bs):=by
 have h:=fun ρ=>Qiv l bs hl hN l [] false ρ rfl
 rw[Qa F.tb_260 _ _ rfl]
 simp[F.f260B,F.f260C]
 apply h <;> simp[YT,encTs]
theorem Qev (l:List Pw) (o:Bool) (bs:List (List AV)) (hl:l.length < 5000000) (hk: ∀q∈l,q.1.mass < big) (hm: (∀q∈l,-8≤q.2∧q.2≤8)→massL (Zm l) < big - 100):
  call F.tb 258 [.sl o 5 (QG l)] bs=some (QN (Zq l),bs):=by
 have h1:=LK l false bs (by omega) hk
 rw[Qa F.tb_258 _ _ rfl]
 by_cases hv:ZD l=0
 ·obtain⟨hinv,_,_⟩:=VR hv hk
  have h2:=Qew l false bs hl fun q hq=>(hinv.bd q hq).2
  by_cases c8:8 < (Zm l).length
  ·have c8': (8:Int) < ((min 9 (Zm l).length:Nat):Int):=by omega
   have e:Zq l=(QC,3):=by simp[Zq,hv,c8]
   rw[e]
   simp[F.f258B,F.f258C,h1,hv,h2,c8',F.f258R,F.f258K,QN,QE]
  ·have hN8: ∀q∈l,-8≤q.2∧q.2≤8:=by
    intro q hq
    have h3:=H6 hq
    have h4:=HX hq
    simp only[Zm,List.length_append]at c8
    omega
   have hm':=hm hN8
   have hpm: (Zj (Zm l)).mass < big:=by
    unfold big at *
    match h:Zm l with
    | []=>simp[Zj,Qq,massL,ONE]
    | [p]=>rw[h]at hm';simp[Zj,massL]at hm' ⊢;omega
    | p:: q:: r=>rw[h]at hm' c8;simp[Zj,Qq,massL,MUL]at hm' c8 ⊢;omega
   have hvv:=Yl (Zj (Zm l)) bs hpm
   have e:Zq l=if QK (Zj (Zm l))≠0 then(QC,QK (Zj (Zm l)))else(Zj (Zm l),0):=by simp[Zq,hv,c8]
   rw[e]
   rw[List.take_of_length_le (by omega)]at h2
   have ha:=Vj MUL (Zm l) false bs (by omega)
   have ha1:=Vj ONE [] true bs (by simp)
   simp only[MUL]at ha
   simp only[ONE,encTs]at ha1
   have c8': ¬(8:Int) < ((Zm l).length:Int):=by omega
   generalize hL:Zm l=L at *
   match L,hL with
   | [],hL=>
    simp only[Zj,ONE]at hvv
    simp only[encTs]at ha h2
    by_cases cv:QK (.mk 3 [111,110,101] 0 [])=0
    ·rw[cv]at hvv
     simp[F.f258B,F.f258C,h1,hv,h2,ha,ha1,hvv,cv,F.f258R,F.f258K,QN,Zj,ONE]
    ·simp[F.f258B,F.f258C,h1,hv,h2,ha,ha1,hvv,cv,F.f258R,F.f258K,QN,QE,Zj,ONE]
   | [p],hL=>
    simp only[Zj]at hvv
    by_cases cv:QK p=0
    ·rw[cv]at hvv
     simp[F.f258B,F.f258C,h1,hv,h2,ha,hvv,cv,F.f258R,F.f258K,QN,Zj]
    ·simp[F.f258B,F.f258C,h1,hv,h2,ha,hvv,cv,F.f258R,F.f258K,QN,QE,Zj]
   | p:: q:: r,hL=>
    simp only[Zj,MUL]at hvv
    have c8'': ¬(8:Int) < (r.length:Int)+1+1:=by simpa using c8'
    have n0: ¬(r.length:Int)+1+1=0:=by omega
    have n1: ¬(r.length:Int)+1+1=1:=by omega
    by_cases cv:QK (.mk 3 [109,117,108] 0 (p:: q:: r))=0
    ·rw[cv]at hvv
     simp[F.f258B,F.f258C,h1,hv,h2,ha,hvv,cv,c8'',n0,n1,F.f258R,F.f258K,QN,Zj,MUL]
    ·simp[F.f258B,F.f258C,h1,hv,h2,ha,hvv,cv,c8'',n0,n1,F.f258R,F.f258K,QN,QE,Zj,MUL]
 ·have e:Zq l=(QC,ZD l):=by simp[Zq,hv]
  rw[e]
  simp[F.f258B,F.f258C,h1,hv,F.f258R,F.f258K,QN,QE]
end Go.Am
