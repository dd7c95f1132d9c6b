/-
  Rc16, Rc17, Rc18, Rc19.
-/
import Derived.Test.YtpgbndmkiiakaaaGreatDoorG17
set_option linter.unusedVariables false
set_option linter.unusedSimpArgs false
namespace Go.Am
set_option maxRecDepth 8000
theorem HV: ∀(l:List Pw) (t:Tm) (n:Int),(Yc l t n).length≤l.length+1
 | [],_,_=>by simp[Yc]
 | p:: l,t,n=>by
  have:=HV l t n
  simp only[Yc]
  split
  ·simp;omega
  ·split
   ·split <;> simp <;> omega
   ·simp
theorem Uu: ∀{l:List Pw} {t:Tm} {n:Int} {q:Pw},q∈Yc l t n→q∈l∨q=(t,n)∨∃m,(t,m)∈l∧q=(t,m+n)∧m+n≠0
 | [],t,n,q,h=>by simp[Yc]at h;exact .inr (.inl h)
 | p:: l,t,n,q,h=>by
  simp only[Yc]at h
  split at h
  ·rcases List.mem_cons.1 h with h | h
   ·exact .inl (by simp[h])
   ·rcases Uu h with h | h | ⟨m,h1,h2⟩
    ·exact .inl (by simp[h])
    ·exact .inr (.inl h)
    ·exact .inr (.inr ⟨m,by simp[h1],h2⟩)
  ·split at h
   ·rename_i hc
    have he:=Z6 _ _ hc
    split at h
    ·exact .inl (by simp[h])
    ·rename_i hz
     rcases List.mem_cons.1 h with h | h
     ·exact .inr (.inr ⟨p.2,by rw[← he];simp,by rw[← he];exact h,hz⟩)
     ·exact .inl (by simp[h])
   ·rcases List.mem_cons.1 h with h | h
    ·exact .inr (.inl h)
    ·exact .inl h
theorem H1: ∀{l:List Pw} {t:Tm} {n:Int},Asc (XQ l)→Asc (XQ (Yc l t n))
 | [],t,n,_=>by simp[Yc,XQ,Asc]
 | p:: l,t,n,h=>by
  have h':=h
  simp only[XQ,List.map_cons]at h'
  obtain⟨h1,h2⟩:=Ye.1 h'
  simp only[Yc]
  split
  ·rename_i c
   simp only[XQ,List.map_cons]
   refine Ye.2 ⟨fun y hy=> ?_,H1 h2⟩
   obtain⟨q,hq,rfl⟩:=List.mem_map.1 hy
   rcases Uu hq with hq | rfl | ⟨m,hm,rfl,_⟩
   ·exact h1 _ (List.mem_map_of_mem hq)
   ·exact c
   ·exact c
  ·split
   ·split
    ·exact h2
    ·simp only[XQ,List.map_cons];exact h'
   ·rename_i c1 c2
    simp only[XQ,List.map_cons]
    have c3:Qm t p.1 < 0:=by have:=Y7 t p.1;omega
    refine Ye.2 ⟨fun y hy=> ?_,h'⟩
    rcases List.mem_cons.1 hy with rfl | hy
    ·exact c3
    ·exact Ys c3 (h1 y hy)
structure XR (l:List Pw) (b:Nat):Prop where
 asc:Asc (XQ l)
 nz:NZ l
 len:l.length≤b
 bd: ∀q∈l,q.1.mass < big∧ -(b:Int)≤q.2∧q.2≤b
theorem G7:XR [] 0:=⟨Asc.nil,fun q h=>by simp at h,by simp,fun q h=>by simp at h⟩
theorem XR.mono {l:List Pw} {b c:Nat} (h:XR l b) (hbc:b≤c):XR l c:=⟨h.asc,h.nz,Nat.le_trans h.len hbc,fun q hq=>by obtain⟨h1,h2,h3⟩:=h.bd q hq;exact⟨h1,by omega,by omega⟩⟩
theorem XR.add {l:List Pw} {b c:Nat} {t:Tm} {n:Int} (h:XR l b) (ht:t.mass < big) (hn:n≠0) (h1: -(c:Int)≤n) (h2:n≤c):XR (Yc l t n) (b+c):=by
 refine⟨H1 h.asc,?_,?_,?_⟩
 ·intro q hq
  rcases Uu hq with hq | rfl | ⟨m,hm,rfl,hz⟩
  ·exact h.nz q hq
  ·exact hn
  ·exact hz
 ·have:=HV l t n;have:=h.len;omega
 ·intro q hq
  rcases Uu hq with hq | rfl | ⟨m,hm,rfl,hz⟩
  ·obtain⟨a1,a2,a3⟩:=h.bd q hq;exact⟨a1,by omega,by omega⟩
  ·exact⟨ht,by simp;omega,by simp;omega⟩
  ·obtain⟨a1,a2,a3⟩:=h.bd _ hm;simp at a2 a3;exact⟨ht,by simp;omega,by simp;omega⟩
def uno (m:Int):Prop:=m=1∨m= -1
theorem uno.neg {m:Int} (h:uno m):uno (-m):=by rcases h with rfl | rfl <;> simp[uno]
theorem uno.ite {m:Int} (h:uno m) (c:Bool):uno (if c then -m else m):=by cases c <;> simp[h,h.neg]
theorem JI: ∀(t:Tm) (l:List Pw) (m:Int) (b:Nat),t.mass < big→uno m→XR l b→XR (XI l t m) (b+t.nodes):=by
 refine Zh ?_
 intro k n s ks ih l m b hm hu h
 have hne:=ZO (.mk k n s ks)
 have hme:=Qo (.mk k n s ks)
 simp only[QJ,Q3]at hne hme
 have hL: ∀(xs:List Tm) (l:List Pw) (m:Int) (b:Nat),(∀x∈xs,x∈ks)→uno m→XR l b→XR (colL l xs m) (b+nodesL xs):=by
  intro xs
  induction xs with
  | nil=>intro l m b _ _ h;simpa[colL,nodesL]using h
  | cons x xs IH=>
   intro l m b hx hu h
   have h1:=ih x (hx x (by simp)) l m b (by have:=Qz (hx x (by simp));omega) hu h
   have h2:=IH _ m _ (fun y hy=>hx y (by simp[hy])) hu h1
   simp only[colL,nodesL]
   rw[← Nat.add_assoc];exact h2
 rw[PT]
 split
 ·have:=hL ks l _ b (fun x hx=>hx) (hu.ite ((Tm.mk k n s ks).name == INV)) h
  exact this.mono (by omega)
 ·have:XR (Yc l (.mk k n s ks) m) (b+1):=h.add (c:=1) hm (by rcases hu with rfl | rfl <;> simp) (by rcases hu with rfl | rfl <;> simp) (by rcases hu with rfl | rfl <;> simp)
  exact this.mono (by omega)
theorem Dc {l:List Pw} {t:Tm} {m:Int} {b:Nat} (o:Bool) (bs:List (List AV)) (h:XR l b) (hb:b < 40000000) (ht:t.mass < big) (hm: -100000000 < m∧m < 100000000):
  call F.tb 257 [.sl o 5 (QH l),.agg (Qa t),.int .i64 m] bs=some (.sl false 5 (QH (Yc l t m)),bs):=by
 have hl:=h.len
 have hp:=fun ρ=>QcK l t m bs (by omega) (fun q hq=>by obtain⟨a1,a2,a3⟩:=h.bd q hq;exact⟨a1,by omega,by omega⟩) hm ht h.asc h.nz l [] [] false ρ rfl (by simp;omega)
 rw[Qb F.tb_257 _ _ rfl]
 simp only[List.nil_append]at hp
 simp[F.f257B,F.f257C]
 refine hp _ ?_ ?_ ?_ ?_ ?_ ?_ <;> simp[QH]
def QcD (l:List Pw) (bs:List (List AV)) (r:Out):Prop:=∃o,r=some (.sl o 5 (QH l),bs)
theorem BS (t:Tm) (bs:List (List AV)) (hm:t.mass < big) (m:Int) (hu:uno m) (ih: ∀x∈t.kids,∀l b o,XR l b→b+x.nodes < 40000000→QcD (XI l x m) bs (call F.tb 256 [.sl o 5 (QH l),.agg (Qa x),.int .i64 m] bs)):
  ∀(post pre:List Tm) (l:List Pw) (b:Nat) (o:Bool) (ρ:Nat→AV),t.kids=pre ++ post→XR l b→b+nodesL post < 40000000→ρ 0= .sl o 5 (QH l)→ρ 2= .int .i64 m→ρ 4= .bx (Qa t)→ρ 7= .int .i64 pre.length→
  QcD (colL l post m) bs (R F.tb (.loop F.f256l0) ρ bs (Qk 0 (Qv F.tb F.f256r0 (Qx F.f256 bs)))):=by
 have hm2:=Qo t
 have hmb:=hm
 unfold big at hm
 intro post
 induction post with
 | nil=>
  intro pre l b o ρ hk hl hb h0 h2 h4 h7
  simp only[List.append_nil]at hk
  rw[← hk]at h7
  rw[Qc F.f256l0.eq_1]
  refine⟨false,?_⟩
  simp[h0,h2,h4,h7,F.f256r0,F.f256R,F.f256K,colL]
 | cons x post IH=>
  intro pre l b o ρ hk hl hb h0 h2 h4 h7
  have hg:=Qp hk
  have hll:t.kids.length=pre.length+ (post.length+1):=by rw[hk];simp
  have hw1:IntKind.i64.wrap ((pre.length:Int)+1)=(pre.length:Int)+1:=Ql (by omega) (by omega)
  have hlt: (pre.length:Int) < (t.kids.length:Int):=by omega
  have hxk:x∈t.kids:=by rw[hk];simp
  simp only[nodesL]at hb
  obtain⟨o1,hc⟩:=ih x hxk l b false hl (by omega)
  have h3:=fun ρ=>IH (pre ++ [x]) (XI l x m) (b+x.nodes) o1 ρ (by rw[hk];simp) (JI x l m b (by have:=Qz hxk;omega) hu hl) (by omega)
  rw[Qc F.f256l0.eq_1]
  simp[h0,h2,h4,h7,hg,hlt,hw1,hc,QE,colL]
  refine h3 _ ?_ ?_ ?_ ?_ <;> simp[h2,h4]
theorem Qf7: ∀(t:Tm) (bs:List (List AV)) (m:Int) (l:List Pw) (b:Nat) (o:Bool),t.mass < big→uno m→XR l b→b+t.nodes < 40000000→QcD (XI l t m) bs (call F.tb 256 [.sl o 5 (QH l),.agg (Qa t),.int .i64 m] bs):=by
 refine Zh ?_
 intro k n s ks ih bs m l b o hm hu hl hb
 have hme:=Qo (.mk k n s ks)
 have hne:=ZO (.mk k n s ks)
 simp only[QJ,Q3]at hne hme
 have hsp:=Sf (.mk k n s ks) bs
 rw[Qb F.tb_256 _ _ rfl,PT]
 cases hs:Xy (.mk k n s ks)
 ·have hc:=Dc (t:= .mk k n s ks) (m:=m) false bs hl (by omega) hm (by rcases hu with rfl | rfl <;> simp)
  refine⟨false,?_⟩
  simp[F.f256B,F.f256C,hsp,hs,hc,F.f256R,F.f256K]
 ·have h2:=fun m hu ρ=>BS (.mk k n s ks) bs hm m hu (fun x hx l b o hl hb=>ih x hx bs m l b o (by have:=Qz hx;simp at this;omega) hu hl hb) ks [] l b false ρ rfl hl (by omega)
  cases hi:n == INV
  ·have h3:=h2 m hu
   simp only[INV]at hi
   simp[F.f256B,F.f256C,hsp,hs,hi,INV]
   refine h3 _ ?_ ?_ ?_ ?_ <;> simp
  ·have h3:=h2 (-m) hu.neg
   have hw:IntKind.i64.wrap (-m)= -m:=by rcases hu with rfl | rfl <;> rfl
   simp only[INV]at hi
   simp[F.f256B,F.f256C,hsp,hs,hi,hw,INV]
   refine h3 _ ?_ ?_ ?_ ?_ <;> simp
def Cb (B0:List (List AV)) (l:List Pw) (ok:Bool) (r:Out):Prop:=∃v B,r=some (.tup [v,.bool ok],B)∧PS B0 B v (if ok then l else [])
theorem WK {B0 B:List (List AV)} {v:AV} {l:List Pw} (h:PS B0 B v l): ∃id sz,v= .gs id 0 sz l.length:=by
 obtain⟨M,id,sz,_,rfl,_⟩:=h;exact⟨id,sz,rfl⟩
theorem N9 {B0 B:List (List AV)} {v:AV} {l:List Pw} (h:PS B0 B v l):PS B0 B (.gs 0 0 0 0) []:=by
 obtain⟨M,id,sz,rfl,_,_⟩:=h;exact⟨M,0,0,rfl,rfl,.inl ⟨rfl,rfl,rfl⟩⟩
theorem Qc0 (t:Tm) (B0:List (List AV)) (hm:t.mass < big) (m:Int) (hu:uno m) (ih: ∀x∈t.kids,∀B v l b,PS B0 B v l→XR l b→b+x.nodes < 40000000→Cb B0 (XI l x m) (arB x) (call F.tb 187 [v,.agg (Qa x),.int .i64 m] B)) (K:List (List AV)):
  ∀(post pre:List Tm) (l:List Pw) (b:Nat) (B:List (List AV)) (v:AV) (ρ:Nat→AV),t.kids=pre ++ post→PS B0 B v l→XR l b→b+nodesL post < 40000000→ρ 0=v→ρ 2= .int .i64 m→ρ 52= .sl false 4 (encTs t.kids)→ρ 53= .int .i64 t.kids.length→ρ 54= .int .i64 pre.length→
  Cb B0 (colL l post m) (arL post) (R F.tb (.loop F.f187l0) ρ B (Qk 1 (Qv F.tb F.f187r0 (Qx F.f187 K)))):=by
 have hm2:=Qo t
 have hmb:=hm
 unfold big at hm
 intro post
 induction post with
 | nil=>
  intro pre l b B v ρ hk hps hl hb h0 h2 h52 h53 h54
  simp only[List.append_nil]at hk
  rw[← hk]at h54
  obtain⟨id,sz,rfl⟩:=WK hps
  rw[Qc F.f187l0.eq_1]
  refine⟨_,B,?_,by simpa[colL,arL]using hps⟩
  simp[h0,h2,h52,h53,h54,F.f187r0,F.f187R,F.f187K,colL,arL]
 | cons x post IH=>
  intro pre l b B v ρ hk hps hl hb h0 h2 h52 h53 h54
  have hg:=Qp hk
  have hll:t.kids.length=pre.length+ (post.length+1):=by rw[hk];simp
  have hw1:IntKind.i64.wrap ((pre.length:Int)+1)=(pre.length:Int)+1:=Ql (by omega) (by omega)
  have hlt: (pre.length:Int) < (t.kids.length:Int):=by omega
  have hxk:x∈t.kids:=by rw[hk];simp
  simp only[nodesL]at hb
  obtain⟨v2,B2,hc,hps2⟩:=ih x hxk B v l b hps hl (by omega)
  obtain⟨id,sz,rfl⟩:=WK hps
  obtain⟨id2,sz2,rfl⟩:=WK hps2
  rw[Qc F.f187l0.eq_1]
  cases ha:arB x
  ·rw[ha]at hc hps2
   refine⟨.gs 0 0 0 0,B2,?_,by simpa[arL,ha]using N9 hps2⟩
   simp only[Bool.false_eq_true,if_false]at hc
   simp[h0,h2,h52,h53,h54,hg,hlt,hc,QE,arL,ha,F.f187R,F.f187K]
  ·rw[ha]at hc hps2
   simp only[if_true]at hc hps2
   have h3:=fun ρ=>IH (pre ++ [x]) (XI l x m) (b+x.nodes) B2 _ ρ (by rw[hk];simp) hps2 (JI x l m b (by have:=Qz hxk;omega) hu hl) (by omega)
   have e1:colL l (x:: post) m=colL (XI l x m) post m:=by simp[colL]
   have e2:arL (x:: post)=arL post:=by simp[arL,ha]
   rw[e1,e2]
   simp[h0,h2,h52,h53,h54,hg,hlt,hw1,hc,QE]
   refine h3 _ ?_ ?_ ?_ ?_ ?_ <;> simp[h2,h52,h53]
theorem QfG: ∀(t:Tm) (B0 B:List (List AV)) (v:AV) (l:List Pw) (m:Int) (b:Nat),t.mass < big→uno m→PS B0 B v l→XR l b→b+t.nodes < 40000000→Cb B0 (XI l t m) (arB t) (call F.tb 187 [v,.agg (Qa t),.int .i64 m] B):=by
 refine Zh ?_
 intro k n s ks ih B0 B v l m b hm hu hps hl hb
 have hme:=Qo (.mk k n s ks)
 have hne:=ZO (.mk k n s ks)
 simp only[QJ,Q3]at hne hme
 have hsp:=O7 (.mk k n s ks) B
 obtain⟨id,sz,rfl⟩:=WK hps
 rw[Qb F.tb_187 _ _ rfl,PT,QaX]
 cases hs:Xy (.mk k n s ks)
 ·obtain⟨v2,B2,hc,hps2⟩:=E1 (p:=(.mk k n s ks,m)) hps (by have:=hl.len;omega) (fun q hq=>by obtain⟨a1,a2,a3⟩:=hl.bd q hq;exact⟨a1,by omega,by omega⟩) hm (by rcases hu with rfl | rfl <;> simp) hl.asc
  obtain⟨id2,sz2,rfl⟩:=WK hps2
  have hf:Qa (.mk k n s ks)++ [.int .i64 m]=QZ (.mk k n s ks,m):=rfl
  refine⟨_,B2,?_,by simpa using hps2⟩
  simp[F.f187B,F.f187C,hsp,hs,List.take_append,List.drop_append,hf,hc,F.f187R,F.f187K]
 ·have h2:=fun m hu ρ=>Qc0 (.mk k n s ks) B0 hm m hu (fun x hx B v l b hps hl hb=>ih x hx B0 B v l m b (by have:=Qz hx;simp at this;omega) hu hps hl hb) B ks [] l b B _ ρ rfl hps hl (by omega)
  obtain⟨rfl,hn⟩:=Fs hs
  simp only[Q3]at hn
  simp only[QJ]at h2
  simp only[Bool.not_true,Bool.false_or,if_true]
  rcases hn with rfl | rfl | rfl
  ·have h3:=h2 m hu
   by_cases d:ks.length < 2
   ·have d': (ks.length:Int) < 2:=by omega
    have hc:Y9 (.mk 3 MUL s ks)=false:=by simp[Y9,d]
    refine⟨.gs 0 0 0 0,B,?_,by simpa[hc]using N9 hps⟩
    simp only[hc]
    simp[MUL]at hsp hs hc
    simp[F.f187B,F.f187C,hsp,hs,MUL,d',F.f187R,F.f187K]
   ·have d': ¬(ks.length:Int) < 2:=by omega
    have hc:Y9 (.mk 3 MUL s ks)=true:=by simp[Y9,d];simp[MUL,INV,ONE]
    have e: ((Tm.mk 3 MUL s ks).name == INV)=false:=by simp[MUL,INV]
    rw[e]
    simp only[hc,Bool.true_and,QJ,Bool.false_eq_true,if_false]
    simp[MUL]at hsp hs
    simp[F.f187B,F.f187C,hsp,hs,MUL,d']
    refine h3 _ ?_ ?_ ?_ ?_ ?_ <;> simp
  ·have h3:=h2 (-m) hu.neg
   have hw:IntKind.i64.wrap (-m)= -m:=by rcases hu with rfl | rfl <;> rfl
   by_cases d:ks.length=1
   ·have d': (ks.length:Int)=1:=by omega
    have hc:Y9 (.mk 3 INV s ks)=true:=by simp[Y9,d];simp[MUL,INV,ONE]
    have e: ((Tm.mk 3 INV s ks).name == INV)=true:=by simp
    rw[e]
    simp only[hc,Bool.true_and,QJ,if_true]
    simp[INV]at hsp hs
    simp[F.f187B,F.f187C,hsp,hs,INV,d',hw]
    refine h3 _ ?_ ?_ ?_ ?_ ?_ <;> simp[d]
   ·have d': ¬(ks.length:Int)=1:=by omega
    have hc:Y9 (.mk 3 INV s ks)=false:=by simp[Y9,d]
    refine⟨.gs 0 0 0 0,B,?_,by simpa[hc]using N9 hps⟩
    simp only[hc]
    simp[INV]at hsp hs hc
    simp[F.f187B,F.f187C,hsp,hs,INV,d',F.f187R,F.f187K]
  ·have h3:=h2 m hu
   by_cases d:ks=[]
   ·subst d
    have hc:Y9 (.mk 3 ONE s [])=true:=by simp[Y9];simp[MUL,INV,ONE]
    have e: ((Tm.mk 3 ONE s []).name == INV)=false:=by simp[ONE,INV]
    rw[e]
    simp only[hc,Bool.true_and,QJ,Bool.false_eq_true,if_false]
    simp[ONE]at hsp hs
    simp[F.f187B,F.f187C,hsp,hs,ONE]
    refine h3 _ ?_ ?_ ?_ ?_ ?_ <;> simp
   ·have d0: ¬ks.length=0:=fun e=>d (List.eq_nil_of_length_eq_zero e)
    have d': ¬(ks.length:Int)=0:=by omega
    have hc:Y9 (.mk 3 ONE s ks)=false:=by simp[Y9,d]
    refine⟨.gs 0 0 0 0,B,?_,by simpa[hc]using N9 hps⟩
    simp only[hc]
    simp[ONE]at hsp hs hc
    simp[F.f187B,F.f187C,hsp,hs,ONE,d,d',F.f187R,F.f187K]
def ofE (t:Tm):Int:=if QF t≠0 then QF t else if arB t then(if 200 < (XI [] t 1).length then 3 else 0)else 6
def ofP (t:Tm):List Pw:=if ofE t=0 then XI [] t 1 else []
theorem KJ (t:Tm) (bs:List (List AV)) (hm:t.mass < 30000000):call F.tb 253 [.agg (Qa t)] bs=some (.tup [.sl false 5 (QH (ofP t)),.int .i64 (ofE t)],bs):=by
 have hmb:t.mass < big:=by unfold big;omega
 have hnm:=Zj t
 have h1:=Yv t bs hmb
 have h2:=CH t bs hmb
 obtain⟨o,h3⟩:=Qf7 t bs 1 [] 0 true hmb (.inl rfl) G7 (by omega)
 have h3':call F.tb 256 [.sl true 5 [],.agg (Qa t),.int .i64 1] bs=some (.sl o 5 (QH (XI [] t 1)),bs):=h3
 rw[Qb F.tb_253 _ _ rfl]
 by_cases hv:QF t=0
 ·cases ha:arB t
  ·simp[F.f253B,F.f253C,F.f253R,F.f253K,h1,h2,hv,ha,ofE,ofP,QH]
  ·by_cases hl:200 < (XI [] t 1).length
   ·have hl': (200:Int) < ((XI [] t 1).length:Int):=by omega
    simp[F.f253B,F.f253C,F.f253R,F.f253K,h1,h2,h3',hv,ha,ofE,ofP,hl,hl']
    simp[QH]
   ·have hl': ¬(200:Int) < ((XI [] t 1).length:Int):=by omega
    simp[F.f253B,F.f253C,F.f253R,F.f253K,h1,h2,h3',hv,ha,ofE,ofP,hl,hl']
 ·simp[F.f253B,F.f253C,F.f253R,F.f253K,h1,hv,ofE,ofP,QH]
theorem QkB {B0 B:List (List AV)} {v:AV} {l:List Pw} (h:PS B0 B v l) (n:Nat): ∃o M2,∀ρ:Nat→AV,ρ n=v→Z4 {env:=ρ,bs:=B} n 5=some (.sl o 5 (QH l),{env:=upd ρ n .undef,bs:=B0 ++ M2}):=by
 obtain⟨M,id,sz,rfl,rfl,hc⟩:=h
 rcases hc with⟨rfl,rfl,rfl⟩ | ⟨rfl,hid,t,hb,hne⟩
 ·exact⟨true,M,fun ρ hn=>by simp[Z4,hn,QH]⟩
 ·by_cases hl:l.length=0
  ·have:l=[]:=List.eq_nil_of_length_eq_zero hl
   subst this
   exact⟨false,M,fun ρ hn=>by simp[Z4,hn,QH]⟩
  ·refine⟨true,M.set (id - B0.length) [],fun ρ hn=> ?_⟩
   have hle:0+l.length*5≤(QM l ++ t).length:=by rw[List.length_append,YJ];omega
   have hch:ZU (QM l ++ t) 0 5 l.length=QH l:=Xx (f:=QZ) (k:=5) Wk WH l t
   simp only[Z4,hn]
   rw[if_pos ⟨trivial,by omega⟩,if_neg hl,hb]
   simp only[Option.bind_some]
   rw[if_pos hle,hch,Y0 hid]
   rfl
theorem KF (t:Tm) (bs:List (List AV)) (hm:t.mass < 30000000):call F.tb 186 [.agg (Qa t)] bs=some (.tup [.sl false 5 (QH (ofP t)),.int .i64 (ofE t)],bs):=by
 have hmb:t.mass < big:=by unfold big;omega
 have hnm:=Zj t
 have h1:=Xp t bs hmb
 obtain⟨v,B,hc,hps⟩:=QfG t bs bs (.gs 0 0 0 0) [] 1 0 hmb (.inl rfl) (QbT bs) G7 (by omega)
 obtain⟨id,sz,rfl⟩:=WK hps
 obtain⟨M,hM⟩: ∃M,B=bs ++ M:=by obtain⟨M,_,_,h,_⟩:=hps;exact⟨M,h⟩
 have hgn:=MD (XI [] t 1)
 rw[Qb F.tb_186 _ _ rfl]
 by_cases hv:QF t=0
 ·cases ha:arB t
  ·rw[ha]at hc hps
   simp only[Bool.false_eq_true,if_false]at hc
   simp[F.f186B,F.f186C,F.f186R,F.f186K,h1,hv,hc,ha,ofE,ofP,QH,hM]
  ·rw[ha]at hc hps
   simp only[if_true]at hc hps
   by_cases hl:200 < (XI [] t 1).length
   ·have hl': (200:Int) < ((XI [] t 1).length:Int):=by omega
    simp[F.f186B,F.f186C,F.f186R,F.f186K,h1,hv,hc,ha,ofE,ofP,hl,hl',hM]
    simp[QH]
   ·have hl': ¬(200:Int) < ((XI [] t 1).length:Int):=by omega
    obtain⟨o,M2,hf⟩:=QkB hps 24
    simp[F.f186B,F.f186C,F.f186R,F.f186K,h1,hv,hc,ha,ofE,ofP,hl,hl',hf]
 ·simp[F.f186B,F.f186C,F.f186R,F.f186K,h1,hv,ofE,ofP,QH]
end Go.Am
namespace Go.Am
set_option maxRecDepth 8000
def gtO (prev:Option Tm) (t:Tm):Bool:=match prev with
 | none=>true
 | some q=>decide (Qm q t < 0)
def YB (n:Int):Bool:=decide (n < -1000) || decide (1000 < n)
def vPL:Option Tm→List Pw→Int
 | _,[]=>0
 | prev,p:: r=>if QF p.1≠0 then QF p.1 else if Xy p.1 then 1 else if p.2=0∨YB p.2=true then 7 else if gtO prev p.1 then vPL (some p.1) r else 5
def ZP (l:List Pw):Int:=if 200 < l.length then 3 else vPL none l
def LG (l:List Pw):Option Tm:=l.getLast?.map (·.1)
theorem JA:LG []=none:=rfl
theorem SP (l:List Pw) (p:Pw):LG (l ++ [p])=some p.1:=by simp[LG]
theorem BJ (l:List Pw) (bs:List (List AV)) (hl:l.length < 100000000) (hm: ∀q∈l,q.1.mass < big):
  ∀(post pre:List Pw) (o:Bool) (ρ:Nat→AV),l=pre ++ post→ρ 0= .sl o 5 (QH l)→ρ 9= .sl false 5 (QH l)→ρ 10= .int .i64 l.length→ρ 11= .int .i64 pre.length→
  R F.tb (.loop F.f197l0) ρ bs (Qk 0 (Qv F.tb F.f197r0 (Qx F.f197 bs)))=some (.int .i64 (vPL (LG pre) post),bs):=by
 intro post
 induction post with
 | nil=>
  intro pre o ρ hk h0 h9 h10 h11
  simp only[List.append_nil]at hk
  rw[← hk]at h11
  rw[Qc F.f197l0.eq_1]
  simp[h0,h9,h10,h11,F.f197r0,F.f197R,F.f197K,vPL]
 | cons p post IH=>
  intro pre o ρ hk h0 h9 h10 h11
  have hg:=Qp hk
  have hll:l.length=pre.length+ (post.length+1):=by rw[hk];simp
  have hw1:IntKind.i64.wrap ((pre.length:Int)+1)=(pre.length:Int)+1:=Ql (by omega) (by omega)
  have hlt: (pre.length:Int) < (l.length:Int):=by omega
  have hmp:=hm p (by rw[hk];simp)
  have h1:=Xp p.1 bs hmp
  have h2:=O7 p.1 bs
  have h3:=fun ρ=>IH (pre ++ [p]) o ρ (by rw[hk];simp)
  rw[SP]at h3
  rw[Qc F.f197l0.eq_1]
  by_cases c1:QF p.1=0
  ·cases c2:Xy p.1
   ·by_cases c3:p.2=0
    ·simp[h0,h9,h10,h11,hg,hlt,h1,h2,c1,c2,c3,F.f197R,F.f197K,vPL]
    ·by_cases c4:p.2 < -1000
     ·simp[h0,h9,h10,h11,hg,hlt,h1,h2,c1,c2,c3,c4,F.f197R,F.f197K,vPL,YB]
     ·by_cases c5:1000 < p.2
      ·simp[h0,h9,h10,h11,hg,hlt,h1,h2,c1,c2,c3,c4,c5,F.f197R,F.f197K,vPL,YB]
      ·rcases List.eq_nil_or_concat pre with rfl | ⟨pre2,q,rfl⟩
       ·have h11':ρ 11= .int .i64 0:=h11
        have hg':l[0]? =some p:=hg
        have hlt':0 < l.length:=by omega
        have hw0:IntKind.i64.wrap 1=1:=rfl
        clear h11 hg hlt hw1
        simp[-getElem?_pos,h0,h9,h10,h11',hg',hlt',hw0,h1,h2,c1,c2,c3,c4,c5,vPL,YB,JA,gtO]
        refine h3 _ ?_ ?_ ?_ ?_ <;> simp[h0,h9,h10]
       ·have hg2:l[pre2.length]? =some q:=by rw[hk];simp
        have hq:=hm q (by rw[hk];simp)
        have h4:=call_Compare q.1 p.1 bs hq hmp
        have hp0: (0:Int) < (pre2.length:Int)+1:=by omega
        have hp1: (0:Int)≤(pre2.length:Int)+1:=by omega
        have hp2: ((pre2.length:Int)+1).toNat=pre2.length+1:=by omega
        have hw2:IntKind.i64.wrap (pre2.length:Int)=(pre2.length:Int):=Ql (by simp at hll;omega) (by simp at hll;omega)
        simp only[List.concat_eq_append]at *
        rw[SP]
        simp only[List.length_append,List.length_singleton,Int.natCast_add,Int.natCast_one]at h11 hg hlt hw1 h3
        by_cases c6:Qm q.1 p.1 < 0
        ·have c6': ¬0≤Qm q.1 p.1:=by omega
         simp[h0,h9,h10,h11,hg,hg2,hlt,hw1,hw2,hp0,hp1,hp2,h1,h2,h4,c1,c2,c3,c4,c5,c6,c6',vPL,YB,gtO]
         refine h3 _ ?_ ?_ ?_ ?_ <;> simp[h0,h9,h10]
        ·have c6':0≤Qm q.1 p.1:=by omega
         simp[h0,h9,h10,h11,hg,hg2,hlt,hw1,hw2,hp0,hp1,hp2,h1,h2,h4,c1,c2,c3,c4,c5,c6,c6',vPL,YB,gtO,F.f197R,F.f197K]
   ·simp[h0,h9,h10,h11,hg,hlt,h1,h2,c1,c2,F.f197R,F.f197K,vPL]
  ·simp[h0,h9,h10,h11,hg,hlt,h1,h2,c1,F.f197R,F.f197K,vPL]
theorem KH (l:List Pw) (o:Bool) (bs:List (List AV)) (hl:l.length < 100000000) (hm: ∀q∈l,q.1.mass < big):call F.tb 197 [.sl o 5 (QH l)] bs=some (.int .i64 (ZP l),bs):=by
 have h:=fun ρ=>BJ l bs hl hm l [] false ρ rfl
 rw[Qb F.tb_197 _ _ rfl]
 by_cases c:200 < l.length
 ·have c': (200:Int) < (l.length:Int):=by omega
  simp[F.f197B,F.f197C,F.f197R,F.f197K,c,c',ZP]
 ·have c': ¬(200:Int) < (l.length:Int):=by omega
  simp[F.f197B,F.f197C,c,c',ZP]
  refine h _ ?_ ?_ ?_ ?_ <;> simp
theorem Fy (l:List Pw) (bs:List (List AV)) (hl:l.length < 100000000) (hm: ∀q∈l,q.1.mass < big):
  ∀(post pre:List Pw) (o:Bool) (ρ:Nat→AV),l=pre ++ post→ρ 0= .sl o 5 (QH l)→ρ 3= .int .i64 pre.length→
  R F.tb (.loop F.f259l0) ρ bs (Qk 0 (Qv F.tb F.f259r0 (Qx F.f259 bs)))=some (.int .i64 (vPL (LG pre) post),bs):=by
 intro post
 induction post with
 | nil=>
  intro pre o ρ hk h0 h3
  simp only[List.append_nil]at hk
  rw[← hk]at h3
  rw[Qc F.f259l0.eq_1]
  simp[h0,h3,F.f259r0,F.f259R,F.f259K,vPL]
 | cons p post IH=>
  intro pre o ρ hk h0 h3
  have hg:=Qp hk
  have hll:l.length=pre.length+ (post.length+1):=by rw[hk];simp
  have hw1:IntKind.i64.wrap ((pre.length:Int)+1)=(pre.length:Int)+1:=Ql (by omega) (by omega)
  have hlt: (pre.length:Int) < (l.length:Int):=by omega
  have hmp:=hm p (by rw[hk];simp)
  have h1:=Yv p.1 bs hmp
  have h2:=Sf p.1 bs
  have hh:=fun ρ=>IH (pre ++ [p]) o ρ (by rw[hk];simp)
  rw[SP]at hh
  rw[Qc F.f259l0.eq_1]
  by_cases c1:QF p.1=0
  ·cases c2:Xy p.1
   ·by_cases c3:p.2=0
    ·simp[h0,h3,hg,hlt,h1,h2,c1,c2,c3,F.f259R,F.f259K,vPL]
    ·by_cases c4:p.2 < -1000
     ·simp[h0,h3,hg,hlt,h1,h2,c1,c2,c3,c4,F.f259R,F.f259K,vPL,YB]
     ·by_cases c5:1000 < p.2
      ·simp[h0,h3,hg,hlt,h1,h2,c1,c2,c3,c4,c5,F.f259R,F.f259K,vPL,YB]
      ·rcases List.eq_nil_or_concat pre with rfl | ⟨pre2,q,rfl⟩
       ·have h3':ρ 3= .int .i64 0:=h3
        have hg':l[0]? =some p:=hg
        have hlt':0 < l.length:=by omega
        have hw0:IntKind.i64.wrap 1=1:=rfl
        clear h3 hg hlt hw1
        simp[-getElem?_pos,h0,h3',hg',hlt',hw0,h1,h2,c1,c2,c3,c4,c5,vPL,YB,JA,gtO]
        refine hh _ ?_ ?_ <;> simp[h0]
       ·have hg2:l[pre2.length]? =some q:=by rw[hk];simp
        have hq:=hm q (by rw[hk];simp)
        have h4:=XW q.1 p.1 bs hq hmp
        have hp0: (0:Int) < (pre2.length:Int)+1:=by omega
        have hp1: (0:Int)≤(pre2.length:Int)+1:=by omega
        have hp2: ((pre2.length:Int)+1).toNat=pre2.length+1:=by omega
        have hw2:IntKind.i64.wrap (pre2.length:Int)=(pre2.length:Int):=Ql (by simp at hll;omega) (by simp at hll;omega)
        simp only[List.concat_eq_append]at *
        rw[SP]
        simp only[List.length_append,List.length_singleton,Int.natCast_add,Int.natCast_one]at h3 hg hlt hw1 hh
        by_cases c6:Qm q.1 p.1 < 0
        ·have c6': ¬0≤Qm q.1 p.1:=by omega
         simp[h0,h3,hg,hg2,hlt,hw1,hw2,hp0,hp1,hp2,h1,h2,h4,c1,c2,c3,c4,c5,c6,c6',vPL,YB,gtO]
         refine hh _ ?_ ?_ <;> simp[h0]
        ·have c6':0≤Qm q.1 p.1:=by omega
         simp[h0,h3,hg,hg2,hlt,hw1,hw2,hp0,hp1,hp2,h1,h2,h4,c1,c2,c3,c4,c5,c6,c6',vPL,YB,gtO,F.f259R,F.f259K]
   ·simp[h0,h3,hg,hlt,h1,h2,c1,c2,F.f259R,F.f259K,vPL]
  ·simp[h0,h3,hg,hlt,h1,h2,c1,F.f259R,F.f259K,vPL]
theorem KL (l:List Pw) (o:Bool) (bs:List (List AV)) (hl:l.length < 100000000) (hm: ∀q∈l,q.1.mass < big):call F.tb 259 [.sl o 5 (QH l)] bs=some (.int .i64 (ZP l),bs):=by
 have h:=fun ρ=>Fy l bs hl hm l [] false ρ rfl
 rw[Qb F.tb_259 _ _ rfl]
 by_cases c:200 < l.length
 ·have c': (200:Int) < (l.length:Int):=by omega
  simp[F.f259B,F.f259C,F.f259R,F.f259K,c,c',ZP]
 ·have c': ¬(200:Int) < (l.length:Int):=by omega
  simp[F.f259B,F.f259C,c,c',ZP]
  refine h _ ?_ ?_ <;> simp
theorem Qcq: ∀(l:List Pw) (prev:Option Tm),vPL prev l=0→(∀q∈l,QF q.1=0∧Xy q.1=false∧q.2≠0∧ -1000≤q.2∧q.2≤1000)∧Asc (XQ l)∧(∀a,prev=some a→∀q∈l,Qm a q.1 < 0)
 | [],prev,_=>⟨fun q h=>by simp at h,Asc.nil,fun a _ q h=>by simp at h⟩
 | p:: r,prev,h=>by
  simp only[vPL]at h
  split at h
  ·rename_i c;exact absurd h c
  rename_i c1
  split at h
  ·cases h
  rename_i c2
  split at h
  ·cases h
  rename_i c3
  split at h
  ·rename_i c4
   obtain⟨h1,h2,h3⟩:=Qcq r (some p.1) h
   have hpr:=h3 p.1 rfl
   refine⟨fun q hq=> ?_,?_,?_⟩
   ·rcases List.mem_cons.1 hq with rfl | hq
    ·simp[YB]at c3
     exact⟨by simpa using c1,by simpa using c2,c3.1,c3.2.1,c3.2.2⟩
    ·exact h1 q hq
   ·simp only[XQ,List.map_cons]
    refine Ye.2 ⟨fun y hy=> ?_,h2⟩
    obtain⟨q,hq,rfl⟩:=List.mem_map.1 hy
    exact hpr q hq
   ·intro a ha q hq
    subst ha
    have c5:Qm a p.1 < 0:=by simpa[gtO]using c4
    rcases List.mem_cons.1 hq with rfl | hq
    ·exact c5
    ·exact Ys c5 (hpr q hq)
  ·cases h
theorem Ur {l:List Pw} (h:ZP l=0) (hm: ∀q∈l,q.1.mass < big):XR l 1000∧l.length≤200∧∀q∈l,QF q.1=0∧Xy q.1=false:=by
 unfold ZP at h
 split at h
 ·cases h
 ·obtain⟨h1,h2,_⟩:=Qcq l none h
  exact⟨⟨h2,fun q hq=>(h1 q hq).2.2.1,by omega,fun q hq=>⟨hm q hq,(h1 q hq).2.2.2.1,(h1 q hq).2.2.2.2⟩⟩,by omega,fun q hq=>⟨(h1 q hq).1,(h1 q hq).2.1⟩⟩
end Go.Am
namespace Go.Am
set_option maxRecDepth 8000
def VO (t:Tm):Tm:= .mk 3 INV 0 [t]
def Xf (l:List Pw):List Tm:=(l.map fun p=>List.replicate p.2.toNat p.1).flatten
def Xu (l:List Pw):List Tm:=(l.map fun p=>List.replicate (-p.2).toNat (VO p.1)).flatten
def Zx (l:List Pw):List Tm:=Xf l ++ Xu l
def Zu:List Tm→Tm
 | []=> .mk 3 ONE 0 []
 | [p]=>p
 | p:: q:: r=> .mk 3 MUL 0 (p:: q:: r)
def ZA (l:List Pw):Tm×Int:=
 if ZP l≠0 then(Qy,ZP l)else if 8 < (Zx l).length then(Qy,3)else if QF (Zu (Zx l))≠0 then(Qy,QF (Zu (Zx l)))else(Zu (Zx l),0)
theorem Fa (a:List Pw) (p:Pw):Xf (a ++ [p])=Xf a ++ List.replicate p.2.toNat p.1:=by simp[Xf]
theorem G0 (a:List Pw) (p:Pw):Xu (a ++ [p])=Xu a ++ List.replicate (-p.2).toNat (VO p.1):=by simp[Xu]
theorem Fb {l:List Pw} (h: ∀q∈l,q.2≤8): (Xf l).length≤8*l.length:=by
 induction l with
 | nil=>simp[Xf]
 | cons p l ih=>
  have h1:=ih fun q hq=>h q (by simp[hq])
  have h2:=h p (by simp)
  simp only[Xf,List.map_cons,List.flatten_cons,List.length_append,List.length_replicate,List.length_cons]at h1 ⊢
  omega
theorem G1 {l:List Pw} (h: ∀q∈l,-8≤q.2): (Xu l).length≤8*l.length:=by
 induction l with
 | nil=>simp[Xu]
 | cons p l ih=>
  have h1:=ih fun q hq=>h q (by simp[hq])
  have h2:=h p (by simp)
  simp only[Xu,List.map_cons,List.flatten_cons,List.length_append,List.length_replicate,List.length_cons]at h1 ⊢
  omega
theorem Fc {l:List Pw} {p:Pw} (h:p∈l):p.2.toNat≤(Xf l).length:=by
 induction l with
 | nil=>simp at h
 | cons q l ih=>
  simp only[Xf,List.map_cons,List.flatten_cons,List.length_append,List.length_replicate]at ih ⊢
  rcases List.mem_cons.1 h with rfl | h
  ·omega
  ·have:=ih h;omega
theorem G2 {l:List Pw} {p:Pw} (h:p∈l): (-p.2).toNat≤(Xu l).length:=by
 induction l with
 | nil=>simp at h
 | cons q l ih=>
  simp only[Xu,List.map_cons,List.flatten_cons,List.length_append,List.length_replicate]at ih ⊢
  rcases List.mem_cons.1 h with rfl | h
  ·omega
  ·have:=ih h;omega
theorem KI (n:List UInt8) (ks:List Tm) (o:Bool) (bs:List (List AV)):call F.tb 198 [.str n,.sl o 4 (encTs ks)] bs=some (.agg (Qa (.mk 3 n 0 ks)),bs):=by
 rw[Qb F.tb_198 _ _ rfl]
 simp[F.f198,F.f198C,X6]
theorem Ma {k:Nat} (acc:List Tm) (x:Tm): (acc ++ [x])++ List.replicate k x=acc ++ List.replicate (k+1) x:=by simp[List.replicate_succ]
theorem QhY {p:Pw} {bs:List (List AV)} (hp:p.1.mass < big) (hN: -8≤p.2∧p.2≤8) (c:AC) (K:Kn) (X:Out): ∀(k:Nat) (acc:List Tm) (i:Nat) (ρ:Nat→AV),i+k=p.2.toNat→acc.length+k < 100000000→ρ 5= .sl true 4 (encTs acc)→ρ 8= .bx (QZ p)→ρ 34= .int .i64 p.2→ρ 35= .int .i64 i→
  (∀ρ':Nat→AV,ρ' 5= .sl true 4 (encTs (acc ++ List.replicate k p.1))→(∀j,j < 34→j≠5→ρ' j=ρ j)→R F.tb c ρ' bs K=X)→
  R F.tb (.loop F.f196l0) ρ bs (Qk 2 (Qv F.tb c K))=X:=by
 intro k
 induction k with
 | zero=>
  intro acc i ρ hi hl h5 h8 h34 h35 h
  have hn: ¬(i:Int) < p.2:=by omega
  rw[Qc F.f196l0.eq_1]
  simp[h5,h8,h34,h35,hn]
  apply h
  ·simp[h5]
  ·intro j hj h5j
   have:j≠36:=by omega
   simp[this]
 | succ k IH=>
  intro acc i ρ hi hl h5 h8 h34 h35 h
  have hn: (i:Int) < p.2:=by omega
  have hw1:IntKind.i64.wrap ((i:Int)+1)=((i+1:Nat):Int):=by rw[Ql (by omega) (by omega)];omega
  have hb: (acc.length+1)*56≤140737488355328:=Yr (by omega)
  have hc:=UM p.1 bs hp
  rw[Qc F.f196l0.eq_1]
  simp[h5,h8,h34,h35,hn,hw1,hb,hc,Zb,QQ]
  refine IH (acc ++ [p.1]) (i+1) _ (by omega) (by simp;omega) ?_ ?_ ?_ ?_ ?_
  ·simp
  ·simp[h8]
  ·simp[h34]
  ·simp
  ·intro ρ' g5 gj
   rw[Ma]at g5
   refine h ρ' g5 fun j hj h5j=> ?_
   rw[gj j hj h5j]
   have e1:j≠35:=by omega
   have e2:j≠36:=by omega
   have e3:j≠37:=by omega
   have e4:j≠38:=by omega
   have e5:j≠39:=by omega
   have e6:j≠40:=by omega
   have e7:j≠41:=by omega
   have e8:j≠42:=by omega
   have e9:j≠43:=by omega
   simp[*]
theorem QhZ {p:Pw} {bs:List (List AV)} (hp:p.1.mass < big) (hN: -8≤p.2∧p.2≤8) (c:AC) (K:Kn) (X:Out): ∀(k:Nat) (acc:List Tm) (i:Nat) (ρ:Nat→AV),i+k=(-p.2).toNat→acc.length+k < 100000000→ρ 6= .sl true 4 (encTs acc)→ρ 8= .bx (QZ p)→ρ 46= .int .i64 (-p.2)→ρ 47= .int .i64 i→
  (∀ρ':Nat→AV,ρ' 6= .sl true 4 (encTs (acc ++ List.replicate k (VO p.1)))→(∀j,j < 34→j≠6→ρ' j=ρ j)→R F.tb c ρ' bs K=X)→
  R F.tb (.loop F.f196l1) ρ bs (Qk 4 (Qk 1 (Qv F.tb c K)))=X:=by
 intro k
 induction k with
 | zero=>
  intro acc i ρ hi hl h6 h8 h46 h47 h
  have hn: ¬(i:Int) < -p.2:=by omega
  rw[Qc F.f196l1.eq_1]
  simp[h6,h8,h46,h47,hn]
  apply h
  ·simp[h6]
  ·intro j hj h5j
   have:j≠48:=by omega
   simp[this]
 | succ k IH=>
  intro acc i ρ hi hl h6 h8 h46 h47 h
  have hn: (i:Int) < -p.2:=by omega
  have hw1:IntKind.i64.wrap ((i:Int)+1)=((i+1:Nat):Int):=by rw[Ql (by omega) (by omega)];omega
  have hb: (acc.length+1)*56≤140737488355328:=Yr (by omega)
  have hc:=UM p.1 bs hp
  have hc2:=KI INV [p.1] false bs
  simp only[INV]at hc2
  rw[Qc F.f196l1.eq_1]
  simp[h6,h8,h46,h47,hn,hw1,hb,hc,hc2,Zb]
  rw[show Qa (Tm.mk 3 [105,110,118] 0 [p.1])=Qa (VO p.1)from rfl]
  simp[Zb,QQ]
  refine IH (acc ++ [VO p.1]) (i+1) _ (by omega) (by simp;omega) ?_ ?_ ?_ ?_ ?_
  ·simp[VO,INV]
  ·simp[h8]
  ·simp[h46]
  ·simp
  ·intro ρ' g6 gj
   rw[Ma]at g6
   refine h ρ' g6 fun j hj h5j=> ?_
   rw[gj j hj h5j]
   have e1:j≠47:=by omega
   have e2:j≠48:=by omega
   have e3:j≠49:=by omega
   have e4:j≠50:=by omega
   have e5:j≠51:=by omega
   have e6:j≠52:=by omega
   have e7:j≠53:=by omega
   have e8:j≠54:=by omega
   have e9:j≠55:=by omega
   have e10:j≠56:=by omega
   have e11:j≠57:=by omega
   simp[*]
theorem Qh1 (l:List Pw) (bs:List (List AV)) (hv:ZP l=0) (hl: (Zx l).length < 100000000) (hm:massL (Zx l) < big - 100) (ρ:Nat→AV) (h2:ρ 2= .bx [.int .i64 0,.str [],.int .i64 0,.sl true 4 []]) (h5:ρ 5= .sl true 4 (encTs (Xf l))) (h6:ρ 6= .sl true 4 (encTs (Xu l))):
  R F.tb F.f196r2 ρ bs (Qx F.f196 bs)=some (QL (ZA l),bs):=by
 have hc:=Me [Xf l,Xu l] false bs (by simp) (by simpa[Zx]using hl)
 have hfl: [Xf l,Xu l].flatten=Zx l:=by simp[Zx]
 rw[hfl]at hc
 simp only[UN,List.map_cons,List.map_nil]at hc
 have ha:=KI MUL (Zx l) false bs
 have ha1:=KI ONE [] true bs
 simp only[MUL]at ha
 simp only[ONE,encTs]at ha1
 by_cases c8:8 < (Zx l).length
 ·have c8': (8:Int) < ((Zx l).length:Int):=by omega
  have e:ZA l=(Qy,3):=by simp[ZA,hv,c8]
  rw[e]
  simp[F.f196r2,h2,h5,h6,hc,c8',F.f196R,F.f196K,QL,QA]
 ·have c8': ¬(8:Int) < ((Zx l).length:Int):=by omega
  have hpm: (Zu (Zx l)).mass < big:=by
   unfold big at *
   match h:Zx l with
   | []=>simp[Zu,Qo,massL,ONE]
   | [p]=>rw[h]at hm;simp[Zu,massL]at hm ⊢;omega
   | p:: q:: r=>rw[h]at hm c8;simp[Zu,Qo,massL,MUL]at hm c8 ⊢;omega
  have hvv:=Xp (Zu (Zx l)) bs hpm
  have e:ZA l=if QF (Zu (Zx l))≠0 then(Qy,QF (Zu (Zx l)))else(Zu (Zx l),0):=by simp[ZA,hv,c8]
  rw[e]
  generalize hL:Zx l=L at *
  match L,hL with
  | [],hL=>
   simp only[Zu,ONE]at hvv
   simp only[encTs]at ha hc
   by_cases cv:QF (.mk 3 [111,110,101] 0 [])=0
   ·rw[cv]at hvv
    simp[F.f196r2,h2,h5,h6,hc,ha,ha1,hvv,cv,F.f196R,F.f196K,QL,Zu,ONE]
   ·simp[F.f196r2,h2,h5,h6,hc,ha,ha1,hvv,cv,F.f196R,F.f196K,QL,QA,Zu,ONE]
  | [p],hL=>
   simp only[Zu]at hvv
   by_cases cv:QF p=0
   ·rw[cv]at hvv
    simp[F.f196r2,h2,h5,h6,hc,ha,hvv,cv,F.f196R,F.f196K,QL,Zu]
   ·simp[F.f196r2,h2,h5,h6,hc,ha,hvv,cv,F.f196R,F.f196K,QL,QA,Zu]
  | p:: q:: r,hL=>
   simp only[Zu,MUL]at hvv
   have c8'': ¬(8:Int) < (r.length:Int)+1+1:=by simpa using c8'
   have n0: ¬(r.length:Int)+1+1=0:=by omega
   have n1: ¬(r.length:Int)+1+1=1:=by omega
   by_cases cv:QF (.mk 3 [109,117,108] 0 (p:: q:: r))=0
   ·rw[cv]at hvv
    simp[F.f196r2,h2,h5,h6,hc,ha,hvv,cv,c8'',n0,n1,F.f196R,F.f196K,QL,Zu,MUL]
   ·simp[F.f196r2,h2,h5,h6,hc,ha,hvv,cv,c8'',n0,n1,F.f196R,F.f196K,QL,QA,Zu,MUL]
theorem Qh0 (l:List Pw) (bs:List (List AV)) (hv:ZP l=0) (hl:l.length < 5000000) (hk: ∀q∈l,q.1.mass < big) (hm: (∀q∈l,-8≤q.2∧q.2≤8)→massL (Zx l) < big - 100):
  ∀(post pre:List Pw) (ρ:Nat→AV),l=pre ++ post→(∀q∈pre,-8≤q.2∧q.2≤8)→ρ 2= .bx [.int .i64 0,.str [],.int .i64 0,.sl true 4 []]→ρ 5= .sl true 4 (encTs (Xf pre))→ρ 6= .sl true 4 (encTs (Xu pre))→
   ρ 18= .sl false 5 (QH l)→ρ 19= .int .i64 l.length→ρ 20= .int .i64 pre.length→
  R F.tb (.loop F.f196l2) ρ bs (Qk 0 (Qv F.tb F.f196r2 (Qx F.f196 bs)))=some (QL (ZA l),bs):=by
 intro post
 induction post with
 | nil=>
  intro pre ρ hkk hq h2 h5 h6 h18 h19 h20
  simp only[List.append_nil]at hkk
  subst hkk
  have hr:=Qh1 l bs hv (by
   have h1:=Fb (l:=l) fun q h=>(hq q h).2
   have h2:=G1 (l:=l) fun q h=>(hq q h).1
   simp only[Zx,List.length_append];omega) (hm hq)
  rw[Qc F.f196l2.eq_1]
  simp[h18,h19,h20]
  apply hr <;> simp[h2,h5,h6]
 | cons p post IH=>
  intro pre ρ hkk hq h2 h5 h6 h18 h19 h20
  have hg:=Qp hkk
  have hll:l.length=pre.length+ (post.length+1):=by rw[hkk];simp
  have hw1:IntKind.i64.wrap ((pre.length:Int)+1)=(pre.length:Int)+1:=Ql (by omega) (by omega)
  have hlt: (pre.length:Int) < (l.length:Int):=by omega
  have hpl:p∈l:=by rw[hkk];simp
  have hmp:=hk p hpl
  have hbig: ∀n,n < (Zx l).length→8≤n→ZA l=(Qy,3):=by
   intro n h1 h2
   have:8 < (Zx l).length:=by omega
   simp[ZA,hv,this]
  rw[Qc F.f196l2.eq_1]
  by_cases c1:8 < p.2
  ·have h1:=Fc hpl
   have e:=hbig 8 (by simp only[Zx,List.length_append];omega) (by omega)
   rw[e]
   simp[h2,h5,h6,h18,h19,h20,hg,hlt,c1,F.f196R,F.f196K,QL,QA]
  ·by_cases c2:p.2 < -8
   ·have h1:=G2 hpl
    have e:=hbig 8 (by simp only[Zx,List.length_append];omega) (by omega)
    rw[e]
    simp[h2,h5,h6,h18,h19,h20,hg,hlt,c1,c2,F.f196R,F.f196K,QL,QA]
   ·have hN: -8≤p.2∧p.2≤8:=by omega
    have hw:IntKind.i64.wrap (-p.2)= -p.2:=Ql (by omega) (by omega)
    have hq2: ∀q∈pre ++ [p],-8≤q.2∧q.2≤8:=by
     intro q h
     rcases List.mem_append.1 h with h | h
     ·exact hq q h
     ·simp at h;subst h;exact hN
    have h1:=Fb (l:=pre) fun q h=>(hq q h).2
    have h3:=G1 (l:=pre) fun q h=>(hq q h).1
    have ih:=fun ρ=>IH (pre ++ [p]) ρ (by rw[hkk];simp) hq2
    simp[h2,h5,h6,h18,h19,h20,hg,hlt,c1,c2]
    refine QhY hmp hN _ _ _ p.2.toNat (Xf pre) 0 _ (by omega) (by omega) ?_ ?_ ?_ ?_ ?_
    ·simp[h5]
    ·simp
    ·simp
    ·simp
    ·intro ρ' g5 gj
     have g2:ρ' 2=_:=gj 2 (by omega) (by omega)
     have g6:ρ' 6=_:=gj 6 (by omega) (by omega)
     have g8:ρ' 8=_:=gj 8 (by omega) (by omega)
     have g18:ρ' 18=_:=gj 18 (by omega) (by omega)
     have g19:ρ' 19=_:=gj 19 (by omega) (by omega)
     have g20:ρ' 20=_:=gj 20 (by omega) (by omega)
     simp[h2,h6,h18,h19,h20]at g2 g6 g8 g18 g19 g20
     simp[F.f196r0,g8,hw]
     refine QhZ hmp hN _ _ _ (-p.2).toNat (Xu pre) 0 _ (by omega) (by omega) ?_ ?_ ?_ ?_ ?_
     ·simp[g6]
     ·simp[g8]
     ·simp
     ·simp
     ·intro ρ'' k6 kj
      have k2:ρ'' 2=_:=kj 2 (by omega) (by omega)
      have k5:ρ'' 5=_:=kj 5 (by omega) (by omega)
      have k18:ρ'' 18=_:=kj 18 (by omega) (by omega)
      have k19:ρ'' 19=_:=kj 19 (by omega) (by omega)
      have k20:ρ'' 20=_:=kj 20 (by omega) (by omega)
      simp[g2,g5,g18,g19,g20]at k2 k5 k18 k19 k20
      simp[F.f196r1,k20,hw1]
      apply ih <;> simp[k2,k5,k6,k18,k19,Fa,G0]
theorem QfJ (l:List Pw) (o:Bool) (bs:List (List AV)) (hl:l.length < 5000000) (hk: ∀q∈l,q.1.mass < big) (hm: (∀q∈l,-8≤q.2∧q.2≤8)→massL (Zx l) < big - 100):
  call F.tb 196 [.sl o 5 (QH l)] bs=some (QL (ZA l),bs):=by
 have h1:=KH l false bs (by omega) hk
 rw[Qb F.tb_196 _ _ rfl]
 by_cases hv:ZP l=0
 ·have h:=fun ρ=>Qh0 l bs hv hl hk hm l [] ρ rfl (by simp)
  simp[F.f196B,F.f196C,h1,hv]
  apply h <;> simp[Xf,Xu,encTs]
 ·have e:ZA l=(Qy,ZP l):=by simp[ZA,hv]
  rw[e]
  simp[F.f196B,F.f196C,h1,hv,F.f196R,F.f196K,QL,QA]
end Go.Am
namespace Go.Am
set_option maxRecDepth 8000
theorem YD (n:List UInt8) (ks:List Tm) (o:Bool) (bs:List (List AV)) (hl:ks.length < 100000000):call F.tb 120 [.str n,.sl o 4 (encTs ks)] bs=some (.agg (Qa (.mk 3 n 0 ks)),bs):=by
 have hb:ks.length*56≤140737488355328:=Yr (by omega)
 rw[Qb F.tb_120 _ _ rfl]
 simp[F.f120B,F.f120C,F.f120R,F.f120K,hb,X6]
theorem OO {α:Type} (n:Nat) (a b:List α): (a.take n ++ b).take n=(a ++ b).take n:=by
 rw[List.take_append,List.take_append,List.take_take,List.length_take,Nat.min_self]
 congr 2
 omega
theorem Qkw {l:List Pw} {p:Pw} {bs:List (List AV)} (hN: -1000≤p.2∧p.2≤1000) (c:AC) (K:Kn) (X:Out): ∀(k:Nat) (acc:List Tm) (i n:Nat) (o:Bool) (ρ:Nat→AV),l[n]? =some p→i+k=p.2.toNat→acc.length≤9→ρ 0= .sl o 5 (QH l)→ρ 3= .sl true 4 (encTs acc)→ρ 4= .int .i64 n→ρ 5= .int .i64 i→
  (∀ρ':Nat→AV,ρ' 0= .sl o 5 (QH l)→ρ' 4= .int .i64 n→ρ' 3= .sl true 4 (encTs ((acc ++ List.replicate k p.1).take 9))→R F.tb c ρ' bs K=X)→
  R F.tb (.loop F.f260l0) ρ bs (Qk 2 (Qk 1 (Qv F.tb c K)))=X:=by
 intro k
 induction k with
 | zero=>
  intro acc i n o ρ hg hi ha h0 h3 h4 h5 h
  have hn: ¬(i:Int) < p.2:=by omega
  rw[Qc F.f260l0.eq_1]
  simp[h0,h3,h4,h5,hg,hn]
  apply h <;> simp[h0,h3,h4,List.take_of_length_le ha]
 | succ k IH=>
  intro acc i n o ρ hg hi ha h0 h3 h4 h5 h
  have hn: (i:Int) < p.2:=by omega
  have hw1:IntKind.i64.wrap ((i:Int)+1)=((i+1:Nat):Int):=by rw[Ql (by omega) (by omega)];omega
  rw[Qc F.f260l0.eq_1]
  by_cases c9:acc.length < 9
  ·have c9': (acc.length:Int) < 9:=by omega
   have hb: (acc.length+1)*56≤140737488355328:=Yr (by omega)
   simp[h0,h3,h4,h5,hg,hn,hw1,hb,c9',Zb,QQ]
   refine IH (acc ++ [p.1]) (i+1) n o _ hg (by omega) (by simp;omega) ?_ ?_ ?_ ?_ ?_
   ·simp[h0]
   ·simp
   ·simp[h4]
   ·simp
   ·intro ρ' g0 g4 g3
    rw[Ma]at g3
    exact h ρ' g0 g4 g3
  ·have c9': ¬(acc.length:Int) < 9:=by omega
   have e: (acc ++ List.replicate (k+1) p.1).take 9=acc:=by rw[List.take_append_of_le_length (by omega),List.take_of_length_le ha]
   simp[h0,h3,h4,h5,hg,hn,c9']
   apply h <;> simp[h0,h3,h4,e]
theorem Qky {l:List Pw} {p:Pw} {bs:List (List AV)} (hN: -1000≤p.2∧p.2≤1000) (c:AC) (K:Kn) (X:Out): ∀(k:Nat) (acc:List Tm) (i n:Nat) (o:Bool) (ρ:Nat→AV),l[n]? =some p→i+k=(-p.2).toNat→acc.length≤9→ρ 0= .sl o 5 (QH l)→ρ 3= .sl true 4 (encTs acc)→ρ 6= .int .i64 n→ρ 7= .int .i64 i→
  (∀ρ':Nat→AV,ρ' 0= .sl o 5 (QH l)→ρ' 6= .int .i64 n→ρ' 3= .sl true 4 (encTs ((acc ++ List.replicate k (VO p.1)).take 9))→R F.tb c ρ' bs K=X)→
  R F.tb (.loop F.f260l2) ρ bs (Qk 6 (Qk 5 (Qv F.tb c K)))=X:=by
 have hw:IntKind.i64.wrap (-p.2)= -p.2:=Ql (by omega) (by omega)
 intro k
 induction k with
 | zero=>
  intro acc i n o ρ hg hi ha h0 h3 h4 h5 h
  have hn: ¬(i:Int) < -p.2:=by omega
  rw[Qc F.f260l2.eq_1]
  simp[h0,h3,h4,h5,hg,hw,hn]
  apply h <;> simp[h0,h3,h4,List.take_of_length_le ha]
 | succ k IH=>
  intro acc i n o ρ hg hi ha h0 h3 h4 h5 h
  have hn: (i:Int) < -p.2:=by omega
  have hw1:IntKind.i64.wrap ((i:Int)+1)=((i+1:Nat):Int):=by rw[Ql (by omega) (by omega)];omega
  rw[Qc F.f260l2.eq_1]
  by_cases c9:acc.length < 9
  ·have c9': (acc.length:Int) < 9:=by omega
   have hb: (acc.length+1)*56≤140737488355328:=Yr (by omega)
   have hc2:=YD INV [p.1] false bs (by simp)
   simp only[INV]at hc2
   simp[h0,h3,h4,h5,hg,hw,hn,hw1,hb,hc2,c9',Zb]
   rw[show Qa (Tm.mk 3 [105,110,118] 0 [p.1])=Qa (VO p.1)from rfl]
   simp[Zb,QQ]
   refine IH (acc ++ [VO p.1]) (i+1) n o _ hg (by omega) (by simp;omega) ?_ ?_ ?_ ?_ ?_
   ·simp[h0]
   ·simp[VO,INV]
   ·simp[h4]
   ·simp
   ·intro ρ' g0 g4 g3
    rw[Ma]at g3
    exact h ρ' g0 g4 g3
  ·have c9': ¬(acc.length:Int) < 9:=by omega
   have e: (acc ++ List.replicate (k+1) (VO p.1)).take 9=acc:=by rw[List.take_append_of_le_length (by omega),List.take_of_length_le ha]
   simp[h0,h3,h4,h5,hg,hw,hn,c9']
   apply h <;> simp[h0,h3,h4,e]
theorem Qkz (l:List Pw) (bs:List (List AV)) (hl:l.length < 5000000) (hN: ∀q∈l,-1000≤q.2∧q.2≤1000):
  ∀(post pre:List Pw) (o:Bool) (ρ:Nat→AV),l=pre ++ post→ρ 0= .sl o 5 (QH l)→ρ 3= .sl true 4 (encTs ((Xf l ++ Xu pre).take 9))→ρ 6= .int .i64 pre.length→
  R F.tb (.loop F.f260l3) ρ bs (Qk 4 (Qv F.tb F.f260r2 (Qx F.f260 bs)))=some (.sl false 4 (encTs ((Zx l).take 9)),bs):=by
 intro post
 induction post with
 | nil=>
  intro pre o ρ hk h0 h3 h6
  simp only[List.append_nil]at hk
  subst hk
  rw[Qc F.f260l3.eq_1]
  simp[h0,h3,h6,F.f260r2,F.f260R,F.f260K,Zx]
 | cons p post IH=>
  intro pre o ρ hk h0 h3 h6
  have hg:=Qp hk
  have hll:l.length=pre.length+ (post.length+1):=by rw[hk];simp
  have hw1:IntKind.i64.wrap ((pre.length:Int)+1)=(pre.length:Int)+1:=Ql (by omega) (by omega)
  have hlt: (pre.length:Int) < (l.length:Int):=by omega
  have ih:=fun ρ=>IH (pre ++ [p]) o ρ (by rw[hk];simp)
  have hpN:=hN p (by rw[hk];simp)
  rw[Qc F.f260l3.eq_1]
  simp[h0,h3,h6,hlt]
  refine Qky hpN _ _ _ (-p.2).toNat ((Xf l ++ Xu pre).take 9) 0 pre.length o _ hg (by omega) (by rw[List.length_take];omega) ?_ ?_ ?_ ?_ ?_
  ·simp[h0]
  ·simp[h3]
  ·simp[h6]
  ·simp
  ·intro ρ' g0 g6 g3
   rw[OO,List.append_assoc,← G0]at g3
   simp[F.f260r1,g6,hw1]
   apply ih <;> simp[g0,g3]
theorem Qkx (l:List Pw) (bs:List (List AV)) (hl:l.length < 5000000) (hN: ∀q∈l,-1000≤q.2∧q.2≤1000):
  ∀(post pre:List Pw) (o:Bool) (ρ:Nat→AV),l=pre ++ post→ρ 0= .sl o 5 (QH l)→ρ 3= .sl true 4 (encTs ((Xf pre).take 9))→ρ 4= .int .i64 pre.length→
  R F.tb (.loop F.f260l1) ρ bs (Qk 0 (Qv F.tb F.f260r3 (Qx F.f260 bs)))=some (.sl false 4 (encTs ((Zx l).take 9)),bs):=by
 intro post
 induction post with
 | nil=>
  intro pre o ρ hk h0 h3 h4
  simp only[List.append_nil]at hk
  subst hk
  have h:=fun ρ=>Qkz l bs hl hN l [] o ρ rfl
  rw[Qc F.f260l1.eq_1]
  simp[h0,h3,h4,F.f260r3]
  apply h <;> simp[h0,h3,Xu]
 | cons p post IH=>
  intro pre o ρ hk h0 h3 h4
  have hg:=Qp hk
  have hll:l.length=pre.length+ (post.length+1):=by rw[hk];simp
  have hw1:IntKind.i64.wrap ((pre.length:Int)+1)=(pre.length:Int)+1:=Ql (by omega) (by omega)
  have hlt: (pre.length:Int) < (l.length:Int):=by omega
  have ih:=fun ρ=>IH (pre ++ [p]) o ρ (by rw[hk];simp)
  have hpN:=hN p (by rw[hk];simp)
  rw[Qc F.f260l1.eq_1]
  simp[h0,h3,h4,hlt]
  refine Qkw hpN _ _ _ p.2.toNat ((Xf pre).take 9) 0 pre.length o _ hg (by omega) (by rw[List.length_take];omega) ?_ ?_ ?_ ?_ ?_
  ·simp[h0]
  ·simp[h3]
  ·simp[h4]
  ·simp
  ·intro ρ' g0 g4 g3
   rw[OO,← Fa]at g3
   simp[F.f260r0,g4,hw1]
   apply ih <;> simp[g0,g3]
theorem Qf9 (l:List Pw) (o:Bool) (bs:List (List AV)) (hl:l.length < 5000000) (hN: ∀q∈l,-1000≤q.2∧q.2≤1000):
  call F.tb 260 [.sl o 5 (QH l)] bs=some (.sl false 4 (encTs ((Zx l).take 9)),bs):=by
 have h:=fun ρ=>Qkx l bs hl hN l [] false ρ rfl
 rw[Qb F.tb_260 _ _ rfl]
 simp[F.f260B,F.f260C]
 apply h <;> simp[Xf,encTs]
theorem Qf8 (l:List Pw) (o:Bool) (bs:List (List AV)) (hl:l.length < 5000000) (hk: ∀q∈l,q.1.mass < big) (hm: (∀q∈l,-8≤q.2∧q.2≤8)→massL (Zx l) < big - 100):
  call F.tb 258 [.sl o 5 (QH l)] bs=some (QL (ZA l),bs):=by
 have h1:=KL l false bs (by omega) hk
 rw[Qb F.tb_258 _ _ rfl]
 by_cases hv:ZP l=0
 ·obtain⟨hinv,_,_⟩:=Ur hv hk
  have h2:=Qf9 l false bs hl fun q hq=>(hinv.bd q hq).2
  by_cases c8:8 < (Zx l).length
  ·have c8': (8:Int) < ((min 9 (Zx l).length:Nat):Int):=by omega
   have e:ZA l=(Qy,3):=by simp[ZA,hv,c8]
   rw[e]
   simp[F.f258B,F.f258C,h1,hv,h2,c8',F.f258R,F.f258K,QL,QA]
  ·have hN8: ∀q∈l,-8≤q.2∧q.2≤8:=by
    intro q hq
    have h3:=Fc hq
    have h4:=G2 hq
    simp only[Zx,List.length_append]at c8
    omega
   have hm':=hm hN8
   have hpm: (Zu (Zx l)).mass < big:=by
    unfold big at *
    match h:Zx l with
    | []=>simp[Zu,Qo,massL,ONE]
    | [p]=>rw[h]at hm';simp[Zu,massL]at hm' ⊢;omega
    | p:: q:: r=>rw[h]at hm' c8;simp[Zu,Qo,massL,MUL]at hm' c8 ⊢;omega
   have hvv:=Yv (Zu (Zx l)) bs hpm
   have e:ZA l=if QF (Zu (Zx l))≠0 then(Qy,QF (Zu (Zx l)))else(Zu (Zx l),0):=by simp[ZA,hv,c8]
   rw[e]
   rw[List.take_of_length_le (by omega)]at h2
   have ha:=YD MUL (Zx l) false bs (by omega)
   have ha1:=YD ONE [] true bs (by simp)
   simp only[MUL]at ha
   simp only[ONE,encTs]at ha1
   have c8': ¬(8:Int) < ((Zx l).length:Int):=by omega
   generalize hL:Zx l=L at *
   match L,hL with
   | [],hL=>
    simp only[Zu,ONE]at hvv
    simp only[encTs]at ha h2
    by_cases cv:QF (.mk 3 [111,110,101] 0 [])=0
    ·rw[cv]at hvv
     simp[F.f258B,F.f258C,h1,hv,h2,ha,ha1,hvv,cv,F.f258R,F.f258K,QL,Zu,ONE]
    ·simp[F.f258B,F.f258C,h1,hv,h2,ha,ha1,hvv,cv,F.f258R,F.f258K,QL,QA,Zu,ONE]
   | [p],hL=>
    simp only[Zu]at hvv
    by_cases cv:QF p=0
    ·rw[cv]at hvv
     simp[F.f258B,F.f258C,h1,hv,h2,ha,hvv,cv,F.f258R,F.f258K,QL,Zu]
    ·simp[F.f258B,F.f258C,h1,hv,h2,ha,hvv,cv,F.f258R,F.f258K,QL,QA,Zu]
   | p:: q:: r,hL=>
    simp only[Zu,MUL]at hvv
    have c8'': ¬(8:Int) < (r.length:Int)+1+1:=by simpa using c8'
    have n0: ¬(r.length:Int)+1+1=0:=by omega
    have n1: ¬(r.length:Int)+1+1=1:=by omega
    by_cases cv:QF (.mk 3 [109,117,108] 0 (p:: q:: r))=0
    ·rw[cv]at hvv
     simp[F.f258B,F.f258C,h1,hv,h2,ha,hvv,cv,c8'',n0,n1,F.f258R,F.f258K,QL,Zu,MUL]
    ·simp[F.f258B,F.f258C,h1,hv,h2,ha,hvv,cv,c8'',n0,n1,F.f258R,F.f258K,QL,QA,Zu,MUL]
 ·have e:ZA l=(Qy,ZP l):=by simp[ZA,hv]
  rw[e]
  simp[F.f258B,F.f258C,h1,hv,F.f258R,F.f258K,QL,QA]
end Go.Am
