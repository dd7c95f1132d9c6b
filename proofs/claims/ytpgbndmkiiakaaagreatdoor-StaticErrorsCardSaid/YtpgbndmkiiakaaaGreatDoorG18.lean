/-
  Rc16, Rc17, Rc18, Rc19, Rc20.
-/
import Derived.Test.YtpgbndmkiiakaaaGreatDoorG17
set_option linter.unusedVariables false
set_option linter.unusedSimpArgs false
namespace Go.Am
set_option maxRecDepth 8000
theorem FS: ∀(l:List Pw) (t:Tm) (n:Int),(Yz l t n).length≤l.length+1
 | [],_,_=>by simp[Yz]
 | p:: l,t,n=>by
  have:=FS l t n;simp only[Yz];split
  ·simp;omega
  ·split
   ·split <;> simp <;> omega
   ·simp
theorem U6: ∀{l:List Pw} {t:Tm} {n:Int} {q:Pw},q∈Yz l t n→q∈l∨q=(t,n)∨∃m,(t,m)∈l∧q=(t,m+n)∧m+n≠0
 | [],t,n,q,h=>by simp[Yz]at h;exact .inr (.inl h)
 | p:: l,t,n,q,h=>by
  simp only[Yz]at h;split at h
  ·rcases List.mem_cons.1 h with h | h
   ·exact .inl (by simp[h])
   ·rcases U6 h with h | h | ⟨m,h1,h2⟩
    ·exact .inl (by simp[h])
    ·exact .inr (.inl h)
    ·exact .inr (.inr ⟨m,by simp[h1],h2⟩)
  ·split at h
   ·rename_i hc;have he:=ZY _ _ hc;split at h
    ·exact .inl (by simp[h])
    ·rename_i hz;rcases List.mem_cons.1 h with h | h
     ·exact .inr (.inr ⟨p.2,by rw[← he];simp,by rw[← he];exact h,hz⟩)
     ·exact .inl (by simp[h])
   ·rcases List.mem_cons.1 h with h | h
    ·exact .inr (.inl h)
    ·exact .inl h
theorem FX: ∀{l:List Pw} {t:Tm} {n:Int},Asc (Wm l)→Asc (Wm (Yz l t n))
 | [],t,n,_=>by simp[Yz,Wm,Asc]
 | p:: l,t,n,h=>by
  have h':=h;simp only[Wm,List.map_cons]at h';obtain⟨h1,h2⟩:=Yp.1 h';simp only[Yz];split
  ·rename_i c;simp only[Wm,List.map_cons];refine Yp.2 ⟨fun y hy=> ?_,FX h2⟩;obtain⟨q,hq,rfl⟩:=List.mem_map.1 hy;rcases U6 hq with hq | rfl | ⟨m,hm,rfl,_⟩
   ·exact h1 _ (List.mem_map_of_mem hq)
   ·exact c
   ·exact c
  ·split
   ·split
    ·exact h2
    ·simp only[Wm,List.map_cons];exact h'
   ·rename_i c1 c2;simp only[Wm,List.map_cons];have c3:Qm t p.1 < 0:=by have:=XJ t p.1;omega
    refine Yp.2 ⟨fun y hy=> ?_,h'⟩;rcases List.mem_cons.1 hy with rfl | hy
    ·exact c3
    ·exact YD c3 (h1 y hy)
structure Wn (l:List Pw) (b:Nat):Prop where
 asc:Asc (Wm l)
 nz:NZ l
 len:l.length≤b
 bd: ∀q∈l,q.1.mass < big∧ -(b:Int)≤q.2∧q.2≤b
theorem Da:Wn [] 0:=⟨Asc.nil,fun q h=>by simp at h,by simp,fun q h=>by simp at h⟩
theorem Wn.mono {l:List Pw} {b c:Nat} (h:Wn l b) (hbc:b≤c):Wn l c:=⟨h.asc,h.nz,Nat.le_trans h.len hbc,fun q hq=>by obtain⟨h1,h2,h3⟩:=h.bd q hq;exact⟨h1,by omega,by omega⟩⟩
theorem Wn.add {l:List Pw} {b c:Nat} {t:Tm} {n:Int} (h:Wn l b) (ht:t.mass < big) (hn:n≠0) (h1: -(c:Int)≤n) (h2:n≤c):Wn (Yz l t n) (b+c):=by
 refine⟨FX h.asc,?_,?_,?_⟩
 ·intro q hq;rcases U6 hq with hq | rfl | ⟨m,hm,rfl,hz⟩
  ·exact h.nz q hq
  ·exact hn
  ·exact hz
 ·have:=FS l t n;have:=h.len;omega
 ·intro q hq;rcases U6 hq with hq | rfl | ⟨m,hm,rfl,hz⟩
  ·obtain⟨a1,a2,a3⟩:=h.bd q hq;exact⟨a1,by omega,by omega⟩
  ·exact⟨ht,by simp;omega,by simp;omega⟩
  ·obtain⟨a1,a2,a3⟩:=h.bd _ hm;simp at a2 a3;exact⟨ht,by simp;omega,by simp;omega⟩
def uno (m:Int):Prop:=m=1∨m= -1
theorem uno.neg {m:Int} (h:uno m):uno (-m):=by rcases h with rfl | rfl <;> simp[uno]
theorem uno.ite {m:Int} (h:uno m) (c:Bool):uno (if c then -m else m):=by cases c <;> simp[h,h.neg]
theorem HB: ∀(t:Tm) (l:List Pw) (m:Int) (b:Nat),t.mass < big→uno m→Wn l b→Wn (We l t m) (b+t.nodes):=by
 refine Zp ?_;intro k n s ks ih l m b hm hu h;have hne:=Z0 (.mk k n s ks);have hme:=Qo (.mk k n s ks);simp only[QN,Q5]at hne hme;have hL: ∀(xs:List Tm) (l:List Pw) (m:Int) (b:Nat),(∀x∈xs,x∈ks)→uno m→Wn l b→Wn (colL l xs m) (b+nodesL xs):=by
  intro xs
  induction xs with
  | nil=>intro l m b _ _ h;simpa[colL,nodesL]using h
  | cons x xs IH=>
   intro l m b hx hu h;have h1:=ih x (hx x (by simp)) l m b (by have:=QD (hx x (by simp));omega) hu h;have h2:=IH _ m _ (fun y hy=>hx y (by simp[hy])) hu h1;simp only[colL,nodesL];rw[← Nat.add_assoc];exact h2
 rw[OX];split
 ·have:=hL ks l _ b (fun x hx=>hx) (hu.ite ((Tm.mk k n s ks).name == INV)) h;exact this.mono (by omega)
 ·have:Wn (Yz l (.mk k n s ks) m) (b+1):=h.add (c:=1) hm (by rcases hu with rfl | rfl <;> simp) (by rcases hu with rfl | rfl <;> simp) (by rcases hu with rfl | rfl <;> simp);exact this.mono (by omega)
theorem Bf {l:List Pw} {t:Tm} {m:Int} {b:Nat} (o:Bool) (bs:List (List AV)) (h:Wn l b) (hb:b < 40000000) (ht:t.mass < big) (hm: -100000000 < m∧m < 100000000):
  call F.tb 257 [.sl o 5 (QQ l),.agg (Qa t),.int .i64 m] bs=some (.sl false 5 (QQ (Yz l t m)),bs):=by
 have hl:=h.len;have hp:=fun ρ=>Qe6 l t m bs (by omega) (fun q hq=>by obtain⟨a1,a2,a3⟩:=h.bd q hq;exact⟨a1,by omega,by omega⟩) hm ht h.asc h.nz l [] [] false ρ rfl (by simp;omega);rw[Qb F.tb_257 _ _ rfl];simp only[List.nil_append]at hp;simp[F.f257C];refine hp _ ?_ ?_ ?_ ?_ ?_ ?_ <;> simp[QQ]
def QeZ (l:List Pw) (bs:List (List AV)) (r:Out):Prop:=∃o,r=some (.sl o 5 (QQ l),bs)
theorem Qbb (t:Tm) (bs:List (List AV)) (hm:t.mass < big) (m:Int) (hu:uno m) (ih: ∀x∈t.kids,∀l b o,Wn l b→b+x.nodes < 40000000→QeZ (We l x m) bs (call F.tb 256 [.sl o 5 (QQ l),.agg (Qa x),.int .i64 m] bs)):
  ∀(post pre:List Tm) (l:List Pw) (b:Nat) (o:Bool) (ρ:Nat→AV),t.kids=pre ++ post→Wn l b→b+nodesL post < 40000000→ρ 0= .sl o 5 (QQ l)→ρ 2= .int .i64 m→ρ 4= .bx (Qa t)→ρ 7= .int .i64 pre.length→
  QeZ (colL l post m) bs (R F.tb (.loop F.f256l0) ρ bs (Ql 0 (Qr F.tb F.f256r0 (Qt F.f256 bs)))):=by
 have hm2:=Qo t;have hmb:=hm;unfold big at hm;intro post
 induction post with
 | nil=>
  intro pre l b o ρ hk hl hb h0 h2 h4 h7;simp only[List.append_nil]at hk;rw[← hk]at h7;rw[Qc F.f256l0.eq_1];refine⟨false,?_⟩;simp[h0,h2,h4,h7,F.f256r0,colL]
 | cons x post IH=>
  intro pre l b o ρ hk hl hb h0 h2 h4 h7;have hg:=Qp hk;have hll:=Qx hk;have hw1:=wr1 pre.length (by omega);have hlt:=Qy hk;have hxk:x∈t.kids:=by rw[hk];simp
  simp only[nodesL]at hb;obtain⟨o1,hc⟩:=ih x hxk l b false hl (by omega);have h3:=fun ρ=>IH (pre ++ [x]) (We l x m) (b+x.nodes) o1 ρ (by rw[hk];simp) (HB x l m b (by have:=QD hxk;omega) hu hl) (by omega);rw[Qc F.f256l0.eq_1];simp[h0,h2,h4,h7,hg,hlt,hw1,hc,QO,colL];refine h3 _ ?_ ?_ ?_ ?_ <;> simp[h2,h4]
theorem Qiy: ∀(t:Tm) (bs:List (List AV)) (m:Int) (l:List Pw) (b:Nat) (o:Bool),t.mass < big→uno m→Wn l b→b+t.nodes < 40000000→QeZ (We l t m) bs (call F.tb 256 [.sl o 5 (QQ l),.agg (Qa t),.int .i64 m] bs):=by
 refine Zp ?_;intro k n s ks ih bs m l b o hm hu hl hb;have hme:=Qo (.mk k n s ks);have hne:=Z0 (.mk k n s ks);simp only[QN,Q5]at hne hme;have hsp:=S7 (.mk k n s ks) bs;rw[Qb F.tb_256 _ _ rfl,OX];cases hs:X2 (.mk k n s ks)
 ·have hc:=Bf (t:= .mk k n s ks) (m:=m) false bs hl (by omega) hm (by rcases hu with rfl | rfl <;> simp);refine⟨false,?_⟩;simp[F.f256C,hsp,hs,hc]
 ·have h2:=fun m hu ρ=>Qbb (.mk k n s ks) bs hm m hu (fun x hx l b o hl hb=>ih x hx bs m l b o (by have:=QD hx;simp at this;omega) hu hl hb) ks [] l b false ρ rfl hl (by omega);cases hi:n == INV
  ·have h3:=h2 m hu;simp only[INV]at hi;simp[F.f256C,hsp,hs,hi,INV];refine h3 _ ?_ ?_ ?_ ?_ <;> simp
  ·have h3:=h2 (-m) hu.neg;have hw:IntKind.i64.wrap (-m)= -m:=by rcases hu with rfl | rfl <;> rfl
   simp only[INV]at hi;simp[F.f256C,hsp,hs,hi,hw,INV];refine h3 _ ?_ ?_ ?_ ?_ <;> simp
def Ap (B0:List (List AV)) (l:List Pw) (ok:Bool) (r:Out):Prop:=∃v B,r=some (.tup [v,.bool ok],B)∧PS B0 B v (if ok then l else [])
theorem Vi {B0 B:List (List AV)} {v:AV} {l:List Pw} (h:PS B0 B v l): ∃id sz,v= .gs id 0 sz l.length:=by
 obtain⟨M,id,sz,_,rfl,_⟩:=h;exact⟨id,sz,rfl⟩
theorem LI {B0 B:List (List AV)} {v:AV} {l:List Pw} (h:PS B0 B v l):PS B0 B (.gs 0 0 0 0) []:=by
 obtain⟨M,id,sz,rfl,_,_⟩:=h;exact⟨M,0,0,rfl,rfl,.inl ⟨rfl,rfl,rfl⟩⟩
theorem Qfm (t:Tm) (B0:List (List AV)) (hm:t.mass < big) (m:Int) (hu:uno m) (ih: ∀x∈t.kids,∀B v l b,PS B0 B v l→Wn l b→b+x.nodes < 40000000→Ap B0 (We l x m) (arB x) (call F.tb 187 [v,.agg (Qa x),.int .i64 m] B)) (K:List (List AV)):
  ∀(post pre:List Tm) (l:List Pw) (b:Nat) (B:List (List AV)) (v:AV) (ρ:Nat→AV),t.kids=pre ++ post→PS B0 B v l→Wn l b→b+nodesL post < 40000000→ρ 0=v→ρ 2= .int .i64 m→ρ 52= .sl false 4 (encTs t.kids)→ρ 53= .int .i64 t.kids.length→ρ 54= .int .i64 pre.length→
  Ap B0 (colL l post m) (arL post) (R F.tb (.loop F.f187l0) ρ B (Ql 1 (Qr F.tb F.f187r0 (Qt F.f187 K)))):=by
 have hm2:=Qo t;have hmb:=hm;unfold big at hm;intro post
 induction post with
 | nil=>
  intro pre l b B v ρ hk hps hl hb h0 h2 h52 h53 h54;simp only[List.append_nil]at hk;rw[← hk]at h54;obtain⟨id,sz,rfl⟩:=Vi hps;rw[Qc F.f187l0.eq_1];refine⟨_,B,?_,by simpa[colL,arL]using hps⟩;simp[h0,h2,h52,h53,h54,F.f187r0,colL,arL]
 | cons x post IH=>
  intro pre l b B v ρ hk hps hl hb h0 h2 h52 h53 h54;have hg:=Qp hk;have hll:=Qx hk;have hw1:=wr1 pre.length (by omega);have hlt:=Qy hk;have hxk:x∈t.kids:=by rw[hk];simp
  simp only[nodesL]at hb;obtain⟨v2,B2,hc,hps2⟩:=ih x hxk B v l b hps hl (by omega);obtain⟨id,sz,rfl⟩:=Vi hps;obtain⟨id2,sz2,rfl⟩:=Vi hps2;rw[Qc F.f187l0.eq_1];cases ha:arB x
  ·rw[ha]at hc hps2;refine⟨.gs 0 0 0 0,B2,?_,by simpa[arL,ha]using LI hps2⟩;simp only[Bool.false_eq_true,if_false]at hc;simp[h0,h2,h52,h53,h54,hg,hlt,hc,QO,arL,ha]
  ·rw[ha]at hc hps2;simp only[if_true]at hc hps2;have h3:=fun ρ=>IH (pre ++ [x]) (We l x m) (b+x.nodes) B2 _ ρ (by rw[hk];simp) hps2 (HB x l m b (by have:=QD hxk;omega) hu hl) (by omega);have e1:colL l (x:: post) m=colL (We l x m) post m:=by simp[colL]
   have e2:arL (x:: post)=arL post:=by simp[arL,ha]
   rw[e1,e2];simp[h0,h2,h52,h53,h54,hg,hlt,hw1,hc,QO];refine h3 _ ?_ ?_ ?_ ?_ ?_ <;> simp[h2,h52,h53]
theorem Qh8: ∀(t:Tm) (B0 B:List (List AV)) (v:AV) (l:List Pw) (m:Int) (b:Nat),t.mass < big→uno m→PS B0 B v l→Wn l b→b+t.nodes < 40000000→Ap B0 (We l t m) (arB t) (call F.tb 187 [v,.agg (Qa t),.int .i64 m] B):=by
 refine Zp ?_;intro k n s ks ih B0 B v l m b hm hu hps hl hb;have hme:=Qo (.mk k n s ks);have hne:=Z0 (.mk k n s ks);simp only[QN,Q5]at hne hme;have hsp:=Mk (.mk k n s ks) B;obtain⟨id,sz,rfl⟩:=Vi hps;rw[Qb F.tb_187 _ _ rfl,OX,Qc3];cases hs:X2 (.mk k n s ks)
 ·obtain⟨v2,B2,hc,hps2⟩:=C6 (p:=(.mk k n s ks,m)) hps (by have:=hl.len;omega) (fun q hq=>by obtain⟨a1,a2,a3⟩:=hl.bd q hq;exact⟨a1,by omega,by omega⟩) hm (by rcases hu with rfl | rfl <;> simp) hl.asc;obtain⟨id2,sz2,rfl⟩:=Vi hps2;have hf:Qa (.mk k n s ks)++ [.int .i64 m]=Q9 (.mk k n s ks,m):=rfl;refine⟨_,B2,?_,by simpa using hps2⟩;simp[F.f187C,hsp,hs,List.take_append,List.drop_append,hf,hc]
 ·have h2:=fun m hu ρ=>Qfm (.mk k n s ks) B0 hm m hu (fun x hx B v l b hps hl hb=>ih x hx B0 B v l m b (by have:=QD hx;simp at this;omega) hu hps hl hb) B ks [] l b B _ ρ rfl hps hl (by omega);obtain⟨rfl,hn⟩:=Dw hs;simp only[Q5]at hn;simp only[QN]at h2;simp only[Bool.not_true,Bool.false_or,if_true];rcases hn with rfl | rfl | rfl
  ·have h3:=h2 m hu;by_cases d:ks.length < 2
   ·have d': (ks.length:Int) < 2:=by omega
    have hc:XK (.mk 3 MUL s ks)=false:=by simp[XK,d]
    refine⟨.gs 0 0 0 0,B,?_,by simpa[hc]using LI hps⟩;simp only[hc];simp[MUL]at hsp hs hc;simp[F.f187C,hsp,hs,MUL,d']
   ·have d': ¬(ks.length:Int) < 2:=by omega
    have hc:XK (.mk 3 MUL s ks)=true:=by simp[XK,d];simp[MUL,INV,ONE]
    have e: ((Tm.mk 3 MUL s ks).name == INV)=false:=by simp[MUL,INV]
    rw[e];simp only[hc,Bool.true_and,QN,Bool.false_eq_true,if_false];simp[MUL]at hsp hs;simp[F.f187C,hsp,hs,MUL,d'];refine h3 _ ?_ ?_ ?_ ?_ ?_ <;> simp
  ·have h3:=h2 (-m) hu.neg;have hw:IntKind.i64.wrap (-m)= -m:=by rcases hu with rfl | rfl <;> rfl
   by_cases d:ks.length=1
   ·have d': (ks.length:Int)=1:=by omega
    have hc:XK (.mk 3 INV s ks)=true:=by simp[XK,d];simp[MUL,INV,ONE]
    have e: ((Tm.mk 3 INV s ks).name == INV)=true:=by simp
    rw[e];simp only[hc,Bool.true_and,QN,if_true];simp[INV]at hsp hs;simp[F.f187C,hsp,hs,INV,d',hw];refine h3 _ ?_ ?_ ?_ ?_ ?_ <;> simp[d]
   ·have d': ¬(ks.length:Int)=1:=by omega
    have hc:XK (.mk 3 INV s ks)=false:=by simp[XK,d]
    refine⟨.gs 0 0 0 0,B,?_,by simpa[hc]using LI hps⟩;simp only[hc];simp[INV]at hsp hs hc;simp[F.f187C,hsp,hs,INV,d']
  ·have h3:=h2 m hu;by_cases d:ks=[]
   ·subst d;have hc:XK (.mk 3 ONE s [])=true:=by simp[XK];simp[MUL,INV,ONE]
    have e: ((Tm.mk 3 ONE s []).name == INV)=false:=by simp[ONE,INV]
    rw[e];simp only[hc,Bool.true_and,QN,Bool.false_eq_true,if_false];simp[ONE]at hsp hs;simp[F.f187C,hsp,hs,ONE];refine h3 _ ?_ ?_ ?_ ?_ ?_ <;> simp
   ·have d0: ¬ks.length=0:=fun e=>d (List.eq_nil_of_length_eq_zero e);have d': ¬(ks.length:Int)=0:=by omega
    have hc:XK (.mk 3 ONE s ks)=false:=by simp[XK,d]
    refine⟨.gs 0 0 0 0,B,?_,by simpa[hc]using LI hps⟩;simp only[hc];simp[ONE]at hsp hs hc;simp[F.f187C,hsp,hs,ONE,d,d']
def ofE (t:Tm):Int:=if QF t≠0 then QF t else if arB t then(if 200 < (We [] t 1).length then 3 else 0)else 6
def ofP (t:Tm):List Pw:=if ofE t=0 then We [] t 1 else []
theorem Ik (t:Tm) (bs:List (List AV)) (hm:t.mass < 30000000):call F.tb 253 [.agg (Qa t)] bs=some (.tup [.sl false 5 (QQ (ofP t)),.int .i64 (ofE t)],bs):=by
 have hmb:t.mass < big:=by unfold big;omega
 have hnm:=Zm t;have h1:=YQ t bs hmb;have h2:=A0 t bs hmb;obtain⟨o,h3⟩:=Qiy t bs 1 [] 0 true hmb (.inl rfl) Da (by omega);have h3':call F.tb 256 [.sl true 5 [],.agg (Qa t),.int .i64 1] bs=some (.sl o 5 (QQ (We [] t 1)),bs):=h3;rw[Qb F.tb_253 _ _ rfl];by_cases hv:QF t=0
 ·cases ha:arB t
  ·simp[F.f253C,h1,h2,hv,ha,ofE,ofP,QQ]
  ·by_cases hl:200 < (We [] t 1).length
   ·have hl': (200:Int) < ((We [] t 1).length:Int):=by omega
    simp[F.f253C,h1,h2,h3',hv,ha,ofE,ofP,hl,hl'];simp[QQ]
   ·have hl': ¬(200:Int) < ((We [] t 1).length:Int):=by omega
    simp[F.f253C,h1,h2,h3',hv,ha,ofE,ofP,hl,hl']
 ·simp[F.f253C,h1,hv,ofE,ofP,QQ]
theorem Qni {B0 B:List (List AV)} {v:AV} {l:List Pw} (h:PS B0 B v l) (n:Nat): ∃o M2,∀ρ:Nat→AV,ρ n=v→Ys {env:=ρ,bs:=B} n 5=some (.sl o 5 (QQ l),{env:=upd ρ n .undef,bs:=B0 ++ M2}):=by
 obtain⟨M,id,sz,rfl,rfl,hc⟩:=h;rcases hc with⟨rfl,rfl,rfl⟩ | ⟨rfl,hid,t,hb,hne⟩
 ·exact⟨true,M,fun ρ hn=>by simp[Ys,hn,QQ]⟩
 ·by_cases hl:l.length=0
  ·have:l=[]:=List.eq_nil_of_length_eq_zero hl;subst this;exact⟨false,M,fun ρ hn=>by simp[Ys,hn,QQ]⟩
  ·refine⟨true,M.set (id - B0.length) [],fun ρ hn=> ?_⟩;have hle:0+l.length*5≤(QT l ++ t).length:=by rw[List.length_append,Xf];omega
   have hch:Yc (QT l ++ t) 0 5 l.length=QQ l:=XH (f:=Q9) (k:=5) WN Vc l t;simp only[Ys,hn];rw[if_pos ⟨trivial,by omega⟩,if_neg hl,hb];simp only[Option.bind_some];rw[if_pos hle,hch,Y2 hid];rfl
theorem Ig (t:Tm) (bs:List (List AV)) (hm:t.mass < 30000000):call F.tb 186 [.agg (Qa t)] bs=some (.tup [.sl false 5 (QQ (ofP t)),.int .i64 (ofE t)],bs):=by
 have hmb:t.mass < big:=by unfold big;omega
 have hnm:=Zm t;have h1:=XW t bs hmb;obtain⟨v,B,hc,hps⟩:=Qh8 t bs bs (.gs 0 0 0 0) [] 1 0 hmb (.inl rfl) (Qd8 bs) Da (by omega);obtain⟨id,sz,rfl⟩:=Vi hps;obtain⟨M,hM⟩: ∃M,B=bs ++ M:=by obtain⟨M,_,_,h,_⟩:=hps;exact⟨M,h⟩
 have hgn:=Kc (We [] t 1);rw[Qb F.tb_186 _ _ rfl];by_cases hv:QF t=0
 ·cases ha:arB t
  ·rw[ha]at hc hps;simp only[Bool.false_eq_true,if_false]at hc;simp[F.f186C,h1,hv,hc,ha,ofE,ofP,QQ,hM]
  ·rw[ha]at hc hps;simp only[if_true]at hc hps;by_cases hl:200 < (We [] t 1).length
   ·have hl': (200:Int) < ((We [] t 1).length:Int):=by omega
    simp[F.f186C,h1,hv,hc,ha,ofE,ofP,hl,hl',hM];simp[QQ]
   ·have hl': ¬(200:Int) < ((We [] t 1).length:Int):=by omega
    obtain⟨o,M2,hf⟩:=Qni hps 24;simp[F.f186C,h1,hv,hc,ha,ofE,ofP,hl,hl',hf]
 ·simp[F.f186C,h1,hv,ofE,ofP,QQ]
def gtO (prev:Option Tm) (t:Tm):Bool:=match prev with
 | none=>true
 | some q=>decide (Qm q t < 0)
def Y0 (n:Int):Bool:=decide (n < -1000) || decide (1000 < n)
def vPL:Option Tm→List Pw→Int
 | _,[]=>0
 | prev,p:: r=>if QF p.1≠0 then QF p.1 else if X2 p.1 then 1 else if p.2=0∨Y0 p.2=true then 7 else if gtO prev p.1 then vPL (some p.1) r else 5
def Yd (l:List Pw):Int:=if 200 < l.length then 3 else vPL none l
def Jk (l:List Pw):Option Tm:=l.getLast?.map (·.1)
theorem Hr:Jk []=none:=rfl
theorem RK (l:List Pw) (p:Pw):Jk (l ++ [p])=some p.1:=by simp[Jk]
theorem Qa2 (l:List Pw) (bs:List (List AV)) (hl:l.length < 100000000) (hm: ∀q∈l,q.1.mass < big):
  ∀(post pre:List Pw) (o:Bool) (ρ:Nat→AV),l=pre ++ post→ρ 0= .sl o 5 (QQ l)→ρ 9= .sl false 5 (QQ l)→ρ 10= .int .i64 l.length→ρ 11= .int .i64 pre.length→
  R F.tb (.loop F.f197l0) ρ bs (Ql 0 (Qr F.tb F.f197r0 (Qt F.f197 bs)))=some (.int .i64 (vPL (Jk pre) post),bs):=by
 intro post
 induction post with
 | nil=>
  intro pre o ρ hk h0 h9 h10 h11;simp only[List.append_nil]at hk;rw[← hk]at h11;rw[Qc F.f197l0.eq_1];simp[h0,h9,h10,h11,F.f197r0,vPL]
 | cons p post IH=>
  intro pre o ρ hk h0 h9 h10 h11;have hg:=Qp hk;have hll:=Qx hk;have hw1:=wr1 pre.length (by omega);have hlt:=Qy hk;have hmp:=hm p (by rw[hk];simp);have h1:=XW p.1 bs hmp;have h2:=Mk p.1 bs;have h3:=fun ρ=>IH (pre ++ [p]) o ρ (by rw[hk];simp);rw[RK]at h3;rw[Qc F.f197l0.eq_1];by_cases c1:QF p.1=0
  ·cases c2:X2 p.1
   ·by_cases c3:p.2=0
    ·simp[h0,h9,h10,h11,hg,hlt,h1,h2,c1,c2,c3,vPL]
    ·by_cases c4:p.2 < -1000
     ·simp[h0,h9,h10,h11,hg,hlt,h1,h2,c1,c2,c3,c4,vPL,Y0]
     ·by_cases c5:1000 < p.2
      ·simp[h0,h9,h10,h11,hg,hlt,h1,h2,c1,c2,c3,c4,c5,vPL,Y0]
      ·rcases List.eq_nil_or_concat pre with rfl | ⟨pre2,q,rfl⟩
       ·have h11':ρ 11= .int .i64 0:=h11;have hg':l[0]? =some p:=hg;have hlt':0 < l.length:=by omega
        have hw0:IntKind.i64.wrap 1=1:=rfl;clear h11 hg hlt hw1;simp[-getElem?_pos,h0,h9,h10,h11',hg',hlt',hw0,h1,h2,c1,c2,c3,c4,c5,vPL,Y0,Hr,gtO];refine h3 _ ?_ ?_ ?_ ?_ <;> simp[h0,h9,h10]
       ·have hg2:l[pre2.length]? =some q:=by rw[hk];simp
        have hq:=hm q (by rw[hk];simp);have h4:=call_Compare q.1 p.1 bs hq hmp;have hp0: (0:Int) < (pre2.length:Int)+1:=by omega
        have hp1: (0:Int)≤(pre2.length:Int)+1:=by omega
        have hp2: ((pre2.length:Int)+1).toNat=pre2.length+1:=by omega
        have hw2:IntKind.i64.wrap (pre2.length:Int)=(pre2.length:Int):=ZG (by simp at hll;omega) (by simp at hll;omega);simp only[List.concat_eq_append]at *;rw[RK];simp only[List.length_append,List.length_singleton,Int.natCast_add,Int.natCast_one]at h11 hg hlt hw1 h3;by_cases c6:Qm q.1 p.1 < 0
        ·have c6': ¬0≤Qm q.1 p.1:=by omega
         simp[h0,h9,h10,h11,hg,hg2,hlt,hw1,hw2,hp0,hp1,hp2,h1,h2,h4,c1,c2,c3,c4,c5,c6,c6',vPL,Y0,gtO];refine h3 _ ?_ ?_ ?_ ?_ <;> simp[h0,h9,h10]
        ·have c6':0≤Qm q.1 p.1:=by omega
         simp[h0,h9,h10,h11,hg,hg2,hlt,hw1,hw2,hp0,hp1,hp2,h1,h2,h4,c1,c2,c3,c4,c5,c6,c6',vPL,Y0,gtO]
   ·simp[h0,h9,h10,h11,hg,hlt,h1,h2,c1,c2,vPL]
  ·simp[h0,h9,h10,h11,hg,hlt,h1,h2,c1,vPL]
theorem Ih (l:List Pw) (o:Bool) (bs:List (List AV)) (hl:l.length < 100000000) (hm: ∀q∈l,q.1.mass < big):call F.tb 197 [.sl o 5 (QQ l)] bs=some (.int .i64 (Yd l),bs):=by
 have h:=fun ρ=>Qa2 l bs hl hm l [] false ρ rfl;rw[Qb F.tb_197 _ _ rfl];by_cases c:200 < l.length
 ·have c': (200:Int) < (l.length:Int):=by omega
  simp[F.f197C,c,c',Yd]
 ·have c': ¬(200:Int) < (l.length:Int):=by omega
  simp[F.f197C,c,c',Yd];refine h _ ?_ ?_ ?_ ?_ <;> simp
theorem DH (l:List Pw) (bs:List (List AV)) (hl:l.length < 100000000) (hm: ∀q∈l,q.1.mass < big):
  ∀(post pre:List Pw) (o:Bool) (ρ:Nat→AV),l=pre ++ post→ρ 0= .sl o 5 (QQ l)→ρ 3= .int .i64 pre.length→
  R F.tb (.loop F.f259l0) ρ bs (Ql 0 (Qr F.tb F.f259r0 (Qt F.f259 bs)))=some (.int .i64 (vPL (Jk pre) post),bs):=by
 intro post
 induction post with
 | nil=>
  intro pre o ρ hk h0 h3;simp only[List.append_nil]at hk;rw[← hk]at h3;rw[Qc F.f259l0.eq_1];simp[h0,h3,F.f259r0,vPL]
 | cons p post IH=>
  intro pre o ρ hk h0 h3;have hg:=Qp hk;have hll:=Qx hk;have hw1:=wr1 pre.length (by omega);have hlt:=Qy hk;have hmp:=hm p (by rw[hk];simp);have h1:=YQ p.1 bs hmp;have h2:=S7 p.1 bs;have hh:=fun ρ=>IH (pre ++ [p]) o ρ (by rw[hk];simp);rw[RK]at hh;rw[Qc F.f259l0.eq_1];by_cases c1:QF p.1=0
  ·cases c2:X2 p.1
   ·by_cases c3:p.2=0
    ·simp[h0,h3,hg,hlt,h1,h2,c1,c2,c3,vPL]
    ·by_cases c4:p.2 < -1000
     ·simp[h0,h3,hg,hlt,h1,h2,c1,c2,c3,c4,vPL,Y0]
     ·by_cases c5:1000 < p.2
      ·simp[h0,h3,hg,hlt,h1,h2,c1,c2,c3,c4,c5,vPL,Y0]
      ·rcases List.eq_nil_or_concat pre with rfl | ⟨pre2,q,rfl⟩
       ·have h3':ρ 3= .int .i64 0:=h3;have hg':l[0]? =some p:=hg;have hlt':0 < l.length:=by omega
        have hw0:IntKind.i64.wrap 1=1:=rfl;clear h3 hg hlt hw1;simp[-getElem?_pos,h0,h3',hg',hlt',hw0,h1,h2,c1,c2,c3,c4,c5,vPL,Y0,Hr,gtO];refine hh _ ?_ ?_ <;> simp[h0]
       ·have hg2:l[pre2.length]? =some q:=by rw[hk];simp
        have hq:=hm q (by rw[hk];simp);have h4:=Wr q.1 p.1 bs hq hmp;have hp0: (0:Int) < (pre2.length:Int)+1:=by omega
        have hp1: (0:Int)≤(pre2.length:Int)+1:=by omega
        have hp2: ((pre2.length:Int)+1).toNat=pre2.length+1:=by omega
        have hw2:IntKind.i64.wrap (pre2.length:Int)=(pre2.length:Int):=ZG (by simp at hll;omega) (by simp at hll;omega);simp only[List.concat_eq_append]at *;rw[RK];simp only[List.length_append,List.length_singleton,Int.natCast_add,Int.natCast_one]at h3 hg hlt hw1 hh;by_cases c6:Qm q.1 p.1 < 0
        ·have c6': ¬0≤Qm q.1 p.1:=by omega
         simp[h0,h3,hg,hg2,hlt,hw1,hw2,hp0,hp1,hp2,h1,h2,h4,c1,c2,c3,c4,c5,c6,c6',vPL,Y0,gtO];refine hh _ ?_ ?_ <;> simp[h0]
        ·have c6':0≤Qm q.1 p.1:=by omega
         simp[h0,h3,hg,hg2,hlt,hw1,hw2,hp0,hp1,hp2,h1,h2,h4,c1,c2,c3,c4,c5,c6,c6',vPL,Y0,gtO]
   ·simp[h0,h3,hg,hlt,h1,h2,c1,c2,vPL]
  ·simp[h0,h3,hg,hlt,h1,h2,c1,vPL]
theorem Il (l:List Pw) (o:Bool) (bs:List (List AV)) (hl:l.length < 100000000) (hm: ∀q∈l,q.1.mass < big):call F.tb 259 [.sl o 5 (QQ l)] bs=some (.int .i64 (Yd l),bs):=by
 have h:=fun ρ=>DH l bs hl hm l [] false ρ rfl;rw[Qb F.tb_259 _ _ rfl];by_cases c:200 < l.length
 ·have c': (200:Int) < (l.length:Int):=by omega
  simp[F.f259C,c,c',Yd]
 ·have c': ¬(200:Int) < (l.length:Int):=by omega
  simp[F.f259C,c,c',Yd];refine h _ ?_ ?_ <;> simp
theorem QeL: ∀(l:List Pw) (prev:Option Tm),vPL prev l=0→(∀q∈l,QF q.1=0∧X2 q.1=false∧q.2≠0∧ -1000≤q.2∧q.2≤1000)∧Asc (Wm l)∧(∀a,prev=some a→∀q∈l,Qm a q.1 < 0)
 | [],prev,_=>⟨fun q h=>by simp at h,Asc.nil,fun a _ q h=>by simp at h⟩
 | p:: r,prev,h=>by
  simp only[vPL]at h;split at h
  ·rename_i c;exact absurd h c
  rename_i c1;split at h
  ·cases h
  rename_i c2;split at h
  ·cases h
  rename_i c3;split at h
  ·rename_i c4;obtain⟨h1,h2,h3⟩:=QeL r (some p.1) h;have hpr:=h3 p.1 rfl;refine⟨fun q hq=> ?_,?_,?_⟩
   ·rcases List.mem_cons.1 hq with rfl | hq
    ·simp[Y0]at c3;exact⟨by simpa using c1,by simpa using c2,c3.1,c3.2.1,c3.2.2⟩
    ·exact h1 q hq
   ·simp only[Wm,List.map_cons];refine Yp.2 ⟨fun y hy=> ?_,h2⟩;obtain⟨q,hq,rfl⟩:=List.mem_map.1 hy;exact hpr q hq
   ·intro a ha q hq;subst ha;have c5:Qm a p.1 < 0:=by simpa[gtO]using c4
    rcases List.mem_cons.1 hq with rfl | hq
    ·exact c5
    ·exact YD c5 (hpr q hq)
  ·cases h
theorem U3 {l:List Pw} (h:Yd l=0) (hm: ∀q∈l,q.1.mass < big):Wn l 1000∧l.length≤200∧∀q∈l,QF q.1=0∧X2 q.1=false:=by
 unfold Yd at h;split at h
 ·cases h
 ·obtain⟨h1,h2,_⟩:=QeL l none h;exact⟨⟨h2,fun q hq=>(h1 q hq).2.2.1,by omega,fun q hq=>⟨hm q hq,(h1 q hq).2.2.2.1,(h1 q hq).2.2.2.2⟩⟩,by omega,fun q hq=>⟨(h1 q hq).1,(h1 q hq).2.1⟩⟩
def Uq (t:Tm):Tm:= .mk 3 INV 0 [t]
def XQ (l:List Pw):List Tm:=(l.map fun p=>List.replicate p.2.toNat p.1).flatten
def X0 (l:List Pw):List Tm:=(l.map fun p=>List.replicate (-p.2).toNat (Uq p.1)).flatten
def ZJ (l:List Pw):List Tm:=XQ l ++ X0 l
def ZD:List Tm→Tm
 | []=> .mk 3 ONE 0 []
 | [p]=>p
 | p:: q:: r=> .mk 3 MUL 0 (p:: q:: r)
def ZQ (l:List Pw):Tm×Int:=
 if Yd l≠0 then(Qw,Yd l)else if 8 < (ZJ l).length then(Qw,3)else if QF (ZD (ZJ l))≠0 then(Qw,QF (ZD (ZJ l)))else(ZD (ZJ l),0)
theorem Dd (a:List Pw) (p:Pw):XQ (a ++ [p])=XQ a ++ List.replicate p.2.toNat p.1:=by simp[XQ]
theorem E1 (a:List Pw) (p:Pw):X0 (a ++ [p])=X0 a ++ List.replicate (-p.2).toNat (Uq p.1):=by simp[X0]
theorem De {l:List Pw} (h: ∀q∈l,q.2≤8): (XQ l).length≤8*l.length:=by
 induction l with
 | nil=>simp[XQ]
 | cons p l ih=>
  have h1:=ih fun q hq=>h q (by simp[hq]);have h2:=h p (by simp);simp only[XQ,List.map_cons,List.flatten_cons,List.length_append,List.length_replicate,List.length_cons]at h1 ⊢;omega
theorem E3 {l:List Pw} (h: ∀q∈l,-8≤q.2): (X0 l).length≤8*l.length:=by
 induction l with
 | nil=>simp[X0]
 | cons p l ih=>
  have h1:=ih fun q hq=>h q (by simp[hq]);have h2:=h p (by simp);simp only[X0,List.map_cons,List.flatten_cons,List.length_append,List.length_replicate,List.length_cons]at h1 ⊢;omega
theorem Df {l:List Pw} {p:Pw} (h:p∈l):p.2.toNat≤(XQ l).length:=by
 induction l with
 | nil=>simp at h
 | cons q l ih=>
  simp only[XQ,List.map_cons,List.flatten_cons,List.length_append,List.length_replicate]at ih ⊢;rcases List.mem_cons.1 h with rfl | h
  ·omega
  ·have:=ih h;omega
theorem E4 {l:List Pw} {p:Pw} (h:p∈l): (-p.2).toNat≤(X0 l).length:=by
 induction l with
 | nil=>simp at h
 | cons q l ih=>
  simp only[X0,List.map_cons,List.flatten_cons,List.length_append,List.length_replicate]at ih ⊢;rcases List.mem_cons.1 h with rfl | h
  ·omega
  ·have:=ih h;omega
theorem Ii (n:List UInt8) (ks:List Tm) (o:Bool) (bs:List (List AV)):call F.tb 198 [.str n,.sl o 4 (encTs ks)] bs=some (.agg (Qa (.mk 3 n 0 ks)),bs):=by
 rw[Qb F.tb_198 _ _ rfl];simp[F.f198,F.f198C,WC]
theorem LJ {k:Nat} (acc:List Tm) (x:Tm): (acc ++ [x])++ List.replicate k x=acc ++ List.replicate (k+1) x:=by simp[List.replicate_succ]
theorem Qky {p:Pw} {bs:List (List AV)} (hp:p.1.mass < big) (hN: -8≤p.2∧p.2≤8) (c:AC) (K:Kn) (X:Out): ∀(k:Nat) (acc:List Tm) (i:Nat) (ρ:Nat→AV),i+k=p.2.toNat→acc.length+k < 100000000→ρ 5= .sl true 4 (encTs acc)→ρ 8= .bx (Q9 p)→ρ 34= .int .i64 p.2→ρ 35= .int .i64 i→
  (∀ρ':Nat→AV,ρ' 5= .sl true 4 (encTs (acc ++ List.replicate k p.1))→(∀j,j < 34→j≠5→ρ' j=ρ j)→R F.tb c ρ' bs K=X)→
  R F.tb (.loop F.f196l0) ρ bs (Ql 2 (Qr F.tb c K))=X:=by
 intro k
 induction k with
 | zero=>
  intro acc i ρ hi hl h5 h8 h34 h35 h;have hn: ¬(i:Int) < p.2:=by omega
  rw[Qc F.f196l0.eq_1];simp[h5,h8,h34,h35,hn];apply h
  ·simp[h5]
  ·intro j hj h5j;have:j≠36:=by omega
   simp[this]
 | succ k IH=>
  intro acc i ρ hi hl h5 h8 h34 h35 h;have hn: (i:Int) < p.2:=by omega
  have hw1:IntKind.i64.wrap ((i:Int)+1)=((i+1:Nat):Int):=by rw[ZG (by omega) (by omega)];omega
  have hb: (acc.length+1)*56≤140737488355328:=Yi (by omega);have hc:=Tx p.1 bs hp;rw[Qc F.f196l0.eq_1];simp[h5,h8,h34,h35,hn,hw1,hb,hc,Q7,QP];refine IH (acc ++ [p.1]) (i+1) _ (by omega) (by simp;omega) ?_ ?_ ?_ ?_ ?_
  ·simp
  ·simp[h8]
  ·simp[h34]
  ·simp
  ·intro ρ' g5 gj;rw[LJ]at g5;refine h ρ' g5 fun j hj h5j=> ?_;rw[gj j hj h5j];have e1:j≠35:=by omega
   have e2:j≠36:=by omega
   have e3:j≠37:=by omega
   have e4:j≠38:=by omega
   have e5:j≠39:=by omega
   have e6:j≠40:=by omega
   have e7:j≠41:=by omega
   have e8:j≠42:=by omega
   have e9:j≠43:=by omega
   simp[*]
theorem Qkz {p:Pw} {bs:List (List AV)} (hp:p.1.mass < big) (hN: -8≤p.2∧p.2≤8) (c:AC) (K:Kn) (X:Out): ∀(k:Nat) (acc:List Tm) (i:Nat) (ρ:Nat→AV),i+k=(-p.2).toNat→acc.length+k < 100000000→ρ 6= .sl true 4 (encTs acc)→ρ 8= .bx (Q9 p)→ρ 46= .int .i64 (-p.2)→ρ 47= .int .i64 i→
  (∀ρ':Nat→AV,ρ' 6= .sl true 4 (encTs (acc ++ List.replicate k (Uq p.1)))→(∀j,j < 34→j≠6→ρ' j=ρ j)→R F.tb c ρ' bs K=X)→
  R F.tb (.loop F.f196l1) ρ bs (Ql 4 (Ql 1 (Qr F.tb c K)))=X:=by
 intro k
 induction k with
 | zero=>
  intro acc i ρ hi hl h6 h8 h46 h47 h;have hn: ¬(i:Int) < -p.2:=by omega
  rw[Qc F.f196l1.eq_1];simp[h6,h8,h46,h47,hn];apply h
  ·simp[h6]
  ·intro j hj h5j;have:j≠48:=by omega
   simp[this]
 | succ k IH=>
  intro acc i ρ hi hl h6 h8 h46 h47 h;have hn: (i:Int) < -p.2:=by omega
  have hw1:IntKind.i64.wrap ((i:Int)+1)=((i+1:Nat):Int):=by rw[ZG (by omega) (by omega)];omega
  have hb: (acc.length+1)*56≤140737488355328:=Yi (by omega);have hc:=Tx p.1 bs hp;have hc2:=Ii INV [p.1] false bs;simp only[INV]at hc2;rw[Qc F.f196l1.eq_1];simp[h6,h8,h46,h47,hn,hw1,hb,hc,hc2,Q7];rw[show Qa (Tm.mk 3 [105,110,118] 0 [p.1])=Qa (Uq p.1)from rfl];simp[Q7,QP];refine IH (acc ++ [Uq p.1]) (i+1) _ (by omega) (by simp;omega) ?_ ?_ ?_ ?_ ?_
  ·simp[Uq,INV]
  ·simp[h8]
  ·simp[h46]
  ·simp
  ·intro ρ' g6 gj;rw[LJ]at g6;refine h ρ' g6 fun j hj h5j=> ?_;rw[gj j hj h5j];have e1:j≠47:=by omega
   have e2:j≠48:=by omega
   have e3:j≠49:=by omega
   have e4:j≠50:=by omega
   have e5:j≠51:=by omega
   have e6:j≠52:=by omega
   have e7:j≠53:=by omega
   have e8:j≠54:=by omega
   have e9:j≠55:=by omega
   have e10:j≠56:=by omega
   have e11:j≠57:=by omega
   simp[*]
theorem QkB (l:List Pw) (bs:List (List AV)) (hv:Yd l=0) (hl: (ZJ l).length < 100000000) (hm:massL (ZJ l) < big - 100) (ρ:Nat→AV) (h2:ρ 2= .bx [.int .i64 0,.str [],.int .i64 0,.sl true 4 []]) (h5:ρ 5= .sl true 4 (encTs (XQ l))) (h6:ρ 6= .sl true 4 (encTs (X0 l))):
  R F.tb F.f196r2 ρ bs (Qt F.f196 bs)=some (QS (ZQ l),bs):=by
 have hc:=Tw [XQ l,X0 l] false bs (by simp) (by simpa[ZJ]using hl);have hfl: [XQ l,X0 l].flatten=ZJ l:=by simp[ZJ]
 rw[hfl]at hc;simp only[Uh,List.map_cons,List.map_nil]at hc;have ha:=Ii MUL (ZJ l) false bs;have ha1:=Ii ONE [] true bs;simp only[MUL]at ha;simp only[ONE,encTs]at ha1;by_cases c8:8 < (ZJ l).length
 ·have c8': (8:Int) < ((ZJ l).length:Int):=by omega
  have e:ZQ l=(Qw,3):=by simp[ZQ,hv,c8]
  rw[e];simp[F.f196r2,h2,h5,h6,hc,c8',QS,QE]
 ·have c8': ¬(8:Int) < ((ZJ l).length:Int):=by omega
  have hpm: (ZD (ZJ l)).mass < big:=by
   unfold big at *
   match h:ZJ l with
   | []=>simp[ZD,Qo,massL,ONE]
   | [p]=>rw[h]at hm;simp[ZD,massL]at hm ⊢;omega
   | p:: q:: r=>rw[h]at hm c8;simp[ZD,Qo,massL,MUL]at hm c8 ⊢;omega
  have hvv:=XW (ZD (ZJ l)) bs hpm;have e:ZQ l=if QF (ZD (ZJ l))≠0 then(Qw,QF (ZD (ZJ l)))else(ZD (ZJ l),0):=by simp[ZQ,hv,c8]
  rw[e];generalize hL:ZJ l=L at *
  match L,hL with
  | [],hL=>
   simp only[ZD,ONE]at hvv;simp only[encTs]at ha hc;by_cases cv:QF (.mk 3 [111,110,101] 0 [])=0
   ·rw[cv]at hvv;simp[F.f196r2,h2,h5,h6,hc,ha,ha1,hvv,cv,QS,ZD,ONE]
   ·simp[F.f196r2,h2,h5,h6,hc,ha,ha1,hvv,cv,QS,QE,ZD,ONE]
  | [p],hL=>
   simp only[ZD]at hvv;by_cases cv:QF p=0
   ·rw[cv]at hvv;simp[F.f196r2,h2,h5,h6,hc,ha,hvv,cv,QS,ZD]
   ·simp[F.f196r2,h2,h5,h6,hc,ha,hvv,cv,QS,QE,ZD]
  | p:: q:: r,hL=>
   simp only[ZD,MUL]at hvv;have c8'': ¬(8:Int) < (r.length:Int)+1+1:=by simpa using c8'
   have n0: ¬(r.length:Int)+1+1=0:=by omega
   have n1: ¬(r.length:Int)+1+1=1:=by omega
   by_cases cv:QF (.mk 3 [109,117,108] 0 (p:: q:: r))=0
   ·rw[cv]at hvv;simp[F.f196r2,h2,h5,h6,hc,ha,hvv,cv,c8'',n0,n1,QS,ZD,MUL]
   ·simp[F.f196r2,h2,h5,h6,hc,ha,hvv,cv,c8'',n0,n1,QS,QE,ZD,MUL]
theorem QkA (l:List Pw) (bs:List (List AV)) (hv:Yd l=0) (hl:l.length < 5000000) (hk: ∀q∈l,q.1.mass < big) (hm: (∀q∈l,-8≤q.2∧q.2≤8)→massL (ZJ l) < big - 100):
  ∀(post pre:List Pw) (ρ:Nat→AV),l=pre ++ post→(∀q∈pre,-8≤q.2∧q.2≤8)→ρ 2= .bx [.int .i64 0,.str [],.int .i64 0,.sl true 4 []]→ρ 5= .sl true 4 (encTs (XQ pre))→ρ 6= .sl true 4 (encTs (X0 pre))→
   ρ 18= .sl false 5 (QQ l)→ρ 19= .int .i64 l.length→ρ 20= .int .i64 pre.length→
  R F.tb (.loop F.f196l2) ρ bs (Ql 0 (Qr F.tb F.f196r2 (Qt F.f196 bs)))=some (QS (ZQ l),bs):=by
 intro post
 induction post with
 | nil=>
  intro pre ρ hkk hq h2 h5 h6 h18 h19 h20;simp only[List.append_nil]at hkk;subst hkk;have hr:=QkB l bs hv (by
   have h1:=De (l:=l) fun q h=>(hq q h).2;have h2:=E3 (l:=l) fun q h=>(hq q h).1;simp only[ZJ,List.length_append];omega) (hm hq)
  rw[Qc F.f196l2.eq_1];simp[h18,h19,h20];apply hr <;> simp[h2,h5,h6]
 | cons p post IH=>
  intro pre ρ hkk hq h2 h5 h6 h18 h19 h20;have hg:=Qp hkk;have hll:l.length=pre.length+ (post.length+1):=by rw[hkk];simp
  have hw1:=wr1 pre.length (by omega);have hlt: (pre.length:Int) < (l.length:Int):=by omega
  have hpl:p∈l:=by rw[hkk];simp
  have hmp:=hk p hpl;have hbig: ∀n,n < (ZJ l).length→8≤n→ZQ l=(Qw,3):=by
   intro n h1 h2;have:8 < (ZJ l).length:=by omega
   simp[ZQ,hv,this]
  rw[Qc F.f196l2.eq_1];by_cases c1:8 < p.2
  ·have h1:=Df hpl;have e:=hbig 8 (by simp only[ZJ,List.length_append];omega) (by omega);rw[e];simp[h2,h5,h6,h18,h19,h20,hg,hlt,c1,QS,QE]
  ·by_cases c2:p.2 < -8
   ·have h1:=E4 hpl;have e:=hbig 8 (by simp only[ZJ,List.length_append];omega) (by omega);rw[e];simp[h2,h5,h6,h18,h19,h20,hg,hlt,c1,c2,QS,QE]
   ·have hN: -8≤p.2∧p.2≤8:=by omega
    have hw:IntKind.i64.wrap (-p.2)= -p.2:=ZG (by omega) (by omega);have hq2: ∀q∈pre ++ [p],-8≤q.2∧q.2≤8:=by
     intro q h;rcases List.mem_append.1 h with h | h
     ·exact hq q h
     ·simp at h;subst h;exact hN
    have h1:=De (l:=pre) fun q h=>(hq q h).2;have h3:=E3 (l:=pre) fun q h=>(hq q h).1;have ih:=fun ρ=>IH (pre ++ [p]) ρ (by rw[hkk];simp) hq2;simp[h2,h5,h6,h18,h19,h20,hg,hlt,c1,c2];refine Qky hmp hN _ _ _ p.2.toNat (XQ pre) 0 _ (by omega) (by omega) ?_ ?_ ?_ ?_ ?_
    ·simp[h5]
    ·simp
    ·simp
    ·simp
    ·intro ρ' g5 gj;have g2:ρ' 2=_:=gj 2 (by omega) (by omega);have g6:ρ' 6=_:=gj 6 (by omega) (by omega);have g8:ρ' 8=_:=gj 8 (by omega) (by omega);have g18:ρ' 18=_:=gj 18 (by omega) (by omega);have g19:ρ' 19=_:=gj 19 (by omega) (by omega);have g20:ρ' 20=_:=gj 20 (by omega) (by omega);simp[h2,h6,h18,h19,h20]at g2 g6 g8 g18 g19 g20;simp[F.f196r0,g8,hw];refine Qkz hmp hN _ _ _ (-p.2).toNat (X0 pre) 0 _ (by omega) (by omega) ?_ ?_ ?_ ?_ ?_
     ·simp[g6]
     ·simp[g8]
     ·simp
     ·simp
     ·intro ρ'' k6 kj;have k2:ρ'' 2=_:=kj 2 (by omega) (by omega);have k5:ρ'' 5=_:=kj 5 (by omega) (by omega);have k18:ρ'' 18=_:=kj 18 (by omega) (by omega);have k19:ρ'' 19=_:=kj 19 (by omega) (by omega);have k20:ρ'' 20=_:=kj 20 (by omega) (by omega);simp[g2,g5,g18,g19,g20]at k2 k5 k18 k19 k20;simp[F.f196r1,k20,hw1];apply ih <;> simp[k2,k5,k6,k18,k19,Dd,E1]
theorem Qib (l:List Pw) (o:Bool) (bs:List (List AV)) (hl:l.length < 5000000) (hk: ∀q∈l,q.1.mass < big) (hm: (∀q∈l,-8≤q.2∧q.2≤8)→massL (ZJ l) < big - 100):
  call F.tb 196 [.sl o 5 (QQ l)] bs=some (QS (ZQ l),bs):=by
 have h1:=Ih l false bs (by omega) hk;rw[Qb F.tb_196 _ _ rfl];by_cases hv:Yd l=0
 ·have h:=fun ρ=>QkA l bs hv hl hk hm l [] ρ rfl (by simp);simp[F.f196C,h1,hv];apply h <;> simp[XQ,X0,encTs]
 ·have e:ZQ l=(Qw,Yd l):=by simp[ZQ,hv]
  rw[e];simp[F.f196C,h1,hv,QS,QE]
theorem Y4 (n:List UInt8) (ks:List Tm) (o:Bool) (bs:List (List AV)) (hl:ks.length < 100000000):call F.tb 120 [.str n,.sl o 4 (encTs ks)] bs=some (.agg (Qa (.mk 3 n 0 ks)),bs):=by
 have hb:ks.length*56≤140737488355328:=Yi (by omega);rw[Qb F.tb_120 _ _ rfl];simp[F.f120C,hb,WC]
theorem N0 {α:Type} (n:Nat) (a b:List α): (a.take n ++ b).take n=(a ++ b).take n:=by
 rw[List.take_append,List.take_append,List.take_take,List.length_take,Nat.min_self];congr 2;omega
theorem Qnd {l:List Pw} {p:Pw} {bs:List (List AV)} (hN: -1000≤p.2∧p.2≤1000) (c:AC) (K:Kn) (X:Out): ∀(k:Nat) (acc:List Tm) (i n:Nat) (o:Bool) (ρ:Nat→AV),l[n]? =some p→i+k=p.2.toNat→acc.length≤9→ρ 0= .sl o 5 (QQ l)→ρ 3= .sl true 4 (encTs acc)→ρ 4= .int .i64 n→ρ 5= .int .i64 i→
  (∀ρ':Nat→AV,ρ' 0= .sl o 5 (QQ l)→ρ' 4= .int .i64 n→ρ' 3= .sl true 4 (encTs ((acc ++ List.replicate k p.1).take 9))→R F.tb c ρ' bs K=X)→
  R F.tb (.loop F.f260l0) ρ bs (Ql 2 (Ql 1 (Qr F.tb c K)))=X:=by
 intro k
 induction k with
 | zero=>
  intro acc i n o ρ hg hi ha h0 h3 h4 h5 h;have hn: ¬(i:Int) < p.2:=by omega
  rw[Qc F.f260l0.eq_1];simp[h0,h3,h4,h5,hg,hn];apply h <;> simp[h0,h3,h4,List.take_of_length_le ha]
 | succ k IH=>
  intro acc i n o ρ hg hi ha h0 h3 h4 h5 h;have hn: (i:Int) < p.2:=by omega
  have hw1:IntKind.i64.wrap ((i:Int)+1)=((i+1:Nat):Int):=by rw[ZG (by omega) (by omega)];omega
  rw[Qc F.f260l0.eq_1];by_cases c9:acc.length < 9
  ·have c9': (acc.length:Int) < 9:=by omega
   have hb: (acc.length+1)*56≤140737488355328:=Yi (by omega);simp[h0,h3,h4,h5,hg,hn,hw1,hb,c9',Q7,QP];refine IH (acc ++ [p.1]) (i+1) n o _ hg (by omega) (by simp;omega) ?_ ?_ ?_ ?_ ?_
   ·simp[h0]
   ·simp
   ·simp[h4]
   ·simp
   ·intro ρ' g0 g4 g3;rw[LJ]at g3;exact h ρ' g0 g4 g3
  ·have c9': ¬(acc.length:Int) < 9:=by omega
   have e: (acc ++ List.replicate (k+1) p.1).take 9=acc:=by rw[List.take_append_of_le_length (by omega),List.take_of_length_le ha]
   simp[h0,h3,h4,h5,hg,hn,c9'];apply h <;> simp[h0,h3,h4,e]
theorem Qnf {l:List Pw} {p:Pw} {bs:List (List AV)} (hN: -1000≤p.2∧p.2≤1000) (c:AC) (K:Kn) (X:Out): ∀(k:Nat) (acc:List Tm) (i n:Nat) (o:Bool) (ρ:Nat→AV),l[n]? =some p→i+k=(-p.2).toNat→acc.length≤9→ρ 0= .sl o 5 (QQ l)→ρ 3= .sl true 4 (encTs acc)→ρ 6= .int .i64 n→ρ 7= .int .i64 i→
  (∀ρ':Nat→AV,ρ' 0= .sl o 5 (QQ l)→ρ' 6= .int .i64 n→ρ' 3= .sl true 4 (encTs ((acc ++ List.replicate k (Uq p.1)).take 9))→R F.tb c ρ' bs K=X)→
  R F.tb (.loop F.f260l2) ρ bs (Ql 6 (Ql 5 (Qr F.tb c K)))=X:=by
 have hw:IntKind.i64.wrap (-p.2)= -p.2:=ZG (by omega) (by omega);intro k
 induction k with
 | zero=>
  intro acc i n o ρ hg hi ha h0 h3 h4 h5 h;have hn: ¬(i:Int) < -p.2:=by omega
  rw[Qc F.f260l2.eq_1];simp[h0,h3,h4,h5,hg,hw,hn];apply h <;> simp[h0,h3,h4,List.take_of_length_le ha]
 | succ k IH=>
  intro acc i n o ρ hg hi ha h0 h3 h4 h5 h;have hn: (i:Int) < -p.2:=by omega
  have hw1:IntKind.i64.wrap ((i:Int)+1)=((i+1:Nat):Int):=by rw[ZG (by omega) (by omega)];omega
  rw[Qc F.f260l2.eq_1];by_cases c9:acc.length < 9
  ·have c9': (acc.length:Int) < 9:=by omega
   have hb: (acc.length+1)*56≤140737488355328:=Yi (by omega);have hc2:=Y4 INV [p.1] false bs (by simp);simp only[INV]at hc2;simp[h0,h3,h4,h5,hg,hw,hn,hw1,hb,hc2,c9',Q7];rw[show Qa (Tm.mk 3 [105,110,118] 0 [p.1])=Qa (Uq p.1)from rfl];simp[Q7,QP];refine IH (acc ++ [Uq p.1]) (i+1) n o _ hg (by omega) (by simp;omega) ?_ ?_ ?_ ?_ ?_
   ·simp[h0]
   ·simp[Uq,INV]
   ·simp[h4]
   ·simp
   ·intro ρ' g0 g4 g3;rw[LJ]at g3;exact h ρ' g0 g4 g3
  ·have c9': ¬(acc.length:Int) < 9:=by omega
   have e: (acc ++ List.replicate (k+1) (Uq p.1)).take 9=acc:=by rw[List.take_append_of_le_length (by omega),List.take_of_length_le ha]
   simp[h0,h3,h4,h5,hg,hw,hn,c9'];apply h <;> simp[h0,h3,h4,e]
theorem Qng (l:List Pw) (bs:List (List AV)) (hl:l.length < 5000000) (hN: ∀q∈l,-1000≤q.2∧q.2≤1000):
  ∀(post pre:List Pw) (o:Bool) (ρ:Nat→AV),l=pre ++ post→ρ 0= .sl o 5 (QQ l)→ρ 3= .sl true 4 (encTs ((XQ l ++ X0 pre).take 9))→ρ 6= .int .i64 pre.length→
  R F.tb (.loop F.f260l3) ρ bs (Ql 4 (Qr F.tb F.f260r2 (Qt F.f260 bs)))=some (.sl false 4 (encTs ((ZJ l).take 9)),bs):=by
 intro post
 induction post with
 | nil=>
  intro pre o ρ hk h0 h3 h6;simp only[List.append_nil]at hk;subst hk;rw[Qc F.f260l3.eq_1];simp[h0,h3,h6,F.f260r2,ZJ]
 | cons p post IH=>
  intro pre o ρ hk h0 h3 h6;have hg:=Qp hk;have hll:=Qx hk;have hw1:=wr1 pre.length (by omega);have hlt:=Qy hk;have ih:=fun ρ=>IH (pre ++ [p]) o ρ (by rw[hk];simp);have hpN:=hN p (by rw[hk];simp);rw[Qc F.f260l3.eq_1];simp[h0,h3,h6,hlt];refine Qnf hpN _ _ _ (-p.2).toNat ((XQ l ++ X0 pre).take 9) 0 pre.length o _ hg (by omega) (by rw[List.length_take];omega) ?_ ?_ ?_ ?_ ?_
  ·simp[h0]
  ·simp[h3]
  ·simp[h6]
  ·simp
  ·intro ρ' g0 g6 g3;rw[N0,List.append_assoc,← E1]at g3;simp[F.f260r1,g6,hw1];apply ih <;> simp[g0,g3]
theorem Qne (l:List Pw) (bs:List (List AV)) (hl:l.length < 5000000) (hN: ∀q∈l,-1000≤q.2∧q.2≤1000):
  ∀(post pre:List Pw) (o:Bool) (ρ:Nat→AV),l=pre ++ post→ρ 0= .sl o 5 (QQ l)→ρ 3= .sl true 4 (encTs ((XQ pre).take 9))→ρ 4= .int .i64 pre.length→
  R F.tb (.loop F.f260l1) ρ bs (Ql 0 (Qr F.tb F.f260r3 (Qt F.f260 bs)))=some (.sl false 4 (encTs ((ZJ l).take 9)),bs):=by
 intro post
 induction post with
 | nil=>
  intro pre o ρ hk h0 h3 h4;simp only[List.append_nil]at hk;subst hk;have h:=fun ρ=>Qng l bs hl hN l [] o ρ rfl;rw[Qc F.f260l1.eq_1];simp[h0,h3,h4,F.f260r3];apply h <;> simp[h0,h3,X0]
 | cons p post IH=>
  intro pre o ρ hk h0 h3 h4;have hg:=Qp hk;have hll:=Qx hk;have hw1:=wr1 pre.length (by omega);have hlt:=Qy hk;have ih:=fun ρ=>IH (pre ++ [p]) o ρ (by rw[hk];simp);have hpN:=hN p (by rw[hk];simp);rw[Qc F.f260l1.eq_1];simp[h0,h3,h4,hlt];refine Qnd hpN _ _ _ p.2.toNat ((XQ pre).take 9) 0 pre.length o _ hg (by omega) (by rw[List.length_take];omega) ?_ ?_ ?_ ?_ ?_
  ·simp[h0]
  ·simp[h3]
  ·simp[h4]
  ·simp
  ·intro ρ' g0 g4 g3;rw[N0,← Dd]at g3;simp[F.f260r0,g4,hw1];apply ih <;> simp[g0,g3]
theorem QiA (l:List Pw) (o:Bool) (bs:List (List AV)) (hl:l.length < 5000000) (hN: ∀q∈l,-1000≤q.2∧q.2≤1000):
  call F.tb 260 [.sl o 5 (QQ l)] bs=some (.sl false 4 (encTs ((ZJ l).take 9)),bs):=by
 have h:=fun ρ=>Qne l bs hl hN l [] false ρ rfl;rw[Qb F.tb_260 _ _ rfl];simp[F.f260C];apply h <;> simp[XQ,encTs]
theorem Qiz (l:List Pw) (o:Bool) (bs:List (List AV)) (hl:l.length < 5000000) (hk: ∀q∈l,q.1.mass < big) (hm: (∀q∈l,-8≤q.2∧q.2≤8)→massL (ZJ l) < big - 100):
  call F.tb 258 [.sl o 5 (QQ l)] bs=some (QS (ZQ l),bs):=by
 have h1:=Il l false bs (by omega) hk;rw[Qb F.tb_258 _ _ rfl];by_cases hv:Yd l=0
 ·obtain⟨hinv,_,_⟩:=U3 hv hk;have h2:=QiA l false bs hl fun q hq=>(hinv.bd q hq).2;by_cases c8:8 < (ZJ l).length
  ·have c8': (8:Int) < ((min 9 (ZJ l).length:Nat):Int):=by omega
   have e:ZQ l=(Qw,3):=by simp[ZQ,hv,c8]
   rw[e];simp[F.f258C,h1,hv,h2,c8',QS,QE]
  ·have hN8: ∀q∈l,-8≤q.2∧q.2≤8:=by
    intro q hq;have h3:=Df hq;have h4:=E4 hq;simp only[ZJ,List.length_append]at c8;omega
   have hm':=hm hN8;have hpm: (ZD (ZJ l)).mass < big:=by
    unfold big at *
    match h:ZJ l with
    | []=>simp[ZD,Qo,massL,ONE]
    | [p]=>rw[h]at hm';simp[ZD,massL]at hm' ⊢;omega
    | p:: q:: r=>rw[h]at hm' c8;simp[ZD,Qo,massL,MUL]at hm' c8 ⊢;omega
   have hvv:=YQ (ZD (ZJ l)) bs hpm;have e:ZQ l=if QF (ZD (ZJ l))≠0 then(Qw,QF (ZD (ZJ l)))else(ZD (ZJ l),0):=by simp[ZQ,hv,c8]
   rw[e];rw[List.take_of_length_le (by omega)]at h2;have ha:=Y4 MUL (ZJ l) false bs (by omega);have ha1:=Y4 ONE [] true bs (by simp);simp only[MUL]at ha;simp only[ONE,encTs]at ha1;have c8': ¬(8:Int) < ((ZJ l).length:Int):=by omega
   generalize hL:ZJ l=L at *
   match L,hL with
   | [],hL=>
    simp only[ZD,ONE]at hvv;simp only[encTs]at ha h2;by_cases cv:QF (.mk 3 [111,110,101] 0 [])=0
    ·rw[cv]at hvv;simp[F.f258C,h1,hv,h2,ha,ha1,hvv,cv,QS,ZD,ONE]
    ·simp[F.f258C,h1,hv,h2,ha,ha1,hvv,cv,QS,QE,ZD,ONE]
   | [p],hL=>
    simp only[ZD]at hvv;by_cases cv:QF p=0
    ·rw[cv]at hvv;simp[F.f258C,h1,hv,h2,ha,hvv,cv,QS,ZD]
    ·simp[F.f258C,h1,hv,h2,ha,hvv,cv,QS,QE,ZD]
   | p:: q:: r,hL=>
    simp only[ZD,MUL]at hvv;have c8'': ¬(8:Int) < (r.length:Int)+1+1:=by simpa using c8'
    have n0: ¬(r.length:Int)+1+1=0:=by omega
    have n1: ¬(r.length:Int)+1+1=1:=by omega
    by_cases cv:QF (.mk 3 [109,117,108] 0 (p:: q:: r))=0
    ·rw[cv]at hvv;simp[F.f258C,h1,hv,h2,ha,hvv,cv,c8'',n0,n1,QS,ZD,MUL]
    ·simp[F.f258C,h1,hv,h2,ha,hvv,cv,c8'',n0,n1,QS,QE,ZD,MUL]
 ·have e:ZQ l=(Qw,Yd l):=by simp[ZQ,hv]
  rw[e];simp[F.f258C,h1,hv,QS,QE]
theorem XL:QQ []=[]:=rfl
def Xs (a:List Pw):List Pw→List Pw
 | []=>a
 | q:: b=>Xs (Yz a q.1 q.2) b
def Yk (l:List Pw):Int:=if l.any (fun q=>Y0 q.2)then 7 else if 200 < l.length then 3 else 0
def Wq (a b:List Pw):Int:=if Yd a≠0 then Yd a else if Yd b≠0 then Yd b else Yk (Xs a b)
def XU (a b:List Pw):List Pw:=if Wq a b=0 then Xs a b else []
theorem QaG (l:List Pw) (bs:List (List AV)) (hl:l.length < 100000000):
  ∀(post pre:List Pw) (o:Bool) (ρ:Nat→AV),l=pre ++ post→pre.any (fun q=>Y0 q.2)=false→ρ 0= .sl o 5 (QQ l)→ρ 3= .int .i64 pre.length→
  R F.tb (.loop F.f263l0) ρ bs (Ql 0 (Qr F.tb F.f263r0 (Qt F.f263 bs)))=some (.int .i64 (Yk l),bs):=by
 intro post
 induction post with
 | nil=>
  intro pre o ρ hk hp h0 h3;simp only[List.append_nil]at hk;rw[← hk]at h3 hp;rw[Qc F.f263l0.eq_1];by_cases c:200 < l.length
  ·have c': (200:Int) < (l.length:Int):=by omega
   simp[h0,h3,F.f263r0,Yk,hp,c,c',-List.any_eq_false,-List.any_eq_true]
  ·have c': ¬(200:Int) < (l.length:Int):=by omega
   simp[h0,h3,F.f263r0,Yk,hp,c,c',-List.any_eq_false,-List.any_eq_true]
 | cons p post IH=>
  intro pre o ρ hk hp h0 h3;have hg:=Qp hk;have hll:=Qx hk;have hw1:=wr1 pre.length (by omega);have hlt:=Qy hk;have hany:Y0 p.2=true→Yk l=7:=by
   intro h;have:l.any (fun q=>Y0 q.2)=true:=List.any_eq_true.2 ⟨p,by rw[hk];simp,h⟩;simp only[Yk,this,if_true]
  rw[Qc F.f263l0.eq_1];by_cases c4:p.2 < -1000
  ·rw[hany (by simp[Y0,c4])];simp[h0,h3,hg,hlt,c4]
  ·by_cases c5:1000 < p.2
   ·rw[hany (by simp[Y0,c5])];simp[h0,h3,hg,hlt,c4,c5]
   ·have ih:=fun ρ=>IH (pre ++ [p]) o ρ (by rw[hk];simp) (by rw[List.any_append,hp];simp[Y0,c4,c5]);simp[h0,h3,hg,hlt,hw1,c4,c5];apply ih <;> simp[h0]
theorem QiD (l:List Pw) (o:Bool) (bs:List (List AV)) (hl:l.length < 100000000):call F.tb 263 [.sl o 5 (QQ l)] bs=some (.int .i64 (Yk l),bs):=by
 have h:=fun ρ=>QaG l bs hl l [] false ρ rfl rfl;rw[Qb F.tb_263 _ _ rfl];simp[F.f263C];apply h <;> simp
theorem Qbe (b:List Pw) (bs:List (List AV)) (hb:b.length≤200) (hbm: ∀q∈b,q.1.mass < big∧q.2≠0∧ -1000≤q.2∧q.2≤1000) (X:List Pw):
  ∀(post pre:List Pw) (acc:List Pw) (n:Nat) (o o2:Bool) (ρ:Nat→AV),b=pre ++ post→Wn acc n→n+1000*post.length < 40000000→Xs acc post=X→ρ 1= .sl o 5 (QQ b)→ρ 8= .sl o2 5 (QQ acc)→ρ 9= .int .i64 pre.length→
  R F.tb (.loop F.f262l0) ρ bs (Ql 0 (Qr F.tb F.f262r0 (Qt F.f262 bs)))=some (.tup [.sl false 5 (QQ (if Yk X=0 then X else [])),.int .i64 (Yk X)],bs):=by
 intro post
 induction post with
 | nil=>
  intro pre acc n o o2 ρ hk ha hn hX h1 h8 h9;simp only[List.append_nil]at hk;rw[← hk]at h9;simp only[Xs]at hX;subst hX;have hal:=ha.len;have hr:=QiD acc false bs (by simp at hn;omega);rw[Qc F.f262l0.eq_1];by_cases c:Yk acc=0
  ·simp[h1,h8,h9,F.f262r0,hr,c]
  ·simp[h1,h8,h9,F.f262r0,hr,c,XL]
 | cons p post IH=>
  intro pre acc n o o2 ρ hk ha hn hX h1 h8 h9;have hg:=Qp hk;have hll:=Qx hk;have hw1:=wr1 pre.length (by omega);have hlt:=Qy hk;obtain⟨q1,q2,q3,q4⟩:=hbm p (by rw[hk];simp);simp only[List.length_cons]at hn;have hc:=Bf (m:=p.2) false bs ha (by omega) q1 (by omega);have ih:=fun ρ=>IH (pre ++ [p]) (Yz acc p.1 p.2) (n+1000) o false ρ (by rw[hk];simp) (ha.add (c:=1000) q1 q2 (by omega) (by omega)) (by omega) (by rw[← hX];rfl);rw[Qc F.f262l0.eq_1];simp[h1,h8,h9,hg,hlt,hw1,hc];apply ih <;> simp[h1]
theorem QiC (a b:List Pw) (o o2:Bool) (bs:List (List AV)) (ha:a.length < 100000000) (hb:b.length < 100000000) (hma: ∀q∈a,q.1.mass < big) (hmb: ∀q∈b,q.1.mass < big):
  call F.tb 262 [.sl o 5 (QQ a),.sl o2 5 (QQ b)] bs=some (.tup [.sl false 5 (QQ (XU a b)),.int .i64 (Wq a b)],bs):=by
 have h1:=Il a false bs ha hma;have h2:=Il b false bs hb hmb;rw[Qb F.tb_262 _ _ rfl];by_cases va:Yd a=0
 ·by_cases vb:Yd b=0
  ·obtain⟨ia,la,_⟩:=U3 va hma;obtain⟨ib,lb,_⟩:=U3 vb hmb;have h3:=fun ρ=>Qbe b bs lb (fun q hq=>by obtain⟨x1,x2,x3⟩:=ib.bd q hq;exact⟨x1,ib.nz q hq,x2,x3⟩) _ b [] a 1000 false true ρ rfl ia (by omega) rfl;have e1:Wq a b=Yk (Xs a b):=by simp[Wq,va,vb]
   have e2:XU a b=if Yk (Xs a b)=0 then Xs a b else []:=by simp[XU,e1]
   have hb64:a.length*64≤140737488355328:=LE (by omega);rw[e1,e2];simp[F.f262C,h1,h2,va,vb,hb64];apply h3 <;> simp
  ·have e1:Wq a b=Yd b:=by simp[Wq,va,vb]
   have e2:XU a b=[]:=by simp[XU,e1,vb]
   rw[e1,e2];simp[F.f262C,h1,h2,va,vb,XL]
 ·have e1:Wq a b=Yd a:=by simp[Wq,va]
  have e2:XU a b=[]:=by simp[XU,e1,va]
  rw[e1,e2];simp[F.f262C,h1,va,XL]
theorem Qnh {B0 B:List (List AV)} {v:AV} {l:List Pw} (p:Pw) (o:Bool) (h:PS B0 B v l) (hl:l.length < 50000000): ∃v' B',appM 64 5 v (.sl o 5 [Q9 p]) B=some (v',B')∧PS B0 B' v' (l ++ [p]):=by
 obtain⟨M,id,sz,rfl,rfl,hc⟩:=h;have hb: (l.length+1)*64≤140737488355328:=LE (by omega);have hs:Xp 5 (.sl o 5 [Q9 p]) (B0 ++ M)=some (1,Q9 p):=by simp[Xp]
 rcases hc with⟨rfl,rfl,rfl⟩ | ⟨rfl,hid,t,hbx,hne⟩
 ·refine⟨.gs (B0 ++ M).length 0 5 1,B0 ++ (M ++ [Q9 p]),?_,M ++ [Q9 p],(B0 ++ M).length,5,rfl,rfl,.inr ⟨rfl,by simp,[],?_,?_⟩⟩
  ·simp[appM,hs]
  ·rw[← List.append_assoc,List.getElem?_concat_length];simp[QT,ZP]
  ·simp[QT,ZP,BE]
 ·have hlt:=VG hbx;have hr:=Xf l;have hle:l.length*5≤(QT l ++ t).length:=by rw[List.length_append,hr];omega
  have hrow:QT (l ++ [p])=QT l ++ Q9 p:=by simp[QT,X9,S0]
  have htk: (QT l ++ t).take (l.length*5)=QT l:=by rw[← hr,List.take_left]
  have hne2: ∀x:List AV,QT l ++ (Q9 p ++ x)≠[]:=fun x e=>by
   have:=congrArg List.length e;simp at this
  by_cases hroom: (l.length+1)*5≤(QT l ++ t).length
  ·refine⟨.gs id 0 5 (l.length+1),(B0 ++ M).set id (QT l ++ (Q9 p ++ (QT l ++ t).drop (l.length*5+5))),?_,_,id,5,Y2 hid _,by simp,.inr ⟨rfl,hid,(QT l ++ t).drop (l.length*5+5),?_,?_⟩⟩
   ·simp only[appM,hs,Option.bind_some];rw[if_pos ⟨by omega,hb⟩,if_neg (by omega),if_neg (by omega),if_pos ⟨trivial,trivial⟩,hbx];simp only[Option.bind_some];rw[if_pos ⟨hne,hle⟩,if_pos hroom];simp only[put,htk,WN];simp
   ·have:id < (B0 ++ M).length:=hlt;rw[List.getElem?_set,if_pos rfl,if_pos this,hrow];simp
   ·rw[hrow,List.append_assoc];exact hne2 _
  ·refine⟨.gs (B0 ++ M).length 0 5 (l.length+1),(B0 ++ M).set id []++ [QT l ++ Q9 p],?_,M.set (id - B0.length) []++ [QT l ++ Q9 p],(B0 ++ M).length,5,?_,by simp,.inr ⟨rfl,by simp,[],?_,?_⟩⟩
   ·have hst: (QT l).map AV.strip=QT l:=Z6 Vc l;simp only[appM,hs,Option.bind_some];rw[if_pos ⟨by omega,hb⟩,if_neg (by omega),if_neg (by omega),if_pos ⟨trivial,trivial⟩,hbx];simp only[Option.bind_some];rw[if_pos ⟨hne,hle⟩,if_neg hroom,htk,hst]
   ·rw[Y2 hid,List.append_assoc]
   ·have e: (B0 ++ M).length=((B0 ++ M).set id []).length:=by simp
    rw[hrow,List.append_nil,e,List.getElem?_concat_length]
   ·rw[hrow,List.append_nil];have:=hne2 [];simpa using this
theorem DY (l:List Pw) (B0 K:List (List AV)) (hl:l.length < 40000000) (hm: ∀q∈l,q.1.mass < big):
  ∀(post pre:List Pw) (B:List (List AV)) (v:AV) (ρ:Nat→AV),l=pre ++ post→PS B0 B v pre→ρ 3=v→ρ 6= .sl false 5 (QQ l)→ρ 7= .int .i64 l.length→ρ 8= .int .i64 pre.length→
  Qe0 B0 l (R F.tb (.loop F.f201l0) ρ B (Ql 0 (Qr F.tb F.f201r0 (Qt F.f201 K)))):=by
 intro post
 induction post with
 | nil=>
  intro pre B v ρ hk hps h3 h6 h7 h8;simp only[List.append_nil]at hk;subst hk;obtain⟨id,sz,rfl⟩:=Vi hps;rw[Qc F.f201l0.eq_1];refine⟨_,B,?_,hps⟩;simp[h3,h6,h7,h8,F.f201r0]
 | cons p post IH=>
  intro pre B v ρ hk hps h3 h6 h7 h8;have hg:=Qp hk;have hll:=Qx hk;have hw1:=wr1 pre.length (by omega);have hlt:=Qy hk;have hc:=Tx p.1 B (hm p (by rw[hk];simp));obtain⟨v2,B2,ha,hps2⟩:=Qnh p false hps (by omega);have ih:=fun ρ=>IH (pre ++ [p]) B2 v2 ρ (by rw[hk];simp) hps2;obtain⟨id,sz,rfl⟩:=Vi hps;obtain⟨id2,sz2,rfl⟩:=Vi hps2;have hf:Qa p.1 ++ [.int .i64 p.2]=Q9 p:=rfl;rw[Qc F.f201l0.eq_1];simp[h3,h6,h7,h8,hg,hlt,hw1,hc,List.take_append,List.drop_append,hf,ha];apply ih <;> simp[h6,h7]
theorem Qie (l:List Pw) (o:Bool) (B0:List (List AV)) (hl:l.length < 40000000) (hm: ∀q∈l,q.1.mass < big):Qe0 B0 l (call F.tb 201 [.sl o 5 (QQ l)] B0):=by
 have h:=fun ρ=>DY l B0 B0 hl hm l [] B0 _ ρ rfl (Qd8 B0);rw[Qb F.tb_201 _ _ rfl];simp[F.f201C];apply h <;> simp
theorem Qig (p:Pw) (B:List (List AV)):call F.tb 203 [.agg (Q9 p)] B=some (.bool (Y0 p.2),B):=by
 rw[Qb F.tb_203 _ _ rfl];by_cases c4:p.2 < -1000
 ·simp[F.f203C,Y0,c4]
 ·by_cases c5:1000 < p.2
  ·simp[F.f203C,Y0,c4,c5]
  ·simp[F.f203C,Y0,c4,c5]
def TR (b:Bool) (B:List (List AV)) (r:Out):Prop:=∃i:Int,r=some (.int .i64 i,B)∧(0≤i↔b=true)
theorem Qj1 {B0 B:List (List AV)} {v:AV} {l:List Pw} (h:PS B0 B v l) (hl:l.length < 100000000):
  ∀(post pre:List Pw) (ρ:Nat→AV),l=pre ++ post→pre.any (fun q=>Y0 q.2)=false→ρ 0=v→ρ 1= .fn 203 []→ρ 7= .int .i64 l.length→ρ 8= .int .i64 pre.length→
  TR (l.any fun q=>Y0 q.2) B (R F.tb (.loop F.f205l0) ρ B (Ql 0 (Qr F.tb F.f205r0 (Qt F.f205 B)))):=by
 obtain⟨M,id,sz,rfl,rfl,hc⟩:=h;have htk: (B0 ++ M).take (B0.length+M.length)=B0 ++ M:=List.take_of_length_le (by simp);intro post
 induction post with
 | nil=>
  intro pre ρ hk hp h0 h1 h7 h8;simp only[List.append_nil]at hk;rw[← hk]at h8 hp;rw[Qc F.f205l0.eq_1];refine⟨-1,?_,by rw[hp];simp⟩;simp[h0,h1,h7,h8,F.f205r0,htk]
 | cons p post IH=>
  intro pre ρ hk hp h0 h1 h7 h8;have hg:=Qp hk;have hll:=Qx hk;have hw1:=wr1 pre.length (by omega);have hlt:=Qy hk;have hlt':pre.length < l.length:=by omega
  rcases hc with⟨rfl,rfl,rfl⟩ | ⟨rfl,hid,t,hbx,hne⟩
  ·simp at hlt'
  have r1:=IP (l:=l) (MV hg t);have hle:pre.length*5+5≤(QT l ++ t).length:=by rw[List.length_append,Xf];omega
  have hcall:=Qig p (B0 ++ M);have ih:=fun ρ hpp=>IH (pre ++ [p]) ρ (by rw[hk];simp) hpp;generalize QT l ++ t=c at *;rw[Qc F.f205l0.eq_1];cases ho:Y0 p.2
  ·have ih2:=fun ρ=>ih ρ (by rw[List.any_append,hp];simp[ho]);simp[-getElem?_pos,h0,h1,h7,h8,hlt,hlt',hw1,hbx,hle,r1,hcall,ho,-List.any_eq_false,-List.any_eq_true];apply ih2 <;> simp[h0,h1,h7]
  ·have hany:l.any (fun q=>Y0 q.2)=true:=List.any_eq_true.2 ⟨p,by rw[hk];simp,ho⟩;refine⟨pre.length,?_,by rw[hany];simp⟩;simp[-getElem?_pos,h0,h1,h7,h8,hlt,hlt',hbx,hle,r1,hcall,ho,htk]
theorem Qih {B0 B:List (List AV)} {v:AV} {l:List Pw} (h:PS B0 B v l) (hl:l.length < 100000000):call F.tb 204 [v,.fn 203 []] B=some (.bool (l.any fun q=>Y0 q.2),B):=by
 have h1:=fun ρ=>Qj1 h hl l [] ρ rfl rfl;obtain⟨id,sz,rfl⟩:=Vi h;have h2:TR (l.any fun q=>Y0 q.2) B (call F.tb 205 [.gs id 0 sz l.length,.fn 203 []] B):=by
  rw[Qb F.tb_205 _ _ rfl];simp[F.f205C,-List.any_eq_false,-List.any_eq_true];apply h1 <;> simp
 obtain⟨i,hi,hb⟩:=h2;rw[Qb F.tb_204 _ _ rfl];simp[F.f204C,hi,-List.any_eq_false,-List.any_eq_true];cases hx:l.any fun q=>Y0 q.2
 ·rw[hx]at hb;simp at hb;simpa using hb
 ·rw[hx]at hb;simp at hb;simpa using hb
theorem Qki {B0 B:List (List AV)} {v:AV} {l:List Pw} (h:PS B0 B v l) (n:Nat): ∃o M2,(B0 ++ M2).length=B.length∧Xk B (B0 ++ M2)=true∧∀ρ:Nat→AV,ρ n=v→Ys {env:=ρ,bs:=B} n 5=some (.sl o 5 (QQ l),{env:=upd ρ n .undef,bs:=B0 ++ M2}):=by
 obtain⟨M,id,sz,rfl,rfl,hc⟩:=h;rcases hc with⟨rfl,rfl,rfl⟩ | ⟨rfl,hid,t,hb,hne⟩
 ·exact⟨true,M,rfl,RA _,fun ρ hn=>by simp[Ys,hn,QQ]⟩
 ·by_cases hl:l.length=0
  ·have:l=[]:=List.eq_nil_of_length_eq_zero hl;subst this;exact⟨false,M,rfl,RA _,fun ρ hn=>by simp[Ys,hn,QQ]⟩
  ·refine⟨true,M.set (id - B0.length) [],by simp,by rw[← Y2 hid];exact Em _ _,fun ρ hn=> ?_⟩;have hle:0+l.length*5≤(QT l ++ t).length:=by rw[List.length_append,Xf];omega
   have hch:Yc (QT l ++ t) 0 5 l.length=QQ l:=XH (f:=Q9) (k:=5) WN Vc l t;simp only[Ys,hn];rw[if_pos ⟨trivial,by omega⟩,if_neg hl,hb];simp only[Option.bind_some];rw[if_pos hle,hch,Y2 hid];rfl
def QnN (B0:List (List AV)) (l:List Pw) (r:Out):Prop:=∃M,r=some (.tup [.sl false 5 (QQ (if Yk l=0 then l else [])),.int .i64 (Yk l)],B0 ++ M)
theorem Qif {B0 B:List (List AV)} {v:AV} {l:List Pw} (h:PS B0 B v l) (hl:l.length < 100000000):QnN B0 l (call F.tb 202 [v] B):=by
 have h1:=Qih h hl;obtain⟨o,M2,hlen,hchk,hf⟩:=Qki h 9;obtain⟨M,hM⟩: ∃M,B=B0 ++ M:=by obtain⟨M,_,_,h,_⟩:=h;exact⟨M,h⟩
 subst hM;have htk: (B0 ++ M2).take (B0.length+M.length)=B0 ++ M2:=List.take_of_length_le (by rw[hlen];simp);have htk0: (B0 ++ M).take (B0.length+M.length)=B0 ++ M:=List.take_of_length_le (by simp);have hgp:=Kc l;obtain⟨id,sz,rfl⟩:=Vi h;rw[Qb F.tb_202 _ _ rfl];cases ha:l.any fun q=>Y0 q.2
 ·rw[ha]at h1;by_cases c:200 < l.length
  ·have c': (200:Int) < (l.length:Int):=by omega
   have e:Yk l=3:=by simp only[Yk,ha,c,if_true];rfl
   refine⟨M,?_⟩;rw[e];simp[F.f202C,h1,c',XL,htk0]
  ·have c': ¬(200:Int) < (l.length:Int):=by omega
   have e:Yk l=0:=by simp only[Yk,ha,c,if_false];rfl
   refine⟨M2,?_⟩;rw[e];simp[F.f202C,h1,c',hf,htk,hchk]
 ·rw[ha]at h1;have e:Yk l=7:=by simp only[Yk,ha,if_true]
  refine⟨M,?_⟩;rw[e];simp[F.f202C,h1,XL,htk0]
theorem Qf2 (b:List Pw) (B0:List (List AV)) (hb:b.length≤200) (hbm: ∀q∈b,q.1.mass < big∧q.2≠0∧ -1000≤q.2∧q.2≤1000) (X:List Pw):
  ∀(post pre:List Pw) (acc:List Pw) (n:Nat) (B:List (List AV)) (v:AV) (ρ:Nat→AV),b=pre ++ post→PS B0 B v acc→Wn acc n→n+1000*post.length < 40000000→Xs acc post=X→ρ 8=v→ρ 23= .sl false 5 (QQ b)→ρ 24= .int .i64 b.length→ρ 25= .int .i64 pre.length→
  R F.tb (.loop F.f200l0) ρ B (Ql 0 (Qr F.tb F.f200r0 (Qt F.f200 B0)))=some (.tup [.sl false 5 (QQ (if Yk X=0 then X else [])),.int .i64 (Yk X)],B0):=by
 intro post
 induction post with
 | nil=>
  intro pre acc n B v ρ hk hps ha hn hX h8 h23 h24 h25;simp only[List.append_nil]at hk;rw[← hk]at h25;simp only[Xs]at hX;subst hX;have hal:=ha.len;obtain⟨M,hr⟩:=Qif hps (by simp at hn;omega);obtain⟨id,sz,rfl⟩:=Vi hps;rw[Qc F.f200l0.eq_1];generalize (if Yk acc=0 then acc else [])=X at *;simp[h8,h23,h24,h25,F.f200r0,hr]
 | cons p post IH=>
  intro pre acc n B v ρ hk hps ha hn hX h8 h23 h24 h25;have hg:=Qp hk;have hll:=Qx hk;have hw1:=wr1 pre.length (by omega);have hlt:=Qy hk;obtain⟨q1,q2,q3,q4⟩:=hbm p (by rw[hk];simp);simp only[List.length_cons]at hn;have hal:=ha.len;obtain⟨v2,B2,hc,hps2⟩:=C6 (p:=p) hps (by omega) (fun q hq=>by obtain⟨a1,a2,a3⟩:=ha.bd q hq;exact⟨a1,by omega,by omega⟩) q1 (by omega) ha.asc;have ih:=fun ρ=>IH (pre ++ [p]) (Yz acc p.1 p.2) (n+1000) B2 v2 ρ (by rw[hk];simp) hps2 (ha.add (c:=1000) q1 q2 (by omega) (by omega)) (by omega) (by rw[← hX];rfl);obtain⟨id,sz,rfl⟩:=Vi hps;obtain⟨id2,sz2,rfl⟩:=Vi hps2;rw[Qc F.f200l0.eq_1];simp[h8,h23,h24,h25,hg,hlt,hw1,hc];apply ih <;> simp[h23,h24]
theorem Qid (a b:List Pw) (o o2:Bool) (bs:List (List AV)) (ha:a.length < 100000000) (hb:b.length < 100000000) (hma: ∀q∈a,q.1.mass < big) (hmb: ∀q∈b,q.1.mass < big):
  call F.tb 200 [.sl o 5 (QQ a),.sl o2 5 (QQ b)] bs=some (.tup [.sl false 5 (QQ (XU a b)),.int .i64 (Wq a b)],bs):=by
 have h1:=Ih a false bs ha hma;have h2:=Ih b false bs hb hmb;rw[Qb F.tb_200 _ _ rfl];by_cases va:Yd a=0
 ·by_cases vb:Yd b=0
  ·obtain⟨ia,la,_⟩:=U3 va hma;obtain⟨ib,lb,_⟩:=U3 vb hmb;obtain⟨v,B,hc,hps⟩:=Qie a false bs (by omega) hma;have h3:=fun ρ=>Qf2 b bs lb (fun q hq=>by obtain⟨x1,x2,x3⟩:=ib.bd q hq;exact⟨x1,ib.nz q hq,x2,x3⟩) _ b [] a 1000 B v ρ rfl hps ia (by omega) rfl;obtain⟨id,sz,rfl⟩:=Vi hps;have e1:Wq a b=Yk (Xs a b):=by simp[Wq,va,vb]
   have e2:XU a b=if Yk (Xs a b)=0 then Xs a b else []:=by simp[XU,e1]
   rw[e1,e2];simp[F.f200C,h1,h2,va,vb,hc];apply h3 <;> simp
  ·have e1:Wq a b=Yd b:=by simp[Wq,va,vb]
   have e2:XU a b=[]:=by simp[XU,e1,vb]
   rw[e1,e2];simp[F.f200C,h1,h2,va,vb,XL]
 ·have e1:Wq a b=Yd a:=by simp[Wq,va]
  have e2:XU a b=[]:=by simp[XU,e1,va]
  rw[e1,e2];simp[F.f200C,h1,va,XL]
end Go.Am
