/-
  Kn69, Kn70, Kn71, Kn72, Kn73, Kn74, Kn75, Kn76, Kn77, Kn78, Kn79, Kp3, Kn80, Kn81, Kp4, Kn82, Kn83, Kn84, Kn85, Kn86, Kn87, Kn91, Kp5, Kn90.
-/
import Derived.Test.YtiibekjjcelboaaGreatDoorG23
import Derived.Test.YtiibekjjcelboaaGreatDoorG21
import Derived.Test.YtiibekjjcelboaaGreatDoorG19
set_option linter.unusedVariables false
set_option linter.unusedSimpArgs false
namespace Go.Am
set_option maxRecDepth 8000
mutual
theorem JO: ∀(t x:Tm),YK t=0→x∈QT t→YK x=0
 | .mk k n s ks,x,h,hx=>by
  simp only[QT,List.mem_cons]at hx;rcases hx with rfl | hx
  ·exact h
  ·simp only[YK]at h;split at h
   ·rename_i h1;exact absurd h h1
   ·exact errL_sub ks x h hx
theorem errL_sub: ∀(ts:List Tm) (x:Tm),errL ts=0→x∈allL ts→YK x=0
 | [],x,_,hx=>by simp[allL]at hx
 | t:: ts,x,h,hx=>by
  simp only[errL]at h;simp only[allL,List.mem_append]at hx;split at h
  ·rename_i h1;exact absurd h h1
  ·rename_i h1;rcases hx with hx | hx
   ·exact JO t x (by simpa using h1) hx
   ·exact errL_sub ts x h hx
end
mutual
theorem Lr: ∀(t x:Tm),x∈QT t→x.nodes≤t.nodes
 | .mk k n s ks,x,hx=>by
  simp only[QT,List.mem_cons]at hx;rcases hx with rfl | hx
  ·exact Nat.le_refl _
  ·have:=nodesL_sub ks x hx;simp only[Tm.nodes];omega
theorem nodesL_sub: ∀(ts:List Tm) (x:Tm),x∈allL ts→x.nodes≤nodesL ts
 | [],x,hx=>by simp[allL]at hx
 | t:: ts,x,hx=>by
  simp only[allL,List.mem_append]at hx;simp only[nodesL];rcases hx with hx | hx
  ·have:=Lr t x hx;omega
  ·have:=nodesL_sub ts x hx;omega
end
mutual
theorem M6: ∀(t x:Tm),x∈QT t→x.depth≤t.depth
 | .mk k n s ks,x,hx=>by
  simp only[QT,List.mem_cons]at hx;rcases hx with rfl | hx
  ·exact Nat.le_refl _
  ·have:=depthL_sub ks x hx;simp only[Tm.depth];omega
theorem depthL_sub: ∀(ts:List Tm) (x:Tm),x∈allL ts→x.depth≤depthL ts
 | [],x,hx=>by simp[allL]at hx
 | t:: ts,x,hx=>by
  simp only[allL,List.mem_append]at hx;simp only[depthL];rcases hx with hx | hx
  ·have:=M6 t x hx;omega
  ·have:=depthL_sub ts x hx;omega
end
theorem I0 {t:Tm} (h:Qz t=0):t.depth≤40:=by
 unfold Qz at h;split at h
 ·rename_i h1;exact absurd h h1
 ·split at h
  ·cases h
  ·omega
theorem EY {t x:Tm} (h:Qz t=0) (hx:x∈QT t):Qz x=0:=by
 obtain⟨h1,h2,h3⟩:=X2 h;have e1:=JO t x h1 hx;have e2:=Lr t x hx;have e3:=M6 t x hx;have e4:=I0 h;unfold Qz;rw[if_neg (by simp[e1]),if_neg (by omega)]
theorem X4: ∀(c a:List Tm),Asc a→Asc c→(∀x∈a,x∈c)→a.length≤c.length
 | [],a,_,_,h=>by
  cases a with
  | nil=>exact Nat.le_refl _
  | cons x xs=>have:=h x (by simp);simp at this
 | y:: ys,a,ha,hc,h=>by
  rw[Yb]at hc;cases a with
  | nil=>simp
  | cons x xs=>
   have ha0:=ha;rw[Yb]at ha;rcases List.mem_cons.1 (h x (by simp))with e | e
   ·subst e;have:=X4 ys xs ha.2 hc.2 fun z hz=>by
     rcases List.mem_cons.1 (h z (by simp[hz]))with e | e
     ·subst e;exact absurd (ha.1 z hz) (XH z)
     ·exact e
    simp;exact this
   ·have:=X4 ys (x:: xs) ha0 hc.2 fun z hz=>by
     rcases List.mem_cons.1 hz with e2 | e2
     ·rw[e2];exact e
     ·rcases List.mem_cons.1 (h z hz)with e3 | e3
      ·subst e3;exact absurd (Z0 (hc.1 x e) (ha.1 z e2)) (XH z)
      ·exact e3
    simp at this ⊢;omega
noncomputable def Xm (p:List Tm→Tm→Bool):List Tm×Bool→List Tm→List Tm×Bool
 | x,[]=>x
 | x,t:: ts=>Xm p (if !Q3 x.1 t && p x.1 t then(Q4 t x.1,true)else x) ts
noncomputable def W9 (p:List Tm→Tm→Bool) (u:List Tm):Nat→List Tm→List Tm
 | 0,s=>s
 | f+1,s=>if(Xm p (s,false) u).2 then W9 p u f (Xm p (s,false) u).1 else(Xm p (s,false) u).1
structure PsI (u s:List Tm):Prop where
 asc:Asc s
 sub: ∀x∈s,x∈u
theorem GH {u s:List Tm} {t:Tm} (h:PsI u s) (ht:t∈u):PsI u (Q4 t s):=⟨Ru h.asc,fun x hx=>by
 rcases Vr.1 hx with rfl | hx
 ·exact ht
 ·exact h.sub x hx⟩
theorem Oz (p:List Tm→Tm→Bool) {u:List Tm}: ∀(ts:List Tm) (x:List Tm×Bool),(∀t∈ts,t∈u)→PsI u x.1→PsI u (Xm p x ts).1
 | [],x,_,h=>h
 | t:: ts,x,hs,h=>by
  simp only[Xm];apply Oz p ts _ (fun y hy=>hs y (by simp[hy]));split
  ·exact GH h (hs t (by simp))
  ·exact h
theorem MU {t:Tm}: ∀{s:List Tm},t ∉ s→(Q4 t s).length=s.length+1
 | [],_=>rfl
 | x:: xs,h=>by
  have ih:=MU (t:=t) (s:=xs) fun e=>h (List.mem_cons_of_mem _ e);have hne:Qh t x≠0:=fun e=>h (by rw[ZV _ _ e];simp);simp only[Q4,if_neg hne];split
  ·simp
  ·simp[ih]
theorem MO (p:List Tm→Tm→Bool): ∀(ts:List Tm) (x:List Tm×Bool),x.1.length≤(Xm p x ts).1.length∧((Xm p x ts).2=true→x.2=true∨x.1.length < (Xm p x ts).1.length)
 | [],x=>⟨Nat.le_refl _,fun h=> .inl h⟩
 | t:: ts,x=>by
  simp only[Xm];have ih:=MO p ts (if !Q3 x.1 t && p x.1 t then(Q4 t x.1,true)else x);cases c: (!Q3 x.1 t && p x.1 t)
  ·rw[c]at ih;simpa using ih
  ·rw[c]at ih;have hh:Q3 x.1 t=false:=by
    simp only[Bool.and_eq_true,Bool.not_eq_true']at c;exact c.1
   have hl:=MU (t:=t) (s:=x.1) fun e=>by rw[Zx.2 e]at hh;cases hh
   simp only[if_true]at ih ⊢;exact⟨by omega,fun _=> .inr (by omega)⟩
def ClR (l:List Tm) (B:List (List AV)) (r:Out):Prop:=∃o,r=some (.sl o 4 (encTs l),B)
def VR (t:Tm):Bool:=RE t || isB t XOR || isB t EXP
theorem Qc3 (t:Tm) (bs:List (List AV)) (hm:t.mass < 1000000):call F.tb 520 [.agg (Qb t)] bs=some (.int .i64 (Y3 t),bs):=by
 have hb:t.mass < big:=by unfold big;omega
 have h1:=Tt t bs hb;have h2:=Cu t bs (by omega);have h3:=Qcx t bs hb;have hlen: (encTs (UH t)).length=(UH t).length:=by simp[Yd]
 rw[Qa F.tb_520 _ _ rfl];unfold Y3;by_cases c:thV t=0
 ·rw[c]at h1;by_cases c2:UH t=[]
  ·rw[c2]at h2;simp only[encTs]at h2;cases c3:V2 t
   ·rw[c3]at h3;simp[F.f520C,h1,h2,h3,c,c2,Qg]
   ·rw[c3]at h3;simp[F.f520C,h1,h2,h3,c,c2,Qg]
  ·have hpos: (0:Int) < ((UH t).length:Int):=by
    have:=List.length_pos_iff.2 c2;omega
   generalize encTs (UH t)=EV at *;simp[F.f520C,h1,h2,h3,c,c2,hlen,hpos,Qg]
 ·simp[F.f520C,h1,c,Qg]
theorem QgS (l:List Tm) (hl:l.length < 1000000) (hm: ∀y∈l,y.mass < 1000000) (B:List (List AV)):
  ∀(post pre:List Tm) (o:Bool) (ρ:Nat→AV),l=pre ++ post→ρ 6= .sl o 4 (encTs l)→ρ 7= .int .i64 l.length→ρ 8= .int .i64 pre.length→
  R F.tb (.loop F.f519l0) ρ B (Qj 0 (Qu F.tb F.f519r0 (Qx F.f519 B)))=some (.int .i64 (TG post),B):=by
 intro post
 induction post with
 | nil=>
  intro pre o ρ hk h6 h7 h8;simp only[List.append_nil]at hk;rw[← hk]at h8;rw[Qc F.f519l0.eq_1];simp[h6,h7,h8,F.f519r0,TG]
 | cons x post IH=>
  intro pre o ρ hk h6 h7 h8;have hgt:=Qt hk;have hll:=QE hk;have hw1:=wr1 pre.length (by omega);have hlt:=QF hk;have hc:=Qc3 x B (hm x (by rw[hk];simp));have ih:=fun ρ=>IH (pre ++ [x]) o ρ (by rw[hk];simp);rw[Qc F.f519l0.eq_1];by_cases cx:Y3 x=0
  ·have e:TG (x:: post)=TG post:=by simp[TG,cx]
   rw[e];rw[cx]at hc;simp[h6,h7,h8,hgt,hlt,hw1,hc,Qg];rw[ih] <;> simp[h6,h7]
  ·have e:TG (x:: post)=Y3 x:=by simp[TG,cx]
   rw[e];simp[h6,h7,h8,hgt,hlt,hw1,hc,cx,Qg]
theorem Qc2 (l:List Tm) (o:Bool) (B:List (List AV)) (hl:l.length < 1000000) (hm: ∀y∈l,y.mass < 1000000):call F.tb 519 [.sl o 4 (encTs l)] B=some (.int .i64 (TG l),B):=by
 have h:=fun ρ=>QgS l hl hm B l [] false ρ rfl;rw[Qa F.tb_519 _ _ rfl];simp[F.f519C];rw[h] <;> simp
noncomputable def ZQ (l:List Tm):List Tm:=Zs (allL l)
theorem Ue (l:List Tm):Asc (ZQ l):=Tr _
theorem X7 {l:List Tm} {x:Tm}:x∈ZQ l↔∃t∈l,x∈QT t:=by unfold ZQ;rw[XJ,OT]
structure UK (u:List Tm):Prop where
 len:u.length < 4000
 err: ∀x∈u,YK x=0
 ms: ∀x∈u,x.mass < 1000000
 gd: ∀x∈u,QI x=true
 kids: ∀x∈u,∀y∈x.kids,y∈u
 key: ∀x∈u,Vs x=0→VZ x∈u
def Tz (s:List Tm) (t:Tm):List Tm:=if isB t Zf then t.kids else if isB t Zd || (decide (Vs t=0) && Q3 s (VZ t))then t.kids.take 1 else []
theorem VS {t:Tm} (h:VR t=false):RE t=false∧isB t XOR=false∧isB t EXP=false:=by
 unfold VR at h;simp only[Bool.or_eq_false_iff]at h;exact⟨h.1.1,h.1.2,h.2⟩
structure PlC (s:List Tm) (u:Tm):Prop where
 len:s.length≤200
 gs:GS s
 um:u.mass < 1000000
 uv:Qz u=0
 al: ∀x∈s,VR x=false
 ul:VR u=false
 nu:X8 u=false
 ns:u ∉ s
 asc:Asc s
theorem IX {u:Tm} (h1:isB u XOR=false) (hpb:X8 u=false):QV u=[u]:=by
 obtain⟨k,n,sr,ks⟩:=u;simp only[QV];rw[if_neg,if_neg]
 ·rintro⟨rfl,rfl⟩
  exact absurd (W0.2 (show(Tm.mk 3 XOR sr ks).kind=3∧(Tm.mk 3 XOR sr ks).name=XOR from⟨rfl,rfl⟩)) (by rw[h1];decide)
 ·rintro⟨rfl,rfl,rfl⟩
  revert hpb;simp[X8]
theorem Qep (s:List Tm) (u:Tm) (h:PlC s u) (bs:List (List AV)):
  ∀(post pre:List Tm) (o11:Bool) (ρ:Nat→AV),s=pre ++ post→ρ 3= .bx (Qb u)→ρ 11= .sl o11 4 (encTs [u])→ρ 12= .sl true 4 []→ρ 42= .sl false 4 (encTs s)→ρ 43= .int .i64 s.length→ρ 44= .int .i64 pre.length→
  R F.tb (.loop F.f539l1) ρ bs (Qj 2 (Qu F.tb F.f539r0 (Qx F.f539 bs)))=some (.bool false,bs):=by
 have hlen:=h.len;have hub:u.mass < big:=by have:=h.um;unfold big;omega
 intro post
 induction post with
 | nil=>
  intro pre o11 ρ hk h3 h11 h12 h42 h43 h44;simp only[List.append_nil]at hk;rw[← hk]at h44;obtain⟨e,hc,he⟩:=AZ u false bs h.um h.uv (IX (VS h.ul).2.1 h.nu);rw[Qc F.f539l1.eq_1];simp[h3,h11,h12,h42,h43,h44,F.f539r0,Qg,hc,he]
 | cons x post IH=>
  intro pre o11 ρ hk h3 h11 h12 h42 h43 h44;have hg:=Qt hk;have hll:=QE hk;have hw1:=wr1 pre.length (by omega);have hlt:=QF hk;have hxs:x∈s:=by rw[hk];simp
  have hxm:=h.gs.bg x hxs;have c160:=Vl x XOR false bs;have c530:=Ug [u] x false bs (by simp) (by simpa using hub) hxm (Rb u);have hh:Q3 [u] x=false:=by
   cases c:Q3 [u] x
   ·rfl
   ·have:=Zx.1 c;simp only[List.mem_singleton]at this;exact absurd (this▸hxs) h.ns
  rw[hh]at c530;have hx0:=(VS (h.al x hxs)).2.1;have ih:=fun o11 ρ=>IH (pre ++ [x]) o11 ρ (by rw[hk];simp);simp only[XOR]at c160 hx0;rw[hx0]at c160;rw[Qc F.f539l1.eq_1];simp[h3,h11,h12,h42,h43,h44,hg,hlt,hw1,Qg,c160,c530];apply ih o11 <;> simp[h3,h11,h12,h42,h43]
theorem Qeo (s:List Tm) (u:Tm) (h:PlC s u) (bs:List (List AV)):
  ∀(post pre:List Tm) (ρ:Nat→AV),s=pre ++ post→ρ 3= .bx (Qb u)→ρ 5= .sl true 4 (encTs [u])→ρ 22= .sl false 4 (encTs s)→ρ 23= .int .i64 s.length→ρ 24= .int .i64 pre.length→ρ 0= .sl false 4 (encTs s)→
  R F.tb (.loop F.f539l0) ρ bs (Qj 0 (Qu F.tb F.f539r1 (Qx F.f539 bs)))=some (.bool false,bs):=by
 have hlen:=h.len;have hub:u.mass < big:=by have:=h.um;unfold big;omega
 intro post
 induction post with
 | nil=>
  intro pre ρ hk h3 h5 h22 h23 h24 h0;simp only[List.append_nil]at hk;rw[← hk]at h24;have h1:=fun o11 ρ=>Qep s u h bs s [] o11 ρ rfl;have c527:=H2 [u] false bs (by simp) (by simpa using hub);have e:Zs [u]=[u]:=HI (Rb u);rw[e]at c527;rw[Qc F.f539l0.eq_1];generalize encTs [u]=EU at *;simp[h3,h5,h22,h23,h24,h0,F.f539r1,c527];apply h1 true <;> simp[h3,h0]
 | cons x post IH=>
  intro pre ρ hk h3 h5 h22 h23 h24 h0;have hg:=Qt hk;have hll:=QE hk;have hw1:=wr1 pre.length (by omega);have hlt:=QF hk;have hxs:x∈s:=by rw[hk];simp
  have c160:=Vl x XOR false bs;have hx0:=(VS (h.al x hxs)).2.1;have ih:=fun ρ=>IH (pre ++ [x]) ρ (by rw[hk];simp);simp only[XOR]at c160 hx0;rw[hx0]at c160;generalize encTs [u]=EU at *;rw[Qc F.f539l0.eq_1];simp[h3,h5,h22,h23,h24,h0,hg,hlt,hw1,Qg,c160];apply ih <;> simp[h3,h0,h5,h22,h23]
theorem AY (s:List Tm) (u:Tm) (h:PlC s u) (o:Bool) (bs:List (List AV)):call F.tb 539 [.sl o 4 (encTs s),.agg (Qb u)] bs=some (.bool false,bs):=by
 have hs:=IX (VS h.ul).2.1 h.nu;have c540:=Qda u bs h.um h.uv (by rw[hs];simp);rw[hs]at c540;have h0:=fun ρ=>Qeo s u h bs s [] ρ rfl;rw[Qa F.tb_539 _ _ rfl];generalize encTs [u]=EU at *;simp[F.f539C,c540,Qg];apply h0 <;> simp
theorem NE {t:Tm} (h:isB t EXP=false):NF t=t∧ND t=[]:=by
 have:TK t=false:=by simp[TK,h]
 exact⟨by simp[NF,this],by simp[ND,this]⟩
theorem A4 (s:List Tm) (u t:Tm) (gb gx gs:Nat) (bs:List (List AV)) (h:PlC s u) (hgb:bs[gb]? =some (Qb u)) (ht:t∈s):call F.tb 554 [.agg (Qb t),.gp gb 0,.gp gx 0,.gp gs 0] bs=some (.bool false,bs):=by
 have htm:=(h.gs.2 t ht).2;have het:=(VS (h.al t ht)).2.2;obtain⟨o2,b2⟩:=H6 t bs htm (fun e=>by rw[het]at e;cases e);obtain⟨e1,e2⟩:=NE het;rw[e1,e2]at b2;have h8:=H3 u t bs (by have:=h.um;unfold big;omega) (by unfold big;omega);have c: ¬Qh u t=0:=fun e=>h.ns (by rw[ZV _ _ e];exact ht);rw[Qa F.tb_554 _ _ rfl];simp[-getElem?_pos,QP,List.getElem?_cons_succ,F.f554C,hgb,b2,h8,c,Qg]
theorem A3 (s:List Tm) (u:Tm) (h:PlC s u) (o:Bool) (bs:List (List AV)):call F.tb 552 [.sl o 4 (encTs s),.agg (Qb u)] bs=some (.bool false,bs):=by
 have heu:=(VS h.ul).2.2;obtain⟨e1,e2⟩:=NE heu;obtain⟨o2,b2⟩:=H6 u (bs ++ [[AV.sl false 4 (encTs s)]]) h.um (fun e=>by rw[heu]at e;cases e);rw[e1,e2]at b2;have hall:call F.tb 537 [.sl false 4 (encTs s),.fn 554 [.gp (bs.length+1) 0,.gp (bs.length+2) 0,.gp bs.length 0]] (bs ++ [[AV.sl false 4 (encTs s)],Qb u,[.sl false 5 (Qr [])]])=some (.bool (s.any fun _=>false),bs ++ [[AV.sl false 4 (encTs s)],Qb u,[.sl false 5 (Qr [])]]):=by
  have g1: (bs ++ [[AV.sl false 4 (encTs s)],Qb u,[.sl false 5 (Qr [])]])[bs.length+1]? =some (Qb u):=by rw[List.getElem?_append_right (by omega)];simp
  exact Ji s 554 [.gp (bs.length+1) 0,.gp (bs.length+2) 0,.gp bs.length 0] (fun _=>false) false _ (by have:=h.len;omega) (by simp) fun x hx=>A4 s u x (bs.length+1) (bs.length+2) bs.length _ h g1 hx
 have ef: (s.any fun _=>false)=false:=by simp
 rw[ef]at hall;rw[Qa F.tb_552 _ _ rfl];simp[F.f552C,b2,Qg,hall]
theorem Qei {u:Tm} (hc:ofE u=0) (he:RE u=false) (hpb:X8 u=false):ofP u=[(u,1)]:=by
 have hsy:Y4 u=false:=by
  cases cs:Y4 u
  ·rfl
  ·obtain⟨k3,hn | hn | hn⟩:=Nl cs
   ·simp[RE,isB,k3,hn]at he
   ·simp[RE,isB,k3,hn]at he
   ·have har:arB u=true:=by
     unfold ofE at hc;split at hc
     ·rename_i h1;exact absurd hc h1
     ·split at hc
      ·rename_i h2;exact h2
      ·cases hc
    rw[Ja,cs]at har;simp only[Bool.not_true,Bool.false_or,Bool.and_eq_true]at har;have h3:=har.1;have hk:u.kids.length=0:=by
     simp only[Y2,hn,ONE,MUL,INV]at h3;simpa using h3
    revert hpb
    simp[X8,k3,hn,hk]
 unfold ofP;rw[if_pos hc,Ta,if_neg (by rw[hsy];decide)];rfl
theorem QgK (s:List Tm) (u:Tm) (h:PlC s u) (bs:List (List AV)):
  ∀(post pre:List Tm) (o o1 o2:Bool) (ρ:Nat→AV),s=pre ++ post→ρ 0= .sl o 4 (encTs s)→ρ 1= .sl o1 5 [Qw (u,1)]→ρ 5= .sl true 1 []→ρ 18= .sl o2 4 (encTs s)→ρ 19= .int .i64 s.length→ρ 20= .int .i64 pre.length→
  R F.tb (.loop F.f555l0) ρ bs (Qj 0 (Qu F.tb F.f555r0 (Qx F.f555 bs)))=some (.bool false,bs):=by
 have hlen:=h.len;intro post
 induction post with
 | nil=>
  intro pre o o1 o2 ρ hk h0 h1 h5 h18 h19 h20;simp only[List.append_nil]at hk;subst hk;obtain⟨e,hc,he⟩:=A6 u h.um false false bs;rw[Qc F.f555l0.eq_1];generalize Qw (u,1)=EP at *;simp[h0,h1,h5,h18,h19,h20,F.f555r0,hc,he]
 | cons t post IH=>
  intro pre o o1 o2 ρ hk h0 h1 h5 h18 h19 h20;have hg:=Qt hk;have hll:=QE hk;have hw1:=wr1 pre.length (by omega);have hlt:=QF hk;have hh:=(VS (h.al t (by rw[hk];simp))).1;have c522:=H0 t bs;rw[hh]at c522;have ih:=fun o o1 o2 ρ=>IH (pre ++ [t]) o o1 o2 ρ (by rw[hk];simp);rw[Qc F.f555l0.eq_1];generalize Qw (u,1)=EP at *;simp[h0,h1,h5,h18,h19,h20,hg,hlt,hw1,c522,Qg];apply ih o o1 o2 <;> simp[h0,h1,h5,h18,h19]
theorem A5 (s:List Tm) (u:Tm) (h:PlC s u) (o o1:Bool) (bs:List (List AV)):call F.tb 555 [.sl o 4 (encTs s),.sl o1 5 (Qr [(u,1)])] bs=some (.bool false,bs):=by
 have hg:=fun o1 ρ=>QgK s u h bs s [] false o1 false ρ rfl;have hs:SmP [(u,1)]:=⟨by simp,fun q hq=>by simp at hq;subst hq;exact h.um⟩;obtain⟨o3,c556⟩:=Qdi s [(u,1)] false false bs (by have:=h.len;omega) h.gs.bg h.asc hs;have hh:Q3 s u=false:=by
  cases c:Q3 s u
  ·rfl
  ·exact absurd (Zx.1 c) h.ns
 have e1:MS s [(u,1)]=[(u,1)]:=by simp[MS,hh]
 have e2:Qr [(u,1)]=[Qw (u,1)]:=rfl;rw[e1,e2]at c556;rw[e2];rw[Qa F.tb_555 _ _ rfl];generalize Qw (u,1)=EP at *;simp[F.f555C,c556];apply hg o3 <;> simp
theorem Qab (s:List Tm) (u:Tm) (h:PlC s u) (o:Bool) (bs:List (List AV)):call F.tb 568 [.sl o 4 (encTs s),.agg (Qb u)] bs=some (.bool false,bs):=by
 have c186:=Rc u bs (by have:=h.um;omega);rw[Qa F.tb_568 _ _ rfl];by_cases hc:ofE u=0
 ·have e:=Qei hc (VS h.ul).1 h.nu;have c555:=A5 s u h false false bs;rw[e]at c186;generalize Qr [(u,1)]=EP at *;simp[F.f568C,c186,c555,hc,Qg]
 ·simp[F.f568C,c186,hc,Qg]
def YP (s:List Tm) (u:Tm):Bool:=Q3 s u || X8 u || UW s u || Sa s u
theorem AX (s:List Tm) (u:Tm) (o:Bool) (bs:List (List AV)) (hl:s.length≤200) (hg:GS s) (hum:u.mass < 1000000) (huv:Qz u=0) (hal: ∀x∈s,VR x=false) (hul:VR u=false) (hns:u ∉ s) (ha:Asc s):
  call F.tb 531 [.sl o 4 (encTs s),.agg (Qb u)] bs=some (.bool (YP s u),bs):=by
 have hub:u.mass < big:=by unfold big;omega
 have h1:=Ug s u false bs (by omega) hg.bg hub ha;have h2:=Qcu u bs hum;have h3:=Qc6 s u false bs (by omega) hg.bg hum ha;have h4:=Qc8 s u false bs hg ha hum;have c1:Q3 s u=false:=by
  cases c:Q3 s u
  ·rfl
  ·exact absurd (Zx.1 c) hns
 rw[Qa F.tb_531 _ _ rfl];unfold YP;cases c2:X8 u
 ·have hP:PlC s u:=⟨hl,hg,hum,huv,hal,hul,c2,hns,ha⟩;have h5:=AY s u hP false bs;have h6:=A3 s u hP false bs;have h7:=Qab s u hP false bs;cases c3:UW s u
  ·cases c4:Sa s u
   ·simp[F.f531C,h1,h2,h3,h4,h5,h6,h7,c1,c2,c3,c4,Qg]
   ·simp[F.f531C,h1,h2,h3,h4,c1,c2,c3,c4,Qg]
  ·simp[F.f531C,h1,h2,h3,c1,c2,c3,Qg]
 ·simp[F.f531C,h1,h2,c1,c2,Qg]
theorem Nd {t:Tm} (h:Vs t=0):isB t ENC=true∨isB t QY=true:=by
 unfold Vs at h;split at h
 ·rename_i h1;exact absurd h h1
 ·split at h
  ·rename_i h2;exact .inl h2
  ·split at h
   ·rename_i h2;exact .inr h2
   ·cases h
theorem RT {s:List Tm} {u t:Tm} (hg:QI t=true):Nf s u t=true↔u∈Tz s t:=by
 unfold Nf Tz;by_cases c1:isB t Zf=true
 ·obtain⟨a,b,hk⟩:=YT hg c1 (by simp[Vx]);have k0:kid t 0=a:=by simp[kid,hk]
  have k1:kid t 1=b:=by simp[kid,hk]
  rw[if_pos c1,if_pos c1,k0,k1,hk];simp only[Bool.or_eq_true,decide_eq_true_eq,Yx,List.mem_cons,List.not_mem_nil,or_false];constructor
  ·rintro(h | h)
   ·exact .inl h.symm
   ·exact .inr h.symm
  ·rintro(h | h)
   ·exact .inl h.symm
   ·exact .inr h.symm
 ·rw[if_neg c1,if_neg c1];by_cases c2:isB t Zd=true
  ·obtain⟨a,b,hk⟩:=YT hg c2 (by simp[Vx]);have k0:kid t 0=a:=by simp[kid,hk]
   rw[if_pos c2,k0,hk,c2];simp only[Bool.true_or,if_true,List.take_succ_cons,List.take_zero,List.mem_cons,List.not_mem_nil,or_false,decide_eq_true_eq,Yx];exact⟨Eq.symm,Eq.symm⟩
  ·rw[if_neg c2];have c2':isB t Zd=false:=by simpa using c2
   rw[c2',Bool.false_or];by_cases c3:Vs t=0
   ·have hd:=Nd c3;have hd2: (isB t ENC || isB t QY)=true:=by simpa using hd
    have hk: ∃a b,t.kids=[a,b]:=by
     rcases hd with h | h
     ·exact YT hg h (by simp[Vx])
     ·exact YT hg h (by simp[Vx])
    obtain⟨a,b,hk⟩:=hk;have k0:kid t 0=a:=by simp[kid,hk]
    rw[if_pos hd2,k0,hk];simp only[c3,decide_true,Bool.true_and,Bool.and_eq_true,decide_eq_true_eq,Yx];by_cases c4:Q3 s (VZ t)=true
    ·rw[if_pos c4];simp only[List.take_succ_cons,List.take_zero,List.mem_cons,List.not_mem_nil,or_false,c4,and_true];exact⟨Eq.symm,Eq.symm⟩
    ·rw[if_neg c4];constructor
     ·rintro⟨_,h⟩;exact absurd h c4
     ·intro h;cases h
   ·have: (if(decide (Vs t=0) && Q3 s (VZ t))=true then t.kids.take 1 else [])=[]:=by simp[c3]
    rw[this];split <;> simp[c3]
theorem M5 {s c:List Tm} (h: ∀x∈s,x∈c) {t:Tm} (ht:UW s t=true):UW c t=true:=by
 unfold UW at ht ⊢;simp only[Bool.and_eq_true,List.all_eq_true]at ht ⊢;exact⟨ht.1,fun x hx=>Zx.2 (h x (Zx.1 (ht.2 x hx)))⟩
theorem Bf {s c:List Tm} (h: ∀x∈s,x∈c) {t y:Tm} (hy:y∈Tz s t):y∈Tz c t:=by
 unfold Tz at hy ⊢;split at hy
 ·rename_i h1;rw[if_pos h1];exact hy
 ·rename_i h1;rw[if_neg h1];split at hy
  ·rename_i h2;have: (isB t Zd || (decide (Vs t=0) && Q3 c (VZ t)))=true:=by
    simp only[Bool.or_eq_true,Bool.and_eq_true]at h2 ⊢;rcases h2 with h2 | h2
    ·exact .inl h2
    ·exact .inr ⟨h2.1,Zx.2 (h _ (Zx.1 h2.2))⟩
   rw[if_pos this];exact hy
  ·cases hy
theorem Ls {s c:List Tm} (hg: ∀x∈c,QI x=true) (h: ∀x∈s,x∈c) {t:Tm} (ht:Sa s t=true):Sa c t=true:=by
 unfold Sa at ht ⊢;obtain⟨x,hx,hy⟩:=List.any_eq_true.1 ht;exact List.any_eq_true.2 ⟨x,h x hx,(RT (hg x (h x hx))).2 (Bf h ((RT (hg x (h x hx))).1 hy))⟩
def ClS (u c:List Tm):Prop:=∀x∈u,(X8 x=true∨UW c x=true∨Sa c x=true)→x∈c
theorem Iq (p:List Tm→Tm→Bool): ∀(ts:List Tm) (x:List Tm×Bool),x.2=true→(Xm p x ts).2=true
 | [],x,h=>h
 | t:: ts,x,h=>by
  simp only[Xm];apply Iq;split
  ·rfl
  ·exact h
theorem Bk (p:List Tm→Tm→Bool): ∀(ts:List Tm) (x:List Tm×Bool),(Xm p x ts).2=false→Xm p x ts=x∧∀t∈ts,p x.1 t=true→t∈x.1
 | [],x,_=>⟨rfl,fun y hy=>by cases hy⟩
 | t:: ts,x,h=>by
  simp only[Xm]at h ⊢;by_cases c: (!Q3 x.1 t && p x.1 t)=true
  ·rw[if_pos c]at h;rw[Iq p ts _ rfl]at h;cases h
  ·rw[if_neg c]at h ⊢;obtain⟨h1,h2⟩:=Bk p ts x h;refine⟨h1,fun z hz hpz=> ?_⟩;rcases List.mem_cons.1 hz with rfl | hz
   ·rw[hpz,Bool.and_true]at c;have:Q3 x.1 z=true:=by simpa using c
    exact Zx.1 this
   ·exact h2 z hz hpz
theorem Ip (p:List Tm→Tm→Bool): ∀(ts:List Tm) (x:List Tm×Bool),∀y∈x.1,y∈(Xm p x ts).1
 | [],x,y,h=>h
 | t:: ts,x,y,h=>by
  simp only[Xm];apply Ip;split
  ·exact Vr.2 (.inr h)
  ·exact h
theorem JD (p:List Tm→Tm→Bool) {u:List Tm}: ∀(f:Nat) (s:List Tm),∀y∈s,y∈W9 p u f s
 | 0,s,y,h=>h
 | f+1,s,y,h=>by
  simp only[W9];split
  ·exact JD p f _ y (Ip p u (s,false) y h)
  ·exact Ip p u (s,false) y h
theorem H8 (p:List Tm→Tm→Bool) {u:List Tm}: ∀(f:Nat) (s:List Tm),PsI u s→PsI u (W9 p u f s)
 | 0,s,h=>h
 | f+1,s,h=>by
  have h2:=Oz p u (s,false) (fun t ht=>ht) h;simp only[W9];split
  ·exact H8 p f _ h2
  ·exact h2
theorem H7 (p:List Tm→Tm→Bool) {u:List Tm} (ha:Asc u): ∀(f:Nat) (s:List Tm),u.length < f+s.length→PsI u s→∀t∈u,p (W9 p u f s) t=true→t∈W9 p u f s
 | 0,s,hf,hI=>by have:=X4 u s hI.asc ha hI.sub;omega
 | f+1,s,hf,hI=>by
  have hI2:=Oz p u (s,false) (fun t ht=>ht) hI;have hl:=MO p u (s,false);simp only[W9];split
  ·rename_i hc;apply H7 p ha f _ _ hI2;rcases hl.2 hc with h | h
   ·cases h
   ·simp only at h;omega
  ·rename_i hc;obtain⟨e,h⟩:=Bk p u (s,false) (by simpa using hc);rw[e];exact h
theorem ML {t:Tm} {i:Nat} (h:i < t.kids.length):kid t i∈t.kids:=by
 unfold kid;rw[List.getD_eq_getElem?_getD,List.getElem?_eq_getElem h];exact List.getElem_mem _
theorem Ox {t x:Tm} (h:x∈t.kids):x∈QT t:=by
 rw[HT];exact List.mem_cons_of_mem _ (HS h x (Pq x))
theorem Qej {t:Tm} (hg:QI t=true) (h:Vs t=0):VZ t∈QT t:=by
 have hd:=Nd h;have h0:=h;unfold VZ;rw[if_neg (by simpa using h)];by_cases c:isB t ENC=true
 ·rw[if_pos c];obtain⟨a,b,hk⟩:=YT hg c (by simp[Vx]);exact Ox (ML (by rw[hk];simp))
 ·rw[if_neg c];have ca:isB t QY=true:=by
   rcases hd with h | h
   ·exact absurd h c
   ·exact h
  obtain⟨a,b,hk⟩:=YT hg ca (by simp[Vx]);have h1:kid t 1∈t.kids:=ML (by rw[hk];simp);have h2:=Ox h1;have hp:isB (kid t 1) PK=true:=by
   by_cases hp:isB (kid t 1) PK=true
   ·exact hp
   ·exfalso;have c2:isB t ENC=false:=by simpa using c
    have hp2:isB (kid t 1) PK=false:=by simpa using hp
    simp only[Vs,c2,ca,hp2,Bool.false_eq_true,if_false,if_true]at h0;by_cases d:thV t=0 <;> simp[d]at h0
  have hg2:=PN t _ hg h2;obtain⟨k3,hn⟩:=W0.1 hp;have har:=(XW hg2 k3).2;have hlen: (kid t 1).kids.length=1:=by
   rw[hn]at har;simpa[ZF,PK,Zf,ENC,QY,Zd,EXP,DEC,Zo,ZE]using har
  exact Mt t _ _ h2 (Ox (ML (by omega)))
theorem Rj {l k:List Tm} (h: ∀x∈k,x∈l):PsI (ZQ l) (Zs k):=⟨Tr k,fun x hx=>X7.2 ⟨x,h x (XJ.1 hx),Pq x⟩⟩
def LsR (l:List Tm) (e:Int) (B:List (List AV)) (r:Out):Prop:=∃o,r=some (.tup [.sl o 4 (encTs l),.int .i64 e],B)
structure PU (u:List Tm):Prop where
 len:u.length≤200
 uk:UK u
 v: ∀x∈u,Qz x=0
 al: ∀x∈u,VR x=false
theorem Ix {u s:List Tm} (hu:PU u) (ha:Asc u) (hI:PsI u s):s.length≤200:=by
 have:=X4 u s hI.asc ha hI.sub;have:=hu.len;omega
theorem Qb9 {u s:List Tm} (hu:PU u) (ha:Asc u) (hI:PsI u s):GS s:=⟨by have:=Ix hu ha hI;omega,fun x hx=>⟨hu.uk.gd x (hI.sub x hx),hu.uk.ms x (hI.sub x hx)⟩⟩
theorem Qdo {u:List Tm} (hu:PU u) (hau:Asc u) (B:List (List AV)) (K:Kn) (Q:Out→Prop):
  ∀(post pre s:List Tm) (ch o o1 o9:Bool) (ρ:Nat→AV),u=pre ++ post→PsI u s→ρ 0= .sl o 4 (encTs s)→ρ 1= .sl o1 4 (encTs u)→ρ 5= .bool ch→ρ 9= .sl o9 4 (encTs u)→ρ 10= .int .i64 u.length→ρ 11= .int .i64 pre.length→
  (∀(ρ':Nat→AV) (o':Bool),ρ' 0= .sl o' 4 (encTs (Xm YP (s,ch) post).1)→ρ' 1= .sl o1 4 (encTs u)→ρ' 5= .bool (Xm YP (s,ch) post).2→Q (R F.tb (.loop F.f529l1) ρ' B K))→
  Q (R F.tb (.loop F.f529l0) ρ B (Qj 2 (Qj 1 (Qu F.tb (.loop F.f529l1) K)))):=by
 have hul:=hu.len;intro post
 induction post with
 | nil=>
  intro pre s ch o o1 o9 ρ hk hI h0 h1 h5 h9 h10 h11 hq;simp only[List.append_nil]at hk;rw[← hk]at h11;rw[Qc F.f529l0.eq_1];simp[h0,h1,h5,h9,h10,h11];apply hq _ o <;> simp[h0,h1,h5,Xm]
 | cons t post IH=>
  intro pre s ch o o1 o9 ρ hk hI h0 h1 h5 h9 h10 h11 hq;have hg:=Qt hk;have hll:=QE hk;have hw1:=wr1 pre.length (by omega);have hlt:=QF hk;have ht:t∈u:=by rw[hk];simp
  have hl:=Ix hu hau hI;have hgs:=Qb9 hu hau hI;have htb:t.mass < big:=by have:=hu.uk.ms t ht;unfold big;omega
  have c530:=fun o=>Ug s t o B (by omega) hgs.bg htb hI.asc;obtain⟨o2,c523⟩:=Qc4 s t false B (by omega) hgs.bg htb hI.asc;simp only[Xm]at hq;rw[Qc F.f529l0.eq_1];cases c1:Q3 s t
  ·have c531:=fun o=>AX s t o B hl hgs (hu.uk.ms t ht) (hu.v t ht) (fun x hx=>hu.al x (hI.sub x hx)) (hu.al t ht) (fun e=>by rw[Zx.2 e]at c1;cases c1) hI.asc;cases c2:YP s t
   ·rw[c1,c2]at hq;simp only[Bool.not_false,Bool.and_false,Bool.false_eq_true,if_false]at hq;have ih:=fun o ρ=>IH (pre ++ [t]) s ch o o1 o9 ρ (by rw[hk];simp) hI;simp[h0,h1,h5,h9,h10,h11,hg,hlt,hw1,c530,c531,c1,c2,Qg];apply ih o <;> first | exact hq | simp[h0,h1,h5,h9,h10]
   ·rw[c1,c2]at hq;simp only[Bool.not_false,Bool.and_true,if_true]at hq;have ih:=fun o ρ=>IH (pre ++ [t]) (Q4 t s) true o o1 o9 ρ (by rw[hk];simp) (GH hI ht);simp[h0,h1,h5,h9,h10,h11,hg,hlt,hw1,c530,c531,c1,c2,c523,Qg];apply ih o2 <;> first | exact hq | simp[h0,h1,h5,h9,h10]
  ·rw[c1]at hq;simp only[Bool.not_true,Bool.false_and,Bool.false_eq_true,if_false]at hq;have ih:=fun o ρ=>IH (pre ++ [t]) s ch o o1 o9 ρ (by rw[hk];simp) hI;simp[h0,h1,h5,h9,h10,h11,hg,hlt,hw1,c530,c1,Qg];apply ih o <;> first | exact hq | simp[h0,h1,h5,h9,h10]
theorem Qdp {u:List Tm} (hu:PU u) (hau:Asc u) (B:List (List AV)):
  ∀(f:Nat) (s:List Tm) (o o1:Bool) (ρ:Nat→AV),u.length < f+s.length→PsI u s→ρ 0= .sl o 4 (encTs s)→ρ 1= .sl o1 4 (encTs u)→ρ 5= .bool true→
  ClR (W9 YP u f s) B (R F.tb (.loop F.f529l1) ρ B (Qj 0 (Qu F.tb F.f529r0 (Qx F.f529 B)))):=by
 intro f
 induction f with
 | zero=>
  intro s o o1 ρ hf hI;have:=X4 u s hI.asc hau hI.sub;omega
 | succ f IH=>
  intro s o o1 ρ hf hI h0 h1 h5;have hl:=MO YP u (s,false);have hI2:=Oz YP u (s,false) (fun t ht=>ht) hI;have h:=fun(o9:Bool) ρ=>Qdo hu hau B (Qj 0 (Qu F.tb F.f529r0 (Qx F.f529 B))) (ClR (W9 YP u (f+1) s) B) u [] s false o o1 o9 ρ rfl hI;simp only[W9]at h ⊢;rw[Qc F.f529l1.eq_1];simp[h0,h1,h5];apply h false
  ·simp[h0]
  ·simp[h1]
  ·simp
  ·simp
  ·simp
  ·simp
  ·intro ρ' o' q0 q1 q5;cases hc: (Xm YP (s,false) u).2
   ·rw[hc]at q5;refine⟨false,?_⟩;rw[Qc F.f529l1.eq_1];simp[q0,q1,q5,F.f529r0]
   ·rw[hc]at q5;rw[if_pos rfl];have:s.length < (Xm YP (s,false) u).1.length:=by
     rcases hl.2 hc with h | h
     ·cases h
     ·exact h
    exact IH _ o' o1 ρ' (by omega) hI2 q0 q1 q5
theorem AW {u:List Tm} (hu:PU u) (hau:Asc u) {s:List Tm} (hI:PsI u s) (o o1:Bool) (B:List (List AV)):
  ClR (W9 YP u (u.length+1) s) B (call F.tb 529 [.sl o 4 (encTs s),.sl o1 4 (encTs u)] B):=by
 have h:=fun o ρ=>Qdp hu hau B (u.length+1) s o false ρ (by omega) hI;rw[Qa F.tb_529 _ _ rfl];simp[F.f529C];apply h false <;> simp
theorem AN {l:List Tm} (h:l≠[]) (hl:l.length < 1000000) (B:List (List AV)):call F.tb 193 [.sl false 4 (encTs l)] B=some (.gs B.length 0 4 l.length,B ++ [Qf l]):=by
 rw[ZP F.tb_193];have e1: (encTs l).flatten.map AV.strip=Qf l:=by
  have: (encTs l).flatten=Qf l:=by rw[Yd];rfl
  rw[this,Zl QL]
 have e2: (encTs l).length=l.length:=by simp[Yd]
 have e3:=encTs_gp l;have q5:l.length*56≤140737488355328:=by omega
 simp[Yc,Xp,e1,e2,e3,h,q5]
def Db (l:List Tm) (id:Nat) (B:List (List AV)) (r:Out):Prop:=∃o c,r=some (.sl o 4 (encTs l),B.set id c)
theorem JB (l:List Tm) (t:List AV):Q5 (Qf l ++ t) 0 4 l.length=encTs l:=by
 have:=Yv (f:=Qb) (k:=4) Qk QL l t;rw[Wu]at this;exact this
theorem Qdm {pre post:List Tm} {p:Tm} {id n:Nat} {B:List (List AV)} (hn:n=pre.length+1+post.length) (hl:n < 1000000) (hb:B[id]? =some (Qf (pre ++ p:: post))):
  Db (pre ++ post) id B (call F.tb 727 [.gs id 0 4 n,.int .i64 pre.length,.int .i64 ((pre.length:Int)+1)] B):=by
 have hlt:=ZI hb;have e1: (0:Int)≤(pre.length:Int):=by omega
 have e2: (pre.length:Int)≤(pre.length:Int)+1:=by omega
 have e3: (pre.length:Int)+1≤(n:Int):=by omega
 have e4: (0:Int)≤(pre.length:Int)+1:=by omega
 have e5: ¬(pre.length:Int)=(pre.length:Int)+1:=by omega
 have e6: (pre.length:Int)≤(n:Int):=by omega
 have e7: ((pre.length:Int)+1).toNat=pre.length+1:=by omega
 have e8:n - (pre.length+1)=post.length:=by omega
 have e9: (pre.length+post.length)=n - 1:=by omega
 have e10:n - (n - 1)=1:=by omega
 have e11: ((n - 1:Nat):Int)≤(n:Int):=by omega
 have hl0: (Qf pre).length=pre.length*4:=Q8 Qk pre;have hp0: (Qf post).length=post.length*4:=Q8 Qk post;have hst: (Qf post).map AV.strip=Qf post:=Zl QL post;have hrl: (Qf (pre ++ p:: post)).length=n*4:=by rw[Q8 Qk];simp;omega
 have htk:=WS (f:=Qb) (k:=4) Qk (l:=pre ++ p:: post) (pre:=pre) (post:=p:: post) rfl [];have hdr:=TB (f:=Qb) (k:=4) Qk (l:=pre ++ p:: post) (pre:=pre ++ [p]) (post:=post) (by simp) [];rw[List.length_append,List.length_singleton]at hdr;simp only[List.append_nil]at htk hdr;have hne:Qf (pre ++ p:: post)≠[]:=by
  intro e;have:=congrArg List.length e;rw[hrl]at this;simp at this;omega
 have hb56:n*56≤140737488355328:=by omega
 have hb57:pre.length*56≤140737488355328:=by omega
 have hb58: (pre.length+post.length)*56≤140737488355328:=by omega
 have hq2: (n:Int)≤((Qf (pre ++ p:: post)).length:Int) / 4:=by rw[hrl];omega
 have e13:pre.length≤n:=by omega
 have hgp:=encTs_gp (pre ++ post);change (Qf (pre ++ p:: post)).take (pre.length*4)=Qf pre at htk;change (Qf (pre ++ p:: post)).drop ((pre.length+1)*4)=Qf post at hdr;have hgs: ∀x:List AV,(B.set id x)[id]? =some x:=fun x=>by simp[hlt]
 have hTB: ∀X:List AV,(B.set id X).take B.length=B.set id X:=fun X=>List.take_of_length_le (by simp);rw[Qa F.tb_727 _ _ rfl];generalize hcc:Qf (pre ++ p:: post)=c at *;by_cases hp:post=[]
 ·subst hp;have e8':n - (pre.length+1)=0:=by simpa using e8
  have e9':pre.length=n - 1:=by simpa using e9
  have e12:n - pre.length=1:=by omega
  have hle:pre.length*4+4≤c.length:=by omega
  have hch:=JB pre (.undef:: .undef:: .undef:: .undef:: c.drop (pre.length*4+4));simp only[List.append_nil]at hgp ⊢;unfold Db;have hfin:pre.length*4≤(Qf pre).length+ (c.length - (pre.length*4+4)+1+1+1+1):=by omega
  by_cases hz:pre.length=0
  ·have hz2:pre=[]:=List.eq_nil_of_length_eq_zero hz;subst hz2;have hn1:n=1:=by simpa using hn
   have hd4:c.drop 4=[]:=hdr;have hcl:c.length=4:=by omega
   subst hn1;refine⟨false,List.replicate 4 .undef,?_⟩;simp[-getElem?_pos,F.f727C,hb,hcl,hd4,hne,hTB,hgs,appM,YF,Zg,encTs]
  ·refine⟨true,[],?_⟩;generalize encTs pre=EP at *;simp[-getElem?_pos,F.f727C,e1,e2,e3,e4,e5,e6,e7,e8',e12,e13,hb,hb57,hq2,hle,hne,htk,appM,YF,Zg,hz,hch,hgp,hfin,hgs,hTB]
 ·have hz: ¬post.length=0:=fun e=>hp (List.eq_nil_of_length_eq_zero e);have hle: (pre.length+1)*4+post.length*4≤c.length:=by omega
  have hle2: (pre.length+post.length)*4≤c.length:=by omega
  have hle3:pre.length*4≤c.length:=by omega
  have htp: ((c.map AV.strip).drop ((pre.length+1)*4)).take (post.length*4)=Qf post:=by
   rw[← List.map_drop,hdr,hst,← hp0,List.take_length]
  have e14: (pre.length:Int)+ (post.length:Int)≤(n:Int):=by omega
  have e15: (0:Int)≤(pre.length:Int)+ (post.length:Int):=by omega
  have e16:n - (pre.length+post.length)=1:=by omega
  have e17: ((pre.length:Int)+ (post.length:Int)).toNat=pre.length+post.length:=by omega
  have e18:pre.length+post.length≤n:=by omega
  obtain⟨c1,hc1⟩: ∃c1,Qf pre ++ (Qf post ++ c.drop (pre.length*4+post.length*4))=c1:=⟨_,rfl⟩;have hc1':c1=Qf (pre ++ post)++ c.drop ((pre.length+post.length)*4):=by rw[← hc1,show Qf (pre ++ post)=Qf pre ++ Qf post from Xj _ _ _,Nat.add_mul];simp
  have hr1: (Qf (pre ++ post)).length=(pre.length+post.length)*4:=by rw[Q8 Qk];simp
  have hl1:c1.length=c.length:=by rw[hc1',List.length_append,hr1,List.length_drop];omega
  have htk1:c1.take ((pre.length+post.length)*4)=Qf (pre ++ post):=by rw[hc1',← hr1,List.take_left]
  have hle4: (pre.length+post.length)*4+4≤c1.length:=by omega
  have hq3: (n:Int)≤(c1.length:Int) / 4:=by rw[hl1];exact hq2
  have hch:=JB (pre ++ post) (.undef:: .undef:: .undef:: .undef:: c1.drop ((pre.length+post.length)*4+4));rw[List.length_append]at hch;have hz3: ¬pre.length+post.length=0:=by omega
  have hfin: (pre.length+post.length)*4≤(Qf (pre ++ post)).length+ (c1.length - ((pre.length+post.length)*4+4)+1+1+1+1):=by omega
  refine⟨true,[],?_⟩;generalize encTs (pre ++ post)=EP at *;simp[-getElem?_pos,F.f727C,e1,e2,e3,e4,e5,e6,e7,e8,e14,e15,e16,e17,e18,hp,hb,hb57,hb58,hq2,hq3,hle,hle2,hle3,hle4,hne,htk,htk1,htp,hp0,hgs,hc1,appM,YF,Zg,hch,hgp,hfin,hgs,hTB]
theorem JN {pre post:List Tm} {x:Tm}: (pre ++ x:: post).eraseIdx pre.length=pre ++ post:=by
 rw[List.eraseIdx_append_of_length_le (Nat.le_refl _)];simp
inductive Syn (A:List Tm):Tm→Prop
 | ax {t:Tm}:t∈A→Syn A t
 | pub {t:Tm}:X8 t=true→Syn A t
 | con {t:Tm}:t.kind=3→MF t.name=true→(∀x∈t.kids,Syn A x)→Syn A t
theorem QbG {A B:List Tm} (h: ∀x∈A,Syn B x) {t:Tm} (ht:Syn A t):Syn B t:=by
 induction ht with
 | ax h1=>exact h _ h1
 | pub h1=>exact .pub h1
 | con h1 h2 _ ih=>exact .con h1 h2 ih
theorem B7 {u C:List Tm} (hu:UK u) (hc:ClS u C) {A:List Tm} (hA: ∀x∈A,x∈C) {t:Tm} (ht:Syn A t):t∈u→t∈C:=by
 induction ht with
 | ax h1=>exact fun _=>hA _ h1
 | pub h1=>exact fun hu2=>hc _ hu2 (.inl h1)
 | @con t h1 h2 _ ih=>
  intro hu2;apply hc _ hu2;refine .inr (.inl ?_);unfold UW;simp only[Bool.and_eq_true,decide_eq_true_eq,List.all_eq_true];exact⟨⟨h1,h2⟩,fun x hx=>Zx.2 (ih x hx (hu.kids _ hu2 x hx))⟩
structure An (w A:List Tm):Prop where
 uk:UK w
 sub: ∀x∈A,x∈w
 cl:ClS w A
theorem Qa5 {t:Tm} {n:List UInt8} (h:X8 t=true) (hn:isB t n=true):n=ZM∨n=ONE:=by
 obtain⟨k3,e⟩:=W0.1 hn;unfold X8 at h;rw[if_pos k3]at h;simp only[Bool.and_eq_true,Bool.or_eq_true,beq_iff_eq]at h;rw[← e];exact h.1
theorem GE {s:List Tm} {t y:Tm} (h:y∈Tz s t):y∈t.kids:=by
 unfold Tz at h;split at h
 ·exact h
 ·split at h
  ·exact List.mem_of_mem_take h
  ·cases h
theorem Qa0 {s:List Tm} {t y:Tm} (h:y∈Tz s t):isB t Zf=true∨isB t Zd=true∨isB t ENC=true∨isB t QY=true:=by
 unfold Tz at h;split at h
 ·rename_i h1;exact .inl h1
 ·split at h
  ·rename_i h2;simp only[Bool.or_eq_true,Bool.and_eq_true,decide_eq_true_eq]at h2;rcases h2 with h2 | ⟨h2,_⟩
   ·exact .inr (.inl h2)
   ·exact .inr (.inr (Nd h2))
  ·cases h
theorem QbH {w A:List Tm} (hA:An w A) {c:List Tm} (hc: ∀x∈c,Syn A x) {t y:Tm} (ht:Syn A t) (hy:y∈Tz c t):Syn A y:=by
 cases ht with
 | ax h1=>
  have htw:=hA.sub t h1;have hyw:=hA.uk.kids t htw y (GE hy);apply Syn.ax;apply hA.cl y hyw;refine .inr (.inr (List.any_eq_true.2 ⟨t,h1,(RT (hA.uk.gd t htw)).2 ?_⟩));unfold Tz at hy ⊢;split at hy
  ·rename_i h2;rw[if_pos h2];exact hy
  ·rename_i h2;rw[if_neg h2];split at hy
   ·rename_i h3;have: (isB t Zd || (decide (Vs t=0) && Q3 A (VZ t)))=true:=by
     simp only[Bool.or_eq_true,Bool.and_eq_true,decide_eq_true_eq]at h3 ⊢;rcases h3 with h3 | ⟨h3,h4⟩
     ·exact .inl h3
     ·refine .inr ⟨h3,Zx.2 ?_⟩;exact B7 hA.uk hA.cl (fun x hx=>hx) (hc _ (Zx.1 h4)) (hA.uk.key t htw h3)
    rw[if_pos this];exact hy
   ·cases hy
 | pub h1=>
  rcases Qa0 hy with h2 | h2 | h2 | h2 <;> rcases Qa5 h1 h2 with h3 | h3 <;> simp[Zf,Zd,ENC,QY,ZM,ONE]at h3
 | con _ _ h3=>exact h3 y (GE hy)
theorem EH {s:List Tm} {t:Tm} (h:YP s t=true):t∈s∨X8 t=true∨UW s t=true∨Sa s t=true:=by
 unfold YP at h;simp only[Bool.or_eq_true]at h;rcases h with((h | h) | h) | h
 ·exact .inl (Zx.1 h)
 ·exact .inr (.inl h)
 ·exact .inr (.inr (.inl h))
 ·exact .inr (.inr (.inr h))
theorem GG {u c:List Tm} (hu:UK u) (hc:ClS u c) (hcu: ∀x∈c,x∈u): ∀(ts:List Tm) (x:List Tm×Bool),(∀t∈ts,t∈u)→(∀y∈x.1,y∈c)→∀y∈(Xm YP x ts).1,y∈c
 | [],x,_,h=>h
 | t:: ts,x,hs,h=>by
  simp only[Xm];have ht:=hs t (by simp);apply GG hu hc hcu ts _ (fun y hy=>hs y (by simp[hy]));split
  ·rename_i h1;simp only[Bool.and_eq_true,Bool.not_eq_true']at h1;intro y hy;rcases Vr.1 hy with rfl | hy
   ·rcases EH h1.2 with h2 | h2 | h2 | h2
    ·exact h _ h2
    ·exact hc _ ht (.inl h2)
    ·exact hc _ ht (.inr (.inl (M5 h h2)))
    ·exact hc _ ht (.inr (.inr (Ls (fun z hz=>hu.gd z (hcu z hz)) h h2)))
   ·exact h y hy
  ·exact h
theorem ME {u c:List Tm} (hu:UK u) (hc:ClS u c) (hcu: ∀x∈c,x∈u): ∀(f:Nat) (s:List Tm),(∀y∈s,y∈c)→∀y∈W9 YP u f s,y∈c
 | 0,s,h=>h
 | f+1,s,h=>by
  have h1:=GG hu hc hcu u (s,false) (fun t ht=>ht) h;simp only[W9];split
  ·exact ME hu hc hcu f _ h1
  ·exact h1
theorem QbD {c:List Tm} {x:Tm} (h:X8 x=true∨UW c x=true∨Sa c x=true):YP c x=true:=by
 unfold YP;rcases h with h | h | h <;> simp[h]
theorem OG {u:List Tm} (ha:Asc u) {f:Nat} {s:List Tm} (hf:u.length < f+s.length) (hI:PsI u s):ClS u (W9 YP u f s):=by
 intro x hx h;exact H7 YP ha f s hf hI x hx (QbD h)
noncomputable def Tx (u s:List Tm):List Tm:=W9 YP u (u.length+1) s
noncomputable def Y8 (k:List Tm) (t:Tm):Bool:=Q3 (Tx (ZQ (k ++ [t])) (Zs k)) t
theorem Na {u s:List Tm} (h:PsI u s):PsI u (Tx u s):=H8 YP _ s h
noncomputable def Uo:Nat→List Tm→List Tm
 | 0,out=>out
 | i+1,out=>match out[i]? with
  | none=>out
  | some x=>Uo i (if Y8 (out.eraseIdx i) x then out.eraseIdx i else out)
theorem RM: ∀(i:Nat) (l:List Tm),(∀x∈Uo i l,x∈l)∧(Uo i l).length≤l.length
 | 0,l=>⟨fun x hx=>hx,Nat.le_refl _⟩
 | i+1,l=>by
  simp only[Uo];cases hx:l[i]? with
  | none=>exact⟨fun x hx=>hx,Nat.le_refl _⟩
  | some x=>
   simp only;split
   ·obtain⟨h1,h2⟩:=RM i (l.eraseIdx i);exact⟨fun y hy=>List.mem_of_mem_eraseIdx (h1 y hy),Nat.le_trans h2 (List.length_eraseIdx_le l i)⟩
   ·exact RM i l
theorem JE {w A:List Tm} (hA:An w A) {u:List Tm} (hu:UK u) {s:List Tm} (hI:PsI u s) (hs: ∀x∈s,Syn A x): ∀x∈Tx u s,Syn A x:=by
 classical
 have hc:ClS u (u.filter fun t=>decide (Syn A t)):=by
  intro x hx h;have hf: ∀y∈u.filter fun t=>decide (Syn A t),Syn A y:=fun y hy=>by
   have:=(List.mem_filter.1 hy).2;simpa using this
  refine List.mem_filter.2 ⟨hx,decide_eq_true ?_⟩;rcases h with h | h | h
  ·exact .pub h
  ·unfold UW at h;simp only[Bool.and_eq_true,decide_eq_true_eq,List.all_eq_true]at h;exact .con h.1.1 h.1.2 fun y hy=>hf y (Zx.1 (h.2 y hy))
  ·obtain⟨t,ht,hto⟩:=List.any_eq_true.1 h;exact QbH hA hf (hf t ht) ((RT (hu.gd t (List.mem_filter.1 ht).1)).1 hto)
 intro x hx;have:=ME hu hc (fun y hy=>(List.mem_filter.1 hy).1) _ s (fun y hy=>List.mem_filter.2 ⟨hI.sub y hy,decide_eq_true (hs y hy)⟩) x hx;simpa using(List.mem_filter.1 this).2
structure RV (t:Tm):Prop where
 v:Qz t=0
 g:QI t=true
theorem Qca {t:Tm} (h:Y3 t=0):RV t:=by
 unfold Y3 at h;by_cases c:thV t=0
 ·obtain⟨h1,h2,h3,h4,h5⟩:=OD c;exact⟨h1,h3⟩
 ·rw[if_pos (by simpa using c)]at h;exact absurd h c
theorem QgT {t x:Tm} (h:RV t) (hx:x∈QT t):RV x:=⟨EY h.v hx,PN t x h.g hx⟩
structure FLp (l:List Tm):Prop where
 rt: ∀x∈l,RV x
 pl: ∀x∈l,∀y∈QT x,VR y=false
 len: (ZQ l).length≤200
theorem CV {l:List Tm} (h:FLp l): ∀x∈ZQ l,RV x:=fun x hx=>by
 obtain⟨t,ht,hx⟩:=X7.1 hx;exact QgT (h.rt t ht) hx
theorem Tv {l:List Tm} (h:FLp l):UK (ZQ l):=by
 have hx:=CV h;have hsub: ∀x∈ZQ l,∀y∈QT x,y∈ZQ l:=fun x hx y hy=>by
  obtain⟨t,ht,hx⟩:=X7.1 hx;exact X7.2 ⟨t,ht,Mt t x y hx hy⟩
 exact⟨by have:=h.len;omega,fun x h=>(X2 (hx x h).v).1,fun x h=>by have:=(X2 (hx x h).v).2.2;omega,fun x h=>(hx x h).g,fun x h y hy=>hsub x h y (Ox hy),fun x h ho=>hsub x h _ (Qej (hx x h).g ho)⟩
theorem CU {l:List Tm} (h:FLp l):PU (ZQ l):=⟨h.len,Tv h,fun x hx=>(CV h x hx).v,fun x hx=>by
 obtain⟨t,ht,hx⟩:=X7.1 hx;exact h.pl t ht x hx⟩
theorem QdV {l m:List Tm} (h:FLp m) (hl: ∀x∈l,x∈m):FLp l:=by
 refine⟨fun x hx=>h.rt x (hl x hx),fun x hx=>h.pl x (hl x hx),?_⟩;have:=X4 (ZQ m) (ZQ l) (Ue _) (Ue _) fun x hx=>by
  obtain⟨t,ht,hx⟩:=X7.1 hx;exact X7.2 ⟨t,hl t ht,hx⟩
 have:=h.len;omega
noncomputable def anF (k:List Tm):List Tm:=Tx (ZQ k) (Zs k)
def DvF (k:List Tm) (t:Tm):Prop:=Syn (anF k) t
theorem Cm {k:List Tm} (h:FLp k):An (ZQ k) (anF k):=by
 have hI:PsI (ZQ k) (Zs k):=Rj fun x hx=>hx;exact⟨Tv h,fun x hx=>(Na hI).sub x hx,OG (Ue _) (by omega) hI⟩
theorem On {k:List Tm} {x:Tm} (hx:x∈k):DvF k x:= .ax (JD _ _ _ x (XJ.2 hx))
theorem Gf {k l:List Tm} (hk:FLp k) (hl:FLp l) (h: ∀x∈l,DvF k x) {t:Tm} (ht:DvF l t):DvF k t:=by
 refine QbG ?_ ht;have hI:PsI (ZQ l) (Zs l):=Rj fun x hx=>hx;exact JE (Cm hk) (Tv hl) hI fun x hx=>h x (XJ.1 hx)
theorem Ui {k:List Tm} {t:Tm} (h:FLp (k ++ [t])):Y8 k t=true↔DvF k t:=by
 have hk:FLp k:=QdV h fun x hx=>List.mem_append.2 (.inl hx);have hI:PsI (ZQ (k ++ [t])) (Zs k):=Rj fun x hx=>List.mem_append.2 (.inl hx);have htu:t∈ZQ (k ++ [t]):=X7.2 ⟨t,by simp,Pq t⟩;unfold Y8;rw[Zx];constructor
 ·intro ht;exact JE (Cm hk) (Tv h) hI (fun x hx=>On (XJ.1 hx)) t ht
 ·intro ht;have hc:=OG (Ue (k ++ [t])) (f:=(ZQ (k ++ [t])).length+1) (s:=Zs k) (by omega) hI;have hg:=JD YP (u:=ZQ (k ++ [t])) ((ZQ (k ++ [t])).length+1) (Zs k);have hsub: ∀x∈anF k,x∈Tx (ZQ (k ++ [t])) (Zs k):=by
   have hI2:PsI (ZQ k) (Zs k):=Rj fun x hx=>hx;have hin: ∀x∈ZQ k,x∈ZQ (k ++ [t]):=fun x hx=>by
    obtain⟨y,hy,hx⟩:=X7.1 hx;exact X7.2 ⟨y,List.mem_append.2 (.inl hy),hx⟩
   have hC2:ClS (ZQ k) ((Tx (ZQ (k ++ [t])) (Zs k)).filter (Q3 (ZQ k))):=by
    intro x hx h2;have hle: ∀y∈(Tx (ZQ (k ++ [t])) (Zs k)).filter (Q3 (ZQ k)),y∈Tx (ZQ (k ++ [t])) (Zs k):=fun y hy=>(List.mem_filter.1 hy).1;refine List.mem_filter.2 ⟨hc x (hin x hx) ?_,Zx.2 hx⟩;rcases h2 with h2 | h2 | h2
    ·exact .inl h2
    ·exact .inr (.inl (M5 hle h2))
    ·exact .inr (.inr (Ls (fun y hy=>(Tv h).gd y ((Na hI).sub y hy)) hle h2))
   intro x hx;have:=ME (Tv hk) hC2 (fun y hy=>Zx.1 (List.mem_filter.1 hy).2) _ (Zs k) (fun y hy=>List.mem_filter.2 ⟨hg y hy,Zx.2 (hI2.sub y hy)⟩) x hx;exact(List.mem_filter.1 this).1
  exact B7 (Tv h) hc hsub ht htu
theorem MM: ∀(i:Nat) (out:List Tm),(∀l:List Tm,l.length≤out.length→(∀x∈l,x∈out)→FLp l)→i≤out.length→∀x∈out,DvF (Uo i out) x
 | 0,out,_,_,x,hx=>On hx
 | i+1,out,hF,hi,x,hx=>by
  obtain⟨y,hy⟩: ∃y,out[i]? =some y:=⟨out[i]'(by omega),List.getElem?_eq_getElem (by omega)⟩;obtain⟨pre,post,rfl,hpl⟩: ∃pre post,out=pre ++ y:: post∧pre.length=i:=by
   refine⟨out.take i,out.drop (i+1),?_,by simp;omega⟩;obtain⟨h1,h2⟩:=List.getElem?_eq_some_iff.1 hy;rw[← h2,List.getElem_cons_drop,List.take_append_drop]
  have he: (pre ++ y:: post).eraseIdx i=pre ++ post:=by rw[← hpl];exact JN
  simp only[Uo,hy,he];by_cases c:Y8 (pre ++ post) y=true
  ·rw[if_pos c];have hF2: ∀l:List Tm,l.length≤(pre ++ post).length→(∀x∈l,x∈pre ++ post)→FLp l:=fun l h1 h2=>hF l (by simp at h1 ⊢;omega) fun z hz=>by
    rcases List.mem_append.1 (h2 z hz)with h | h
    ·exact List.mem_append.2 (.inl h)
    ·exact List.mem_append.2 (.inr (List.mem_cons_of_mem _ h))
   have ih:=MM i (pre ++ post) hF2 (by simp;omega);rcases List.mem_append.1 hx with hx | hx
   ·exact ih x (List.mem_append.2 (.inl hx))
   ·rcases List.mem_cons.1 hx with rfl | hx
    ·have hd:=(Ui (hF ((pre ++ post)++ [x]) (by simp) fun z hz=>by
      simp only[List.mem_append,List.mem_cons,List.mem_nil_iff,or_false]at hz ⊢;rcases hz with(hz | hz) | hz
      ·exact .inl hz
      ·exact .inr (.inr hz)
      ·exact .inr (.inl hz))).1 c
     have hm:=RM i (pre ++ post);exact Gf (hF2 _ hm.2 hm.1) (hF2 _ (Nat.le_refl _) fun z hz=>hz) ih hd
    ·exact ih x (List.mem_append.2 (.inr hx))
  ·rw[if_neg c];exact MM i (pre ++ y:: post) hF (by simp;omega) x hx
def F8 (n:List UInt8):Bool:=n == Pj || n == PK
def EW (n:List UInt8):Bool:=n == Zf || n == ENC || n == Zd
inductive FN:Nat→Tm→Prop
 | leaf {j:Nat} {t:Tm}:t∈Yt→FN j t
 | one {j:Nat} {n:List UInt8} {x:Tm}:F8 n=true→FN j x→FN (j+1) (.mk 3 n 0 [x])
 | two {j:Nat} {n:List UInt8} {x y:Tm}:EW n=true→FN j x→FN j y→FN (j+1) (.mk 3 n 0 [x,y])
 | pk {j:Nat} {x y:Tm}:FN j x→FN j y→FN (j+1) (.mk 3 QY 0 [x,.mk 3 PK 0 [y]])
def OQ (bs:List (List AV)) (at_ K j:Nat) (r:Out):Prop:=∃(t:Tm) (m:Nat),r=some (.tup [.agg (Qb t),.int .i64 m],bs)∧at_≤m∧m≤at_+K∧FN j t
theorem U3 (b:List Nat) (at_ c d:Nat) (o:Bool) (bs:List (List AV)) (j:Nat) (hat:at_ < 1000) (hd:d < 100) (hb: (at_ < b.length∧b[at_]? =some c)∨(b.length≤at_∧c=0)) (hc:c < 256) (h3:4≤d∨c % 3=0):
  OQ bs at_ (nK j) j (call F.tb 283 [.sl o 1 (Yn b),.int .i64 at_,.int .i64 d,.bool true] bs):=by
 have h1:=MA bs;have hw:IntKind.i64.wrap (c:Int)=c:=QB (by omega) (by omega);have hw1:IntKind.i64.wrap ((at_:Int)+1)=(at_:Int)+1:=QB (by omega) (by omega);obtain⟨q,hq,hq2⟩: ∃q:Nat,IntKind.i64.wrap ((c:Int) / 3)=(q:Int)∧q=c / 3:=⟨c / 3,by rw[QB (by omega) (by omega)];omega,rfl⟩;obtain⟨k,hk,hk2⟩: ∃k:Nat,((q:Int)).tmod 10=(k:Int)∧k < 10:=⟨q % 10,by rw[Int.tmod_eq_emod_of_nonneg (by omega)];omega,by omega⟩;have hll:Yt.length=10:=rfl;obtain⟨t,ht⟩: ∃t,Yt[k]? =some t:=⟨Yt[k]'(by omega),List.getElem?_eq_getElem _⟩;obtain⟨m1,m2⟩:=GA ht;have hmem:t∈Yt:=List.mem_of_getElem? ht;have hne: ¬Yt=[]:=by simp[Yt]
 have hkl:k < Yt.length:=by omega
 refine⟨t,at_+1,?_,by omega,by have:=Ie j;omega,.leaf hmem⟩;rw[Qa F.tb_283 _ _ rfl];have e3: ((c:Int).tmod 3=0)=(c % 3=0):=by rw[Int.tmod_eq_emod_of_nonneg (by omega)];exact propext (by omega)
 have e4: (4≤(d:Int))=(4≤d):=propext (by omega);have hgk:Yt[k]'hkl=t:=(List.getElem?_eq_some_iff.1 ht).2;have hgi: (encTs Yt)[k]'(by rw[YJ];exact hkl)=Qb t:=by
  have h3: (encTs Yt)[k]? =some (Qb t):=by simp[ht]
  exact(List.getElem?_eq_some_iff.1 h3).2
 rcases hb with⟨hl,hb⟩ | ⟨hl,rfl⟩
 ·have hg:=JK hb;have hlt: (at_:Int) < (b.length:Int):=by omega
  by_cases h4:4≤d
  ·simp[F.f283C,hg,hlt,Yy,hw,hw1,e4,h4,h1,hq,hk,hll,hne,hkl,hgi,hk2]
  ·have h5:c % 3=0:=by omega
   simp[F.f283C,hg,hlt,Yy,hw,hw1,e3,e4,h4,h5,h1,hq,hk,hll,hne,hkl,hgi,hk2]
 ·have hlt: ¬(at_:Int) < (b.length:Int):=by omega
  have hq0:q=0:=by omega
  subst hq0;simp only[Int.natCast_zero]at hk;have hk0:k=0:=by have: (0:Int).tmod 10=0:=rfl;omega
  subst hk0;have hw0:IntKind.i64.wrap 0=0:=rfl;have ht0:t= .mk 2 [110,97] 2 []:=by simp[Yt]at ht;exact ht.symm
  by_cases h4:4≤d
  ·simp[F.f283C,hlt,Yy,hw1,e4,h4,h1,Yt,encTs,ht0,hw0]
  ·simp[F.f283C,hlt,Yy,hw1,e4,h4,h1,Yt,encTs,ht0,hw0]
set_option maxHeartbeats 20000000 in
theorem C9 (b:List Nat) (at_ c d:Nat) (o:Bool) (bs:List (List AV)) (j:Nat) (hat:at_+nK (j+1)≤1000) (hd:d < 4) (hb:b[at_]? =some c) (hc:c < 256) (h3:c % 3≠0)
  (ih: ∀(a:Nat),a+nK j≤1000→OQ bs a (nK j) j (call F.tb 283 [.sl false 1 (Yn b),.int .i64 a,.int .i64 ((d:Int)+1),.bool true] bs)):
  OQ bs at_ (nK (j+1)) (j+1) (call F.tb 283 [.sl o 1 (Yn b),.int .i64 at_,.int .i64 d,.bool true] bs):=by
 have h1:=MA bs;have hl:=(List.getElem?_eq_some_iff.1 hb).1;have hg:=JK hb;have hlt: (at_:Int) < (b.length:Int):=by omega
 have e3: ((c:Int).tmod 3=0)=(c % 3=0):=by rw[Int.tmod_eq_emod_of_nonneg (by omega)];exact propext (by omega)
 have e4: (4≤(d:Int))=(4≤d):=propext (by omega);have h4: ¬4≤d:=by omega
 have hw:IntKind.i64.wrap (c:Int)=c:=QB (by omega) (by omega);have hw1:IntKind.i64.wrap ((at_:Int)+1)=(at_:Int)+1:=QB (by omega) (by omega);have hw2:IntKind.i64.wrap ((d:Int)+1)=(d:Int)+1:=QB (by omega) (by omega);obtain⟨q,hq,hq2⟩: ∃q:Nat,IntKind.i64.wrap ((c:Int) / 3)=(q:Int)∧q=c / 3:=⟨c / 3,by rw[QB (by omega) (by omega)];omega,rfl⟩;have hr: ((q:Int)).tmod 11=((q % 11:Nat):Int):=by rw[Int.tmod_eq_emod_of_nonneg (by omega)];omega
 have hrl:q % 11 < 11:=by omega
 generalize q % 11=r at *;simp only[nK]at hat;obtain⟨x,m1,a1,a2,a3,a4⟩:=ih (at_+1) (by omega);obtain⟨y,m2,b1,b2,b3,b4⟩:=ih m1 (by omega);simp only[Int.natCast_add,Int.natCast_one]at a1;have hA1: ∀n z o,call F.tb 120 [.str n,.sl o 4 [Qb z]] bs=some (.agg (Qb (.mk 3 n 0 [z])),bs):=fun n z o=>VA n [z] o bs (by simp);have hA2: ∀n z w o,call F.tb 120 [.str n,.sl o 4 [Qb z,Qb w]] bs=some (.agg (Qb (.mk 3 n 0 [z,w])),bs):=fun n z w o=>VA n [z,w] o bs (by simp);have hone: ∀n:List UInt8,F8 n=true→(∀X,X=some (.tup [.agg (Qb (.mk 3 n 0 [x])),.int .i64 m1],bs)→OQ bs at_ (nK (j+1)) (j+1) X):=fun n hn X hX=>
  ⟨_,_,hX,by omega,by simp only[nK];omega,.one hn a4⟩
 have htwo: ∀n:List UInt8,EW n=true→(∀X,X=some (.tup [.agg (Qb (.mk 3 n 0 [x,y])),.int .i64 m2],bs)→OQ bs at_ (nK (j+1)) (j+1) X):=fun n hn X hX=>
  ⟨_,_,hX,by omega,by simp only[nK];omega,.two hn a4 b4⟩
 have hpk: ∀X,X=some (.tup [.agg (Qb (.mk 3 QY 0 [x,.mk 3 PK 0 [y]])),.int .i64 m2],bs)→OQ bs at_ (nK (j+1)) (j+1) X:=fun X hX=>
  ⟨_,_,hX,by omega,by simp only[nK];omega,.pk a4 b4⟩
 rw[Qa F.tb_283 _ _ rfl];have hr11:r=0∨r=1∨r=2∨r=3∨r=4∨r=5∨r=6∨r=7∨r=8∨r=9∨r=10:=by omega
 clear hq2 hrl;rcases hr11 with rfl | rfl | rfl | rfl | rfl | rfl | rfl | rfl | rfl | rfl | rfl
 ·refine hone [104,97,115,104] (by decide) _ ?_;simp[F.f283C,hg,hlt,Yy,hw,hw1,hw2,e3,h3,e4,h4,h1,hq,hr,a1,b1,hA1,hA2,QY,PK]
 ·refine hone [112,107] (by decide) _ ?_;simp[F.f283C,hg,hlt,Yy,hw,hw1,hw2,e3,h3,e4,h4,h1,hq,hr,a1,b1,hA1,hA2,QY,PK]
 ·refine htwo [112,97,105,114] (by decide) _ ?_;simp[F.f283C,hg,hlt,Yy,hw,hw1,hw2,e3,h3,e4,h4,h1,hq,hr,a1,b1,hA1,hA2,QY,PK]
 ·refine htwo [101,110,99] (by decide) _ ?_;simp[F.f283C,hg,hlt,Yy,hw,hw1,hw2,e3,h3,e4,h4,h1,hq,hr,a1,b1,hA1,hA2,QY,PK]
 ·refine htwo [101,110,99] (by decide) _ ?_;simp[F.f283C,hg,hlt,Yy,hw,hw1,hw2,e3,h3,e4,h4,h1,hq,hr,a1,b1,hA1,hA2,QY,PK]
 ·refine hpk _ ?_;simp[F.f283C,hg,hlt,Yy,hw,hw1,hw2,e3,h3,e4,h4,h1,hq,hr,a1,b1,hA1,hA2,QY,PK]
 ·refine htwo [115,105,103,110] (by decide) _ ?_;simp[F.f283C,hg,hlt,Yy,hw,hw1,hw2,e3,h3,e4,h4,h1,hq,hr,a1,b1,hA1,hA2,QY,PK]
 ·refine htwo [112,97,105,114] (by decide) _ ?_;simp[F.f283C,hg,hlt,Yy,hw,hw1,hw2,e3,h3,e4,h4,h1,hq,hr,a1,b1,hA1,hA2,QY,PK]
 ·refine htwo [112,97,105,114] (by decide) _ ?_;simp[F.f283C,hg,hlt,Yy,hw,hw1,hw2,e3,h3,e4,h4,h1,hq,hr,a1,b1,hA1,hA2,QY,PK]
 ·refine htwo [112,97,105,114] (by decide) _ ?_;simp[F.f283C,hg,hlt,Yy,hw,hw1,hw2,e3,h3,e4,h4,h1,hq,hr,a1,b1,hA1,hA2,QY,PK]
 ·refine htwo [112,97,105,114] (by decide) _ ?_;simp[F.f283C,hg,hlt,Yy,hw,hw1,hw2,e3,h3,e4,h4,h1,hq,hr,a1,b1,hA1,hA2,QY,PK]
theorem AR (b:List Nat) (hb: ∀n∈b,n < 256) (bs:List (List AV)): ∀(j at_ d:Nat) (o:Bool),d+j=4→at_+nK j≤1000→
  OQ bs at_ (nK j) j (call F.tb 283 [.sl o 1 (Yn b),.int .i64 at_,.int .i64 d,.bool true] bs):=by
 intro j
 induction j with
 | zero=>
  intro at_ d o hd hat;have:=Ie 0;rcases Nat.lt_or_ge at_ b.length with hl | hl
  ·exact U3 b at_ b[at_] d o bs 0 (by omega) (by omega) (.inl ⟨hl,List.getElem?_eq_getElem hl⟩) (hb _ (List.getElem_mem hl)) (.inl (by omega))
  ·exact U3 b at_ 0 d o bs 0 (by omega) (by omega) (.inr ⟨hl,rfl⟩) (by omega) (.inl (by omega))
 | succ j ih=>
  intro at_ d o hd hat;have:=Ie (j+1);rcases Nat.lt_or_ge at_ b.length with hl | hl
  ·have h1:b[at_]? =some b[at_]:=List.getElem?_eq_getElem hl;have h2:=hb _ (List.getElem_mem hl);by_cases h3:b[at_] % 3=0
   ·exact U3 b at_ b[at_] d o bs (j+1) (by omega) (by omega) (.inl ⟨hl,h1⟩) h2 (.inr h3)
   ·exact C9 b at_ b[at_] d o bs j hat (by omega) h1 h2 h3 fun a ha=>by
     have:=ih a (d+1) false (by omega) ha;simpa using this
  ·exact U3 b at_ 0 d o bs (j+1) (by omega) (by omega) (.inr ⟨hl,rfl⟩) (by omega) (.inr rfl)
end Go.Am
