/-
  Kn69, Kn70, Kn71, Kn72, Kn73, Kn74, Kn75, Kn76, Kn77, Kn78, Kn79, Kp3, Kn80, Kn81, Kp4, Kn82, Kn83, Kn84, Kn85, Kn86, Kn87, Kn91, Kp5, Kn90, Kn92, Kp6, Td1, Gt1, Gt2, Gt3, Gt4, Gt5, Gt6, Gt7, Gt8.
-/
import Derived.Test.YtkijgpjgngncpaaGreatDoorG22
import Derived.Test.YtkijgpjgngncpaaGreatDoorG20
set_option linter.all false
namespace Go.Am
set_option maxRecDepth 8000
mutual
theorem Jk: ∀(t x:Tm),ZI t=0→x∈Q1 t→ZI x=0
 | .mk k n s ks,x,h,hx=>by
  simp only[Q1,List.mem_cons]at hx;rcases hx with rfl | hx
  ·exact h
  ·simp only[ZI]at h;split at h
   ·rename_i h1;exact absurd h h1
   ·exact errL_sub ks x h hx
theorem errL_sub: ∀(ts:List Tm) (x:Tm),errL ts=0→x∈allL ts→ZI x=0
 | [],x,_,hx=>by simp[allL]at hx
 | t:: ts,x,h,hx=>by
  simp only[errL]at h;simp only[allL,List.mem_append]at hx;split at h
  ·rename_i h1;exact absurd h h1
  ·rename_i h1;rcases hx with hx | hx
   ·exact Jk t x (by simpa using h1) hx
   ·exact errL_sub ts x h hx
end
mutual
theorem LB: ∀(t x:Tm),x∈Q1 t→x.nodes≤t.nodes
 | .mk k n s ks,x,hx=>by
  simp only[Q1,List.mem_cons]at hx;rcases hx with rfl | hx
  ·exact Nat.le_refl _
  ·have:=nodesL_sub ks x hx;simp only[Tm.nodes];omega
theorem nodesL_sub: ∀(ts:List Tm) (x:Tm),x∈allL ts→x.nodes≤nodesL ts
 | [],x,hx=>by simp[allL]at hx
 | t:: ts,x,hx=>by
  simp only[allL,List.mem_append]at hx;simp only[nodesL];rcases hx with hx | hx
  ·have:=LB t x hx;omega
  ·have:=nodesL_sub ts x hx;omega
end
mutual
theorem La: ∀(t x:Tm),x∈Q1 t→x.depth≤t.depth
 | .mk k n s ks,x,hx=>by
  simp only[Q1,List.mem_cons]at hx;rcases hx with rfl | hx
  ·exact Nat.le_refl _
  ·have:=depthL_sub ks x hx;simp only[Tm.depth];omega
theorem depthL_sub: ∀(ts:List Tm) (x:Tm),x∈allL ts→x.depth≤depthL ts
 | [],x,hx=>by simp[allL]at hx
 | t:: ts,x,hx=>by
  simp only[allL,List.mem_append]at hx;simp only[depthL];rcases hx with hx | hx
  ·have:=La t x hx;omega
  ·have:=depthL_sub ts x hx;omega
end
theorem Ij {t:Tm} (h:QD t=0):t.depth≤40:=by
 unfold QD at h;split at h
 ·rename_i h1;exact absurd h h1
 ·split at h
  ·cases h
  ·omega
theorem FZ {t x:Tm} (h:QD t=0) (hx:x∈Q1 t):QD x=0:=by
 obtain⟨h1,h2,h3⟩:=YV h;have e1:=Jk t x h1 hx;have e2:=LB t x hx;have e3:=La t x hx;have e4:=Ij h;unfold QD;rw[if_neg (by simp[e1]),if_neg (by omega)]
theorem VA: ∀(c a:List Tm),Asc a→Asc c→(∀x∈a,x∈c)→a.length≤c.length
 | [],a,_,_,h=>by
  cases a with
  | nil=>exact Nat.le_refl _
  | cons x xs=>have:=h x (by simp);simp at this
 | y:: ys,a,ha,hc,h=>by
  rw[Yf]at hc;cases a with
  | nil=>simp
  | cons x xs=>
   have ha0:=ha;rw[Yf]at ha;rcases List.mem_cons.1 (h x (by simp))with e | e
   ·subst e;have:=VA ys xs ha.2 hc.2 fun z hz=>by
     rcases List.mem_cons.1 (h z (by simp[hz]))with e | e
     ·subst e;exact absurd (ha.1 z hz) (XO z)
     ·exact e
    simp;exact this
   ·have:=VA ys (x:: xs) ha0 hc.2 fun z hz=>by
     rcases List.mem_cons.1 hz with e2 | e2
     ·rw[e2];exact e
     ·rcases List.mem_cons.1 (h z hz)with e3 | e3
      ·subst e3;exact absurd (Z4 (hc.1 x e) (ha.1 z e2)) (XO z)
      ·exact e3
    simp at this ⊢;omega
noncomputable def Xn (p:List Tm→Tm→Bool):List Tm×Bool→List Tm→List Tm×Bool
 | x,[]=>x
 | x,t:: ts=>Xn p (if !Q2 x.1 t && p x.1 t then(Zu t x.1,true)else x) ts
noncomputable def Vu (p:List Tm→Tm→Bool) (u:List Tm):Nat→List Tm→List Tm
 | 0,s=>s
 | f+1,s=>if(Xn p (s,false) u).2 then Vu p u f (Xn p (s,false) u).1 else(Xn p (s,false) u).1
structure PsI (u s:List Tm):Prop where
 asc:Asc s
 sub: ∀x∈s,x∈u
theorem H6 {u s:List Tm} {t:Tm} (h:PsI u s) (ht:t∈u):PsI u (Zu t s):=⟨Rz h.asc,fun x hx=>by
 rcases VS.1 hx with rfl | hx
 ·exact ht
 ·exact h.sub x hx⟩
theorem OG (p:List Tm→Tm→Bool) {u:List Tm}: ∀(ts:List Tm) (x:List Tm×Bool),(∀t∈ts,t∈u)→PsI u x.1→PsI u (Xn p x ts).1
 | [],x,_,h=>h
 | t:: ts,x,hs,h=>by
  simp only[Xn];apply OG p ts _ (fun y hy=>hs y (by simp[hy]));split
  ·exact H6 h (hs t (by simp))
  ·exact h
theorem M1 {t:Tm}: ∀{s:List Tm},t ∉ s→(Zu t s).length=s.length+1
 | [],_=>rfl
 | x:: xs,h=>by
  have ih:=M1 (t:=t) (s:=xs) fun e=>h (List.mem_cons_of_mem _ e);have hne:Qh t x≠0:=fun e=>h (by rw[Ze _ _ e];simp);simp only[Zu,if_neg hne];split
  ·simp
  ·simp[ih]
theorem MQ (p:List Tm→Tm→Bool): ∀(ts:List Tm) (x:List Tm×Bool),x.1.length≤(Xn p x ts).1.length∧((Xn p x ts).2=true→x.2=true∨x.1.length < (Xn p x ts).1.length)
 | [],x=>⟨Nat.le_refl _,fun h=> .inl h⟩
 | t:: ts,x=>by
  simp only[Xn];have ih:=MQ p ts (if !Q2 x.1 t && p x.1 t then(Zu t x.1,true)else x);cases c: (!Q2 x.1 t && p x.1 t)
  ·rw[c]at ih;simpa using ih
  ·rw[c]at ih;have hh:Q2 x.1 t=false:=by
    simp only[Bool.and_eq_true,Bool.not_eq_true']at c;exact c.1
   have hl:=M1 (t:=t) (s:=x.1) fun e=>by rw[Zo.2 e]at hh;cases hh
   simp only[if_true]at ih ⊢;exact⟨by omega,fun _=> .inr (by omega)⟩
def ClR (l:List Tm) (B:List (List AV)) (r:Out):Prop:=∃o,r=some (.sl o 4 (encTs l),B)
def Ug (t:Tm):Bool:=RP t || isB t XOR || isB t EXP
theorem Qbx (t:Tm) (bs:List (List AV)) (hm:t.mass < 1000000):call F.tb 520 [.agg (Qb t)] bs=some (.int .i64 (YY t),bs):=by
 have hb:t.mass < big:=by unfold big;omega
 have h1:=Sb t bs hb;have h2:=EB t bs (by omega);have h3:=Qbb t bs hb;have hlen: (encTs (Tl t)).length=(Tl t).length:=by simp[YE]
 rw[Qa F.tb_520 _ _ rfl];unfold YY;by_cases c:thV t=0
 ·rw[c]at h1;by_cases c2:Tl t=[]
  ·rw[c2]at h2;simp only[encTs]at h2;cases c3:Tv t
   ·rw[c3]at h3;simp[F.f520C,h1,h2,h3,c,c2,Qj]
   ·rw[c3]at h3;simp[F.f520C,h1,h2,h3,c,c2,Qj]
  ·have hpos: (0:Int) < ((Tl t).length:Int):=by
    have:=List.length_pos_iff.2 c2;omega
   generalize encTs (Tl t)=EV at *;simp[F.f520C,h1,h2,h3,c,c2,hlen,hpos,Qj]
 ·simp[F.f520C,h1,c,Qj]
theorem QeO (l:List Tm) (hl:l.length < 1000000) (hm: ∀y∈l,y.mass < 1000000) (B:List (List AV)):
  ∀(post pre:List Tm) (o:Bool) (ρ:Nat→AV),l=pre ++ post→ρ 6= .sl o 4 (encTs l)→ρ 7= .int .i64 l.length→ρ 8= .int .i64 pre.length→
  R F.tb (.loop F.f519l0) ρ B (Qi 0 (Qu F.tb F.f519r0 (Qy F.f519 B)))=some (.int .i64 (VX post),B):=by
 intro post
 induction post with
 | nil=>
  intro pre o ρ hk h6 h7 h8;simp only[List.append_nil]at hk;rw[← hk]at h8;rw[Qd F.f519l0.eq_1];simp[h6,h7,h8,F.f519r0,VX]
 | cons x post IH=>
  intro pre o ρ hk h6 h7 h8;have hgt:=QB hk;have hll:=QM hk;have hw1:=wr1 pre.length (by omega);have hlt:=QO hk;have hc:=Qbx x B (hm x (by rw[hk];simp));have ih:=fun ρ=>IH (pre ++ [x]) o ρ (by rw[hk];simp);rw[Qd F.f519l0.eq_1];by_cases cx:YY x=0
  ·have e:VX (x:: post)=VX post:=by simp[VX,cx]
   rw[e];rw[cx]at hc;simp[h6,h7,h8,hgt,hlt,hw1,hc,Qj];rw[ih] <;> simp[h6,h7]
  ·have e:VX (x:: post)=YY x:=by simp[VX,cx]
   rw[e];simp[h6,h7,h8,hgt,hlt,hw1,hc,cx,Qj]
theorem Qbw (l:List Tm) (o:Bool) (B:List (List AV)) (hl:l.length < 1000000) (hm: ∀y∈l,y.mass < 1000000):call F.tb 519 [.sl o 4 (encTs l)] B=some (.int .i64 (VX l),B):=by
 have h:=fun ρ=>QeO l hl hm B l [] false ρ rfl;rw[Qa F.tb_519 _ _ rfl];simp[F.f519C];rw[h] <;> simp
noncomputable def YD (l:List Tm):List Tm:=Zv (allL l)
theorem Kx (l:List Tm):Asc (YD l):=RA _
theorem UW {l:List Tm} {x:Tm}:x∈YD l↔∃t∈l,x∈Q1 t:=by unfold YD;rw[Vc,Ks]
theorem QaA {l:List Tm}: (YD l).length≤nodesL l:=by have:=J5 (allL l);rw[allL_len]at this;exact this
structure UK (u:List Tm):Prop where
 len:u.length < 4000
 err: ∀x∈u,ZI x=0
 ms: ∀x∈u,x.mass < 1000000
 gd: ∀x∈u,QI x=true
 kids: ∀x∈u,∀y∈x.kids,y∈u
 key: ∀x∈u,Vd x=0→WU x∈u
def S6 (s:List Tm) (t:Tm):List Tm:=if isB t QK then t.kids else if isB t ZD || (decide (Vd t=0) && Q2 s (WU t))then t.kids.take 1 else []
theorem Uh {t:Tm} (h:Ug t=false):RP t=false∧isB t XOR=false∧isB t EXP=false:=by
 unfold Ug at h;simp only[Bool.or_eq_false_iff]at h;exact⟨h.1.1,h.1.2,h.2⟩
structure PlC (s:List Tm) (u:Tm):Prop where
 len:s.length≤200
 gs:GS s
 um:u.mass < 1000000
 uv:QD u=0
 al: ∀x∈s,Ug x=false
 ul:Ug u=false
 nu:Xa u=false
 ns:u ∉ s
 asc:Asc s
theorem Ib {u:Tm} (h1:isB u XOR=false) (hpb:Xa u=false):Zi u=[u]:=by
 obtain⟨k,n,sr,ks⟩:=u;simp only[Zi];rw[if_neg,if_neg]
 ·rintro⟨rfl,rfl⟩
  exact absurd (XX.2 (show(Tm.mk 3 XOR sr ks).kind=3∧(Tm.mk 3 XOR sr ks).name=XOR from⟨rfl,rfl⟩)) (by rw[h1];decide)
 ·rintro⟨rfl,rfl,rfl⟩
  revert hpb;simp[Xa]
theorem QcW (s:List Tm) (u:Tm) (h:PlC s u) (bs:List (List AV)):
  ∀(post pre:List Tm) (o11:Bool) (ρ:Nat→AV),s=pre ++ post→ρ 3= .bx (Qb u)→ρ 11= .sl o11 4 (encTs [u])→ρ 12= .sl true 4 []→ρ 42= .sl false 4 (encTs s)→ρ 43= .int .i64 s.length→ρ 44= .int .i64 pre.length→
  R F.tb (.loop F.f539l1) ρ bs (Qi 2 (Qu F.tb F.f539r0 (Qy F.f539 bs)))=some (.bool false,bs):=by
 have hlen:=h.len;have hub:u.mass < big:=by have:=h.um;unfold big;omega
 intro post
 induction post with
 | nil=>
  intro pre o11 ρ hk h3 h11 h12 h42 h43 h44;simp only[List.append_nil]at hk;rw[← hk]at h44;obtain⟨e,hc,he⟩:=Be u false bs h.um h.uv (Ib (Uh h.ul).2.1 h.nu);rw[Qd F.f539l1.eq_1];simp[h3,h11,h12,h42,h43,h44,F.f539r0,Qj,hc,he]
 | cons x post IH=>
  intro pre o11 ρ hk h3 h11 h12 h42 h43 h44;have hg:=QB hk;have hll:=QM hk;have hw1:=wr1 pre.length (by omega);have hlt:=QO hk;have hxs:x∈s:=by rw[hk];simp
  have hxm:=h.gs.bg x hxs;have c160:=VL x XOR false bs;have c530:=UL [u] x false bs (by simp) (by simpa using hub) hxm (Re u);have hh:Q2 [u] x=false:=by
   cases c:Q2 [u] x
   ·rfl
   ·have:=Zo.1 c;simp only[List.mem_singleton]at this;exact absurd (this▸hxs) h.ns
  rw[hh]at c530;have hx0:=(Uh (h.al x hxs)).2.1;have ih:=fun o11 ρ=>IH (pre ++ [x]) o11 ρ (by rw[hk];simp);simp only[XOR]at c160 hx0;rw[hx0]at c160;rw[Qd F.f539l1.eq_1];simp[h3,h11,h12,h42,h43,h44,hg,hlt,hw1,Qj,c160,c530];apply ih o11 <;> simp[h3,h11,h12,h42,h43]
theorem QcV (s:List Tm) (u:Tm) (h:PlC s u) (bs:List (List AV)):
  ∀(post pre:List Tm) (ρ:Nat→AV),s=pre ++ post→ρ 3= .bx (Qb u)→ρ 5= .sl true 4 (encTs [u])→ρ 22= .sl false 4 (encTs s)→ρ 23= .int .i64 s.length→ρ 24= .int .i64 pre.length→ρ 0= .sl false 4 (encTs s)→
  R F.tb (.loop F.f539l0) ρ bs (Qi 0 (Qu F.tb F.f539r1 (Qy F.f539 bs)))=some (.bool false,bs):=by
 have hlen:=h.len;have hub:u.mass < big:=by have:=h.um;unfold big;omega
 intro post
 induction post with
 | nil=>
  intro pre ρ hk h3 h5 h22 h23 h24 h0;simp only[List.append_nil]at hk;rw[← hk]at h24;have h1:=fun o11 ρ=>QcW s u h bs s [] o11 ρ rfl;have c527:=Hv [u] false bs (by simp) (by simpa using hub);have e:Zv [u]=[u]:=Hf (Re u);rw[e]at c527;rw[Qd F.f539l0.eq_1];generalize encTs [u]=EU at *;simp[h3,h5,h22,h23,h24,h0,F.f539r1,c527];apply h1 true <;> simp[h3,h0]
 | cons x post IH=>
  intro pre ρ hk h3 h5 h22 h23 h24 h0;have hg:=QB hk;have hll:=QM hk;have hw1:=wr1 pre.length (by omega);have hlt:=QO hk;have hxs:x∈s:=by rw[hk];simp
  have c160:=VL x XOR false bs;have hx0:=(Uh (h.al x hxs)).2.1;have ih:=fun ρ=>IH (pre ++ [x]) ρ (by rw[hk];simp);simp only[XOR]at c160 hx0;rw[hx0]at c160;generalize encTs [u]=EU at *;rw[Qd F.f539l0.eq_1];simp[h3,h5,h22,h23,h24,h0,hg,hlt,hw1,Qj,c160];apply ih <;> simp[h3,h0,h5,h22,h23]
theorem Bd (s:List Tm) (u:Tm) (h:PlC s u) (o:Bool) (bs:List (List AV)):call F.tb 539 [.sl o 4 (encTs s),.agg (Qb u)] bs=some (.bool false,bs):=by
 have hs:=Ib (Uh h.ul).2.1 h.nu;have c540:=QbE u bs h.um h.uv (by rw[hs];simp);rw[hs]at c540;have h0:=fun ρ=>QcV s u h bs s [] ρ rfl;rw[Qa F.tb_539 _ _ rfl];generalize encTs [u]=EU at *;simp[F.f539C,c540,Qj];apply h0 <;> simp
theorem NB {t:Tm} (h:isB t EXP=false):NC t=t∧NA t=[]:=by
 have:Sw t=false:=by simp[Sw,h]
 exact⟨by simp[NC,this],by simp[NA,this]⟩
theorem Bh (s:List Tm) (u t:Tm) (gb gx gs:Nat) (bs:List (List AV)) (h:PlC s u) (hgb:bs[gb]? =some (Qb u)) (ht:t∈s):call F.tb 554 [.agg (Qb t),.gp gb 0,.gp gx 0,.gp gs 0] bs=some (.bool false,bs):=by
 have htm:=(h.gs.2 t ht).2;have het:=(Uh (h.al t ht)).2.2;obtain⟨o2,b2⟩:=Hz t bs htm (fun e=>by rw[het]at e;cases e);obtain⟨e1,e2⟩:=NB het;rw[e1,e2]at b2;have h8:=Hw u t bs (by have:=h.um;unfold big;omega) (by unfold big;omega);have c: ¬Qh u t=0:=fun e=>h.ns (by rw[Ze _ _ e];exact ht);rw[Qa F.tb_554 _ _ rfl];simp[-getElem?_pos,QR,List.getElem?_cons_succ,F.f554C,hgb,b2,h8,c,Qj]
theorem Bg (s:List Tm) (u:Tm) (h:PlC s u) (o:Bool) (bs:List (List AV)):call F.tb 552 [.sl o 4 (encTs s),.agg (Qb u)] bs=some (.bool false,bs):=by
 have heu:=(Uh h.ul).2.2;obtain⟨e1,e2⟩:=NB heu;obtain⟨o2,b2⟩:=Hz u (bs ++ [[AV.sl false 4 (encTs s)]]) h.um (fun e=>by rw[heu]at e;cases e);rw[e1,e2]at b2;have hall:call F.tb 537 [.sl false 4 (encTs s),.fn 554 [.gp (bs.length+1) 0,.gp (bs.length+2) 0,.gp bs.length 0]] (bs ++ [[AV.sl false 4 (encTs s)],Qb u,[.sl false 5 (QU [])]])=some (.bool (s.any fun _=>false),bs ++ [[AV.sl false 4 (encTs s)],Qb u,[.sl false 5 (QU [])]]):=by
  have g1: (bs ++ [[AV.sl false 4 (encTs s)],Qb u,[.sl false 5 (QU [])]])[bs.length+1]? =some (Qb u):=by rw[List.getElem?_append_right (by omega)];simp
  exact KD s 554 [.gp (bs.length+1) 0,.gp (bs.length+2) 0,.gp bs.length 0] (fun _=>false) false _ (by have:=h.len;omega) (by simp) fun x hx=>Bh s u x (bs.length+1) (bs.length+2) bs.length _ h g1 hx
 have ef: (s.any fun _=>false)=false:=by simp
 rw[ef]at hall;rw[Qa F.tb_552 _ _ rfl];simp[F.f552C,b2,Qj,hall]
theorem QcO {u:Tm} (hc:ofE u=0) (he:RP u=false) (hpb:Xa u=false):ofP u=[(u,1)]:=by
 have hsy:WV u=false:=by
  cases cs:WV u
  ·rfl
  ·obtain⟨k3,hn | hn | hn⟩:=Ic cs
   ·simp[RP,isB,k3,hn]at he
   ·simp[RP,isB,k3,hn]at he
   ·have har:arB u=true:=by
     unfold ofE at hc;split at hc
     ·rename_i h1;exact absurd hc h1
     ·split at hc
      ·rename_i h2;exact h2
      ·cases hc
    rw[Ei,cs]at har;simp only[Bool.not_true,Bool.false_or,Bool.and_eq_true]at har;have h3:=har.1;have hk:u.kids.length=0:=by
     simp only[VM,hn,ONE,MUL,INV]at h3;simpa using h3
    revert hpb
    simp[Xa,k3,hn,hk]
 unfold ofP;rw[if_pos hc,Rk,if_neg (by rw[hsy];decide)];rfl
theorem QeG (s:List Tm) (u:Tm) (h:PlC s u) (bs:List (List AV)):
  ∀(post pre:List Tm) (o o1 o2:Bool) (ρ:Nat→AV),s=pre ++ post→ρ 0= .sl o 4 (encTs s)→ρ 1= .sl o1 5 [Qw (u,1)]→ρ 5= .sl true 1 []→ρ 18= .sl o2 4 (encTs s)→ρ 19= .int .i64 s.length→ρ 20= .int .i64 pre.length→
  R F.tb (.loop F.f555l0) ρ bs (Qi 0 (Qu F.tb F.f555r0 (Qy F.f555 bs)))=some (.bool false,bs):=by
 have hlen:=h.len;intro post
 induction post with
 | nil=>
  intro pre o o1 o2 ρ hk h0 h1 h5 h18 h19 h20;simp only[List.append_nil]at hk;subst hk;obtain⟨e,hc,he⟩:=Bj u h.um false false bs;rw[Qd F.f555l0.eq_1];generalize Qw (u,1)=EP at *;simp[h0,h1,h5,h18,h19,h20,F.f555r0,hc,he]
 | cons t post IH=>
  intro pre o o1 o2 ρ hk h0 h1 h5 h18 h19 h20;have hg:=QB hk;have hll:=QM hk;have hw1:=wr1 pre.length (by omega);have hlt:=QO hk;have hh:=(Uh (h.al t (by rw[hk];simp))).1;have c522:=Ht t bs;rw[hh]at c522;have ih:=fun o o1 o2 ρ=>IH (pre ++ [t]) o o1 o2 ρ (by rw[hk];simp);rw[Qd F.f555l0.eq_1];generalize Qw (u,1)=EP at *;simp[h0,h1,h5,h18,h19,h20,hg,hlt,hw1,c522,Qj];apply ih o o1 o2 <;> simp[h0,h1,h5,h18,h19]
theorem Bi (s:List Tm) (u:Tm) (h:PlC s u) (o o1:Bool) (bs:List (List AV)):call F.tb 555 [.sl o 4 (encTs s),.sl o1 5 (QU [(u,1)])] bs=some (.bool false,bs):=by
 have hg:=fun o1 ρ=>QeG s u h bs s [] false o1 false ρ rfl;have hs:SmP [(u,1)]:=⟨by simp,fun q hq=>by simp at hq;subst hq;exact h.um⟩;obtain⟨o3,c556⟩:=QbM s [(u,1)] false false bs (by have:=h.len;omega) h.gs.bg h.asc hs;have hh:Q2 s u=false:=by
  cases c:Q2 s u
  ·rfl
  ·exact absurd (Zo.1 c) h.ns
 have e1:MY s [(u,1)]=[(u,1)]:=by simp[MY,hh]
 have e2:QU [(u,1)]=[Qw (u,1)]:=rfl;rw[e1,e2]at c556;rw[e2];rw[Qa F.tb_555 _ _ rfl];generalize Qw (u,1)=EP at *;simp[F.f555C,c556];apply hg o3 <;> simp
theorem Bo (s:List Tm) (u:Tm) (h:PlC s u) (o:Bool) (bs:List (List AV)):call F.tb 568 [.sl o 4 (encTs s),.agg (Qb u)] bs=some (.bool false,bs):=by
 have c186:=Rf u bs (by have:=h.um;omega);rw[Qa F.tb_568 _ _ rfl];by_cases hc:ofE u=0
 ·have e:=QcO hc (Uh h.ul).1 h.nu;have c555:=Bi s u h false false bs;rw[e]at c186;generalize QU [(u,1)]=EP at *;simp[F.f568C,c186,c555,hc,Qj]
 ·simp[F.f568C,c186,hc,Qj]
def YU (s:List Tm) (u:Tm):Bool:=Q2 s u || Xa u || Sc s u || S7 s u
theorem Bc (s:List Tm) (u:Tm) (o:Bool) (bs:List (List AV)) (hl:s.length≤200) (hg:GS s) (hum:u.mass < 1000000) (huv:QD u=0) (hal: ∀x∈s,Ug x=false) (hul:Ug u=false) (hns:u ∉ s) (ha:Asc s):
  call F.tb 531 [.sl o 4 (encTs s),.agg (Qb u)] bs=some (.bool (YU s u),bs):=by
 have hub:u.mass < big:=by unfold big;omega
 have h1:=UL s u false bs (by omega) hg.bg hub ha;have h2:=Qa8 u bs hum;have h3:=QbA s u false bs (by omega) hg.bg hum ha;have h4:=QbC s u false bs hg ha hum;have c1:Q2 s u=false:=by
  cases c:Q2 s u
  ·rfl
  ·exact absurd (Zo.1 c) hns
 rw[Qa F.tb_531 _ _ rfl];unfold YU;cases c2:Xa u
 ·have hP:PlC s u:=⟨hl,hg,hum,huv,hal,hul,c2,hns,ha⟩;have h5:=Bd s u hP false bs;have h6:=Bg s u hP false bs;have h7:=Bo s u hP false bs;cases c3:Sc s u
  ·cases c4:S7 s u
   ·simp[F.f531C,h1,h2,h3,h4,h5,h6,h7,c1,c2,c3,c4,Qj]
   ·simp[F.f531C,h1,h2,h3,h4,c1,c2,c3,c4,Qj]
  ·simp[F.f531C,h1,h2,h3,c1,c2,c3,Qj]
 ·simp[F.f531C,h1,h2,c1,c2,Qj]
theorem JM {t:Tm} (h:Vd t=0):isB t ENC=true∨isB t Zz=true:=by
 unfold Vd at h;split at h
 ·rename_i h1;exact absurd h h1
 ·split at h
  ·rename_i h2;exact .inl h2
  ·split at h
   ·rename_i h2;exact .inr h2
   ·cases h
theorem Si {s:List Tm} {u t:Tm} (hg:QI t=true):Nk s u t=true↔u∈S6 s t:=by
 unfold Nk S6;by_cases c1:isB t QK=true
 ·obtain⟨a,b,hk⟩:=YZ hg c1 (by simp[VY]);have k0:kid t 0=a:=by simp[kid,hk]
  have k1:kid t 1=b:=by simp[kid,hk]
  rw[if_pos c1,if_pos c1,k0,k1,hk];simp only[Bool.or_eq_true,decide_eq_true_eq,ZW,List.mem_cons,List.not_mem_nil,or_false];constructor
  ·rintro(h | h)
   ·exact .inl h.symm
   ·exact .inr h.symm
  ·rintro(h | h)
   ·exact .inl h.symm
   ·exact .inr h.symm
 ·rw[if_neg c1,if_neg c1];by_cases c2:isB t ZD=true
  ·obtain⟨a,b,hk⟩:=YZ hg c2 (by simp[VY]);have k0:kid t 0=a:=by simp[kid,hk]
   rw[if_pos c2,k0,hk,c2];simp only[Bool.true_or,if_true,List.take_succ_cons,List.take_zero,List.mem_cons,List.not_mem_nil,or_false,decide_eq_true_eq,ZW];exact⟨Eq.symm,Eq.symm⟩
  ·rw[if_neg c2];have c2':isB t ZD=false:=by simpa using c2
   rw[c2',Bool.false_or];by_cases c3:Vd t=0
   ·have hd:=JM c3;have hd2: (isB t ENC || isB t Zz)=true:=by simpa using hd
    have hk: ∃a b,t.kids=[a,b]:=by
     rcases hd with h | h
     ·exact YZ hg h (by simp[VY])
     ·exact YZ hg h (by simp[VY])
    obtain⟨a,b,hk⟩:=hk;have k0:kid t 0=a:=by simp[kid,hk]
    rw[if_pos hd2,k0,hk];simp only[c3,decide_true,Bool.true_and,Bool.and_eq_true,decide_eq_true_eq,ZW];by_cases c4:Q2 s (WU t)=true
    ·rw[if_pos c4];simp only[List.take_succ_cons,List.take_zero,List.mem_cons,List.not_mem_nil,or_false,c4,and_true];exact⟨Eq.symm,Eq.symm⟩
    ·rw[if_neg c4];constructor
     ·rintro⟨_,h⟩;exact absurd h c4
     ·intro h;cases h
   ·have: (if(decide (Vd t=0) && Q2 s (WU t))=true then t.kids.take 1 else [])=[]:=by simp[c3]
    rw[this];split <;> simp[c3]
theorem EW {s c:List Tm} (h: ∀x∈s,x∈c) {t:Tm} (ht:Sc s t=true):Sc c t=true:=by
 unfold Sc at ht ⊢;simp only[Bool.and_eq_true,List.all_eq_true]at ht ⊢;exact⟨ht.1,fun x hx=>Zo.2 (h x (Zo.1 (ht.2 x hx)))⟩
theorem DH {s c:List Tm} (h: ∀x∈s,x∈c) {t y:Tm} (hy:y∈S6 s t):y∈S6 c t:=by
 unfold S6 at hy ⊢;split at hy
 ·rename_i h1;rw[if_pos h1];exact hy
 ·rename_i h1;rw[if_neg h1];split at hy
  ·rename_i h2;have: (isB t ZD || (decide (Vd t=0) && Q2 c (WU t)))=true:=by
    simp only[Bool.or_eq_true,Bool.and_eq_true]at h2 ⊢;rcases h2 with h2 | h2
    ·exact .inl h2
    ·exact .inr ⟨h2.1,Zo.2 (h _ (Zo.1 h2.2))⟩
   rw[if_pos this];exact hy
  ·cases hy
theorem DI {s c:List Tm} (hg: ∀x∈c,QI x=true) (h: ∀x∈s,x∈c) {t:Tm} (ht:S7 s t=true):S7 c t=true:=by
 unfold S7 at ht ⊢;obtain⟨x,hx,hy⟩:=List.any_eq_true.1 ht;exact List.any_eq_true.2 ⟨x,h x hx,(Si (hg x (h x hx))).2 (DH h ((Si (hg x (h x hx))).1 hy))⟩
def ClS (u c:List Tm):Prop:=∀x∈u,(Xa x=true∨Sc c x=true∨S7 c x=true)→x∈c
theorem JQ (p:List Tm→Tm→Bool): ∀(ts:List Tm) (x:List Tm×Bool),x.2=true→(Xn p x ts).2=true
 | [],x,h=>h
 | t:: ts,x,h=>by
  simp only[Xn];apply JQ;split
  ·rfl
  ·exact h
theorem DN (p:List Tm→Tm→Bool): ∀(ts:List Tm) (x:List Tm×Bool),(Xn p x ts).2=false→Xn p x ts=x∧∀t∈ts,p x.1 t=true→t∈x.1
 | [],x,_=>⟨rfl,fun y hy=>by cases hy⟩
 | t:: ts,x,h=>by
  simp only[Xn]at h ⊢;by_cases c: (!Q2 x.1 t && p x.1 t)=true
  ·rw[if_pos c]at h;rw[JQ p ts _ rfl]at h;cases h
  ·rw[if_neg c]at h ⊢;obtain⟨h1,h2⟩:=DN p ts x h;refine⟨h1,fun z hz hpz=> ?_⟩;rcases List.mem_cons.1 hz with rfl | hz
   ·rw[hpz,Bool.and_true]at c;have:Q2 x.1 z=true:=by simpa using c
    exact Zo.1 this
   ·exact h2 z hz hpz
theorem JP (p:List Tm→Tm→Bool): ∀(ts:List Tm) (x:List Tm×Bool),∀y∈x.1,y∈(Xn p x ts).1
 | [],x,y,h=>h
 | t:: ts,x,y,h=>by
  simp only[Xn];apply JP;split
  ·exact VS.2 (.inr h)
  ·exact h
theorem EO (p:List Tm→Tm→Bool) {u:List Tm}: ∀(f:Nat) (s:List Tm),∀y∈s,y∈Vu p u f s
 | 0,s,y,h=>h
 | f+1,s,y,h=>by
  simp only[Vu];split
  ·exact EO p f _ y (JP p u (s,false) y h)
  ·exact JP p u (s,false) y h
theorem HD (p:List Tm→Tm→Bool) {u:List Tm}: ∀(f:Nat) (s:List Tm),PsI u s→PsI u (Vu p u f s)
 | 0,s,h=>h
 | f+1,s,h=>by
  have h2:=OG p u (s,false) (fun t ht=>ht) h;simp only[Vu];split
  ·exact HD p f _ h2
  ·exact h2
theorem HC (p:List Tm→Tm→Bool) {u:List Tm} (ha:Asc u): ∀(f:Nat) (s:List Tm),u.length < f+s.length→PsI u s→∀t∈u,p (Vu p u f s) t=true→t∈Vu p u f s
 | 0,s,hf,hI=>by have:=VA u s hI.asc ha hI.sub;omega
 | f+1,s,hf,hI=>by
  have hI2:=OG p u (s,false) (fun t ht=>ht) hI;have hl:=MQ p u (s,false);simp only[Vu];split
  ·rename_i hc;apply HC p ha f _ _ hI2;rcases hl.2 hc with h | h
   ·cases h
   ·simp only at h;omega
  ·rename_i hc;obtain⟨e,h⟩:=DN p u (s,false) (by simpa using hc);rw[e];exact h
theorem MN {t:Tm} {i:Nat} (h:i < t.kids.length):kid t i∈t.kids:=by
 unfold kid;rw[List.getD_eq_getElem?_getD,List.getElem?_eq_getElem h];exact List.getElem_mem _
theorem OD {t x:Tm} (h:x∈t.kids):x∈Q1 t:=by
 rw[Qa4];exact List.mem_cons_of_mem _ (Hp h x (M3 x))
theorem QcP {t:Tm} (hg:QI t=true) (h:Vd t=0):WU t∈Q1 t:=by
 have hd:=JM h;have h0:=h;unfold WU;rw[if_neg (by simpa using h)];by_cases c:isB t ENC=true
 ·rw[if_pos c];obtain⟨a,b,hk⟩:=YZ hg c (by simp[VY]);exact OD (MN (by rw[hk];simp))
 ·rw[if_neg c];have ca:isB t Zz=true:=by
   rcases hd with h | h
   ·exact absurd h c
   ·exact h
  obtain⟨a,b,hk⟩:=YZ hg ca (by simp[VY]);have h1:kid t 1∈t.kids:=MN (by rw[hk];simp);have h2:=OD h1;have hp:isB (kid t 1) PK=true:=by
   by_cases hp:isB (kid t 1) PK=true
   ·exact hp
   ·exfalso;have c2:isB t ENC=false:=by simpa using c
    have hp2:isB (kid t 1) PK=false:=by simpa using hp
    simp only[Vd,c2,ca,hp2,Bool.false_eq_true,if_false,if_true]at h0;by_cases d:thV t=0 <;> simp[d]at h0
  have hg2:=PZ t _ hg h2;obtain⟨k3,hn⟩:=XX.1 hp;have har:=(Ww hg2 k3).2;have hlen: (kid t 1).kids.length=1:=by
   rw[hn]at har;simpa[Ye,PK,QK,ENC,Zz,ZD,EXP,DEC,Yc,Yj]using har
  exact Mu t _ _ h2 (OD (MN (by omega)))
theorem QcT {l k:List Tm} (h: ∀x∈k,x∈l):PsI (YD l) (Zv k):=⟨RA k,fun x hx=>UW.2 ⟨x,h x (Vc.1 hx),M3 x⟩⟩
structure PU (u:List Tm):Prop where
 len:u.length≤200
 uk:UK u
 v: ∀x∈u,QD x=0
 al: ∀x∈u,Ug x=false
theorem JV {u s:List Tm} (hu:PU u) (ha:Asc u) (hI:PsI u s):s.length≤200:=by
 have:=VA u s hI.asc ha hI.sub;have:=hu.len;omega
theorem QaK {u s:List Tm} (hu:PU u) (ha:Asc u) (hI:PsI u s):GS s:=⟨by have:=JV hu ha hI;omega,fun x hx=>⟨hu.uk.gd x (hI.sub x hx),hu.uk.ms x (hI.sub x hx)⟩⟩
theorem QbQ {u:List Tm} (hu:PU u) (hau:Asc u) (B:List (List AV)) (K:Kn) (Q:Out→Prop):
  ∀(post pre s:List Tm) (ch o o1 o9:Bool) (ρ:Nat→AV),u=pre ++ post→PsI u s→ρ 0= .sl o 4 (encTs s)→ρ 1= .sl o1 4 (encTs u)→ρ 5= .bool ch→ρ 9= .sl o9 4 (encTs u)→ρ 10= .int .i64 u.length→ρ 11= .int .i64 pre.length→
  (∀(ρ':Nat→AV) (o':Bool),ρ' 0= .sl o' 4 (encTs (Xn YU (s,ch) post).1)→ρ' 1= .sl o1 4 (encTs u)→ρ' 5= .bool (Xn YU (s,ch) post).2→Q (R F.tb (.loop F.f529l1) ρ' B K))→
  Q (R F.tb (.loop F.f529l0) ρ B (Qi 2 (Qi 1 (Qu F.tb (.loop F.f529l1) K)))):=by
 have hul:=hu.len;intro post
 induction post with
 | nil=>
  intro pre s ch o o1 o9 ρ hk hI h0 h1 h5 h9 h10 h11 hq;simp only[List.append_nil]at hk;rw[← hk]at h11;rw[Qd F.f529l0.eq_1];simp[h0,h1,h5,h9,h10,h11];apply hq _ o <;> simp[h0,h1,h5,Xn]
 | cons t post IH=>
  intro pre s ch o o1 o9 ρ hk hI h0 h1 h5 h9 h10 h11 hq;have hg:=QB hk;have hll:=QM hk;have hw1:=wr1 pre.length (by omega);have hlt:=QO hk;have ht:t∈u:=by rw[hk];simp
  have hl:=JV hu hau hI;have hgs:=QaK hu hau hI;have htb:t.mass < big:=by have:=hu.uk.ms t ht;unfold big;omega
  have c530:=fun o=>UL s t o B (by omega) hgs.bg htb hI.asc;obtain⟨o2,c523⟩:=Qby s t false B (by omega) hgs.bg htb hI.asc;simp only[Xn]at hq;rw[Qd F.f529l0.eq_1];cases c1:Q2 s t
  ·have c531:=fun o=>Bc s t o B hl hgs (hu.uk.ms t ht) (hu.v t ht) (fun x hx=>hu.al x (hI.sub x hx)) (hu.al t ht) (fun e=>by rw[Zo.2 e]at c1;cases c1) hI.asc;cases c2:YU s t
   ·rw[c1,c2]at hq;simp only[Bool.not_false,Bool.and_false,Bool.false_eq_true,if_false]at hq;have ih:=fun o ρ=>IH (pre ++ [t]) s ch o o1 o9 ρ (by rw[hk];simp) hI;simp[h0,h1,h5,h9,h10,h11,hg,hlt,hw1,c530,c531,c1,c2,Qj];apply ih o <;> first | exact hq | simp[h0,h1,h5,h9,h10]
   ·rw[c1,c2]at hq;simp only[Bool.not_false,Bool.and_true,if_true]at hq;have ih:=fun o ρ=>IH (pre ++ [t]) (Zu t s) true o o1 o9 ρ (by rw[hk];simp) (H6 hI ht);simp[h0,h1,h5,h9,h10,h11,hg,hlt,hw1,c530,c531,c1,c2,c523,Qj];apply ih o2 <;> first | exact hq | simp[h0,h1,h5,h9,h10]
  ·rw[c1]at hq;simp only[Bool.not_true,Bool.false_and,Bool.false_eq_true,if_false]at hq;have ih:=fun o ρ=>IH (pre ++ [t]) s ch o o1 o9 ρ (by rw[hk];simp) hI;simp[h0,h1,h5,h9,h10,h11,hg,hlt,hw1,c530,c1,Qj];apply ih o <;> first | exact hq | simp[h0,h1,h5,h9,h10]
theorem QbR {u:List Tm} (hu:PU u) (hau:Asc u) (B:List (List AV)):
  ∀(f:Nat) (s:List Tm) (o o1:Bool) (ρ:Nat→AV),u.length < f+s.length→PsI u s→ρ 0= .sl o 4 (encTs s)→ρ 1= .sl o1 4 (encTs u)→ρ 5= .bool true→
  ClR (Vu YU u f s) B (R F.tb (.loop F.f529l1) ρ B (Qi 0 (Qu F.tb F.f529r0 (Qy F.f529 B)))):=by
 intro f
 induction f with
 | zero=>
  intro s o o1 ρ hf hI;have:=VA u s hI.asc hau hI.sub;omega
 | succ f IH=>
  intro s o o1 ρ hf hI h0 h1 h5;have hl:=MQ YU u (s,false);have hI2:=OG YU u (s,false) (fun t ht=>ht) hI;have h:=fun(o9:Bool) ρ=>QbQ hu hau B (Qi 0 (Qu F.tb F.f529r0 (Qy F.f529 B))) (ClR (Vu YU u (f+1) s) B) u [] s false o o1 o9 ρ rfl hI;simp only[Vu]at h ⊢;rw[Qd F.f529l1.eq_1];simp[h0,h1,h5];apply h false
  ·simp[h0]
  ·simp[h1]
  ·simp
  ·simp
  ·simp
  ·simp
  ·intro ρ' o' q0 q1 q5;cases hc: (Xn YU (s,false) u).2
   ·rw[hc]at q5;refine⟨false,?_⟩;rw[Qd F.f529l1.eq_1];simp[q0,q1,q5,F.f529r0]
   ·rw[hc]at q5;rw[if_pos rfl];have:s.length < (Xn YU (s,false) u).1.length:=by
     rcases hl.2 hc with h | h
     ·cases h
     ·exact h
    exact IH _ o' o1 ρ' (by omega) hI2 q0 q1 q5
theorem Bb {u:List Tm} (hu:PU u) (hau:Asc u) {s:List Tm} (hI:PsI u s) (o o1:Bool) (B:List (List AV)):
  ClR (Vu YU u (u.length+1) s) B (call F.tb 529 [.sl o 4 (encTs s),.sl o1 4 (encTs u)] B):=by
 have h:=fun o ρ=>QbR hu hau B (u.length+1) s o false ρ (by omega) hI;rw[Qa F.tb_529 _ _ rfl];simp[F.f529C];apply h false <;> simp
theorem H2 {s:List Tm} {t y:Tm} (h:y∈S6 s t):y∈t.kids:=by
 unfold S6 at h;split at h
 ·exact h
 ·split at h
  ·exact List.mem_of_mem_take h
  ·cases h
theorem FU {s:List Tm} {t:Tm} (h:YU s t=true):t∈s∨Xa t=true∨Sc s t=true∨S7 s t=true:=by
 unfold YU at h;simp only[Bool.or_eq_true]at h;rcases h with((h | h) | h) | h
 ·exact .inl (Zo.1 h)
 ·exact .inr (.inl h)
 ·exact .inr (.inr (.inl h))
 ·exact .inr (.inr (.inr h))
theorem H4 {u c:List Tm} (hu:UK u) (hc:ClS u c) (hcu: ∀x∈c,x∈u): ∀(ts:List Tm) (x:List Tm×Bool),(∀t∈ts,t∈u)→(∀y∈x.1,y∈c)→∀y∈(Xn YU x ts).1,y∈c
 | [],x,_,h=>h
 | t:: ts,x,hs,h=>by
  simp only[Xn];have ht:=hs t (by simp);apply H4 hu hc hcu ts _ (fun y hy=>hs y (by simp[hy]));split
  ·rename_i h1;simp only[Bool.and_eq_true,Bool.not_eq_true']at h1;intro y hy;rcases VS.1 hy with rfl | hy
   ·rcases FU h1.2 with h2 | h2 | h2 | h2
    ·exact h _ h2
    ·exact hc _ ht (.inl h2)
    ·exact hc _ ht (.inr (.inl (EW h h2)))
    ·exact hc _ ht (.inr (.inr (DI (fun z hz=>hu.gd z (hcu z hz)) h h2)))
   ·exact h y hy
  ·exact h
theorem HE {u c:List Tm} (hu:UK u) (hc:ClS u c) (hcu: ∀x∈c,x∈u): ∀(f:Nat) (s:List Tm),(∀y∈s,y∈c)→∀y∈Vu YU u f s,y∈c
 | 0,s,h=>h
 | f+1,s,h=>by
  have h1:=H4 hu hc hcu u (s,false) (fun t ht=>ht) h;simp only[Vu];split
  ·exact HE hu hc hcu f _ h1
  ·exact h1
theorem Qao {c:List Tm} {x:Tm} (h:Xa x=true∨Sc c x=true∨S7 c x=true):YU c x=true:=by
 unfold YU;rcases h with h | h | h <;> simp[h]
theorem IG {u:List Tm} (ha:Asc u) {f:Nat} {s:List Tm} (hf:u.length < f+s.length) (hI:PsI u s):ClS u (Vu YU u f s):=by
 intro x hx h;exact HC YU ha f s hf hI x hx (Qao h)
noncomputable def P4 (u s:List Tm):List Tm:=Vu YU u (u.length+1) s
noncomputable def PN (k:List Tm) (t:Tm):Bool:=Q2 (P4 (YD (k ++ [t])) (Zv k)) t
theorem JD {u s:List Tm} (h:PsI u s):PsI u (P4 u s):=HD YU _ s h
structure RV (t:Tm):Prop where
 v:QD t=0
 g:QI t=true
theorem QfF {t:Tm} (h:YY t=0):RV t:=by
 unfold YY at h;by_cases c:thV t=0
 ·obtain⟨h1,h2,h3,h4,h5⟩:=MW c;exact⟨h1,h3⟩
 ·rw[if_pos (by simpa using c)]at h;exact absurd h c
theorem QeP {t x:Tm} (h:RV t) (hx:x∈Q1 t):RV x:=⟨FZ h.v hx,PZ t x h.g hx⟩
structure FLp (l:List Tm):Prop where
 rt: ∀x∈l,RV x
 pl: ∀x∈l,∀y∈Q1 x,Ug y=false
 len: (YD l).length≤200
theorem Dg {l:List Tm} (h:FLp l): ∀x∈YD l,RV x:=fun x hx=>by
 obtain⟨t,ht,hx⟩:=UW.1 hx;exact QeP (h.rt t ht) hx
theorem Jr {l:List Tm} (h:FLp l):UK (YD l):=by
 have hx:=Dg h;have hsub: ∀x∈YD l,∀y∈Q1 x,y∈YD l:=fun x hx y hy=>by
  obtain⟨t,ht,hx⟩:=UW.1 hx;exact UW.2 ⟨t,ht,Mu t x y hx hy⟩
 exact⟨by have:=h.len;omega,fun x h=>(YV (hx x h).v).1,fun x h=>by have:=(YV (hx x h).v).2.2;omega,fun x h=>(hx x h).g,fun x h y hy=>hsub x h y (OD hy),fun x h ho=>hsub x h _ (QcP (hx x h).g ho)⟩
theorem Df {l:List Tm} (h:FLp l):PU (YD l):=⟨h.len,Jr h,fun x hx=>(Dg h x hx).v,fun x hx=>by
 obtain⟨t,ht,hx⟩:=UW.1 hx;exact h.pl t ht x hx⟩
theorem Ar {n:List UInt8} {ks:List Tm} (hn:Xk n ks=(.mk 3 n 0 ks,0)) (hk:normL ks=(ks,0)):ZY (.mk 3 n 0 ks)=(.mk 3 n 0 ks,0):=by
 simp only[ZY,hk,if_true,hn]
theorem Dm {n:List UInt8} (h:n=Ms∨n=PK∨n=QK∨n=ENC∨n=ZD∨n=Zz) (ks:List Tm):Xk n ks=(.mk 3 n 0 ks,0):=by
 have h1:WY n=false:=by rcases h with rfl | rfl | rfl | rfl | rfl | rfl <;> decide
 have h2: ¬n=XOR:=by rcases h with rfl | rfl | rfl | rfl | rfl | rfl <;> decide
 have h3: ¬(n=MUL∨n=INV∨n=ONE):=by rcases h with rfl | rfl | rfl | rfl | rfl | rfl <;> decide
 have h4: ¬n=EXP:=by rcases h with rfl | rfl | rfl | rfl | rfl | rfl <;> decide
 unfold Xk;rw[if_neg (by rw[h1];decide),if_neg h2,if_neg h3,if_neg h4]
theorem CT {n:List UInt8} (h:n=Ms∨n=PK∨n=QK∨n=ENC∨n=ZD∨n=Zz) (ks:List Tm): (Tm.mk 3 n 0 ks).kind≠1∧Ug (.mk 3 n 0 ks)=false:=by
 refine⟨by simp,?_⟩;rcases h with rfl | rfl | rfl | rfl | rfl | rfl <;> simp[Ug,RP,isB,Ms,PK,QK,ENC,ZD,Zz,MUL,INV,XOR,EXP]
theorem Ie: ∀{l:List Tm},(∀x∈l,YY x=0)→VX l=0
 | [],_=>rfl
 | x:: l,h=>by
  simp only[VX];rw[if_neg (by simpa using h x (by simp))];exact Ie fun y hy=>h y (by simp[hy])
theorem QeL (u:List Tm) (hul:u.length≤200) (ha: ∀t∈u,Ug t=false) (B:List (List AV)):
  ∀(post pre:List Tm) (o o4 o11:Bool) (ρ:Nat→AV),u=pre ++ post→ρ 0= .sl o 4 (encTs u)→ρ 3= .int .i64 0→ρ 4= .sl o4 4 []→ρ 11= .sl o11 4 (encTs u)→ρ 12= .int .i64 u.length→ρ 13= .int .i64 pre.length→
  R F.tb (.loop F.f521l1) ρ B (Qi 0 (Qu F.tb F.f521r1 (Qy F.f521 B)))=some (.int .i64 0,B):=by
 intro post
 induction post with
 | nil=>
  intro pre o o4 o11 ρ hk h0 h3 h4 h11 h12 h13;simp only[List.append_nil]at hk;subst hk;have c1: ¬(200:Int) < (u.length:Int):=by omega
  rw[Qd F.f521l1.eq_1];simp[h0,h3,h4,h11,h12,h13,F.f521r1,c1]
 | cons t post IH=>
  intro pre o o4 o11 ρ hk h0 h3 h4 h11 h12 h13;have hg:=QB hk;have hll:=QM hk;have hlt:=QO hk;have hw1:=wr1 pre.length (by omega);obtain⟨a1,a2,a3⟩:=Uh (ha t (by rw[hk];simp));have c522:=Ht t B;have c160:=VL t EXP false B;rw[a1]at c522;rw[a3]at c160;simp only[EXP]at c160;have ih:=fun o o4 o11 ρ=>IH (pre ++ [t]) o o4 o11 ρ (by rw[hk];simp);rw[Qd F.f521l1.eq_1];simp[h0,h3,h4,h11,h12,h13,hg,hlt,hw1,c522,c160,Qj,My,F.f521r0];apply ih o o4 o11 <;> simp[h0,h3,h4,h11,h12]
theorem Ba (u:List Tm) (hul:u.length≤200) (ha: ∀t∈u,Ug t=false) (o:Bool) (B:List (List AV)):call F.tb 521 [.sl o 4 (encTs u)] B=some (.int .i64 0,B):=by
 have h:=fun ρ=>QeL u hul ha B u [] false true false ρ rfl;rw[Qa F.tb_521 _ _ rfl];simp[F.f521C];apply h <;> simp
theorem JU {k m:List Tm}:PsI (YD (k ++ m)) (Zv k):=QcT fun x hx=>List.mem_append.2 (.inl hx)
theorem C9 {k m:List Tm} (hF:FLp (k ++ m)) (ht:VX (k ++ m)=0) (hk:k.length≤60) (hl: (k ++ m).length≤100) (o o1:Bool) (B:List (List AV)):
  ∃o2,call F.tb 518 [.sl o 4 (encTs k),.sl o1 4 (encTs m)] B=some (.tup [.sl o2 4 (encTs (YD (k ++ m))),.int .i64 0],B):=by
 have hlk:k.length+m.length≤100:=by simpa using hl
 have hm: ∀x∈k ++ m,x.mass≤13200:=fun x hx=>(YV (hF.rt x hx).v).2.2;have hms: ∀x∈k ++ m,x.mass < 1000000:=fun x hx=>by have:=hm x hx;omega
 have h1:=Aj hm;have h2: (k ++ m).length*13200≤100*13200:=Nat.mul_le_mul_right _ hl;have hU:=Df hF;have c180:=fun o=>U5 [k,m] o B (by simp) (by simp;omega);have c519:=fun o=>Qbw (k ++ m) o B (by omega) hms;have c511:=fun o=>Qbv (k ++ m) o B (by omega) hms (by have:=nodesL_le_mass (k ++ m);omega);have c521:=fun o=>Ba (YD (k ++ m)) hU.len hU.al o B;rw[ht]at c519;change ∀o,call F.tb 511 _ B=some (.sl true 4 (encTs (YD (k ++ m))),B)at c511;simp only[VG,List.map_cons,List.map_nil,List.flatten_cons,List.flatten_nil,List.append_nil]at c180;have c1: ¬(60:Int) < (k.length:Int):=by omega
 generalize YD (k ++ m)=u at *;refine⟨false,?_⟩;rw[Qa F.tb_518 _ _ rfl];simp[F.f518C,c1,c180,c519,c511,c521]
theorem C8 {k:List Tm} {t:Tm} (hF:FLp (k ++ [t])) (ht:VX (k ++ [t])=0) (hk:k.length≤60) (o:Bool) (B:List (List AV)):call F.tb 517 [.sl o 4 (encTs k),.agg (Qb t)] B=some (.tup [.bool (PN k t),.int .i64 0],B):=by
 have hms: ∀x∈k ++ [t],x.mass≤13200:=fun x hx=>(YV (hF.rt x hx).v).2.2;obtain⟨o2,c518⟩:=C9 (k:=k) (m:=[t]) hF ht hk (by simp;omega) false false B;have hU:=Df hF;have e1:encTs [t]=[Qb t]:=by simp[encTs]
 have c527:=fun o=>Hv k o B (by omega) fun x hx=>by have:=hms x (List.mem_append.2 (.inl hx));unfold big;omega
 rw[e1]at c518;have ha:=Kx (k ++ [t]);have hI:=JU (k:=k) (m:=[t]);obtain⟨o3,c529⟩:=Bb hU ha hI false false B;have hI2:=JD hI;have hgs:=QaK hU ha hI2;have c530:=fun o=>UL (P4 (YD (k ++ [t])) (Zv k)) t o B (by have:=JV hU ha hI2;omega) hgs.bg (by have:=hms t (by simp);unfold big;omega) hI2.asc;change call F.tb 529 _ B=some (.sl o3 4 (encTs (P4 (YD (k ++ [t])) (Zv k))),B)at c529;change ∀o,_=some (AV.bool (PN k t),B)at c530;rw[Qa F.tb_517 _ _ rfl];generalize P4 (YD (k ++ [t])) (Zv k)=C at *;generalize YD (k ++ [t])=u at *;generalize PN k t=d at *;simp[F.f517C,c518,c527,c529,c530,Qj]
theorem Ri (n low high:Int) (bs:List (List AV)):call F.tb 16 [.int .i64 n,.int .i64 low,.int .i64 high] bs=some (.bool (decide (low≤n) && decide (n≤high)),bs):=by
 rw[Qa F.tb_16 _ _ rfl];simp[F.f16,F.f16C]
theorem M6 (s:List UInt8) (n:Int) (bs:List (List AV)):call F.tb 5 [.str s,.int .i64 n] bs=some (.agg [.int .i64 2,.str s,.int .i64 n,.sl false 4 []],bs):=by
 rw[Qa F.tb_5 _ _ rfl];simp[F.f5,F.f5C]
attribute [simp] Xm Zk Vl QX
attribute [simp] YO Wt Zw QJ Qj PQ Jd Je Jf Jg MD ME MF MG V4 encTs_gp
attribute [simp] Int.toNat_natCast
attribute [simp] Ox Oy
section
variable {bs:List (List AV)} {i j:Nat} {n d m:Int}
end
end Go.Am
namespace Go.Am
set_option maxRecDepth 8000
theorem IC (t u:Tm) (bs:List (List AV)) (hm:t.mass < big) (hu:u.mass < big):call F.tb 29 [.agg (Qb t),.agg (Qb u)] bs=some (.bool (decide (Qh t u=0)),bs):=by
 rw[Qa F.tb_29 _ _ rfl];simp[F.f29,F.f29C,call_Compare t u bs hm hu]
end Go.Am
namespace Go.Am
set_option maxRecDepth 8000
structure Ep where
 n:Int
 e:Int
 key:Tm
structure Us where
 n:Int
 e:Int
structure Srv where
 name:List UInt8
 epoch:Int
 keys:List Ep
 next:Int
 used:List Us
 window:Int
 now:Int
def Q8 (k:Ep):List AV:= .int .i64 k.n:: .int .i64 k.e:: Qb k.key
def XM (u:Us):List AV:=[.int .i64 u.n,.int .i64 u.e]
def Qo (s:Srv):List AV:=[.str s.name,.int .i64 s.epoch,.sl false 6 (s.keys.map Q8),.int .i64 s.next,.sl false 2 (s.used.map XM),.int .i64 s.window,.int .i64 s.now]
end Go.Am
namespace Go.Am
set_option maxRecDepth 8000
theorem KU (s:List UInt8) (bs:List (List AV)) (hs:s.length < 1000000):call F.tb 4 [.str s] bs=some (.bool (QP s),bs):=by
 rw[Qa F.tb_4 _ _ rfl];have hv:=XZ (.mk 2 s 1 []) bs (by simp[Tm.mass,massL,big];omega);have:QD (.mk 2 s 1 [])=if QP s then 0 else 2:=by
  cases hn:QP s <;> simp[QD,ZI,W2,errL,Tm.nodes,nodesL,Tm.depth,depthL,hn]
 rw[this]at hv;simp[F.f4,F.f4C,M6,RM,hv]
def SI (s:List UInt8):Bool:=s.any fun b=>[35,95].contains b
theorem Dx:SI []=false:=rfl
theorem Ff (x:UInt8) (r:List UInt8):SI (x:: r)=(decide (x.toNat=35) || decide (x.toNat=95) || SI r):=by
 have hc: ([35,95]:List UInt8).contains x=(decide (x.toNat=35) || decide (x.toNat=95)):=by
  have e: ∀n:UInt8,(x == n)=decide (x.toNat=n.toNat):=fun n=>by
   rw[Bool.eq_iff_iff];simp[UInt8.toNat_inj]
  simp only[List.contains_cons,List.contains_nil,e,Bool.or_false];rfl
 unfold SI;rw[List.any_cons,hc]
def XR (s:List UInt8):Bool:=QP s && decide (s.length≤10) && !(SI s) && !(s == [101])
theorem Bs (s:List UInt8) (bs:List (List AV)) (hs:s.length < 1000000) (hn:QP s=true):call F.tb 10 [.str s,.str [35,95]] bs=some (.bool (SI s),bs):=by
 rw[ZA F.tb_10];have h: ((([35,95]:List UInt8).all (· < 128)) && s.all (· < 128) && decide (s.length < 1000000) && decide (([35,95]:List UInt8).length < 1000000))=true:=by
  rw[JC hn,decide_eq_true hs];rfl
 show Option.map _ (Mv [.str s,.str [35,95]])=_;unfold Mv;simp only[h,if_true];rfl
theorem NH (s:List UInt8) (bs:List (List AV)) (hs:s.length < 1000000):call F.tb 3 [.str s] bs=some (.bool (XR s),bs):=by
 rw[Qa F.tb_3 _ _ rfl];have e1: ((s.length:Int)≤10)=(s.length≤10):=YP _ 10;have hc:=Bs s bs hs;simp only[XR];cases h1:QP s <;> by_cases h2:s.length≤10 <;> cases h3:SI s <;>
 simp[F.f3,F.f3C,KU s bs hs,hc,e1,h1,h2,h3]
theorem MS (s:List UInt8) (bs:List (List AV)) (hs:s.length < 1000000): ∀(post pre:List UInt8) (ρ:Nat→AV),s=pre ++ post→ρ 0= .str s→ρ 3= .int .i64 pre.length→
  R F.tb (.loop F.f104l0) ρ bs (Qi 0 (Qu F.tb F.f104r0 (Qy F.f104 bs)))=
   some (.bool (!(SI post) && QP s && decide (s.length≤10) && !(s == [101])),bs):=by
 intro post
 induction post with
 | nil=>
  intro pre ρ hk h0 h3;rw[Qd F.f104l0.eq_1];have e1: ((s.length:Int)≤10)=(s.length≤10):=YP _ 10;have hl:pre.length=s.length:=by rw[hk];simp
  have hh:=Sa s bs (by omega);by_cases h2:s.length≤10 <;> cases h1:QP s <;>
  simp[h0,h3,hl,hh,h1,h2,e1,F.f104r0,Dx]
 | cons x post IH=>
  intro pre ρ hk h0 h3;have hg:=QB hk;have hl:=QM hk;have hw1:=wr1 pre.length (by omega);have hlt:=QO hk;rw[Qd F.f104l0.eq_1,Ff];by_cases c1:x.toNat=35 <;> by_cases c2:x.toNat=95 <;>
   simp[h0,h3,hg,hw1,hlt,PF,PD,c1,c2]
  rw[IH (pre ++ [x])] <;> simp[h0,h3,hk]
theorem Rj (s:List UInt8) (bs:List (List AV)) (hs:s.length < 1000000):call F.tb 104 [.str s] bs=some (.bool (XR s),bs):=by
 rw[Qa F.tb_104 _ _ rfl];simp[F.f104C];rw[MS s bs hs s []] <;> simp[XR,Bool.and_assoc,Bool.and_comm,Bool.and_left_comm]
theorem U6: ∀(n:Nat) (bs:List (List AV)),n < 1000000000000→call F.tb 106 [.int .i64 n] bs=some (.str (ZN n),bs):=by
 intro n
 induction n using Nat.strongRecOn with
 | ind n ih=>
  intro bs hn;rw[Qa F.tb_106 _ _ rfl];by_cases h:n < 10
  ·have e1: ((n:Int) < 10):=by omega
   have e2:IntKind.i64.wrap ((n:Int)+1)=(n:Int)+1:=Qq (by omega) (by omega);have e3:0≤(n:Int)+1∧(n:Int)+1≤10:=by omega
   have e4: ((n:Int)+1).toNat=n+1:=by omega
   have hd:=BK h;simp[F.f106,F.f106C,e1,e2,e3,e4,X2 h];simpa using hd
  ·have e1: ¬((n:Int) < 10):=by omega
   have e2:IntKind.i64.wrap ((n:Int) / 10)=(n:Int) / 10:=Qq (by omega) (by omega);have i1: ∀bs,call F.tb 106 [.int .i64 ((n:Int) / 10)] bs=some (.str (ZN (n / 10)),bs):=fun bs=>by
    have:=ih (n / 10) (by omega) bs (by omega);simpa using this
   have i2: ∀bs,call F.tb 106 [.int .i64 ((n:Int) % 10)] bs=some (.str (ZN (n % 10)),bs):=fun bs=>by
    have:=ih (n % 10) (by omega) bs (by omega);simpa using this
   have hl:=UO (n / 10);have hl2: (ZN (n / 10)).length+1≤9223372036854775807:=by omega
   have e3: (n:Int).tmod 10=(n:Int) % 10:=Int.tmod_eq_emod_of_nonneg (by omega);rw[X2 (show n % 10 < 10 by omega)]at i2;simp[F.f106,F.f106C,e1,e2,e3,Vi h,i1,i2,hl2]
def Y1 (n:Int):Tm:= .mk 2 ([110,35]++ dec n) 4 []
def Qt (name:List UInt8) (e:Int):Tm:= .mk 2 (name ++ [35]++ dec e) 3 []
def QG (name:List UInt8) (n:Int):Tm:= .mk 2 (name ++ [95]++ dec n) 3 []
theorem LS (s:List UInt8) (n:Nat) (bs:List (List AV)) (hs:s.length < 1000000) (hn:n < 1000000000):call F.tb 17 [.str s,.int .i64 n] bs=some (.agg (Qb (Qt s n)),bs):=by
 rw[Qa F.tb_17 _ _ rfl];have hl:=UO n;have h1:s.length+1≤9223372036854775807:=by omega
 have h2:s.length+1+ (ZN n).length≤9223372036854775807:=by omega
 simp[F.f17,F.f17C,Ev n _ hn,Wj,h1,h2,M6,RM,Qt]
theorem UM (s:List UInt8) (n:Nat) (bs:List (List AV)) (hs:s.length < 1000000) (hn:n < 1000000000):call F.tb 105 [.str s,.int .i64 n] bs=some (.agg (Qb (Qt s n)),bs):=by
 rw[Qa F.tb_105 _ _ rfl];have hl:=UO n;have h1:s.length+1≤9223372036854775807:=by omega
 have h2:s.length+1+ (ZN n).length≤9223372036854775807:=by omega
 simp[F.f105,F.f105C,U6 n _ (show n < 1000000000000 by omega),Wj,h1,h2,TJ,Qt]
theorem ND (s:List UInt8) (n:Nat) (bs:List (List AV)) (hs:s.length < 1000000) (hn:n < 1000000000):call F.tb 117 [.str s,.int .i64 n] bs=some (.agg (Qb (QG s n)),bs):=by
 rw[Qa F.tb_117 _ _ rfl];have hl:=UO n;have h1:s.length+1≤9223372036854775807:=by omega
 have h2:s.length+1+ (ZN n).length≤9223372036854775807:=by omega
 simp[F.f117,F.f117C,U6 n _ (show n < 1000000000000 by omega),Wj,h1,h2,TJ,QG]
theorem Px (n:Nat) (bs:List (List AV)) (hn:n < 1000000000):call F.tb 119 [.int .i64 n] bs=some (.agg (Qb (Y1 n)),bs):=by
 rw[Qa F.tb_119 _ _ rfl];have hl:=UO n;have h2:2+ (ZN n).length≤9223372036854775807:=by omega
 simp[F.f119,F.f119C,U6 n _ (show n < 1000000000000 by omega),Wj,h2,TJ,Y1]
end Go.Am
namespace Go.Am
set_option maxRecDepth 8000
def Vw (s:Srv) (i:Nat) (last:Bool) (pv:Option Ep) (k:Ep):Bool:=
 decide (k.n=s.epoch - s.keys.length+1+i) && !decide (k.n < 0) && decide (Qh k.key (Qt s.name k.n)=0) && (last == decide (k.e=0)) && !decide (k.e < 0) &&
  (match pv with | none=>true | some p=>last || !decide (k.e < p.e))
def Yt (s:Srv):Nat→Option Ep→List Ep→Bool
 | _,_,[]=>true
 | i,pv,k:: ks=>Vw s i ks.isEmpty pv k && Yt s (i+1) (some k) ks
def Sf (s:Srv) (i:Nat) (last:Bool) (pv:Option Ep) (k:Ep):Bool:=
 decide (k.n=s.epoch - s.keys.length+1+i) && decide (Qh k.key (Qt s.name k.n)=0) && (last || (!decide (k.e < 1) && (match pv with | none=>true | some p=> !decide (k.e < p.e))))
def YQ (s:Srv):Nat→Option Ep→List Ep→Bool
 | _,_,[]=>true
 | i,pv,k:: ks=>Sf s i ks.isEmpty pv k && YQ s (i+1) (some k) ks
def WK {α:Type} (pre:List α) (pv:Option α):Prop:=(pre=[]∧pv=none)∨∃pre' p,pre=pre' ++ [p]∧pv=some p
theorem OV (s:List UInt8) (n:Nat) (hs:s.length < 1000000) (hn:n < 1000000000): (Qt s n).mass < big:=by
 have:=UO n;simp[Qt,Tm.mass,massL,big,Wj];omega
theorem Dt (s:Srv) (bs:List (List AV)) (hn:s.name.length < 1000000) (hep:0≤s.epoch∧s.epoch≤10000) (hkl:s.keys.length≤8) (hm: ∀k∈s.keys,k.key.mass < big):
  ∀(post pre:List Ep) (pv:Option Ep) (ρ:Nat→AV),s.keys=pre ++ post→WK pre pv→ρ 1= .bx (Qo s)→ρ 12= .sl false 6 (s.keys.map Q8)→ρ 13= .int .i64 s.keys.length→ρ 14= .int .i64 pre.length→
  R F.tb (.loop F.f28l0) ρ bs (Qi 0 (Qu F.tb F.f28r0 (Qy F.f28 bs)))=some (.bool (Yt s pre.length pv post),bs):=by
 intro post
 induction post with
 | nil=>
  intro pre pv ρ hk hpv h1 h12 h13 h14;rw[Qd F.f28l0.eq_1];simp at hk;simp[h1,h12,h13,h14,hk,F.f28r0,Yt]
 | cons x post IH=>
  intro pre pv ρ hk hpv h1 h12 h13 h14;have hg:=QB hk;have hl:=QM hk;have hw1:=wr1 pre.length (by omega);have hw2:IntKind.i64.wrap ((s.keys.length:Int) - 1)=(s.keys.length:Int) - 1:=Qq (by omega) (by omega);have hw3:IntKind.i64.wrap (s.epoch - (s.keys.length:Int))=s.epoch - (s.keys.length:Int):=Qq (by omega) (by omega);have hw4:IntKind.i64.wrap (s.epoch - (s.keys.length:Int)+1)=s.epoch - (s.keys.length:Int)+1:=Qq (by omega) (by omega);have hw5:IntKind.i64.wrap (s.epoch - (s.keys.length:Int)+1+ (pre.length:Int))=s.epoch - (s.keys.length:Int)+1+ (pre.length:Int):=Qq (by omega) (by omega);have hw6:IntKind.i64.wrap ((pre.length:Int) - 1)=(pre.length:Int) - 1:=Qq (by omega) (by omega);have hlt:=QO hk;have hlast: ((pre.length:Int)=(s.keys.length:Int) - 1)=(post=[]):=by
   rw[hl,eq_iff_iff];constructor
   ·intro h;apply List.eq_nil_of_length_eq_zero;omega
   ·intro h;subst h;simp
  have hxm:=hm x (by rw[hk];simp);rw[Qd F.f28l0.eq_1];by_cases c1: ¬x.n=s.epoch - (s.keys.length:Int)+1+ (pre.length:Int)
  ·simp[h1,h12,h13,h14,Qo,Q8,hg,hw1,hw2,hw3,hw4,hw5,hlt,c1,Yt,Vw]
  replace c1:=Decidable.not_not.1 c1
  have c1': (x.n=s.epoch - (s.keys.length:Int)+1+ (pre.length:Int))=True:=eq_true c1;by_cases c2:x.n < 0
  ·simp[h1,h12,h13,h14,Qo,Q8,hg,hw1,hw2,hw3,hw4,hw5,hlt,c1',c2,Yt,Vw]
  obtain⟨m,hm2⟩: ∃m:Nat,x.n=m:=⟨x.n.toNat,by omega⟩;have hke:=LS s.name m bs hn (by omega);have hsa:=IC x.key (Qt s.name m) bs hxm (OV _ _ hn (by omega));rw[← hm2]at hke hsa;by_cases c3: ¬Qh x.key (Qt s.name x.n)=0
  ·simp[h1,h12,h13,h14,Qo,Q8,hg,hw1,hw2,hw3,hw4,hw5,hlt,c1',c2,c3,hke,hsa,Yt,Vw]
  replace c3:=Decidable.not_not.1 c3
  have hem:post.isEmpty=decide (post=[]):=by cases post <;> simp
  by_cases c4: (decide (post=[]) != decide (x.e=0))=true
  ·have c4': (decide (post=[]) == decide (x.e=0))=false:=by simpa[bne]using c4
   simp[h1,h12,h13,h14,Qo,Q8,hg,hw1,hw2,hw3,hw4,hw5,hlt,c1',c2,c3,c4',c4,hlast,hke,hsa,hem,Yt,Vw]
  have hnext:WK (pre ++ [x]) (some x):= .inr ⟨pre,x,rfl,rfl⟩;by_cases hp:post=[]
  ·have c5:x.e=0:=by simp[hp]at c4;exact c4
   simp[h1,h12,h13,h14,Qo,Q8,hg,hw1,hw2,hw3,hw4,hw5,hlt,c1',c2,c3,c5,hlast,hp,hke,hsa,Yt,Vw];have hih:=fun ρ=>IH (pre ++ [x]) (some x) ρ (by simp[hk]) hnext;subst hp;simp only[Yt]at hih;rw[hih] <;> first | (simp[h1,h12,h13];done) | (cases pv <;> simp)
  have c5: ¬x.e=0:=by simp[hp]at c4;exact c4
  by_cases c6:x.e < 0
  ·simp[h1,h12,h13,h14,Qo,Q8,hg,hw1,hw2,hw3,hw4,hw5,hlt,c1',c2,c3,c5,c6,hlast,hp,hke,hsa,hem,Yt,Vw]
  have hih:=fun ρ=>IH (pre ++ [x]) (some x) ρ (by simp[hk]) hnext;rcases hpv with⟨hpe,rfl⟩ | ⟨pre',p,hpe,rfl⟩
  ·have q1: (0 < (pre.length:Int))=False:=eq_false (by rw[hpe];simp);have q2: (pre=[])=True:=eq_true hpe;have q6: (0 < pre.length)=False:=eq_false (by rw[hpe];simp);simp[h1,h12,h13,h14,Qo,Q8,hg,hw1,hw2,hw3,hw4,hw5,hlt,c1',c2,c3,c5,c6,hlast,hp,hke,hsa,hem,Yt,Vw,q1,q2,q6];rw[hih] <;> simp[h1,h12,h13]
  ·have hpl:pre.length=pre'.length+1:=by rw[hpe];simp
   have q1: (0 < (pre.length:Int))=True:=eq_true (by omega);have q2: (pre=[])=False:=eq_false (by intro h;rw[h]at hpl;simp at hpl);have q3:s.keys[pre.length - 1]? =some p:=by
    rw[hpl,hk,hpe];simp
   have q4: ((pre.length:Int) - 1).toNat=pre.length - 1:=by omega
   have q6: (0 < pre.length)=True:=eq_true (by omega);have q7: ((1:Int)≤(pre.length:Int))=True:=eq_true (by omega);have q5: (0≤(pre.length:Int) - 1)=True:=eq_true (by omega);by_cases c7:x.e < p.e <;>
    simp[h1,h12,h13,h14,Qo,Q8,hg,hw1,hw2,hw3,hw4,hw5,hw6,hlt,c1',c2,c3,c5,c6,c7,hlast,hp,hke,hsa,hem,Yt,Vw,q1,q2,q3,q4,q5,q6,q7]
   rw[hih] <;> simp[h1,h12,h13]
def Ur (s:Srv):Bool:=decide (1≤s.keys.length) && decide (s.keys.length≤8) && Yt s 0 none s.keys
theorem EF (s:Srv) (bs:List (List AV)) (hn:s.name.length < 1000000) (hep:0≤s.epoch∧s.epoch≤10000) (hm: ∀k∈s.keys,k.key.mass < big):
  call F.tb 28 [.agg (Qo s)] bs=some (.bool (Ur s),bs):=by
 rw[Qa F.tb_28 _ _ rfl];have e1: ((1:Int)≤(s.keys.length:Int))=(1≤s.keys.length):=YP 1 _;have e2: ((s.keys.length:Int)≤8)=(s.keys.length≤8):=YP _ 8;by_cases c1:1≤s.keys.length <;> by_cases c2:s.keys.length≤8 <;>
  simp[F.f28C,Qo,Ri,e1,e2,c1,c2,Ur]
 rw[Dt s bs hn hep c2 hm s.keys [] none] <;> simp[Qo,WK]
end Go.Am
namespace Go.Am
set_option maxRecDepth 8000
def usP (next:Int) (pv:Option Us) (u:Us):Bool:= !decide (u.n < 0) && !decide (next≤u.n) && !decide (u.e < 0) && (match pv with | none=>true | some p=> !decide (u.n≤p.n))
def Ym (next:Int):Option Us→List Us→Bool
 | _,[]=>true
 | pv,u:: us=>usP next pv u && Ym next (some u) us
theorem Cx (s:Srv) (bs:List (List AV)) (hul:s.used.length < 4611686018427387904):
  ∀(post pre:List Us) (pv:Option Us) (ρ:Nat→AV),s.used=pre ++ post→WK pre pv→ρ 1= .bx (Qo s)→ρ 6= .sl false 2 (s.used.map XM)→ρ 7= .int .i64 s.used.length→ρ 8= .int .i64 pre.length→
  R F.tb (.loop F.f36l0) ρ bs (Qi 0 (Qu F.tb F.f36r0 (Qy F.f36 bs)))=some (.bool (Ym s.next pv post && decide (s.used.length≤200)),bs):=by
 have e1: ((s.used.length:Int)≤200)=(s.used.length≤200):=YP _ 200;intro post
 induction post with
 | nil=>
  intro pre pv ρ hk hpv h1 h6 h7 h8;rw[Qd F.f36l0.eq_1];simp at hk;rw[← hk]at h8;simp[h1,h6,h7,h8,Qo,e1,F.f36r0,Ym]
 | cons x post IH=>
  intro pre pv ρ hk hpv h1 h6 h7 h8;have hg:=QB hk;have hl:=QM hk;have hw1:=wr1 pre.length (by omega);have hw6:IntKind.i64.wrap ((pre.length:Int) - 1)=(pre.length:Int) - 1:=Qq (by omega) (by omega);have hlt:=QO hk;have hnext:WK (pre ++ [x]) (some x):= .inr ⟨pre,x,rfl,rfl⟩;have hih:=fun ρ=>IH (pre ++ [x]) (some x) ρ (by simp[hk]) hnext;rw[Qd F.f36l0.eq_1];rcases hpv with⟨hpe,rfl⟩ | ⟨pre',p,hpe,rfl⟩
  ·have q1: (0 < (pre.length:Int))=False:=eq_false (by rw[hpe];simp);have q2: (pre=[])=True:=eq_true hpe;have q6: (0 < pre.length)=False:=eq_false (by rw[hpe];simp);by_cases c1:x.n < 0 <;> by_cases c2:s.next≤x.n <;> by_cases c3:x.e < 0 <;>
   simp[h1,h6,h7,h8,Qo,XM,hg,hw1,hlt,c1,c2,c3,Ym,usP,q1,q2,q6];rw[hih] <;> simp[h1,h6,h7,Qo]
  ·have hpl:pre.length=pre'.length+1:=by rw[hpe];simp
   have q1: (0 < (pre.length:Int))=True:=eq_true (by omega);have q2: (pre=[])=False:=eq_false (by intro h;rw[h]at hpl;simp at hpl);have q3:s.used[pre.length - 1]? =some p:=by
    rw[hpl,hk,hpe];simp
   have q4: ((pre.length:Int) - 1).toNat=pre.length - 1:=by omega
   have q6: (0 < pre.length)=True:=eq_true (by omega);have q7: ((1:Int)≤(pre.length:Int))=True:=eq_true (by omega);have q5: (0≤(pre.length:Int) - 1)=True:=eq_true (by omega);by_cases c1:x.n < 0 <;> by_cases c2:s.next≤x.n <;> by_cases c3:x.e < 0 <;> by_cases c4:x.n≤p.n <;>
   simp[h1,h6,h7,h8,Qo,XM,hg,hw1,hw6,hlt,c1,c2,c3,c4,Ym,usP,q1,q2,q3,q4,q5,q6,q7];rw[hih] <;> simp[h1,h6,h7,Qo]
theorem EH (s:Srv) (bs:List (List AV)) (hul:s.used.length < 4611686018427387904):
  call F.tb 36 [.agg (Qo s)] bs=some (.bool (Ym s.next none s.used && decide (s.used.length≤200)),bs):=by
 rw[Qa F.tb_36 _ _ rfl];simp[F.f36C,Qo];rw[Cx s bs hul s.used [] none] <;> simp[Qo,WK]
def Xq (s:Srv):Bool:=XR s.name && (decide (1≤s.window) && decide (s.window≤1000)) && (decide (0≤s.epoch) && decide (s.epoch≤10000)) && (decide (0≤s.next) && decide (s.next≤10000)) &&
 (decide (0≤s.now) && decide (s.now≤100000)) && Ur s && (Ym s.next none s.used && decide (s.used.length≤200))
theorem Iy (s:Srv) (bs:List (List AV)) (hn:s.name.length < 1000000) (hul:s.used.length < 4611686018427387904) (hm: ∀k∈s.keys,k.key.mass < big):
  call F.tb 27 [.agg (Qo s)] bs=some (.int .i64 (if Xq s then 0 else 1),bs):=by
 rw[Qa F.tb_27 _ _ rfl];have g0:=NH s.name bs hn;have g1:=EH s bs hul;have g2:=EF s bs hn;have g3:=Ri s.window 1 1000 bs;have g4:=Ri s.epoch 0 10000 bs;have g5:=Ri s.next 0 10000 bs;have g6:=Ri s.now 0 100000 bs;unfold Xq;cases c1:XR s.name
 ·simp[F.f27C,Qo,g0,c1]
 cases c2: (decide (1≤s.window) && decide (s.window≤1000))
 ·rw[c2]at g3;simp[F.f27C,Qo,g0,c1,g3]
 cases c3: (decide (0≤s.epoch) && decide (s.epoch≤10000))
 ·rw[c2]at g3;rw[c3]at g4;simp[F.f27C,Qo,g0,c1,g3,g4]
 cases c4: (decide (0≤s.next) && decide (s.next≤10000))
 ·rw[c2]at g3;rw[c3]at g4;rw[c4]at g5;simp[F.f27C,Qo,g0,c1,g3,g4,g5]
 cases c5: (decide (0≤s.now) && decide (s.now≤100000))
 ·rw[c2]at g3;rw[c3]at g4;rw[c4]at g5;rw[c5]at g6;simp[F.f27C,Qo,g0,c1,g3,g4,g5,g6]
 rw[c2]at g3;rw[c3]at g4;rw[c4]at g5;rw[c5]at g6
 have g2':=g2 (by simp at c3;exact c3) hm;unfold Qo at g1 g2';generalize Ur s=q1 at *;generalize (Ym s.next none s.used && decide (s.used.length≤200))=q2 at *;cases q1 <;> cases q2 <;> simp[F.f27C,Qo,g0,c1,g3,g4,g5,g6,g1,g2']
theorem FA (s:Srv) (bs:List (List AV)) (hn:s.name.length < 1000000) (hep:0≤s.epoch∧s.epoch≤10000) (hkl:s.keys.length≤8) (hel:0≤s.epoch - s.keys.length+1) (hm: ∀k∈s.keys,k.key.mass < big):
  ∀(post pre:List Ep) (pv:Option Ep) (ρ:Nat→AV),s.keys=pre ++ post→WK pre pv→ρ 1= .bx (Qo s)→ρ 3= .int .i64 s.keys.length→ρ 4= .int .i64 pre.length→
  R F.tb (.loop F.f110l0) ρ bs (Qi 0 (Qu F.tb F.f110r0 (Qy F.f110 bs)))=some (.bool (YQ s pre.length pv post),bs):=by
 intro post
 induction post with
 | nil=>
  intro pre pv ρ hk hpv h1 h3 h4;rw[Qd F.f110l0.eq_1];simp at hk;simp[h1,h3,h4,hk,F.f110r0,YQ]
 | cons x post IH=>
  intro pre pv ρ hk hpv h1 h3 h4;have hg:=QB hk;have hl:=QM hk;have hw1:=wr1 pre.length (by omega);have hw2:IntKind.i64.wrap ((s.keys.length:Int) - 1)=(s.keys.length:Int) - 1:=Qq (by omega) (by omega);have hw3:IntKind.i64.wrap (s.epoch - (s.keys.length:Int))=s.epoch - (s.keys.length:Int):=Qq (by omega) (by omega);have hw4:IntKind.i64.wrap (s.epoch - (s.keys.length:Int)+1)=s.epoch - (s.keys.length:Int)+1:=Qq (by omega) (by omega);have hw5:IntKind.i64.wrap (s.epoch - (s.keys.length:Int)+1+ (pre.length:Int))=s.epoch - (s.keys.length:Int)+1+ (pre.length:Int):=Qq (by omega) (by omega);have hw6:IntKind.i64.wrap ((pre.length:Int) - 1)=(pre.length:Int) - 1:=Qq (by omega) (by omega);have hlt:=QO hk;have hlast: ((pre.length:Int) < (s.keys.length:Int) - 1)=¬(post=[]):=by
   rw[hl,eq_iff_iff];constructor
   ·intro h he;subst he;simp at h
   ·intro h;have:=List.length_pos_iff.2 h;omega
  have hxm:=hm x (by rw[hk];simp);have hem:post.isEmpty=decide (post=[]):=by cases post <;> simp
  have hnext:WK (pre ++ [x]) (some x):= .inr ⟨pre,x,rfl,rfl⟩;have hih:=fun ρ=>IH (pre ++ [x]) (some x) ρ (by simp[hk]) hnext;rw[Qd F.f110l0.eq_1];by_cases c1: ¬x.n=s.epoch - (s.keys.length:Int)+1+ (pre.length:Int)
  ·simp[h1,h3,h4,Qo,Q8,hg,hw1,hw2,hw3,hw4,hw5,hlt,c1,YQ,Sf]
  replace c1:=Decidable.not_not.1 c1
  have c1': (x.n=s.epoch - (s.keys.length:Int)+1+ (pre.length:Int))=True:=eq_true c1;obtain⟨m,hm2⟩: ∃m:Nat,x.n=m:=⟨x.n.toNat,by omega⟩;have hke:=UM s.name m bs hn (by omega);have hsa:=RC x.key (Qt s.name m) bs hxm (OV _ _ hn (by omega));rw[← hm2]at hke hsa;by_cases c3: ¬Qh x.key (Qt s.name x.n)=0
  ·simp[h1,h3,h4,Qo,Q8,hg,hw1,hw2,hw3,hw4,hw5,hlt,c1',c3,hke,hsa,YQ,Sf]
  replace c3:=Decidable.not_not.1 c3
  by_cases hp:post=[]
  ·simp[h1,h3,h4,Qo,Q8,hg,hw1,hw2,hw3,hw4,hw5,hlt,c1',c3,hlast,hp,hke,hsa,YQ,Sf];subst hp;simp only[YQ]at hih;rw[hih] <;> simp[h1,h3,Qo]
  rcases hpv with⟨hpe,rfl⟩ | ⟨pre',p,hpe,rfl⟩
  ·have q1: (0 < (pre.length:Int))=False:=eq_false (by rw[hpe];simp);have q2: (pre=[])=True:=eq_true hpe;have q6: (0 < pre.length)=False:=eq_false (by rw[hpe];simp);by_cases c6:x.e < 1 <;>
   simp[h1,h3,h4,Qo,Q8,hg,hw1,hw2,hw3,hw4,hw5,hlt,c1',c3,c6,hlast,hp,hke,hsa,hem,YQ,Sf,q1,q2,q6];rw[hih] <;> simp[h1,h3,Qo]
  ·have hpl:pre.length=pre'.length+1:=by rw[hpe];simp
   have q1: (0 < (pre.length:Int))=True:=eq_true (by omega);have q2: (pre=[])=False:=eq_false (by intro h;rw[h]at hpl;simp at hpl);have q3:s.keys[pre.length - 1]? =some p:=by
    rw[hpl,hk,hpe];simp
   have q4: ((pre.length:Int) - 1).toNat=pre.length - 1:=by omega
   have q6: (0 < pre.length)=True:=eq_true (by omega);have q7: ((1:Int)≤(pre.length:Int))=True:=eq_true (by omega);have q5: (0≤(pre.length:Int) - 1)=True:=eq_true (by omega);by_cases c6:x.e < 1 <;> by_cases c7:x.e < p.e <;>
    simp[h1,h3,h4,Qo,Q8,hg,hw1,hw2,hw3,hw4,hw5,hw6,hlt,c1',c3,c6,c7,hlast,hp,hke,hsa,hem,YQ,Sf,q1,q2,q3,q4,q5,q6,q7]
   rw[hih] <;> simp[h1,h3,Qo]
end Go.Am
