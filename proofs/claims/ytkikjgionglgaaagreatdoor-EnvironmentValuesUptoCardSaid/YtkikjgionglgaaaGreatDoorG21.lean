/-
  En11, En12, En13, En14, En15, En16, En17, En18, En19, En20, En21, En22, En23, En24, En25, En26.
-/
import Derived.Test.YtkikjgionglgaaaGreatDoorG20
set_option linter.unusedVariables false
set_option linter.unusedSimpArgs false
namespace Go.Am
set_option maxRecDepth 8000
theorem Qgj (ags bad:List Nm) (ks:List Tm) (L:List Tm) (bs:List (List AV)) (hL:L.length < 1000000) (hLm: ∀y∈L,y.mass < big) (hl:ks.length < 1000000) (hm: ∀y∈ks,y.mass < big):
  ∀(post pre:List Tm) (o:Bool) (ρ:Nat→AV),L=pre ++ post→ρ 1= .bx (Qt ags bad ks)→ρ 6= .sl o 4 (encTs L)→ρ 8= .int .i64 pre.length→
  R F.tb (.loop F.f587l1) ρ bs (Qi 2 (Qs F.tb F.f587r0 (Qy F.f587 bs)))=some (.int .i64 (if post.any (fun t=> !Z2 ks t)then 1 else 0),bs):=by
 intro post
 induction post with
 | nil=>
  intro pre o ρ hk h1 h6 h8;simp only[List.append_nil]at hk;rw[← hk]at h8;simp only[Qt]at h1;rw[Qc F.f587l1.eq_1];simp[h1,h6,h8,F.f587r0]
 | cons x post IH=>
  intro pre o ρ hk h1 h6 h8;have hgt:=Qn hk;have hll:=Qv hk;have hw1:=wr1 pre.length (by omega);have hlt:=Qw hk;have hc:=OP ks x false bs (by omega) hm (hLm x (by rw[hk];simp));have ih:=fun ρ=>IH (pre ++ [x]) o ρ (by rw[hk];simp);simp only[Qt]at h1 ih;rw[Qc F.f587l1.eq_1];cases hx:Z2 ks x
  ·rw[hx]at hc;have e: (x:: post).any (fun t=> !Z2 ks t)=true:=by simp[hx]
   rw[e];simp[h1,h6,h8,hgt,hlt,hw1,hc]
  ·rw[hx]at hc;have e: (x:: post).any (fun t=> !Z2 ks t)=post.any (fun t=> !Z2 ks t):=by simp[hx]
   rw[e];simp[h1,h6,h8,hgt,hlt,hw1,hc,-List.any_eq_true];rw[ih] <;> simp[h1,h6]
theorem Qgi (ags bad:List Nm) (ks:List Tm) (bs:List (List AV)) (c:Ya ags bad=0) (ha:ags.length < 1000000) (hb:bad.length < 1000000) (hma: ∀a∈ags,a.length≤1000) (hl:ks.length < 1000000) (hm: ∀y∈ks,y.mass < 1000000):
  ∀(post pre:List Tm) (ρ:Nat→AV),ks=pre ++ post→ρ 1= .bx (Qt ags bad ks)→ρ 4= .int .i64 pre.length→
  R F.tb (.loop F.f587l0) ρ bs (Qi 0 (Qs F.tb F.f587r1 (Qy F.f587 bs)))=
   some (.int .i64 (if YR post≠0 then YR post else if(Yx ags bad).any (fun t=> !Z2 ks t)then 1 else 0),bs):=by
 obtain⟨f1,f2⟩:=Uu hma c;have hmb: ∀y∈ks,y.mass < big:=fun y hy=>by have:=hm y hy;unfold big;omega
 intro post
 induction post with
 | nil=>
  intro pre ρ hk h1 h4;simp only[List.append_nil]at hk;rw[← hk]at h4;have c571:=H1 ags bad bs ha hb hma;unfold PG at c571;rw[c]at c571;have h:=fun o ρ=>Qgj ags bad ks (Yx ags bad) bs (by omega) (fun y hy=>by have:=f2 y hy;unfold big;omega) hl hmb (Yx ags bad) [] o ρ rfl;rw[Qc F.f587l0.eq_1];simp only[YR];simp only[Qt,QL]at h1 c571 h;generalize encTs (Yx ags bad)=EI at *;simp at c571;simp[h1,h4,F.f587r1,c571,-List.any_eq_true];refine h false _ ?_ ?_ ?_ <;> simp[h1]
 | cons x post IH=>
  intro pre ρ hk h1 h4;have hgt:=Qn hk;have hll:=Qv hk;have hw1:=wr1 pre.length (by omega);have hlt:=Qw hk;have hc:=HP x bs (hm x (by rw[hk];simp));have ih:=fun ρ=>IH (pre ++ [x]) ρ (by rw[hk];simp);simp only[Qt]at h1 ih;rw[Qc F.f587l0.eq_1];by_cases cx:ZP x=0
  ·have e:YR (x:: post)=YR post:=by simp[YR,cx]
   rw[e];rw[cx]at hc;simp[h1,h4,hgt,hlt,hw1,hc,-List.any_eq_true];have ih2:=ih;simp only[ne_eq,ite_not]at ih2;rw[ih2] <;> simp[h1]
  ·have e:YR (x:: post)=ZP x:=by simp[YR,cx]
   rw[e];simp[h1,h4,hgt,hlt,hw1,hc,cx]
theorem Mn (ags bad:List Nm) (ks:List Tm) (bs:List (List AV)) (ha:ags.length < 1000000) (hb:bad.length < 1000000) (hma: ∀a∈ags,a.length≤1000) (hl:ks.length < 1000000) (hm: ∀y∈ks,y.mass < 1000000):
  call F.tb 587 [.agg (Qt ags bad ks)] bs=some (.int .i64 (X3 ags bad ks),bs):=by
 have c572:=H2 ags bad bs ha hb fun a h=>by have:=hma a h;omega
 rw[Qa F.tb_587 _ _ rfl];unfold X3;by_cases c:Ya ags bad=0
 ·have h:=fun ρ=>Qgi ags bad ks bs c ha hb hma hl hm ks [] ρ rfl;rw[c]at c572 ⊢;simp only[QL,Qt]at c572 h ⊢;by_cases c6:60 < ks.length
  ·have c6i: (60:Int) < (ks.length:Int):=by omega
   simp[F.f587C,c572,c6,c6i]
  ·have c6i: ¬(60:Int) < (ks.length:Int):=by omega
   simp[F.f587C,c572,c6,c6i,-List.any_eq_true];have h2:=h;simp only[ne_eq,ite_not]at h2;rw[h2] <;> simp
 ·simp only[QL,Qt]at c572 ⊢;simp[F.f587C,c572,c]
def PC (ags bad:List Nm) (ks:List Tm):Bool:=VD (ags ++ bad) && few ks 70 400
theorem H5 (ags bad:List Nm) (ks:List Tm) (bs:List (List AV)) (ha:ags.length < 10000000000) (hb:bad.length < 10000000000):call F.tb 585 [.agg (Qt ags bad ks)] bs=some (.bool (PC ags bad ks),bs):=by
 have h1:=H0 ags bad bs ha hb;have h2:call F.tb 101 [.sl false 4 (encTs ks),.int .i64 70,.int .i64 400] bs=some (.bool (few ks 70 400),bs):=OS ks false 70 400 bs (by omega) (by omega) (by omega);rw[Qa F.tb_585 _ _ rfl];unfold PC;simp only[QL,Qt]at *;generalize few ks 70 400=X at *;cases hf:VD (ags ++ bad)
 ·rw[hf]at h1;simp[F.f585C,h1]
 ·rw[hf]at h1;simp[F.f585C,h1,h2]
def ZN:List Tm→List Tm→Int ⊕ List Tm
 | ks,[]=> .inr ks
 | ks,t:: r=>if ZP t≠0 then .inl (ZP t)else if Z2 ks t then ZN ks r else if ks.length=60 then .inl 3 else ZN (ks ++ [t]) r
def YJ (ags bad:List Nm):Int ⊕ List Tm→AV
 | .inl e=> .tup [.agg (Qt [] [] []),.int .i64 e]
 | .inr ks=> .tup [.agg (Qt ags bad ks),.int .i64 0]
def Ws (ags bad:List Nm) (ks l:List Tm):AV:=if X3 ags bad ks≠0 then YJ ags bad (.inl (X3 ags bad ks))else YJ ags bad (ZN ks l)
theorem IP: ∀(a b:List Tm),YR a=0→YR (a ++ b)=YR b
 | [],b,_=>rfl
 | x:: a,b,h=>by
  simp only[YR]at h;split at h
  ·rename_i h1;exact absurd h h1
  ·rename_i h1;have:=IP a b h;simp only[List.cons_append,YR,if_neg h1,this]
theorem Av (a b:List Tm) (x:Tm):Z2 (a ++ b) x=(Z2 a x || Z2 b x):=by unfold Z2;rw[List.any_append]
theorem Cn {ags bad:List Nm} {ks:List Tm} {t:Tm} (h:X3 ags bad ks=0) (ht:ZP t=0) (hl:ks.length≠60):X3 ags bad (ks ++ [t])=0:=by
 unfold X3 at h ⊢;by_cases c:Ya ags bad=0
 ·rw[c]at h ⊢;simp only[ne_eq,not_true_eq_false,if_false]at h ⊢;by_cases c6:60 < ks.length
  ·rw[if_pos c6]at h;cases h
  ·rw[if_neg c6]at h;rw[if_neg (by simp;omega)];by_cases ct:YR ks=0
   ·rw[IP _ _ ct];rw[ct]at h;have e1:YR [t]=0:=by simp[YR,ht]
    rw[e1];simp only[not_true_eq_false,if_false]at h ⊢;cases hA: (Yx ags bad).any (fun t=> !Z2 ks t)
    ·have: (Yx ags bad).any (fun x=> !Z2 (ks ++ [t]) x)=false:=by
      rw[List.any_eq_false]at hA ⊢;intro x hx;have:=hA x hx;have h9:Z2 ks x=true:=by simpa using this
      rw[Av,h9];simp
     rw[this];simp
    ·rw[hA]at h;simp at h
   ·rw[if_pos ct]at h;exact absurd h ct
 ·rw[if_pos c]at h;exact absurd h c
theorem H6 (ags bad:List Nm) (ks:List Tm) (t:Tm) (bs:List (List AV)) (ha:ags.length < 1000000) (hb:bad.length < 1000000) (hma: ∀a∈ags,a.length≤1000) (hl:ks.length < 100000) (hm: ∀y∈ks,y.mass < 1000000) (ht:t.mass < 1000000):
  call F.tb 592 [.agg (Qt ags bad ks),.agg (Qb t)] bs=some (Ws ags bad ks [t],bs):=by
 have h1:=Mn ags bad ks bs ha hb hma (by omega) hm;have h2:=HP t bs ht;have h3:=OP ks t false bs (by omega) (fun y hy=>by have:=hm y hy;unfold big;omega) (by unfold big;omega);have g0:=encTs_gp ks;have g3:=encTs_gp (ks ++ [t]);have g1:=YD ags;have g2:=YD bad;have happ:encTs ks ++ [Qb t]=encTs (ks ++ [t]):=by simp[QV]
 have hlen: (encTs ks).length=ks.length:=by simp[QV]
 have b1:ks.length*56≤140737488355328:=ZS (by omega);have b2: (ks.length+1)*56≤140737488355328:=ZS (by omega);rw[Qa F.tb_592 _ _ rfl];unfold Ws;by_cases ce:X3 ags bad ks=0
 ·rw[ce]at h1;by_cases cr:ZP t=0
  ·rw[cr]at h2;cases hh:Z2 ks t
   ·rw[hh]at h3;by_cases c6:ks.length=60
    ·have c6i: (ks.length:Int)=60:=by omega
     simp only[Qt]at *;simp[F.f592C,h1,h2,h3,ce,cr,hh,c6,c6i,ZN,YJ,Qt,Xo,encTs]
    ·have c6i: ¬(ks.length:Int)=60:=by omega
     have er:ZN ks [t]= .inr (ks ++ [t]):=by simp[ZN,cr,hh,c6]
     rw[if_neg (by simp[ce]),er];simp only[YJ,Qt]at *;generalize encTs (ks ++ [t])=E2 at *;simp[F.f592C,h1,h2,h3,c6,c6i,hlen,b1,b2,happ,g0,g1,g2,g3]
   ·rw[hh]at h3;simp only[Qt]at *;simp[F.f592C,h1,h2,h3,ce,cr,hh,ZN,YJ,Qt,g0,g1,g2]
  ·simp only[Qt]at *;simp[F.f592C,h1,h2,ce,cr,ZN,YJ,Qt,Xo,encTs]
 ·simp only[Qt]at *;simp[F.f592C,h1,ce,YJ,Qt,Xo,encTs]
theorem Ag {ags bad:List Nm} {ks:List Tm} (h:X3 ags bad ks=0):Ya ags bad=0∧ks.length≤60:=by
 unfold X3 at h;by_cases c:Ya ags bad=0
 ·rw[c]at h;simp only[ne_eq,not_true_eq_false,if_false]at h;by_cases c6:60 < ks.length
  ·rw[if_pos c6]at h;cases h
  ·exact⟨c,by omega⟩
 ·rw[if_pos c]at h;exact absurd h c
theorem AU {ks:List Tm} {x:Tm} {post:List Tm}: (∃e,e≠0∧ZN ks [x]= .inl e∧ZN ks (x:: post)= .inl e)∨(∃ks',(ks'=ks∨(ks'=ks ++ [x]∧ZP x=0∧ks.length≠60))∧ZN ks [x]= .inr ks'∧ZN ks (x:: post)=ZN ks' post):=by
 by_cases cr:ZP x=0
 ·cases hh:Z2 ks x
  ·by_cases c6:ks.length=60
   ·exact .inl ⟨3,by decide,by simp[ZN,cr,hh,c6],by simp[ZN,cr,hh,c6]⟩
   ·exact .inr ⟨ks ++ [x],.inr ⟨rfl,cr,c6⟩,by simp[ZN,cr,hh,c6],by simp[ZN,cr,hh,c6]⟩
  ·exact .inr ⟨ks,.inl rfl,by simp[ZN,cr,hh],by simp[ZN,cr,hh]⟩
 ·exact .inl ⟨ZP x,cr,by simp[ZN,cr],by simp[ZN,cr]⟩
theorem Qgz (ags bad:List Nm) (L:List Tm) (bs:List (List AV)) (ha:ags.length < 1000000) (hb:bad.length < 1000000) (hma: ∀a∈ags,a.length≤1000) (hL:L.length < 1000000) (hLm: ∀y∈L,y.mass < 1000000):
  ∀(post pre ks:List Tm) (o:Bool) (ρ:Nat→AV),L=pre ++ post→X3 ags bad ks=0→(∀y∈ks,y.mass < 1000000)→ρ 1= .sl o 4 (encTs L)→ρ 2= .bx (Qt ags bad ks)→ρ 4= .bx [.sl true 1 [],.sl true 1 [],.sl true 4 []]→ρ 7= .int .i64 pre.length→
  R F.tb (.loop F.f593l0) ρ bs (Qi 0 (Qs F.tb F.f593r0 (Qy F.f593 bs)))=some (YJ ags bad (ZN ks post),bs):=by
 intro post;have g1:=YD ags;have g2:=YD bad
 induction post with
 | nil=>
  intro pre ks o ρ hk he hm h1 h2 h4 h7;simp only[List.append_nil]at hk;rw[← hk]at h7;have g0:=encTs_gp ks;rw[Qc F.f593l0.eq_1];simp only[ZN,YJ,Qt]at *;simp[h1,h2,h4,h7,F.f593r0,g0,g1,g2]
 | cons x post IH=>
  intro pre ks o ρ hk he hm h1 h2 h4 h7;have hgt:=Qn hk;have hll:=Qv hk;have hw1:=wr1 pre.length (by omega);have hlt:=Qw hk;have hxm:=hLm x (by rw[hk];simp);have hc:=H6 ags bad ks x bs ha hb hma (by have:=(Ag he).2;omega) hm hxm;unfold Ws at hc;rw[if_neg (by simp[he])]at hc;rw[Qc F.f593l0.eq_1];rcases AU (ks:=ks) (x:=x) (post:=post)with⟨e,e0,r1,r2⟩ | ⟨ks',hks,r1,r2⟩
  ·rw[r1]at hc;rw[r2];simp only[YJ,Qt]at *;simp[h1,h2,h4,h7,hgt,hlt,hc,e0,Xo,encTs]
  ·rw[r1]at hc;rw[r2];have he':X3 ags bad ks'=0:=by
    rcases hks with rfl | ⟨rfl,q1,q2⟩
    ·exact he
    ·exact Cn he q1 q2
   have hm': ∀y∈ks',y.mass < 1000000:=by
    rcases hks with rfl | ⟨rfl,q1,q2⟩
    ·exact hm
    ·intro y hy;rcases List.mem_append.1 hy with hy | hy
     ·exact hm y hy
     ·simp at hy;subst hy;exact hxm
   have ih:=fun ρ=>IH (pre ++ [x]) ks' o ρ (by rw[hk];simp) he' hm';simp only[YJ,Qt]at hc h2 ih;simp[h1,h2,h4,h7,hgt,hlt,hw1,hc];apply ih <;> simp[h1,h4]
theorem Qb5 (ags bad:List Nm) (ks L:List Tm) (o:Bool) (bs:List (List AV)) (ha:ags.length < 1000000) (hb:bad.length < 1000000) (hma: ∀a∈ags,a.length≤1000) (hl:ks.length < 1000000) (hm: ∀y∈ks,y.mass < 1000000) (hL:L.length < 1000000) (hLm: ∀y∈L,y.mass < 1000000):
  call F.tb 593 [.agg (Qt ags bad ks),.sl o 4 (encTs L)] bs=some (Ws ags bad ks L,bs):=by
 have h1:=Mn ags bad ks bs ha hb hma hl hm;rw[Qa F.tb_593 _ _ rfl];unfold Ws;by_cases ce:X3 ags bad ks=0
 ·rw[ce]at h1;have h:=fun ρ=>Qgz ags bad L bs ha hb hma hL hLm L [] ks false ρ rfl ce hm;rw[if_neg (by simp[ce])];simp only[Qt]at h1 h ⊢;simp[F.f593C,h1];apply h <;> simp
 ·rw[if_pos ce];simp only[YJ,Qt]at *;simp[F.f593C,h1,ce,Xo,encTs]
theorem AD {B:List (List AV)} {id sz:Nat} (l:List Tm) (y:Tm) (g:Nat) (hb:l≠[]→sz=4∧B[id]? =some (Ql l)) (hg:B[g]? =some (Qb y)) (hl:l.length < 1000000) (hm: ∀x∈l,x.mass < big) (hy:y.mass < big):
  ∀(post pre:List Tm) (ρ:Nat→AV),l=pre ++ post→pre.any (eqB y)=false→ρ 0= .gs id 0 sz l.length→ρ 1= .fn 506 [.gp g 0]→ρ 7= .int .i64 l.length→ρ 8= .int .i64 pre.length→
  Ma (l.any (eqB y)) B (R F.tb (.loop F.f218l0) ρ B (Qi 0 (Qs F.tb F.f218r0 (Qy F.f218 B)))):=by
 intro post
 induction post with
 | nil=>
  intro pre ρ hk hp h0 h1 h7 h8;simp only[List.append_nil]at hk;rw[← hk]at h8 hp;rw[Qc F.f218l0.eq_1];refine⟨-1,?_,by rw[hp];simp⟩;simp[h0,h1,h7,h8,F.f218r0]
 | cons x post IH=>
  intro pre ρ hk hp h0 h1 h7 h8;have hgt:=Qn hk;have hll:=Qv hk;have hw1:=wr1 pre.length (by omega);have hlt:=Qw hk;have hlt':pre.length < l.length:=by omega
  obtain⟨rfl,hbx⟩:=hb (by intro e;rw[e]at hlt';simp at hlt');have r1: (((Ql l).map AV.strip).drop (pre.length*4)).take 4=Qb x:=by
   have:=X6 (f:=Qb) (k:=4) QA hk [];rw[List.append_nil]at this;rw[ZV Q5];exact this
  have hle:pre.length*4+4≤(Ql l).length:=by rw[Zv QA];omega
  have hcall:=HX x y g B hg (hm x (by rw[hk];simp)) hy;have ih:=fun ρ hpp=>IH (pre ++ [x]) ρ (by rw[hk];simp) hpp;generalize Ql l=c at *;rw[Qc F.f218l0.eq_1];by_cases ho:Qm x y=0
  ·have hany:l.any (eqB y)=true:=List.any_eq_true.2 ⟨x,by rw[hk];simp,by simp[eqB,ho]⟩;refine⟨pre.length,?_,by rw[hany];simp⟩;simp[-getElem?_pos,h0,h1,h7,h8,hlt,hlt',hbx,hle,r1,hcall,ho]
  ·have ih2:=fun ρ=>ih ρ (by rw[List.any_append,hp];simp[eqB,ho]);simp[-getElem?_pos,h0,h1,h7,h8,hlt,hlt',hw1,hbx,hle,r1,hcall,ho,-List.any_eq_false,-List.any_eq_true];apply ih2 <;> simp[h0,h1,h7]
theorem QbQ {B0 B:List (List AV)} {v:AV} {l:List Tm} (h:TS B0 B v l) (y:Tm) (hl:l.length < 1000000) (hm: ∀x∈l,x.mass < big) (hy:y.mass < big):
  call F.tb 509 [v,.agg (Qb y)] B=some (.bool (l.any (eqB y)),B):=by
 obtain⟨M,id,sz,rfl,rfl,hc⟩:=h;have hg: ((B0 ++ M)++ [Qb y])[(B0 ++ M).length]? =some (Qb y):=List.getElem?_concat_length;have hb:l≠[]→sz=4∧((B0 ++ M)++ [Qb y])[id]? =some (Ql l):=by
  intro hne;rcases hc with⟨_,_,rfl⟩ | ⟨h1,_,_,h2⟩
  ·exact absurd rfl hne
  ·refine⟨h1,?_⟩;rw[List.getElem?_append_left (XK h2),h2]
 generalize B0 ++ M=B at *;have h1:=fun ρ=>AD l y B.length hb hg hl hm hy l [] ρ rfl rfl;have h2:Ma (l.any (eqB y)) (B ++ [Qb y]) (call F.tb 218 [.gs id 0 sz l.length,.fn 506 [.gp B.length 0]] (B ++ [Qb y])):=by
  rw[Qa F.tb_218 _ _ rfl];simp[F.f218C,-List.any_eq_false,-List.any_eq_true];apply h1 <;> simp
 obtain⟨i,hi,hb2⟩:=h2;have htk: (B ++ [Qb y]).take (B.length+1)=B ++ [Qb y]:=List.take_of_length_le (by simp);have h3:call F.tb 217 [.gs id 0 sz l.length,.fn 506 [.gp B.length 0]] (B ++ [Qb y])=some (.bool (l.any (eqB y)),B ++ [Qb y]):=by
  rw[Qa F.tb_217 _ _ rfl];simp[F.f217C,hi,htk,-List.any_eq_false,-List.any_eq_true];cases hx:l.any (eqB y)
  ·rw[hx]at hb2;simp at hb2;simpa using hb2
  ·rw[hx]at hb2;simp at hb2;simpa using hb2
 rw[Qa F.tb_509 _ _ rfl];simp[F.f509C,h3,-List.any_eq_false,-List.any_eq_true]
theorem QcS (ags bad:List Nm) (ks:List Tm) (B0:List (List AV)) (hk2:ks.length < 100000) (hm: ∀x∈ks,x.mass < 1000000):
  ∀(post pre:List Tm) (B:List (List AV)) (v:AV) (o oa ob:Bool) (ρ:Nat→AV),ks=pre ++ post→TS B0 B v pre→ρ 2= .bx [.sl true 1 [],.sl true 1 [],.sl true 4 []]→ρ 3= .bx [.sl oa 1 (QO ags),.sl ob 1 (QO bad),v]→
   ρ 17= .sl o 4 (encTs ks)→ρ 18= .int .i64 ks.length→ρ 19= .int .i64 pre.length→
   ∃v' B',R F.tb (.loop F.f508l0) ρ B (Qi 0 (Qs F.tb F.f508r0 (Qy F.f508 B0)))=some (.agg [.sl false 1 (QO ags),.sl false 1 (QO bad),v'],B')∧TS B0 B' v' ks:=by
 intro post
 induction post with
 | nil=>
  intro pre B v o oa ob ρ hk hts h2 h3 h17 h18 h19;simp only[List.append_nil]at hk;rw[← hk]at h19 hts;obtain⟨id,sz,rfl⟩:=Z3 hts;refine⟨_,B,?_,hts⟩;rw[Qc F.f508l0.eq_1];simp[h2,h3,h17,h18,h19,F.f508r0]
 | cons x post IH=>
  intro pre B v o oa ob ρ hk hts h2 h3 h17 h18 h19;have hgt:=Qn hk;have hll:=Qv hk;have hw1:=wr1 pre.length (by omega);have hlt:=Qw hk;have hc:=Oe x B (hm x (by rw[hk];simp));obtain⟨v2,B2,q1,q2,_⟩:=Vu x false hts (by omega);have ih2:=fun oa ob ρ=>IH (pre ++ [x]) B2 v2 o oa ob ρ (by rw[hk];simp) q2;obtain⟨id,sz,rfl⟩:=Z3 hts;obtain⟨id2,sz2,rfl⟩:=Z3 q2;rw[Qc F.f508l0.eq_1];simp[h2,h3,h17,h18,h19,hgt,hlt,hw1,hc,q1];refine ih2 oa ob _ ?_ ?_ ?_ ?_ ?_ <;> simp[h2,h17,h18]
theorem QbP (ags bad:List Nm) (ks:List Tm) (B0:List (List AV)) (ha:ags.length < 1000000) (hb:bad.length < 1000000) (hk2:ks.length < 100000) (hm: ∀x∈ks,x.mass < 1000000):
  ∃v B,call F.tb 508 [.agg (Qt ags bad ks)] B0=some (.agg [.sl false 1 (QO ags),.sl false 1 (QO bad),v],B)∧TS B0 B v ks:=by
 have c1:=Od ags B0 ha;have c2:=Od bad B0 hb;have h:=fun oa ob ρ=>QcS ags bad ks B0 hk2 hm ks [] B0 (.gs 0 0 0 0) false oa ob ρ rfl (PZ B0);rw[Qa F.tb_508 _ _ rfl];simp only[Qt];simp[F.f508C,c1,c2];refine h false false _ ?_ ?_ ?_ ?_ ?_ <;> simp
theorem Qgy (ags bad:List Nm) {B0 B:List (List AV)} {v:AV} {ks:List Tm} (h:TS B0 B v ks) (oa ob:Bool) (ρ:Nat→AV) (h4:ρ 4= .bx [.sl true 1 [],.sl true 1 [],.sl true 4 []]) (h7:ρ 7= .bx [.sl oa 1 (QO ags),.sl ob 1 (QO bad),v]):
  R F.tb F.f501r0 ρ B (Qy F.f501 B0)=some (YJ ags bad (.inr ks),B0):=by
 have g0:=encTs_gp ks;have g1:=YD ags;have g2:=YD bad;obtain⟨M,id,sz,rfl,rfl,hc⟩:=h;rcases hc with⟨rfl,rfl,rfl⟩ | ⟨rfl,hid,hne,hb⟩
 ·simp[F.f501r0,h4,h7,YJ,Qt,encTs,g1,g2]
 ·have hz: ¬ks=[]:=hne;have hr: (Ql ks).length=ks.length*4:=Zv QA ks;have hch:ZE (Ql ks) 0 4 ks.length=encTs ks:=by
   have:=YX (f:=Qb) (k:=4) QA Q5 ks [];rw[List.append_nil,WM]at this;exact this
  have hs:=YH (B0:=B0) (M:=M) hid [];have hle:ks.length*4≤(Ql ks).length:=by omega
  generalize Ql ks=c at *;simp only[YJ,Qt];generalize encTs ks=E1 at *;simp[-getElem?_pos,List.getElem?_cons_zero,List.getElem?_cons_succ,F.f501r0,h4,h7,hz,hb,hle,hch,hs,g0,g1,g2]
theorem Qgx (ags bad:List Nm) (L:List Tm) (B0:List (List AV)) (hL:L.length < 10000) (hLm: ∀y∈L,y.mass < 1000000):
  ∀(post pre ks:List Tm) (B:List (List AV)) (v:AV) (o oa ob:Bool) (ρ:Nat→AV),L=pre ++ post→TS B0 B v ks→ks.length+post.length < 100000→(∀y∈ks,y.mass < 1000000)→ρ 4= .bx [.sl true 1 [],.sl true 1 [],.sl true 4 []]→
   ρ 7= .bx [.sl oa 1 (QO ags),.sl ob 1 (QO bad),v]→ρ 19= .sl o 4 (encTs L)→ρ 20= .int .i64 L.length→ρ 21= .int .i64 pre.length→
  R F.tb (.loop F.f501l0) ρ B (Qi 0 (Qs F.tb F.f501r0 (Qy F.f501 B0)))=some (YJ ags bad (ZN ks post),B0):=by
 intro post
 induction post with
 | nil=>
  intro pre ks B v o oa ob ρ hk hts hal hm h4 h7 h19 h20 h21;simp only[List.append_nil]at hk;rw[← hk]at h21;have h:=fun ρ=>Qgy ags bad hts oa ob ρ;rw[Qc F.f501l0.eq_1];simp only[ZN];simp[h19,h20,h21];apply h <;> simp[h4,h7]
 | cons x post IH=>
  intro pre ks B v o oa ob ρ hk hts hal hm h4 h7 h19 h20 h21;have hgt:=Qn hk;have hll:=Qv hk;have hw1:=wr1 pre.length (by omega);have hlt:=Qw hk;have hxm:=hLm x (by rw[hk];simp);have hxb:x.mass < big:=by unfold big;omega
  simp only[List.length_cons]at hal;have c1:=HW x B hxm;have c2:=QbQ hts x (by omega) (fun y hy=>by have:=hm y hy;unfold big;omega) hxb;rw[Au]at c2;have c3:=Oe x B hxm;have htk: ∃M,B=B0 ++ M:=by obtain⟨M,_,_,e,_⟩:=hts;exact⟨M,e⟩
  rw[Qc F.f501l0.eq_1];by_cases cr:ZP x=0
  ·rw[cr]at c1;cases hh:Z2 ks x
   ·rw[hh]at c2;by_cases c6:ks.length=60
    ·have er:ZN ks (x:: post)= .inl 3:=by simp[ZN,cr,hh,c6]
     have c6i: (ks.length:Int)=60:=by omega
     rw[er];obtain⟨M,rfl⟩:=htk;obtain⟨id,sz,rfl⟩:=Z3 hts;rw[c6]at h7 c2;simp[h4,h7,h19,h20,h21,hgt,hlt,c1,c2,YJ,Qt,Xo,encTs]
    ·have er:ZN ks (x:: post)=ZN (ks ++ [x]) post:=by simp[ZN,cr,hh,c6]
     have c6i: ¬(ks.length:Int)=60:=by omega
     obtain⟨v2,B2,q1,q2,_⟩:=Vu x false hts (by omega);have ih:=fun oa ob ρ=>IH (pre ++ [x]) (ks ++ [x]) B2 v2 o oa ob ρ (by rw[hk];simp) q2 (by simp;omega) (fun y hy=>by
      rcases List.mem_append.1 hy with hy | hy
      ·exact hm y hy
      ·simp at hy;subst hy;exact hxm)
     obtain⟨id,sz,rfl⟩:=Z3 hts;obtain⟨id2,sz2,rfl⟩:=Z3 q2;rw[er];simp[h4,h7,h19,h20,h21,hgt,hlt,hw1,c1,c2,c3,c6,c6i,q1];refine ih oa ob _ ?_ ?_ ?_ ?_ ?_ <;> simp[h4,h19,h20]
   ·rw[hh]at c2;have er:ZN ks (x:: post)=ZN ks post:=by simp[ZN,cr,hh]
    have ih:=fun oa ob ρ=>IH (pre ++ [x]) ks B v o oa ob ρ (by rw[hk];simp) hts (by omega) hm;obtain⟨id,sz,rfl⟩:=Z3 hts;rw[er];simp[h4,h7,h19,h20,h21,hgt,hlt,hw1,c1,c2];refine ih oa ob _ ?_ ?_ ?_ ?_ ?_ <;> simp[h4,h7,h19,h20]
  ·have er:ZN ks (x:: post)= .inl (ZP x):=by simp[ZN,cr]
   rw[er];obtain⟨M,rfl⟩:=htk;simp[h4,h7,h19,h20,h21,hgt,hlt,c1,cr,YJ,Qt,Xo,encTs]
theorem HU (ags bad:List Nm) (ks L:List Tm) (o:Bool) (bs:List (List AV)) (ha:ags.length < 1000000) (hb:bad.length < 1000000) (hma: ∀a∈ags,a.length≤1000) (hl:ks.length < 10000) (hm: ∀y∈ks,y.mass < 1000000) (hL:L.length < 10000) (hLm: ∀y∈L,y.mass < 1000000):
  call F.tb 501 [.agg (Qt ags bad ks),.sl o 4 (encTs L)] bs=some (Ws ags bad ks L,bs):=by
 have h1:=HV ags bad ks bs ha hb hma (by omega) hm;rw[Qa F.tb_501 _ _ rfl];unfold Ws;by_cases ce:X3 ags bad ks=0
 ·rw[ce]at h1;obtain⟨v,B,q1,q2⟩:=QbP ags bad ks bs ha hb (by omega) hm;have h:=fun ρ=>Qgx ags bad L bs hL hLm L [] ks B v false false false ρ rfl q2 (by omega) hm;obtain⟨id,sz,rfl⟩:=Z3 q2;rw[if_neg (by simp[ce])];simp only[Qt]at h1 q1 ⊢;simp[F.f501C,h1,q1];apply h <;> simp
 ·rw[if_pos ce];simp only[YJ,Qt]at *;simp[F.f501C,h1,ce,Xo,encTs]
theorem RJ (ags bad:List Nm) (ks L:List Tm): ∃a b c e,Ws ags bad ks L= .tup [.agg (Qt a b c),.int .i64 e]:=by
 unfold Ws;split
 ·exact⟨_,_,_,_,rfl⟩
 ·cases ZN ks L with
  | inl e=>exact⟨_,_,_,_,rfl⟩
  | inr k=>exact⟨_,_,_,_,rfl⟩
theorem FF (ks:List Tm) (x:Tm):massL (ks ++ [x])=massL ks+x.mass:=by
 induction ks with
 | nil=>simp[massL]
 | cons y r ih=>simp only[List.cons_append,massL,ih];omega
theorem Mx: ∀(l ks k:List Tm),ZN ks l= .inr k→massL k≤massL ks+massL l∧k.length≤ks.length+l.length
 | [],ks,k,h=>by simp only[ZN]at h;injection h with h;subst h;simp[massL]
 | x:: l,ks,k,h=>by
  simp only[ZN]at h;split at h
  ·cases h
  ·split at h
   ·have:=Mx l ks k h;simp only[massL,List.length_cons];omega
   ·split at h
    ·cases h
    ·have:=Mx l (ks ++ [x]) k h;have e:=FF ks x;simp only[massL,List.length_cons,List.length_append,List.length_nil]at this ⊢;omega
theorem Ow {ags bad:List Nm} {ks L:List Tm} {a b:List Nm} {c:List Tm} {e:Int} (h:Ws ags bad ks L= .tup [.agg (Qt a b c),.int .i64 e]) (bs:List (List AV)) (ha:ags.length < 1000000) (hb:bad.length < 1000000)
  (hl:ks.length+L.length < 1000000) (hm:massL ks+massL L < big):call F.tb 581 [.agg (Qt a b c),.agg (Qt a b c)] bs=some (.bool true,bs):=by
 unfold Ws at h;split at h
 ·simp only[YJ]at h;injection h with h;injection h with h1 h2;injection h1 with h1
  rw[← h1];exact Rg [] [] [] bs (by simp) (by simp) (by simp) (by simp[massL,big])
 ·cases hr:ZN ks L with
  | inl e=>
   rw[hr]at h;simp only[YJ]at h;injection h with h;injection h with h1 h2;injection h1 with h1
   rw[← h1];exact Rg [] [] [] bs (by simp) (by simp) (by simp) (by simp[massL,big])
  | inr k=>
   have hbd:=Mx _ _ _ hr;rw[hr]at h;simp only[YJ]at h;injection h with h;injection h with h1 h2;injection h1 with h1
   rw[← h1];exact Rg ags bad k bs ha hb (by omega) (by omega)
theorem Qb4 (ags bad:List Nm) (ks:List Tm) (t:Tm) (bs:List (List AV)) (ha:ags.length < 1000000) (hb:bad.length < 1000000) (hma: ∀a∈ags,a.length≤1000) (hl:ks.length < 10000) (hm: ∀y∈ks,y.mass < 1000000) (ht:t.mass < 1000000):
  call F.tb 591 [.agg (Qt ags bad ks),.agg (Qb t)] bs=some (Ws ags bad ks [t],bs):=by
 have h:=HU ags bad ks [t] false bs ha hb hma hl hm (by simp) (by simpa using ht);obtain⟨a,b,c,e,hh⟩:=RJ ags bad ks [t];rw[hh]at h ⊢;have g0:=encTs_gp c;have g1:=YD a;have g2:=YD b;simp only[encTs]at h;rw[Qa F.tb_591 _ _ rfl];simp only[Qt]at *;simp[F.f591C,h,g0,g1,g2]
theorem Qb3 (ags bad:List Nm) (ks:List Tm) (t:Tm) (bs:List (List AV)) (ha:ags.length < 10000000000) (hb:bad.length < 10000000000):call F.tb 590 [.agg (Qt ags bad ks),.agg (Qb t)] bs=some (.bool (PC ags bad ks && few [t] 1 60),bs):=by
 have h1:=H5 ags bad ks bs ha hb;have h2: ∀o,call F.tb 101 [.sl o 4 [Qb t],.int .i64 1,.int .i64 60] bs=some (.bool (few [t] 1 60),bs):=fun o=>OS [t] o 1 60 bs (by omega) (by omega) (by omega);rw[Qa F.tb_590 _ _ rfl];simp only[Qt]at *;generalize few [t] 1 60=X at *;cases hf:PC ags bad ks
 ·rw[hf]at h1;simp[F.f590C,h1]
 ·rw[hf]at h1;simp[F.f590C,h1,h2]
theorem BU (l:List Tm) (bs:List (List AV)) (hl:l.length < 1000000):call F.tb 407 [.sl false 4 (encTs l)] bs=some (.sl true 4 (encTs l),bs):=by
 have hb:l.length*56≤140737488355328:=ZS (by omega);rw[Xb F.tb_407];simp[YZ,Uk,hb]
theorem RK (ags bad:List Nm) (ks:List Tm) (t:Tm) (L:List Tm) (h0:call F.tb 477 [] []=some (.bool true,[])) (ha:ags.length < 10000000000) (hb:bad.length < 10000000000):
  call F.tb 589 [.agg (Qt ags bad ks),.agg (Qb t),.sl false 4 (encTs L)] []=some (.bool true,[]):=by
 have c590:=Qb3 ags bad ks t [] ha hb;have c101:call F.tb 101 [.sl false 4 (encTs L),.int .i64 10,.int .i64 60] []=some (.bool (few L 10 60),[]):=OS L false 10 60 [] (by omega) (by omega) (by omega);rw[Qa F.tb_589 _ _ rfl];cases hs: (PC ags bad ks && few [t] 1 60)
 ·rw[hs]at c590;simp only[Qt]at *;simp[F.f589C,h0,c590]
 ·rw[hs]at c590;cases hf:few L 10 60
  ·rw[hf]at c101;simp only[Qt]at *;simp[F.f589C,h0,c590,c101]
  ·rw[hf]at c101;simp only[PC,Bool.and_eq_true]at hs;obtain⟨⟨s1,s2⟩,s3⟩:=hs;obtain⟨hal,hbl⟩:=OZ s1;have hma: ∀a∈ags,a.length≤1000:=fun a h=>by
    unfold VD at s1;simp only[Bool.and_eq_true,List.all_eq_true,decide_eq_true_eq]at s1;have:=s1.1 a (by simp[h]);omega
   have f2:=RG (by omega) s2;have f3:=RG (by omega) s3;have f4:=RG (by omega) hf;have e70: (400:Int).toNat=400:=rfl;have e60: (60:Int).toNat=60:=rfl;rw[e70]at f2;rw[e60]at f3 f4
   have hkm: ∀y∈ks,y.mass < 1000000:=fun y hy=>by have:=QB hy;omega
   have hLm: ∀y∈L,y.mass < 1000000:=fun y hy=>by have:=QB hy;omega
   have htm:t.mass < 1000000:=by have:=QB (x:=t) (ks:=[t]) (by simp);omega
   have q1:=Qb4 ags bad ks t [] (by omega) (by omega) hma (by omega) hkm htm;have q2:=H6 ags bad ks t [] (by omega) (by omega) hma (by omega) hkm htm;have q3:=fun o=>HU ags bad ks L o [] (by omega) (by omega) hma (by omega) hkm (by omega) hLm;have q4:=Qb5 ags bad ks L false [] (by omega) (by omega) hma (by omega) hkm (by omega) hLm;have q5:=BU L [] (by omega);obtain⟨a,b,c,e,h1⟩:=RJ ags bad ks [t];obtain⟨a2,b2,c2,e2,h2⟩:=RJ ags bad ks L;have r1:=Ow h1 [] (by omega) (by omega) (by simp;omega) (by unfold big;omega);have r2:=Ow h2 [] (by omega) (by omega) (by omega) (by unfold big;omega);rw[h1]at q1 q2;rw[h2]at q4;simp only[h2]at q3;simp only[Qt]at *;simp[F.f589C,h0,c590,c101,q1,q2,q3,q4,q5,r1,r2]
def Sst (B0:List (List AV)) (acc:List Tm) (bs:List (List AV)):Prop:=
 B0.length+1≤bs.length∧bs.take B0.length=B0∧
  ((acc=[]∧bs[B0.length]? =some [.gs 0 0 0 0])∨(acc≠[]∧∃g,B0.length < g∧bs[B0.length]? =some [.gs g 0 4 acc.length]∧bs[g]? =some (Ql acc)))
theorem I7 (B0:List (List AV)) (acc:List Tm) (bs:List (List AV)) (x:Tm) (hw:Sst B0 acc bs) (ha:acc.length < 100000000):
  ∃bs',call F.tb 512 [.agg (Qb x),.gp B0.length 0] bs=some (.tup [],bs')∧Sst B0 (acc ++ [x]) bs':=by
 obtain⟨h1,h2,h4⟩:=hw;have hgx:=QC x
 ·rcases h4 with⟨rfl,h4⟩ | ⟨hne,g,hg,h4,h5⟩
  ·have hl1: ¬bs.length=B0.length:=by omega
   refine⟨((bs ++ [Qb x]).set B0.length [.gs bs.length 0 4 1]),?_,?_⟩
   ·rw[Qa F.tb_512 _ _ rfl];have e1: (bs ++ [Xm])[bs.length]? =some Xm:=List.getElem?_concat_length;have e2: (bs ++ [Xm]).set bs.length (Qb x)=bs ++ [Qb x]:=by rw[List.set_append];simp
    have e3: (bs ++ [Qb x])[B0.length]? =some [.gs 0 0 0 0]:=by rw[List.getElem?_append_left (by omega)];exact h4
    simp only[Xm]at e1 e2;simp[F.f512,F.f512C,h4,appM,XS,hl1,e1,e2,e3,ZM]
   ·refine⟨by simp;omega,?_,.inr ⟨by simp,bs.length,by omega,?_,?_⟩⟩
    ·rw[VM (by omega) (by omega)];exact h2
    ·rw[List.getElem?_set_self (by simp;omega)];simp
    ·rw[List.getElem?_set_ne (by omega),List.getElem?_concat_length];simp[ZD]
  ·have hl1: ¬bs.length=B0.length:=by omega
   have hgl:=XK h5;have hlen: (Ql acc).length=acc.length*4:=Zv QA acc;have hst: (Ql acc).map AV.strip=Ql acc:=ZV Q5 acc;have htk: (Ql acc).take (acc.length*4)=Ql acc:=List.take_of_length_le (by omega);have hb: (acc.length+1)*56≤140737488355328:=by omega
   have hn1: ¬(acc.length+1)*4≤acc.length*4:=by omega
   have hput: (Ql acc ++ Xm).take (acc.length*4)++ (Qb x ++ (Ql acc ++ Xm).drop (acc.length*4+4))=Ql (acc ++ [x]):=by
    rw[← hlen,List.take_left,List.drop_eq_nil_of_le (by simp[Xm])];simp[Ql,XF,UN]
   have hzl: (Ql acc ++ Xm).length=acc.length*4+4:=by rw[List.length_append,hlen];rfl
   have hne0:Ql acc≠[]:=fun e=>by rw[e]at hlen;cases acc with
    | nil=>exact hne rfl
    | cons y ys=>simp at hlen
   have hlt: (acc.length:Int) < (acc.length:Int)+1:=by omega
   refine⟨((bs.set g []++ [Ql (acc ++ [x])]).set B0.length [.gs bs.length 0 4 (acc.length+1)]),?_,?_⟩
   ·rw[Qa F.tb_512 _ _ rfl];have e1: (bs.set g []++ [Ql acc ++ Xm])[bs.length]? =some (Ql acc ++ Xm):=by
     have:bs.length=(bs.set g []).length:=by simp
     rw[this];exact List.getElem?_concat_length
    have e2: (bs.set g []++ [Ql acc ++ Xm]).set bs.length (Ql (acc ++ [x]))=bs.set g []++ [Ql (acc ++ [x])]:=by rw[List.set_append];simp
    have e3: (bs.set g []++ [Ql (acc ++ [x])])[B0.length]? =some [.gs g 0 4 acc.length]:=by
     rw[List.getElem?_append_left (by simp;omega),List.getElem?_set_ne (by omega)];exact h4
    have hz:Xm=[.int .i64 0,.str [],.int .i64 0,.sl false 4 []]:=rfl;rw[hz]at e1 e2 hput hzl;generalize Ql (acc ++ [x])=r2 at *;generalize Ql acc=r1 at *;simp[F.f512,F.f512C,h4,h5,appM,XS,hl1,hb,hne0,hlen,hn1,htk,hst,ZM];generalize r1 ++ [AV.int IntKind.i64 0,AV.str [],AV.int IntKind.i64 0,AV.sl false 4 []]=r3 at *;simp[hlt,e1,e2,e3,hput,hzl,hl1,ZM]
   ·refine⟨by simp;omega,?_,.inr ⟨by simp,bs.length,by omega,?_,?_⟩⟩
    ·rw[VM (by simp;omega) (by omega),List.take_set_of_le (by omega)];exact h2
    ·rw[List.getElem?_set_self (by simp;omega)];simp
    ·rw[List.getElem?_set_ne (by omega)];have:bs.length=(bs.set g []).length:=by simp
     rw[this,List.getElem?_concat_length]
def SOk (B0:List (List AV)) (acc:List Tm) (r:Option (AV×List (List AV))):Prop:=∃bs',r=some (.tup [],bs')∧Sst B0 acc bs'
theorem Ec (B0:List (List AV)) (t:Tm) (B:List (List AV)) (hm:t.mass < 100000000)
  (ih: ∀x∈t.kids,∀acc bs,Sst B0 acc bs→acc.length+x.nodes < 100000000→SOk B0 (acc ++ Zh x) (call F.tb 168 [.agg (Qb x),.fn 512 [.gp B0.length 0]] bs)):
  ∀(post pre acc:List Tm) (bs:List (List AV)) (ρ:Nat→AV),t.kids=pre ++ post→Sst B0 acc bs→acc.length+nodesL post < 100000000→ρ 1= .fn 512 [.gp B0.length 0]→ρ 10= .sl false 4 (encTs t.kids)→ρ 11= .int .i64 t.kids.length→ρ 12= .int .i64 pre.length→
  SOk B0 (acc ++ allL post) (R F.tb (.loop F.f168l0) ρ bs (Qi 0 (Qy F.f168 B))):=by
 have hmk:=Qu t;intro post
 induction post with
 | nil=>
  intro pre acc bs ρ hk hw ha h1 h10 h11 h12;simp only[List.append_nil]at hk;rw[← hk]at h12;rw[Qc F.f168l0.eq_1];refine⟨bs,?_,by simpa[allL]using hw⟩;simp[h1,h10,h11,h12]
 | cons x post IH=>
  intro pre acc bs ρ hk hw ha h1 h10 h11 h12;have hg:=Qn hk;have hl:=Qv hk;have hw1:=wr1 pre.length (by omega);have hlt:=Qw hk;simp only[nodesL]at ha;obtain⟨bs',hc,hw'⟩:=ih x (by rw[hk];simp) acc bs hw (by omega);have hfl: (Zh x).length≤x.nodes:=by rw[Xu];exact Nat.le_refl _
  have h2:=fun ρ=>IH (pre ++ [x]) _ bs' ρ (by rw[hk];simp) hw' (by rw[List.length_append];omega);rw[List.append_assoc,show Zh x ++ allL post=allL (x:: post) by simp[allL]]at h2;rw[Qc F.f168l0.eq_1];simp[h1,h10,h11,h12,hg,hlt,hw1,hc];refine h2 _ ?_ ?_ ?_ ?_ <;> simp[h1,h10,h11]
theorem Fg (B0:List (List AV)): ∀(t:Tm) (acc:List Tm) (bs:List (List AV)),t.mass < 100000000→Sst B0 acc bs→acc.length+t.nodes < 100000000→
  SOk B0 (acc ++ Zh t) (call F.tb 168 [.agg (Qb t),.fn 512 [.gp B0.length 0]] bs):=by
 refine Zo ?_;intro kk n s ks ih acc bs hm hw ha;have hmk:=Qu (.mk kk n s ks);have hnk:=Yo (.mk kk n s ks);simp only[QZ,Zu]at hmk hnk;obtain⟨bs1,hc,hw1⟩:=I7 B0 acc bs (.mk kk n s ks) hw (by omega);have hl:=fun ρ=>Ec B0 (.mk kk n s ks) bs hm (fun x hx acc bs hw ha=>ih x hx acc bs (by have:=QB hx;simp at this;omega) hw ha) ks [] _ bs1 ρ rfl hw1 (by
  rw[List.length_append];simp;omega)
 have he:acc ++ Zh (.mk kk n s ks)=(acc ++ [.mk kk n s ks])++ allL ks:=by simp[Zh]
 rw[he,Qa F.tb_168 _ _ rfl];simp[F.f168C,hc];simp only[QZ,List.append_assoc,List.cons_append,List.nil_append]at hl;refine hl _ ?_ ?_ ?_ ?_ <;> simp[Q4]
theorem Qc2 (L:List Tm) (B0 B:List (List AV)) (hL:L.length < 1000000) (hm: ∀x∈L,x.mass < 1000000) (X:Out) (K:Kn) (c:AC):
  ∀(post pre acc:List Tm) (bs:List (List AV)) (o:Bool) (ρ:Nat→AV),L=pre ++ post→Sst B0 acc bs→acc.length+nodesL post < 100000000→ρ 3= .gp B0.length 0→ρ 6= .sl o 4 (encTs L)→ρ 7= .int .i64 L.length→ρ 8= .int .i64 pre.length→
   (∀(ρ':Nat→AV) (bs':List (List AV)),Sst B0 (acc ++ allL post) bs'→ρ' 3= .gp B0.length 0→R F.tb c ρ' bs' K=X)→
  R F.tb (.loop F.f511l0) ρ bs (Qi 0 (Qs F.tb c K))=X:=by
 intro post
 induction post with
 | nil=>
  intro pre acc bs o ρ hk hw ha h3 h6 h7 h8 h;simp only[List.append_nil]at hk;rw[← hk]at h8;rw[Qc F.f511l0.eq_1];simp[h6,h7,h8];refine h _ bs (by simpa[allL]using hw) ?_;simp[h3]
 | cons x post IH=>
  intro pre acc bs o ρ hk hw ha h3 h6 h7 h8 h;have hg:=Qn hk;have hl:=Qv hk;have hw1:=wr1 pre.length (by omega);have hlt:=Qw hk;simp only[nodesL]at ha;obtain⟨bs',hc,hw'⟩:=Fg B0 x acc bs (by have:=hm x (by rw[hk];simp);omega) hw (by omega);have hfl: (Zh x).length=x.nodes:=Xu x;have ih:=fun ρ a3 a6 a7 a8=>IH (pre ++ [x]) (acc ++ Zh x) bs' o ρ (by rw[hk];simp) hw' (by rw[List.length_append];omega) a3 a6 a7 a8 fun ρ' bs2 t1 t2=>h ρ' bs2 (by simpa[allL]using t1) t2;rw[Qc F.f511l0.eq_1];simp[h3,h6,h7,h8,hg,hlt,hw1,hc];apply ih <;> simp[h3,h6,h7]
theorem QbS (L:List Tm) (o:Bool) (B0:List (List AV)) (hL:L.length < 1000000) (hm: ∀x∈L,x.mass < 1000000) (hn:nodesL L < 100000000):
  call F.tb 511 [.sl o 4 (encTs L)] B0=some (.sl true 4 (encTs (QT (allL L))),B0):=by
 have hw0:Sst B0 [] (B0 ++ [[.gs 0 0 0 0]]):=⟨by simp,by simp,.inl ⟨rfl,List.getElem?_concat_length⟩⟩;have h:=fun ρ=>Qc2 L B0 B0 hL hm (some (.sl true 4 (encTs (QT (allL L))),B0)) (Qy F.f511 B0) F.f511r0 L [] [] _ false ρ rfl hw0 (by simpa using hn);rw[Qa F.tb_511 _ _ rfl];simp[F.f511C];refine h _ ?_ ?_ ?_ ?_ ?_
 ·simp
 ·simp
 ·simp
 ·simp
 ·intro ρ' bs' hs h3;obtain⟨h1,h2,h4⟩:=hs;rw[List.nil_append]at h4;have hall: ∀x∈allL L,x.mass < big:=fun x hx=>by
   have: ∀(l:List Tm),(∀y∈l,y.mass < 1000000)→∀x∈allL l,x.mass < 1000000:=by
    intro l
    induction l with
    | nil=>intro _ x hx;simp[allL]at hx
    | cons y r ih=>
     intro hy x hx;simp only[allL,List.mem_append]at hx;rcases hx with hx | hx
     ·have:=X9 y x hx;have:=hy y (by simp);omega
     ·exact ih (fun z hz=>hy z (by simp[hz])) x hx
   have:=this L hm x hx;unfold big;omega
  have hlen: (allL L).length < 100000000:=by
   have: (allL L).length=nodesL L:=by
    have: ∀l:List Tm,(allL l).length=nodesL l:=by
     intro l
     induction l with
     | nil=>simp[allL,nodesL]
     | cons y r ih=>simp only[allL,nodesL,List.length_append,Xu,ih]
    exact this L
   omega
  generalize allL L=A at *;have hgp:gpfreeE (encTs (QT A))=true:=encTs_gp _;rcases h4 with⟨h5,h6⟩ | ⟨h5,g,h6,h7,h8⟩
  ·have ho:=R1 bs';subst h5;simp[F.f511r0,h3,h6,ho,h2,QT,Xt,encTs]
  ·have ho:=Pj A bs' g h8 h5 hlen hall;have ht: (bs'.set g []).take B0.length=B0:=by rw[List.take_set_of_le (by omega)];exact h2
   simp[F.f511r0,h3,h7,ho,ht,hgp]
theorem Qe4:EqF 507:=fun x y bs hx hy=>HY x y bs hx hy
theorem HZ {B0 B:List (List AV)} {v:AV} {l:List Tm} (h:TS B0 B v l) (hl:l.length < 1000000) (hm: ∀x∈l,x.mass < 1000000):
  ∃M,call F.tb 514 [v] B=some (.sl true 4 (encTs (QT l)),B0 ++ M)∧Ch B (B0 ++ M)∧(B0 ++ M).length=B.length:=by
 obtain⟨M,id,sz,rfl,rfl,hc⟩:=h;rcases hc with⟨rfl,rfl,rfl⟩ | ⟨rfl,hid,hne,hb⟩
 ·have hs:call F.tb 170 [.gs 0 0 0 0,.fn 30 []] (B0 ++ M)=some (.tup [],B0 ++ M):=by rw[Xb F.tb_170];simp[Tx]
  have hc:=Jz 507 (B0 ++ M);refine⟨M,?_,Ch.refl _,rfl⟩;rw[Qa F.tb_514 _ _ rfl];simp[F.f514C,hs,hc,encTs,QT,Xt,List.take_of_length_le]
 ·have hmb: ∀x∈l,x.mass < big:=fun x hx=>by have:=hm x hx;unfold big;omega
  have hs:=Pn l (B0 ++ M) id hb (by omega) hmb;have hB:=XK hb;have hS: ((B0 ++ M).set id (Ql (ZA l)))[id]? =some (Ql (ZA l)):=by rw[List.getElem?_set,if_pos rfl,if_pos hB]
  have hsne:ZA l≠[]:=by
   intro e;obtain⟨x,hx⟩:=List.exists_mem_of_ne_nil l hne;have:=(WJ (l:=l)).2 hx;rw[e]at this;simp at this
  have hc:=HT 507 Qe4 (ZA l) ((B0 ++ M).set id (Ql (ZA l))) id hS hsne (by rw[XR];omega) fun x hx=>hmb x (WJ.1 hx);rw[TC,XR]at hc;unfold Rp at hc;rw[List.set_set]at hc;have hg:=encTs_gp (QT l);refine⟨M.set (id - B0.length) [],?_,by rw[← YH hid];exact(Ch.refl _).set rfl _,by simp⟩;rw[← YH hid,Qa F.tb_514 _ _ rfl];simp[-getElem?_pos,F.f514C,hs,hc,hg,List.take_of_length_le]
def XX (s:Int):Tm:= .mk 2 [101,35,48] s []
def Wn (s:Int) (x:Tm):Bool:=decide (s=0) || (decide (x.kind=2) && decide (x.sort=s))
def RX (s:Int) (parts:List Tm):List Tm:=(if s=5 then []else [XX s])++ parts.filter (Wn s)
def Vg (ags:List Nm) (s:Int) (parts:List Tm):List Tm:=if s=1 then QT (ags.map agN)else QT (RX s parts)
theorem OI {a:Nm} (h:a.length≤1000): (agN a).mass < 10000:=by simp only[agN,Tm.mass,massL,List.length_nil];omega
theorem QgF (ags:List Nm) (B0:List (List AV)) (ha:ags.length < 1000) (hm: ∀a∈ags,a.length≤1000):
  ∀(post pre:List Nm) (acc:List Tm) (B:List (List AV)) (v:AV) (o:Bool) (ρ:Nat→AV) (K:Kn),ags=pre ++ post→TS B0 B v acc→acc.length+post.length < 100000→(∀x∈acc,x.mass < 1000000)→
   ρ 2= .int .i64 1→ρ 7=v→ρ 16= .sl o 1 (QO ags)→ρ 17= .int .i64 ags.length→ρ 18= .int .i64 pre.length→
  R F.tb (.loop F.f513l0) ρ B (Qi 0 (Qs F.tb F.f513r0 (Qs F.tb F.f513r2 (Qy F.f513 B0))))=some (.sl true 4 (encTs (QT (acc ++ post.map agN))),B0):=by
 intro post
 induction post with
 | nil=>
  intro pre acc B v o ρ K hk hts hal ham h2 h7 h16 h17 h18;simp only[List.append_nil]at hk;rw[← hk]at h18;obtain⟨M,q1,q2,q3⟩:=HZ hts (by simp at hal;omega) ham;have hg:=encTs_gp (QT acc);obtain⟨id,sz,rfl⟩:=Z3 hts;rw[Qc F.f513l0.eq_1];simp only[List.map_nil,List.append_nil];generalize encTs (QT acc)=E1 at *;simp[h2,h7,h16,h17,h18,F.f513r0,q1,hg]
 | cons a post IH=>
  intro pre acc B v o ρ K hk hts hal ham h2 h7 h16 h17 h18;have hgt:=ZU (Qn hk);have hll:=Qv hk;have hw1:=wr1 pre.length (by omega);have hlt:=Qw hk;simp only[List.length_cons]at hal;obtain⟨v2,B2,q1,q2,q3⟩:=Vu (agN a) false hts (by omega);have hpm:=OI (hm a (by rw[hk];simp));have ih:=fun ρ=>IH (pre ++ [a]) (acc ++ [agN a]) B2 v2 o ρ K (by rw[hk];simp) q2 (by simp;omega) (fun x hx=>by
   rcases List.mem_append.1 hx with hx | hx
   ·exact ham x hx
   ·simp at hx;subst hx;omega)
  have e:acc ++ (a:: post).map agN=(acc ++ [agN a])++ post.map agN:=by simp
  have ea:Qb (agN a)=[.int .i64 2,.str a,.int .i64 1,.sl false 4 []]:=by simp[agN,Qb,encTs]
  rw[ea]at q1;obtain⟨id,sz,rfl⟩:=Z3 hts;obtain⟨id2,sz2,rfl⟩:=Z3 q2;rw[Qc F.f513l0.eq_1,e];simp[-List.append_assoc,h2,h7,h16,h17,h18,hlt,hgt,hw1,q1];apply ih <;> simp[h2,h16,h17]
theorem QaO (P:List Tm) (sort:Int) (B0:List (List AV)) (hP:P.length < 50000) (hm: ∀x∈P,x.mass < 1000000):
  ∀(post pre acc:List Tm) (B:List (List AV)) (v:AV) (o:Bool) (ρ:Nat→AV),P=pre ++ post→TS B0 B v acc→acc.length+post.length < 100000→(∀x∈acc,x.mass < 1000000)→
   ρ 2= .int .i64 sort→ρ 7=v→ρ 38= .sl o 4 (encTs P)→ρ 39= .int .i64 P.length→ρ 40= .int .i64 pre.length→
  R F.tb (.loop F.f513l1) ρ B (Qi 2 (Qs F.tb F.f513r1 (Qy F.f513 B0)))=some (.sl true 4 (encTs (QT (acc ++ post.filter (Wn sort)))),B0):=by
 intro post
 induction post with
 | nil=>
  intro pre acc B v o ρ hk hts hal ham h2 h7 h38 h39 h40;simp only[List.append_nil]at hk;rw[← hk]at h40;obtain⟨M,q1,q2,q3⟩:=HZ hts (by simp at hal;omega) ham;have hg:=encTs_gp (QT acc);obtain⟨id,sz,rfl⟩:=Z3 hts;rw[Qc F.f513l1.eq_1];simp only[List.filter_nil,List.append_nil];generalize encTs (QT acc)=E1 at *;simp[h2,h7,h38,h39,h40,F.f513r1,q1,hg]
 | cons x post IH=>
  intro pre acc B v o ρ hk hts hal ham h2 h7 h38 h39 h40;have hgt:=Qn hk;have hll:=Qv hk;have hw1:=wr1 pre.length (by omega);have hlt:=Qw hk;simp only[List.length_cons]at hal;have hxm:=hm x (by rw[hk];simp);have c500:=Oe x B hxm;have ex:Qb x=[.int .i64 x.kind,.str x.name,.int .i64 x.sort,.sl false 4 (encTs x.kids)]:=by cases x;simp[Qb]
  rw[Qc F.f513l1.eq_1];cases hv:Wn sort x
  ·have e:acc ++ (x:: post).filter (Wn sort)=acc ++ post.filter (Wn sort):=by simp[hv]
   have ih:=fun ρ=>IH (pre ++ [x]) acc B v o ρ (by rw[hk];simp) hts (by omega) ham;obtain⟨id,sz,rfl⟩:=Z3 hts;rw[e];unfold Wn at hv;have v1: ¬sort=0:=fun h=>by simp[h]at hv
   by_cases k2:x.kind=2
   ·have v2: ¬x.sort=sort:=fun h=>by simp[k2,h]at hv
    simp[h2,h7,h38,h39,h40,hlt,hgt,hw1,ex,v1,k2,v2];apply ih <;> simp[h2,h7,h38,h39]
   ·simp[h2,h7,h38,h39,h40,hlt,hgt,hw1,ex,v1,k2];apply ih <;> simp[h2,h7,h38,h39]
  ·have e:acc ++ (x:: post).filter (Wn sort)=(acc ++ [x])++ post.filter (Wn sort):=by simp[hv]
   obtain⟨v2,B2,q1,q2,q3⟩:=Vu x false hts (by omega);have ih:=fun ρ=>IH (pre ++ [x]) (acc ++ [x]) B2 v2 o ρ (by rw[hk];simp) q2 (by simp;omega) (fun y hy=>by
    rcases List.mem_append.1 hy with hy | hy
    ·exact ham y hy
    ·simp at hy;subst hy;exact hxm)
   obtain⟨id,sz,rfl⟩:=Z3 hts;obtain⟨id2,sz2,rfl⟩:=Z3 q2;rw[e];unfold Wn at hv;rw[ex]at c500 q1;by_cases v1:sort=0
   ·subst v1;simp[-List.append_assoc,h2,h7,h38,h39,h40,hlt,hgt,hw1,ex,c500,q1];apply ih <;> simp[h2,h38,h39]
   ·have k2:x.kind=2∧x.sort=sort:=by simpa[v1]using hv
    rw[k2.1,k2.2]at c500 q1 ex;simp[-List.append_assoc,h2,h7,h38,h39,h40,hlt,hgt,hw1,ex,v1,k2.1,k2.2,c500,q1];apply ih <;> simp[h2,h38,h39]
theorem QbT (ags bad:List Nm) (ks P:List Tm) (sort:Int) (o:Bool) (B0:List (List AV)) (ha:ags.length < 1000) (hma: ∀a∈ags,a.length≤1000) (hP:P.length < 50000) (hm: ∀x∈P,x.mass < 1000000):
  call F.tb 513 [.agg (Qt ags bad ks),.sl o 4 (encTs P),.int .i64 sort] B0=some (.sl true 4 (encTs (Vg ags sort P)),B0):=by
 rw[Qa F.tb_513 _ _ rfl];by_cases c1:sort=1
 ·subst c1;have h:=fun ρ=>QgF ags B0 ha hma ags [] [] B0 (.gs 0 0 0 0) false ρ (Qy F.f513 B0) rfl (PZ B0) (by simp;omega) (by simp);simp only[Vg,Qt,if_true,List.nil_append]at *;simp[F.f513C];apply h <;> simp[Qz]
 ·by_cases c5:sort=5
  ·subst c5;have h:=fun ρ=>QaO P 5 B0 hP hm P [] [] B0 (.gs 0 0 0 0) false ρ rfl (PZ B0) (by simp;omega) (by simp);simp only[Vg,RX,Qt,if_true,List.nil_append]at *;simp[F.f513C,F.f513r2];apply h <;> simp
  ·obtain⟨v2,B2,q1,q2,q3⟩:=Vu (XX sort) false (PZ B0) (by simp);have hom: (XX sort).mass < 1000000:=by simp[XX,Tm.mass,massL]
   have h:=fun ρ=>QaO P sort B0 hP hm P [] [XX sort] B2 v2 false ρ rfl q2 (by simp;omega) (by intro x hx;simp at hx;subst hx;exact hom);have eo:Qb (XX sort)=[.int .i64 2,.str [101,35,48],.int .i64 sort,.sl false 4 []]:=by simp[XX,Qb,encTs]
   rw[eo]at q1;obtain⟨id2,sz2,rfl⟩:=Z3 q2;simp only[Vg,RX,Qt,if_neg c1,if_neg c5]at *;simp[-List.cons_append,F.f513C,F.f513r2,c1,c5,q1];apply h <;> simp
theorem Qgr (ags bad:List Nm) (ks:List Tm) (B:List (List AV)) (ha:ags.length < 1000) (hma: ∀a∈ags,a.length≤1000):
  ∀(post pre:List Nm) (acc:List Tm) (ρ:Nat→AV),ags=pre ++ post→acc.length+post.length < 100000→(∀x∈acc,x.mass < 1000000)→
   ρ 2= .int .i64 1→ρ 3= .bx (Qt ags bad ks)→ρ 7= .sl true 4 (encTs acc)→ρ 8= .int .i64 pre.length→
  R F.tb (.loop F.f588l0) ρ B (Qi 0 (Qs F.tb F.f588r0 (Qs F.tb F.f588r2 (Qy F.f588 B))))=some (.sl false 4 (encTs (QT (acc ++ post.map agN))),B):=by
 intro post
 induction post with
 | nil=>
  intro pre acc ρ hk hal ham h2 h3 h7 h8;simp only[List.append_nil]at hk;rw[← hk]at h8;have q:=VS acc false B (by simp at hal;omega) fun x hx=>by have:=ham x hx;unfold big;omega
  have hg:=encTs_gp (QT acc);simp only[Qt]at h3;rw[Qc F.f588l0.eq_1];simp only[List.map_nil,List.append_nil];generalize encTs (QT acc)=E1 at *;simp[h2,h3,h7,h8,Qz,F.f588r0,q,hg]
 | cons a post IH=>
  intro pre acc ρ hk hal ham h2 h3 h7 h8;have hgt:=ZU (Qn hk);have hll:=Qv hk;have hw1:=wr1 pre.length (by omega);have hlt:=Qw hk;simp only[List.length_cons]at hal;have c107:=Rw a 1 B;change call F.tb 107 _ _=some (.agg (Qb (agN a)),B)at c107;have happ:encTs acc ++ [Qb (agN a)]=encTs (acc ++ [agN a]):=by simp[QV]
  have hlen: (encTs acc).length=acc.length:=by simp[QV]
  have hby: (acc.length+1)*56≤140737488355328:=ZS (by omega);have hpm:=OI (hma a (by rw[hk];simp));have ih:=fun ρ=>IH (pre ++ [a]) (acc ++ [agN a]) ρ (by rw[hk];simp) (by simp;omega) (fun x hx=>by
   rcases List.mem_append.1 hx with hx | hx
   ·exact ham x hx
   ·simp at hx;subst hx;omega)
  have e:acc ++ (a:: post).map agN=(acc ++ [agN a])++ post.map agN:=by simp
  simp only[Qt]at h3 ih;rw[Qc F.f588l0.eq_1,e];generalize encTs (acc ++ [agN a])=E2 at *;simp[-List.append_assoc,h2,h3,h7,h8,Qz,hlt,hgt,hw1,c107,hlen,hby,happ];apply ih <;> simp[h2,h3]
theorem Qgt (s:Int) (acc:List Tm) (B:List (List AV)) (hal:acc.length < 100000) (ham: ∀x∈acc,x.mass < 1000000) (ρ:Nat→AV) (h2:ρ 2= .int .i64 s) (h7:ρ 7= .sl true 4 (encTs acc)):
  R F.tb F.f588r1 ρ B (Qy F.f588 B)=some (.sl false 4 (encTs (QT (acc ++ if s=5 then []else [XX s]))),B):=by
 have hom: (XX s).mass < 1000000:=by simp[XX,Tm.mass,massL]
 by_cases c5:s=5
 ·have q:=VS acc false B (by omega) fun x hx=>by have:=ham x hx;unfold big;omega
  have hg:=encTs_gp (QT acc);rw[if_pos c5,List.append_nil];generalize encTs (QT acc)=E1 at *;simp[h2,h7,c5,F.f588r1,q,hg]
 ·have q:=VS (acc ++ [XX s]) false B (by simp;omega) fun x hx=>by
   rcases List.mem_append.1 hx with hx | hx
   ·have:=ham x hx;unfold big;omega
   ·simp at hx;subst hx;unfold big;omega
  have hg:=encTs_gp (QT (acc ++ [XX s]));have c107:=Rw [101,35,48] s B;change call F.tb 107 _ _=some (.agg (Qb (XX s)),B)at c107;have happ:encTs acc ++ [Qb (XX s)]=encTs (acc ++ [XX s]):=by simp[QV]
  have hlen: (encTs acc).length=acc.length:=by simp[QV]
  have hby: (acc.length+1)*56≤140737488355328:=ZS (by omega);rw[if_neg c5];generalize encTs (QT (acc ++ [XX s]))=E1 at *;generalize encTs (acc ++ [XX s])=E2 at *;simp[h2,h7,c5,c107,hlen,hby,happ,F.f588r1,q,hg]
theorem Qgs (P:List Tm) (s:Int) (B:List (List AV)) (hP:P.length < 50000) (hm: ∀x∈P,x.mass < 1000000):
  ∀(post pre acc:List Tm) (o:Bool) (ρ:Nat→AV),P=pre ++ post→acc.length+post.length < 90000→(∀x∈acc,x.mass < 1000000)→
   ρ 1= .sl o 4 (encTs P)→ρ 2= .int .i64 s→ρ 7= .sl true 4 (encTs acc)→ρ 9= .int .i64 pre.length→
  R F.tb (.loop F.f588l1) ρ B (Qi 2 (Qs F.tb F.f588r1 (Qy F.f588 B)))=
   some (.sl false 4 (encTs (QT ((acc ++ post.filter (Wn s))++ if s=5 then []else [XX s]))),B):=by
 intro post
 induction post with
 | nil=>
  intro pre acc o ρ hk hal ham h1 h2 h7 h9;simp only[List.append_nil]at hk;rw[← hk]at h9;have h:=fun ρ=>Qgt s acc B (by simp at hal;omega) ham ρ;rw[Qc F.f588l1.eq_1];simp only[List.filter_nil,List.append_nil];generalize encTs (QT (acc ++ if s=5 then []else [XX s]))=E1 at *;simp[h1,h9];apply h <;> simp[h2,h7]
 | cons x post IH=>
  intro pre acc o ρ hk hal ham h1 h2 h7 h9;have hgt:=Qn hk;have hll:=Qv hk;have hw1:=wr1 pre.length (by omega);have hlt:=Qw hk;simp only[List.length_cons]at hal;have hxm:=hm x (by rw[hk];simp);have ex:Qb x=[.int .i64 x.kind,.str x.name,.int .i64 x.sort,.sl false 4 (encTs x.kids)]:=by cases x;simp[Qb]
  have happ:encTs acc ++ [Qb x]=encTs (acc ++ [x]):=by simp[QV]
  have hlen: (encTs acc).length=acc.length:=by simp[QV]
  have hby: (acc.length+1)*56≤140737488355328:=ZS (by omega);rw[Qc F.f588l1.eq_1];cases hv:Wn s x
  ·have e:acc ++ (x:: post).filter (Wn s)=acc ++ post.filter (Wn s):=by simp[hv]
   have ih:=fun ρ=>IH (pre ++ [x]) acc o ρ (by rw[hk];simp) (by omega) ham;rw[e];unfold Wn at hv;have v1: ¬s=0:=fun h=>by simp[h]at hv
   by_cases k2:x.kind=2
   ·have v2: ¬x.sort=s:=fun h=>by simp[k2,h]at hv
    simp[-List.append_assoc,h1,h2,h7,h9,hlt,hgt,hw1,ex,v1,k2,v2];apply ih <;> simp[h1,h2,h7]
   ·simp[-List.append_assoc,h1,h2,h7,h9,hlt,hgt,hw1,ex,v1,k2];apply ih <;> simp[h1,h2,h7]
  ·have e:acc ++ (x:: post).filter (Wn s)=(acc ++ [x])++ post.filter (Wn s):=by simp[hv]
   have ih:=fun ρ=>IH (pre ++ [x]) (acc ++ [x]) o ρ (by rw[hk];simp) (by simp;omega) (fun y hy=>by
    rcases List.mem_append.1 hy with hy | hy
    ·exact ham y hy
    ·simp at hy;subst hy;exact hxm)
   rw[e];unfold Wn at hv;rw[ex]at happ;by_cases v1:s=0
   ·subst v1;generalize encTs (acc ++ [x])=E2 at *;simp[-List.append_assoc,h1,h2,h7,h9,hlt,hgt,hw1,ex,hlen,hby,happ];apply ih <;> simp[h1,h2]
   ·have k2:x.kind=2∧x.sort=s:=by simpa[v1]using hv
    generalize encTs (acc ++ [x])=E2 at *;rw[k2.1,k2.2]at happ ex;simp[-List.append_assoc,h1,h2,h7,h9,hlt,hgt,hw1,ex,v1,k2.1,k2.2,hlen,hby,happ];apply ih <;> simp[h1,h2]
theorem Qb2 (ags bad:List Nm) (ks P:List Tm) (sort:Int) (o:Bool) (B:List (List AV)) (ha:ags.length < 1000) (hma: ∀a∈ags,a.length≤1000) (hP:P.length < 50000) (hm: ∀x∈P,x.mass < 1000000):
  call F.tb 588 [.agg (Qt ags bad ks),.sl o 4 (encTs P),.int .i64 sort] B=some (.sl false 4 (encTs (Vg ags sort P)),B):=by
 rw[Qa F.tb_588 _ _ rfl];by_cases c1:sort=1
 ·subst c1;have h:=fun ρ=>Qgr ags bad ks B ha hma ags [] [] ρ rfl (by simp;omega) (by simp);simp only[Vg,Qt,if_true,List.nil_append]at *;simp[F.f588C];apply h <;> simp[encTs]
 ·have h:=fun ρ=>Qgs P sort B hP hm P [] [] false ρ rfl (by simp;omega) (by simp);have es:QT (([]++ P.filter (Wn sort))++ if sort=5 then []else [XX sort])=Vg ags sort P:=by
   unfold Vg RX;rw[if_neg c1];refine IE fun x=> ?_;simp only[List.nil_append,List.mem_append];exact Or.comm
  rw[es]at h;generalize encTs (Vg ags sort P)=E1 at *;simp only[Qt];simp[F.f588C,c1,F.f588r2];apply h <;> simp[encTs]
def Un (ags bad:List Nm) (ks:List Tm) (s:Int):List Tm×Int:=if X3 ags bad ks≠0 then([],X3 ags bad ks)else if s < 0∨5 < s then([],7)else(Vg ags s (QT (allL ks)),0)
def SmE (ks:List Tm):Prop:=ks.length < 1000∧massL ks < 100000∧nodesL ks < 10000
theorem PY {ks:List Tm} (h:SmE ks): (QT (allL ks)).length < 10000∧∀x∈QT (allL ks),x.mass < 100000:=by
 obtain⟨_,h2,h3⟩:=h;have hall: ∀l:List Tm,(allL l).length=nodesL l:=by
  intro l
  induction l with
  | nil=>simp[allL,nodesL]
  | cons y r ih=>simp only[allL,nodesL,List.length_append,Xu,ih]
 constructor
 ·have:=U9 (allL ks);have:=hall ks;omega
 ·intro x hx;have:=allL_mass ks x (Wj.1 hx);omega
theorem QbR (ags bad:List Nm) (ks:List Tm) (s:Int) (bs:List (List AV)) (ha:ags.length < 1000) (hb:bad.length < 1000000) (hma: ∀a∈ags,a.length≤1000) (hS:SmE ks):
  call F.tb 510 [.agg (Qt ags bad ks),.int .i64 s] bs=some (.tup [.sl false 4 (encTs (Un ags bad ks s).1),.int .i64 (Un ags bad ks s).2],bs):=by
 obtain⟨f1,f2⟩:=PY hS;have hkm: ∀y∈ks,y.mass < 1000000:=fun y hy=>by have:=QB hy;have:=hS.2.1;omega
 have h1:=HV ags bad ks bs (by omega) hb hma (by have:=hS.1;omega) hkm;have h2:=QbS ks false bs (by have:=hS.1;omega) hkm (by have:=hS.2.2;omega);have h3:=fun o=>QbT ags bad ks (QT (allL ks)) s o bs ha hma (by omega) fun x hx=>by have:=f2 x hx;omega
 have hg:=encTs_gp (Vg ags s (QT (allL ks)));rw[Qa F.tb_510 _ _ rfl];unfold Un;by_cases ce:X3 ags bad ks=0
 ·rw[ce]at h1;by_cases c0:s < 0
  ·simp only[Qt]at *;simp[F.f510C,h1,ce,c0,encTs]
  ·by_cases c5:5 < s
   ·simp only[Qt]at *;simp[F.f510C,h1,ce,c0,c5,encTs]
   ·generalize encTs (QT (allL ks))=E2 at *;simp only[Qt,ce,ne_eq,not_true_eq_false,if_false,c0,c5,or_self]at h1 h2 h3 ⊢;generalize encTs (Vg ags s (QT (allL ks)))=E1 at *;simp[F.f510C,h1,h2,h3,c0,c5,hg]
 ·simp only[Qt]at *;simp[F.f510C,h1,ce,encTs]
theorem Qb1 (ags bad:List Nm) (ks:List Tm) (s:Int) (bs:List (List AV)) (ha:ags.length < 1000) (hb:bad.length < 1000000) (hma: ∀a∈ags,a.length≤1000) (hS:SmE ks):
  call F.tb 586 [.agg (Qt ags bad ks),.int .i64 s] bs=some (.tup [.sl false 4 (encTs (Un ags bad ks s).1),.int .i64 (Un ags bad ks s).2],bs):=by
 obtain⟨f1,f2⟩:=PY hS;have hkm: ∀y∈ks,y.mass < 1000000:=fun y hy=>by have:=QB hy;have:=hS.2.1;omega
 have h1:=Mn ags bad ks bs (by omega) hb hma (by have:=hS.1;omega) hkm;have h2:=Ll ks false bs (by have:=hS.1;omega) (by have:=hS.2.1;omega);have h3:=fun o=>Qb2 ags bad ks (QT (allL ks)) s o bs ha hma (by omega) fun x hx=>by have:=f2 x hx;omega
 have hg:=encTs_gp (Vg ags s (QT (allL ks)));rw[Qa F.tb_586 _ _ rfl];unfold Un;by_cases ce:X3 ags bad ks=0
 ·rw[ce]at h1;by_cases c0:s < 0
  ·simp only[Qt]at *;simp[F.f586C,h1,ce,c0,encTs]
  ·by_cases c5:5 < s
   ·simp only[Qt]at *;simp[F.f586C,h1,ce,c0,c5,encTs]
   ·generalize encTs (QT (allL ks))=E2 at *;simp only[Qt,ce,ne_eq,not_true_eq_false,if_false,c0,c5,or_self]at h1 h2 h3 ⊢;generalize encTs (Vg ags s (QT (allL ks)))=E1 at *;simp[F.f586C,h1,h2,h3,c0,c5,hg]
 ·simp only[Qt]at *;simp[F.f586C,h1,ce,encTs]
theorem Ib: ∀(l:List Tm) (n:Nat),(∀x∈l,x.mass≤n)→massL l≤l.length*n
 | [],n,_=>by simp[massL]
 | x:: r,n,h=>by
  have h1:=h x (by simp);have h2:=Ib r n fun y hy=>h y (by simp[hy]);simp only[massL,List.length_cons,Nat.succ_mul];omega
theorem Qdg {ags bad:List Nm} {ks:List Tm} {s:Int} (ha:ags.length < 1000) (hma: ∀a∈ags,a.length≤1000) (hS:SmE ks): (Un ags bad ks s).1.length < 20000∧massL (Un ags bad ks s).1 < big:=by
 obtain⟨f1,f2⟩:=PY hS;have key: ∀l:List Tm,l.length < 20000→(∀x∈l,x.mass≤100000)→l.length < 20000∧massL l < big:=fun l h1 h2=>by
  have:=Ib l 100000 h2;exact⟨h1,by unfold big;omega⟩
 unfold Un;split
 ·exact key [] (by simp) (by simp)
 ·split
  ·exact key [] (by simp) (by simp)
  ·unfold Vg;split
   ·refine key _ (by have:=U9 (ags.map agN);simp at this ⊢;omega) fun x hx=> ?_;obtain⟨a,h1,rfl⟩:=List.mem_map.1 (Wj.1 hx);have:=OI (hma a h1);omega
   ·refine key _ ?_ fun x hx=> ?_
    ·have h1:=U9 (RX s (QT (allL ks)));have h2: (RX s (QT (allL ks))).length≤1+ (QT (allL ks)).length:=by
      unfold RX;have:=List.length_filter_le (Wn s) (QT (allL ks));rw[List.length_append];split <;> simp <;> omega
     show(QT (RX s (QT (allL ks)))).length < 20000;omega
    ·have hx2:=Wj.1 hx;unfold RX at hx2;rcases List.mem_append.1 hx2 with h | h
     ·split at h
      ·simp at h
      ·simp at h;subst h;simp[XX,Tm.mass,massL]
     ·have:=f2 x (List.mem_filter.1 h).1;omega
theorem Rl (ags bad:List Nm) (ks:List Tm) (s:Int) (h0:call F.tb 477 [] []=some (.bool true,[])) (ha:ags.length < 10000000000) (hb:bad.length < 10000000000):
  call F.tb 584 [.agg (Qt ags bad ks),.int .i64 s] []=some (.bool true,[]):=by
 have c585:=H5 ags bad ks [] ha hb;rw[Qa F.tb_584 _ _ rfl];cases hs:PC ags bad ks
 ·rw[hs]at c585;simp only[Qt]at *;simp[F.f584C,h0,c585]
 ·rw[hs]at c585;simp only[PC,Bool.and_eq_true]at hs;obtain⟨s1,s2⟩:=hs;obtain⟨hal,hbl⟩:=OZ s1;unfold VD at s1;simp only[Bool.and_eq_true,List.all_eq_true,decide_eq_true_eq]at s1;have hma: ∀a∈ags,a.length≤1000:=fun a h=>by have:=s1.1 a (by simp[h]);omega
  have hal:ags.length < 1000:=by have:=s1.2;rw[List.length_append]at this;omega
  have f2:=RG (by omega) s2;have e70: (400:Int).toNat=400:=rfl;rw[e70]at f2;have hS:SmE ks:=⟨by omega,by omega,by omega⟩;have q1:=QbR ags bad ks s [] hal (by omega) hma hS;have q2:=Qb1 ags bad ks s [] hal (by omega) hma hS;obtain⟨b1,b2⟩:=Qdg (bad:=bad) (s:=s) hal hma hS;have q3:=Ti (Un ags bad ks s).1 [] false false b2 (by omega);generalize (Un ags bad ks s).2=V2 at *;generalize encTs (Un ags bad ks s).1=V1 at *;simp only[Qt]at *;simp[F.f584C,h0,c585,q1,q2,q3]
end Go.Am
