/-
  Kn92, Kp6, Kn88, Kp7, AmMemo, KnND.
-/
import Derived.Test.YtiibekjjcelboaaGreatDoorG24
import Derived.Test.YtiibekjjcelboaaGreatDoorG19
import Derived.Test.YtiibekjjcelboaaGreatDoorG14
import Derived.KernelRfl
set_option linter.unusedVariables false
set_option linter.unusedSimpArgs false
namespace Go.Am
set_option maxRecDepth 8000
def N8:List Tm:=allL Yt
theorem JW: ∀t∈Yt,Zb t=(t,0)∧∀y∈QT t,y.kind≠1∧VR y=false:=by
 intro t ht;simp only[Yt,List.mem_cons,List.mem_nil_iff,or_false]at ht;rcases ht with rfl | rfl | rfl | rfl | rfl | rfl | rfl | rfl | rfl | rfl <;> refine⟨by rfl,?_⟩ <;> intro y hy <;> simp only[atA,atB,QT,allL,List.append_nil,List.cons_append,List.nil_append,List.mem_cons,List.mem_nil_iff,or_false]at hy
 ·subst hy;exact⟨by decide,by decide⟩
 ·subst hy;exact⟨by decide,by decide⟩
 ·subst hy;exact⟨by decide,by decide⟩
 ·subst hy;exact⟨by decide,by decide⟩
 ·subst hy;exact⟨by decide,by decide⟩
 ·subst hy;exact⟨by decide,by decide⟩
 ·subst hy;exact⟨by decide,by decide⟩
 ·subst hy;exact⟨by decide,by decide⟩
 ·rcases hy with rfl | rfl <;> exact⟨by decide,by decide⟩
 ·rcases hy with rfl | rfl | rfl <;> exact⟨by decide,by decide⟩
theorem RP {n:List UInt8} {ks:List Tm} (hn:ZZ n ks=(.mk 3 n 0 ks,0)) (hk:normL ks=(ks,0)):Zb (.mk 3 n 0 ks)=(.mk 3 n 0 ks,0):=by
 simp only[Zb,hk,if_true,hn]
theorem TT {n:List UInt8} (h:n=Pj∨n=PK∨n=Zf∨n=ENC∨n=Zd∨n=QY) (ks:List Tm):ZZ n ks=(.mk 3 n 0 ks,0):=by
 have h1:Wb n=false:=by rcases h with rfl | rfl | rfl | rfl | rfl | rfl <;> decide
 have h2: ¬n=XOR:=by rcases h with rfl | rfl | rfl | rfl | rfl | rfl <;> decide
 have h3: ¬(n=MUL∨n=INV∨n=ONE):=by rcases h with rfl | rfl | rfl | rfl | rfl | rfl <;> decide
 have h4: ¬n=EXP:=by rcases h with rfl | rfl | rfl | rfl | rfl | rfl <;> decide
 unfold ZZ;rw[if_neg (by rw[h1];decide),if_neg h2,if_neg h3,if_neg h4]
theorem Nc {n:List UInt8} (h:F8 n=true):n=Pj∨n=PK:=by simpa[F8]using h
theorem Np {n:List UInt8} (h:EW n=true):n=Zf∨n=ENC∨n=Zd:=by simpa[EW,or_assoc]using h
theorem QdX {j:Nat} {t:Tm} (h:FN j t):Zb t=(t,0):=by
 induction h with
 | leaf h=>exact(JW _ h).1
 | @one j n x hn _ ih=>
  refine RP (TT ?_ _) (by simp[normL,ih]);rcases Nc hn with h | h
  ·exact .inl h
  ·exact .inr (.inl h)
 | @two j n x y hn _ _ ih1 ih2=>
  refine RP (TT ?_ _) (by simp[normL,ih1,ih2]);rcases Np hn with h | h | h
  ·exact .inr (.inr (.inl h))
  ·exact .inr (.inr (.inr (.inl h)))
  ·exact .inr (.inr (.inr (.inr (.inl h))))
 | @pk j x y _ _ ih1 ih2=>
  have hp:Zb (.mk 3 PK 0 [y])=(.mk 3 PK 0 [y],0):=RP (TT (.inr (.inl rfl)) _) (by simp[normL,ih2]);exact RP (TT (.inr (.inr (.inr (.inr (.inr rfl))))) _) (by simp[normL,ih1,hp])
theorem Rt {n:List UInt8} (h:n=Pj∨n=PK∨n=Zf∨n=ENC∨n=Zd∨n=QY) (ks:List Tm): (Tm.mk 3 n 0 ks).kind≠1∧VR (.mk 3 n 0 ks)=false:=by
 refine⟨by simp,?_⟩;rcases h with rfl | rfl | rfl | rfl | rfl | rfl <;> simp[VR,RE,isB,Pj,PK,Zf,ENC,Zd,QY,MUL,INV,XOR,EXP]
theorem CW {j:Nat} {t:Tm} (h:FN j t): ∀y∈QT t,y.kind≠1∧VR y=false:=by
 induction h with
 | leaf h=>exact(JW _ h).2
 | @one j n x hn _ ih=>
  intro y hy;simp only[QT,allL,List.append_nil,List.mem_cons]at hy;rcases hy with rfl | hy
  ·refine Rt ?_ _;rcases Nc hn with h | h
   ·exact .inl h
   ·exact .inr (.inl h)
  ·exact ih y hy
 | @two j n x y hn _ _ ih1 ih2=>
  intro z hz;simp only[QT,allL,List.append_nil,List.mem_cons,List.mem_append]at hz;rcases hz with rfl | hz | hz
  ·refine Rt ?_ _;rcases Np hn with h | h | h
   ·exact .inr (.inr (.inl h))
   ·exact .inr (.inr (.inr (.inl h)))
   ·exact .inr (.inr (.inr (.inr (.inl h))))
  ·exact ih1 z hz
  ·exact ih2 z hz
 | @pk j x y _ _ ih1 ih2=>
  intro z hz;simp only[QT,allL,List.append_nil,List.mem_cons,List.mem_append]at hz;rcases hz with rfl | hz | rfl | hz
  ·exact Rt (.inr (.inr (.inr (.inr (.inr rfl))))) _
  ·exact ih1 z hz
  ·exact Rt (.inr (.inl rfl)) _
  ·exact ih2 z hz
def nIn:Nat→Nat
 | 0=>0
 | j+1=>2*nIn j+2
theorem QaL {j:Nat} {t:Tm} (h:FN j t): ∃I:List Tm,I.length≤nIn j∧∀y∈QT t,y∈I∨y∈N8:=by
 induction h with
 | @leaf j t h=>exact⟨[],by simp,fun y hy=> .inr (OT.2 ⟨t,h,hy⟩)⟩
 | @one j n x hn _ ih=>
  obtain⟨I,h1,h2⟩:=ih;refine⟨.mk 3 n 0 [x]:: I,by simp only[nIn,List.length_cons];omega,fun y hy=> ?_⟩;simp only[QT,allL,List.append_nil,List.mem_cons]at hy;rcases hy with rfl | hy
  ·exact .inl (by simp)
  ·rcases h2 y hy with h | h
   ·exact .inl (List.mem_cons_of_mem _ h)
   ·exact .inr h
 | @two j n x y hn _ _ ih1 ih2=>
  obtain⟨I,h1,h2⟩:=ih1;obtain⟨J,g1,g2⟩:=ih2;refine⟨.mk 3 n 0 [x,y]:: (I ++ J),by simp only[nIn,List.length_cons,List.length_append];omega,fun z hz=> ?_⟩;simp only[QT,allL,List.append_nil,List.mem_cons,List.mem_append]at hz ⊢;rcases hz with rfl | hz | hz
  ·exact .inl (.inl rfl)
  ·rcases h2 z hz with h | h
   ·exact .inl (.inr (.inl h))
   ·exact .inr h
  ·rcases g2 z hz with h | h
   ·exact .inl (.inr (.inr h))
   ·exact .inr h
 | @pk j x y _ _ ih1 ih2=>
  obtain⟨I,h1,h2⟩:=ih1;obtain⟨J,g1,g2⟩:=ih2;refine⟨.mk 3 QY 0 [x,.mk 3 PK 0 [y]]:: .mk 3 PK 0 [y]:: (I ++ J),by simp only[nIn,List.length_cons,List.length_append];omega,fun z hz=> ?_⟩;simp only[QT,allL,List.append_nil,List.mem_cons,List.mem_append]at hz ⊢;rcases hz with rfl | hz | rfl | hz
  ·exact .inl (.inl rfl)
  ·rcases h2 z hz with h | h
   ·exact .inl (.inr (.inr (.inl h)))
   ·exact .inr h
  ·exact .inl (.inr (.inl rfl))
  ·rcases g2 z hz with h | h
   ·exact .inl (.inr (.inr (.inr h)))
   ·exact .inr h
theorem QdW {j:Nat} {t:Tm} (h:FN j t):t.mass≤nM j:=by
 induction h with
 | @leaf j t h=>
  obtain⟨i,hi⟩:=List.getElem?_of_mem h;have:=(GA hi).1;have:=C7 j;omega
 | @one j n x hn _ ih=>
  have:n.length≤10:=by rcases Nc hn with rfl | rfl <;> decide
  simp only[nM,Tm.mass,massL,List.length_cons,List.length_nil];omega
 | @two j n x y hn _ _ ih1 ih2=>
  have:n.length≤10:=by rcases Np hn with rfl | rfl | rfl <;> decide
  simp only[nM,Tm.mass,massL,List.length_cons,List.length_nil];omega
 | @pk j x y _ _ ih1 ih2=>
  simp only[nM,Tm.mass,massL,List.length_cons,List.length_nil,QY,PK];omega
def FD (t:Tm):Prop:=FN 3 t∧Y3 t=0
def GrF (bs:List (List AV)) (r:Out):Prop:=∃t:Tm,r=some (.agg (Qb t),bs)∧FD t
theorem QdY {j:Nat} {t:Tm} (h:FN j t):UH t=[]:=by
 unfold UH;have: (QT t).filter (WJ 1)=[]:=List.filter_eq_nil_iff.2 fun y hy=>by
  have:=(CW h y hy).1;simp[WJ,this]
 rw[this];rfl
theorem OY (b:List Nat) (hb: ∀n∈b,n < 256) (o:Bool) (bs:List (List AV)):GrF bs (call F.tb 282 [.sl o 1 (Yn b),.bool true] bs):=by
 obtain⟨t,m,h1,h2,h3,h4⟩:=AR b hb bs 3 0 1 false rfl (by decide);have h1':call F.tb 283 [.sl false 1 (Yn b),.int .i64 0,.int .i64 1,.bool true] bs=some (.tup [.agg (Qb t),.int .i64 m],bs):=h1;have htm:t.mass≤460:=QdW h4;have h6:=HX t bs (by unfold big;omega);have h7:=QcN (Zz t).1 bs (by have:=RO t;omega);have h8:=MA bs;simp only[QR]at h6;have hleaf:FD (.mk 2 [110,97] 2 []):=⟨.leaf (by simp[Yt]),by rfl⟩;rw[Qa F.tb_282 _ _ rfl];by_cases c1: (Zz t).2=0
 ·have hth:thV t=0:=by
   by_cases d:thV t=0
   ·exact d
   ·unfold Zz at c1;rw[if_pos d]at c1;exact c1
  have e: (Zz t).1=t:=by
   have hn:=QdX h4;unfold Zz at c1 ⊢;rw[if_neg (by simpa using hth)]at c1 ⊢;rw[hn]at c1 ⊢;simp only[ne_eq,not_true_eq_false,if_false]at c1 ⊢;by_cases d3:Qz t=0
   ·rw[if_neg (by simpa using d3)]
   ·rw[if_pos d3]at c1;exact absurd c1 d3
  rw[e]at h7;cases c2:V2 t
  ·refine⟨_,?_,hleaf⟩;rw[c2]at h7;simp[F.f282C,h1',h6,h7,h8,c1,e,Yt,encTs]
  ·refine⟨t,?_,h4,?_⟩
   ·rw[c2]at h7;simp[F.f282C,h1',h6,h7,h8,c1,e]
   ·unfold Y3;rw[if_neg (by simpa using hth),if_neg (by simp[QdY h4]),if_pos c2]
 ·refine⟨_,?_,hleaf⟩;simp[F.f282C,h1',h6,h8,c1,Yt,encTs]
def LsF (bs:List (List AV)) (n:Nat) (r:Out):Prop:=∃l:List Tm,r=some (.sl false 4 (encTs l),bs)∧l.length≤n∧∀t∈l,FD t
theorem Fe (l:List (List Nat)) (hl: ∀b∈l,∀n∈b,n < 256) (bs:List (List AV)) (hln:l.length < 1000000):
  ∀(post pre:List (List Nat)) (us:List Tm) (o:Bool) (ρ:Nat→AV),l=pre ++ post→us.length=pre.length→pre.length≤8→(∀t∈us,FD t)→ρ 0= .sl o 1 (YI l)→ρ 1= .bool true→ρ 5= .sl true 4 (encTs us)→ρ 6= .int .i64 pre.length→
  LsF bs (min l.length 8) (R F.tb (.loop F.f281l0) ρ bs (Qj 0 (Qu F.tb F.f281r0 (Qx F.f281 bs)))):=by
 intro post
 induction post with
 | nil=>
  intro pre us o ρ hk hu h8 hd h0 h1 h5 h6;simp only[List.append_nil]at hk;subst hk;rw[Qc F.f281l0.eq_1];refine⟨us,?_,by omega,hd⟩;simp[h0,h1,h5,h6,PG,F.f281r0]
 | cons x post IH=>
  intro pre us o ρ hk hu h8 hd h0 h1 h5 h6;have hg:=CA (Qt hk);have hll:=QE hk;have hw1:=wr1 pre.length (by omega);have hlt:=QF hk;rw[Qc F.f281l0.eq_1];by_cases h8':pre.length=8
  ·refine⟨us,?_,by omega,hd⟩;have e: (pre.length:Int)=8:=by omega
   rw[e]at h6 hlt;simp[h0,h1,h5,h6,hlt,PG,F.f281r0]
  ·have hlt8: (pre.length:Int) < 8:=by omega
   obtain⟨t,ht,hdt⟩:=OY x (hl x (by rw[hk];simp)) false bs;have hb: (us.length+1)*56≤140737488355328:=YW (by omega);have hi:=fun ρ=>IH (pre ++ [x]) (us ++ [t]) o ρ (by rw[hk];simp) (by simp[hu]) (by simp;omega) (fun y hy=>by
    rcases List.mem_append.1 hy with hy | hy
    ·exact hd y hy
    ·simp at hy;subst hy;exact hdt)
   simp[h0,h1,h5,h6,hg,hlt,hlt8,hw1,ht,hb,PG,Zt,Q7];apply hi <;> simp[h0,h1]
theorem AQ (l:List (List Nat)) (hl: ∀b∈l,∀n∈b,n < 256) (bs:List (List AV)) (hln:l.length < 1000000) (o:Bool):LsF bs (min l.length 8) (call F.tb 281 [.sl o 1 (YI l),.bool true] bs):=by
 have h:=fun ρ=>Fe l hl bs hln l [] [] false ρ rfl rfl (by simp) (by simp);rw[Qa F.tb_281 _ _ rfl];simp[F.f281C];apply h <;> simp[encTs]
theorem JQ: ∀{l:List Tm},(∀x∈l,FD x)→∃I:List Tm,I.length≤14*l.length∧∀y∈allL l,y∈I∨y∈N8
 | [],_=>⟨[],by simp,fun y hy=>by simp[allL]at hy⟩
 | t:: l,h=>by
  obtain⟨I,h1,h2⟩:=JQ (l:=l) fun x hx=>h x (by simp[hx]);obtain⟨J,g1,g2⟩:=QaL (h t (by simp)).1;have e14:nIn 3=14:=rfl;refine⟨J ++ I,by simp only[List.length_append,List.length_cons];omega,fun y hy=> ?_⟩;simp only[allL,List.mem_append]at hy ⊢;rcases hy with hy | hy
  ·rcases g2 y hy with h | h
   ·exact .inl (.inl h)
   ·exact .inr h
  ·rcases h2 y hy with h | h
   ·exact .inl (.inr h)
   ·exact .inr h
theorem Qgw {l:List Tm} (h: ∀x∈l,FD x): (ZQ l).length≤14*l.length+13:=by
 obtain⟨I,h1,h2⟩:=JQ h;have h3:=X4 (Zs (I ++ N8)) (ZQ l) (Ue _) (Tr _) fun x hx=>by
  have:=h2 x (XJ.1 hx);exact XJ.2 (List.mem_append.2 this)
 have h4:=IP (I ++ N8);have h5:N8.length=13:=rfl;rw[List.length_append,h5]at h4;omega
theorem IZ: ∀{l:List Tm},(∀x∈l,Y3 x=0)→TG l=0
 | [],_=>rfl
 | x:: l,h=>by
  simp only[TG];rw[if_neg (by simpa using h x (by simp))];exact IZ fun y hy=>h y (by simp[hy])
theorem JV {l:List Tm} (h: ∀x∈l,FD x) (hl:l.length≤13):FLp l:=by
 refine⟨fun x hx=>Qca (h x hx).2,fun x hx y hy=>(CW (h x hx).1 y hy).2,?_⟩;have:=Qgw h;omega
theorem Gs {l:List Tm} (h: ∀x∈l,FD x): ∀x∈l,x.mass≤13200:=fun x hx=>(X2 (Qca (h x hx).2).v).2.2
theorem QgQ (u:List Tm) (hul:u.length≤200) (ha: ∀t∈u,VR t=false) (B:List (List AV)):
  ∀(post pre:List Tm) (o o4 o11:Bool) (ρ:Nat→AV),u=pre ++ post→ρ 0= .sl o 4 (encTs u)→ρ 3= .int .i64 0→ρ 4= .sl o4 4 []→ρ 11= .sl o11 4 (encTs u)→ρ 12= .int .i64 u.length→ρ 13= .int .i64 pre.length→
  R F.tb (.loop F.f521l1) ρ B (Qj 0 (Qu F.tb F.f521r1 (Qx F.f521 B)))=some (.int .i64 0,B):=by
 intro post
 induction post with
 | nil=>
  intro pre o o4 o11 ρ hk h0 h3 h4 h11 h12 h13;simp only[List.append_nil]at hk;subst hk;have c1: ¬(200:Int) < (u.length:Int):=by omega
  rw[Qc F.f521l1.eq_1];simp[h0,h3,h4,h11,h12,h13,F.f521r1,c1]
 | cons t post IH=>
  intro pre o o4 o11 ρ hk h0 h3 h4 h11 h12 h13;have hg:=Qt hk;have hll:=QE hk;have hlt:=QF hk;have hw1:=wr1 pre.length (by omega);obtain⟨a1,a2,a3⟩:=VS (ha t (by rw[hk];simp));have c522:=H0 t B;have c160:=Vl t EXP false B;rw[a1]at c522;rw[a3]at c160;simp only[EXP]at c160;have ih:=fun o o4 o11 ρ=>IH (pre ++ [t]) o o4 o11 ρ (by rw[hk];simp);rw[Qc F.f521l1.eq_1];simp[h0,h3,h4,h11,h12,h13,hg,hlt,hw1,c522,c160,Qg,Mw,F.f521r0];apply ih o o4 o11 <;> simp[h0,h3,h4,h11,h12]
theorem AU (u:List Tm) (hul:u.length≤200) (ha: ∀t∈u,VR t=false) (o:Bool) (B:List (List AV)):call F.tb 521 [.sl o 4 (encTs u)] B=some (.int .i64 0,B):=by
 have h:=fun ρ=>QgQ u hul ha B u [] false true false ρ rfl;rw[Qa F.tb_521 _ _ rfl];simp[F.f521C];apply h <;> simp
theorem Rv {k m:List Tm} (h: ∀x∈k ++ m,FD x) (hl: (k ++ m).length≤9) (o o1:Bool) (B:List (List AV)):
  ∃o2,call F.tb 518 [.sl o 4 (encTs k),.sl o1 4 (encTs m)] B=some (.tup [.sl o2 4 (encTs (ZQ (k ++ m))),.int .i64 0],B):=by
 have hlk:k.length+m.length≤9:=by simpa using hl
 have hm:=Gs h;have hms: ∀x∈k ++ m,x.mass < 1000000:=fun x hx=>by have:=hm x hx;omega
 have h1:=QaW hm;have h2: (k ++ m).length*13200≤9*13200:=Nat.mul_le_mul_right _ hl;have hF:=CU (JV h (by omega));have c180:=fun o=>Uw [k,m] o B (by simp) (by simp;omega);have c519:=fun o=>Qc2 (k ++ m) o B (by omega) hms;have c511:=fun o=>Qc1 (k ++ m) o B (by omega) hms (by have:=nodesL_le_mass (k ++ m);omega);have c521:=fun o=>AU (ZQ (k ++ m)) hF.len hF.al o B;rw[IZ fun x hx=>(h x hx).2]at c519;change ∀o,call F.tb 511 _ B=some (.sl true 4 (encTs (ZQ (k ++ m))),B)at c511;simp only[Vg,List.map_cons,List.map_nil,List.flatten_cons,List.flatten_nil,List.append_nil]at c180;have c1: ¬(60:Int) < (k.length:Int):=by omega
 generalize ZQ (k ++ m)=u at *;refine⟨false,?_⟩;rw[Qa F.tb_518 _ _ rfl];simp[F.f518C,c1,c180,c519,c511,c521]
theorem QgN {k m:List Tm}:PsI (ZQ (k ++ m)) (Zs k):=Rj fun x hx=>List.mem_append.2 (.inl hx)
theorem Uf {k:List Tm} {t:Tm} (h: ∀x∈k ++ [t],FD x) (hl:k.length≤8) (o:Bool) (B:List (List AV)):call F.tb 517 [.sl o 4 (encTs k),.agg (Qb t)] B=some (.tup [.bool (Y8 k t),.int .i64 0],B):=by
 have hl2: (k ++ [t]).length≤9:=by simp;omega
 obtain⟨o2,c518⟩:=Rv (k:=k) (m:=[t]) h hl2 false false B;have hU:=CU (JV h (by omega));have hms:=Gs h;have e1:encTs [t]=[Qb t]:=by simp[encTs]
 have c527:=fun o=>H2 k o B (by omega) fun x hx=>by have:=hms x (List.mem_append.2 (.inl hx));unfold big;omega
 rw[e1]at c518;have ha:=Ue (k ++ [t]);have hI:=QgN (k:=k) (m:=[t]);obtain⟨o3,c529⟩:=AW hU ha hI false false B;have hI2:=Na hI;have hgs:=Qb9 hU ha hI2;have c530:=fun o=>Ug (Tx (ZQ (k ++ [t])) (Zs k)) t o B (by have:=Ix hU ha hI2;omega) hgs.bg (by have:=hms t (by simp);unfold big;omega) hI2.asc;change call F.tb 529 _ B=some (.sl o3 4 (encTs (Tx (ZQ (k ++ [t])) (Zs k))),B)at c529;change ∀o,_=some (AV.bool (Y8 k t),B)at c530;rw[Qa F.tb_517 _ _ rfl];generalize Tx (ZQ (k ++ [t])) (Zs k)=C at *;generalize ZQ (k ++ [t])=u at *;generalize Y8 k t=d at *;simp[F.f517C,c518,c527,c529,c530,Qg]
theorem Qel (B0:List (List AV)):
  ∀(i:Nat) (out:List Tm) (B:List (List AV)) (o:Bool) (ρ:Nat→AV),VP B0 B→(∀x∈out,FD x)→out.length≤8→i≤out.length→ρ 6= .sl o 4 (encTs out)→ρ 7= .int .i64 ((i:Int) - 1)→
  LsR (Uo i out) 0 B0 (R F.tb (.loop F.f624l0) ρ B (Qj 0 (Qu F.tb F.f624r0 (Qx F.f624 B0)))):=by
 intro i
 induction i with
 | zero=>
  intro out B o ρ hP hD hK hi h6 h7;have htk:B.take B0.length=B0:=by obtain⟨M,rfl⟩:=hP;simp
  have hgp:=encTs_gp out;have hck:Z7 B0 B=true:=by obtain⟨M,rfl⟩:=hP;simp
  refine⟨false,?_⟩;simp only[Uo];generalize encTs out=EO at *;rw[Qc F.f624l0.eq_1];simp[h6,h7,F.f624r0,hgp,htk,hck]
 | succ i IH=>
  intro out B o ρ hP hD hK hi h6 h7;obtain⟨x,hx⟩: ∃x,out[i]? =some x:=⟨out[i]'(by omega),List.getElem?_eq_getElem (by omega)⟩;obtain⟨pre,post,rfl,hpl⟩: ∃pre post,out=pre ++ x:: post∧pre.length=i:=by
   refine⟨out.take i,out.drop (i+1),?_,by simp;omega⟩;obtain⟨h1,h2⟩:=List.getElem?_eq_some_iff.1 hx;rw[← h2,List.getElem_cons_drop,List.take_append_drop]
  simp only[List.length_append,List.length_cons]at hK;have e1: ((i+1:Nat):Int) - 1=(i:Int):=by omega
  rw[e1]at h7;have hw1:IntKind.i64.wrap ((i:Int)+1)=(i:Int)+1:=QB (by omega) (by omega);have hw2:IntKind.i64.wrap ((i:Int) - 1)=(i:Int) - 1:=QB (by omega) (by omega);have h0i: (0:Int)≤(i:Int):=by omega
  have c193:=AN (l:=pre ++ x:: post) (by simp) (by simp;omega) B;obtain⟨o2,c,c727⟩:=Qdm (pre:=pre) (post:=post) (p:=x) (id:=B.length) (n:=pre.length+1+post.length) (B:=B ++ [Qf (pre ++ x:: post)]) rfl (by omega) List.getElem?_concat_length;have hset: (B ++ [Qf (pre ++ x:: post)]).set B.length c=B ++ [c]:=by simp[List.set_append]
  rw[hset]at c727;have hn: (pre ++ x:: post).length=pre.length+1+post.length:=by simp;omega
  rw[hn]at c193;have hD2: ∀y∈(pre ++ post)++ [x],FD y:=fun y hy=>hD y (by
   simp only[List.mem_append,List.mem_cons,List.mem_nil_iff,or_false]at hy ⊢;rcases hy with(hy | hy) | hy
   ·exact .inl hy
   ·exact .inr (.inr hy)
   ·exact .inr (.inl hy))
  have hD3: ∀y∈pre ++ post,FD y:=fun y hy=>hD2 y (List.mem_append.2 (.inl hy));have c517:=fun o=>Uf hD2 (by simp;omega) o (B ++ [c]);have hgx: (encTs (pre ++ x:: post))[i]? =some (Qb x):=by rw[UQ,hx];rfl
  have hP2:=hP.app [c];generalize hnn:pre.length+1+post.length=nn at *;rw[hpl]at c727;have em:Uo (i+1) (pre ++ x:: post)=Uo i (if Y8 (pre ++ post) x then pre ++ post else pre ++ x:: post):=by
   have hx2: (pre ++ x:: post)[i]? =some x:=by rw[← hpl];simp
   have he: (pre ++ x:: post).eraseIdx i=pre ++ post:=by rw[← hpl];exact JN
   simp only[Uo,hx2,he]
  rw[em];have ih1:=fun o ρ=>IH (pre ++ post) (B ++ [c]) o ρ hP2 hD3 (by simp;omega) (by simp;omega);have ih2:=fun o ρ=>IH (pre ++ x:: post) (B ++ [c]) o ρ hP2 hD (by simp;omega) (by simp;omega);generalize encTs (pre ++ x:: post)=EX at *;generalize encTs (pre ++ post)=EP at *;generalize hBc:B ++ [c]=Bc at *;generalize hBr:B ++ [Qf (pre ++ x:: post)]=Br at *;generalize B.length=bl at *;rw[Qc F.f624l0.eq_1];cases hd:Y8 (pre ++ post) x
  ·rw[hd]at c517;simp[-getElem?_pos,QP,List.getElem?_cons_succ,h6,h7,h0i,hw1,hw2,c193,c727,c517,hgx,Qg];apply ih2 o <;> simp[h6]
  ·rw[hd]at c517;simp[-getElem?_pos,QP,List.getElem?_cons_succ,h6,h7,h0i,hw1,hw2,c193,c727,c517,hgx,Qg];apply ih1 false <;> simp
theorem Qac (k:List Tm) (h: ∀x∈k,FD x) (hl:k.length≤8) (o:Bool) (B:List (List AV)):LsR (Uo k.length k) 0 B (call F.tb 624 [.sl o 4 (encTs k)] B):=by
 obtain⟨o2,c518⟩:=Rv (k:=k) (m:=[]) (by simpa using h) (by simp;omega) false true B;have c407:=Jg k B (by omega);have l0:=fun o ρ=>Qel B k.length k B o ρ ⟨[],by simp⟩ h hl (Nat.le_refl _);have hw:IntKind.i64.wrap ((k.length:Int) - 1)=(k.length:Int) - 1:=QB (by omega) (by omega);have hel: (encTs k).length=k.length:=YJ k;rw[Lb]at c518;rw[Qa F.tb_624 _ _ rfl];generalize encTs k=EK at *;simp[F.f624C,c518,c407,hel,hw];apply l0 true <;> simp
def NP (b:Bool):AV:= .tup [.bool b,.int .i64 0]
theorem QgJ {k l:List Tm} (hk: ∀x∈k,FD x) (hkl:k.length≤8) (hd: ∀x∈l,FD x) (hl:l.length < 100000) (B:List (List AV)):
  ∀(post pre:List Tm) (o o10:Bool) (ρ:Nat→AV),l=pre ++ post→ρ 0= .sl o 4 (encTs k)→ρ 10= .sl o10 4 (encTs l)→ρ 11= .int .i64 l.length→ρ 12= .int .i64 pre.length→
  R F.tb (.loop F.f629l0) ρ B (Qj 0 (Qu F.tb F.f629r0 (Qx F.f629 B)))=some (NP (post.all (Y8 k)),B):=by
 intro post
 induction post with
 | nil=>
  intro pre o o10 ρ hp h0 h10 h11 h12;simp only[List.append_nil]at hp;rw[← hp]at h12;rw[Qc F.f629l0.eq_1];simp[h0,h10,h11,h12,F.f629r0,NP]
 | cons t post IH=>
  intro pre o o10 ρ hp h0 h10 h11 h12;have hgt:=Qt hp;have hll:l.length=pre.length+ (post.length+1):=by rw[hp];simp
  have hw1:=wr1 pre.length (by omega);have hlt: (pre.length:Int) < (l.length:Int):=by omega
  have c517:=Uf (k:=k) (t:=t) (fun x hx=>by
   rcases List.mem_append.1 hx with hx | hx
   ·exact hk x hx
   ·rw[List.mem_singleton.1 hx];exact hd t (by rw[hp];simp)) hkl false B
  have ih:=fun o o10 ρ=>IH (pre ++ [t]) o o10 ρ (by rw[hp];simp);rw[Qc F.f629l0.eq_1];cases c:Y8 k t
  ·rw[c]at c517;simp[h0,h10,h11,h12,hgt,hlt,hw1,c517,c,Qg,NP]
  ·rw[c]at c517;have e: (t:: post).all (Y8 k)=post.all (Y8 k):=by simp[c]
   rw[e];simp[h0,h10,h11,h12,hgt,hlt,hw1,c517,Qg];apply ih o o10 <;> simp[h0,h10,h11]
theorem Jj {k l:List Tm} (hk: ∀x∈k,FD x) (hkl:k.length≤8) (hd: ∀x∈l,FD x) (hl:l.length < 100000) (o o1:Bool) (B:List (List AV)):call F.tb 629 [.sl o 4 (encTs k),.sl o1 4 (encTs l)] B=some (NP (l.all (Y8 k)),B):=by
 have h:=fun ρ=>QgJ hk hkl hd hl B l [] false false ρ rfl;rw[Qa F.tb_629 _ _ rfl];simp[F.f629C];apply h <;> simp
theorem Qad {k l:List Tm} (hk: ∀x∈k,FD x) (hkl:k.length≤8) (hd: ∀x∈l,FD x) (hl:l.length≤8) (h1:l.all (Y8 k)=true) (h2:k.all (Y8 l)=true) (o o1:Bool) (B:List (List AV)):
  call F.tb 628 [.sl o 4 (encTs k),.sl o1 4 (encTs l)] B=some (.tup [.bool true,.int .i64 0],B):=by
 obtain⟨o2,c518⟩:=Rv (k:=k) (m:=[]) (by simpa using hk) (by simp;omega) false true B;obtain⟨o3,c518l⟩:=Rv (k:=l) (m:=[]) (by simpa using hd) (by simp;omega) false true B;have c1:=fun o o1=>Jj hk hkl hd (by omega) o o1 B;have c2:=fun o o1=>Jj hd hl hk (by omega) o o1 B;rw[h1]at c1;rw[h2]at c2;unfold NP at c1 c2;rw[Lb]at c518 c518l;have w1:IntKind.i64.wrap 1=1:=QB (by omega) (by omega);have w2:IntKind.i64.wrap 2=2:=QB (by omega) (by omega);rw[Qa F.tb_628 _ _ rfl];generalize hEK:encTs k=EK at *;generalize hEL:encTs l=EL at *;simp[F.f628C];rw[Qc F.f628l0.eq_1];simp[c518,w1,w2];rw[Qc F.f628l0.eq_1];simp[c518l,w1,w2];rw[Qc F.f628l0.eq_1];simp[F.f628r0,c1,c2]
def EG (l:List (List Nat)):Bool:=l.all (fun b=>decide (b.length≤12)) && decide (l.length≤5)
theorem QgX (l:List (List Nat)) (hl:l.length < 4611686018427387904) (B:List (List AV)):
  ∀(post pre:List (List Nat)) (o o5:Bool) (ρ:Nat→AV),l=pre ++ post→ρ 0= .sl o 1 (YI l)→ρ 5= .sl o5 1 (YI l)→ρ 6= .int .i64 l.length→ρ 7= .int .i64 pre.length→
  R F.tb (.loop F.f620l0) ρ B (Qj 0 (Qu F.tb F.f620r0 (Qx F.f620 B)))=some (.bool (post.all (fun b=>decide (b.length≤12)) && decide (l.length≤5)),B):=by
 have hel: (YI l).length=l.length:=by simp[YI]
 intro post
 induction post with
 | nil=>
  intro pre o o5 ρ hk h0 h5 h6 h7;simp only[List.append_nil]at hk;rw[← hk]at h7;have i1: (l.length≤5)↔(l.length:Int)≤5:=by omega
  generalize YI l=E at *;rw[Qc F.f620l0.eq_1];simp[h0,h5,h6,h7,hel,i1,F.f620r0]
 | cons b post IH=>
  intro pre o o5 ρ hk h0 h5 h6 h7;have hgt:=Qt hk;have hll:=QE hk;have hw1:=wr1 pre.length (by omega);have hlt:=QF hk;have hge: (YI l)[pre.length]? =some [.sl false 1 (Yn b)]:=by simp[YI,hgt]
  have hbl: (Yn b).length=b.length:=by simp[Yn]
  have ih:=fun o o5 ρ=>IH (pre ++ [b]) o o5 ρ (by rw[hk];simp);generalize YI l=E at *;generalize Yn b=EB at *;rw[Qc F.f620l0.eq_1];by_cases c:b.length≤12
  ·have c2: ¬(12:Int) < (b.length:Int):=by omega
   have e: ((b:: post).all (fun b=>decide (b.length≤12)))=post.all (fun b=>decide (b.length≤12)):=by simp[c]
   rw[e];simp[-getElem?_pos,QP,List.getElem?_cons_succ,h0,h5,h6,h7,hlt,hw1,hge,hbl,c2];rw[ih o o5] <;> simp[h0,h5,h6]
  ·have c2: (12:Int) < (b.length:Int):=by omega
   have e: ((b:: post).all (fun b=>decide (b.length≤12)))=false:=by simp[c]
   rw[e];simp[-getElem?_pos,QP,List.getElem?_cons_succ,h0,h5,h6,h7,hlt,hw1,hge,hbl,c2]
theorem Qdl (l:List (List Nat)) (hl:l.length < 4611686018427387904) (o:Bool) (B:List (List AV)):call F.tb 620 [.sl o 1 (YI l)] B=some (.bool (EG l),B):=by
 have h:=fun ρ=>QgX l hl B l [] false false ρ rfl;have hel: (YI l).length=l.length:=by simp[YI]
 unfold EG;rw[Qa F.tb_620 _ _ rfl];simp[F.f620C];have h2:=h;simp only[List.length_nil]at h2;rw[h2] <;> simp[hel]
theorem PT (l:List (List Nat)) (a b:List Nat) (h0:call F.tb 602 [] []=some (.bool true,[])) (hll:l.length < 4611686018427387904) (hl: ∀x∈l,∀n∈x,n < 256) (ha: ∀n∈a,n < 256) (hb: ∀n∈b,n < 256):
  call F.tb 732 [.sl false 1 (YI l),.sl false 1 (Yn a),.sl false 1 (Yn b)] []=some (.bool true,[]):=by
 have c620:=fun o=>Qdl l hll o [];have hal: (Yn a).length=a.length:=by simp[Yn]
 have hbl: (Yn b).length=b.length:=by simp[Yn]
 rw[Qa F.tb_732 _ _ rfl];cases hs:EG l
 ·rw[hs]at c620;generalize YI l=EL at *;generalize Yn a=EA at *;generalize Yn b=EB at *;simp[F.f732C,h0,c620]
 ·rw[hs]at c620;by_cases ca:a.length≤12
  ·have ca2: ¬(12:Int) < (a.length:Int):=by omega
   by_cases cb:b.length≤12
   ·have cb2: ¬(12:Int) < (b.length:Int):=by omega
    simp only[EG,Bool.and_eq_true,decide_eq_true_eq]at hs;obtain⟨k,c281,hk1,hk2⟩:=AQ l hl [] (by omega) false;obtain⟨x,c282a,hx⟩:=OY a ha false [];obtain⟨y,c282b,hy⟩:=OY b hb false [];have hk5:k.length≤5:=by omega
    have hone: ∀{m:List Tm} {z:Tm},(∀w∈m,FD w)→FD z→∀w∈m ++ [z],FD w:=fun hm hz w hw=>by
     rcases List.mem_append.1 hw with hw | hw
     ·exact hm w hw
     ·rw[List.mem_singleton.1 hw];exact hz
    have hkx:=hone hk2 hx;have hky:=hone hk2 hy;have hkxy:=hone hkx hy;have hF: ∀m:List Tm,m.length≤13→(∀w∈m,FD w)→FLp m:=fun m h1 h2=>JV h2 h1;have c517a:=Uf hkx (by omega) false [];have c517b:=Uf hkxy (by simp;omega) true [];have c517c:=Uf hky (by omega) false [];have c517b':=Uf hkxy (by simp;omega) false [];obtain⟨o4,c624⟩:=Qac k hk2 (by omega) false [];have hcut:Y8 k x=true→Y8 (k ++ [x]) y=true→Y8 k y=true:=fun h1 h2=>by
     have e1:=(Ui (hF (k ++ [x]) (by simp;omega) hkx)).1 h1;have e2:=(Ui (hF (k ++ [x]++ [y]) (by simp;omega) hkxy)).1 h2;refine(Ui (hF _ (by simp;omega) hky)).2 (Gf (hF k (by omega) hk2) (hF (k ++ [x]) (by simp;omega) hkx) (fun z hz=> ?_) e2);rcases List.mem_append.1 hz with hz | hz
     ·exact On hz
     ·rw[List.mem_singleton.1 hz];exact e1
    obtain⟨ms,hml⟩:=RM k.length k;have hkm0:=MM k.length k (fun l h1 h2=>hF l (by omega) fun w hw=>hk2 w (h2 w hw)) (Nat.le_refl _);generalize Uo k.length k=M at *;have hm2: ∀w∈M,FD w:=fun w hw=>hk2 w (ms w hw);have hall1:M.all (Y8 k)=true:=List.all_eq_true.2 fun w hw=>(Ui (hF _ (by simp;omega) (hone hk2 (hm2 w hw)))).2 (On (ms w hw));have hall2:k.all (Y8 M)=true:=List.all_eq_true.2 fun w hw=>(Ui (hF _ (by simp;omega) (hone hm2 (hk2 w hw)))).2 (hkm0 w hw);have c628:=Qad hk2 (by omega) hm2 (by omega) hall1 hall2 false false [];have c407:=Jg k [] (by omega);have happ:=Q7 k [x];have e1:encTs [x]=[Qb x]:=by simp[encTs]
    rw[e1]at happ;have hel: (encTs k).length=k.length:=YJ k;have hml2: (encTs M).length=M.length:=YJ _;have hcap: (k.length+1)*56≤140737488355328:=by omega
    have hmli: (M.length:Int)≤(k.length:Int):=by omega
    generalize encTs (k ++ [x])=EKX at *;generalize encTs M=EM at *;generalize encTs k=EK at *;generalize YI l=EL at *;generalize Yn a=EA at *;generalize Yn b=EB at *;cases d1:Y8 k x
    ·rw[d1]at c517a;generalize Y8 (k ++ [x]) y=q2 at *;generalize Y8 k y=q3 at *;simp[F.f732C,h0,c620,hal,hbl,ca2,cb2,c281,c282a,c282b,Qg,c517a,c517b,c517b',c517c,c624,c628,c407,hel,hml2,hcap,happ,hmli]
    ·cases d2:Y8 (k ++ [x]) y
     ·rw[d1]at c517a;rw[d2]at c517b c517b';generalize Y8 k y=q3 at *;simp[F.f732C,h0,c620,hal,hbl,ca2,cb2,c281,c282a,c282b,Qg,c517a,c517b,c517b',c517c,c624,c628,c407,hel,hml2,hcap,happ,hmli]
     ·rw[d1]at c517a;rw[d2]at c517b c517b';rw[hcut d1 d2]at c517c;simp[F.f732C,h0,c620,hal,hbl,ca2,cb2,c281,c282a,c282b,Qg,c517a,c517b,c517b',c517c,c624,c628,c407,hel,hml2,hcap,happ,hmli]
   ·have cb2: (12:Int) < (b.length:Int):=by omega
    generalize YI l=EL at *;generalize Yn a=EA at *;generalize Yn b=EB at *;simp[F.f732C,h0,c620,hal,hbl,ca2,cb2]
  ·have ca2: (12:Int) < (a.length:Int):=by omega
   generalize YI l=EL at *;generalize Yn a=EA at *;generalize Yn b=EB at *;simp[F.f732C,h0,c620,hal,hbl,ca2]
theorem IE {T:Nat→Option AFn} {K:ZJ} (h:KLe K (call T)) {n:Nat}: ∀{c:AC} {σ:St} {x:Ex×St},Q1 K n c σ=some x→run T c σ=some x:=by
 intro c
 induction c with
 | bad=>intro σ x he;simp[Q1]at he
 | skip=>intro σ x he;rw[IK];exact he
 | ret=>intro σ x he;rw[GO];exact he
 | exit id=>intro σ x he;rw[IG];exact he
 | reg d ops=>
  intro σ x he;rw[GN];simp only[Q1]at he;cases hr:Zq K ops σ with
  | none=>rw[hr]at he;cases he
  | some s=>rw[Ve h hr];rw[hr]at he;exact he
 | seq a b iha ihb=>
  intro σ x he;rw[GP];simp only[Q1]at he;cases ha:Q1 K n a σ with
  | none=>rw[ha]at he;cases he
  | some p=>
   obtain⟨e,s⟩:=p;rw[ha]at he;rw[iha ha];cases e
   ·exact ihb he
   ·exact he
   ·exact he
 | cond c a b iha ihb=>
  intro σ x he;rw[IF];simp only[Q1]at he;split at he
  ·rename_i hv;rw[hv];exact iha he
  ·rename_i hv;rw[hv];exact ihb he
  ·cases he
 | block id c ih=>
  intro σ x he;rw[Lv];simp only[Q1]at he;cases ha:Q1 K n c σ with
  | none=>rw[ha]at he;cases he
  | some p=>rw[ha]at he;rw[ih ha];exact he
 | loop c ih=>
  intro σ x he;simp only[Q1]at he;have key: ∀(m:Nat) (σ:St) (x:Ex×St),Va (Q1 K n c) m σ=some x→run T (.loop c) σ=some x:=by
   intro m
   induction m with
   | zero=>intro σ x he;simp[Va]at he
   | succ m IH=>
    intro σ x he;rw[IJ];simp only[Va]at he;cases ha:Q1 K n c σ with
    | none=>rw[ha]at he;cases he
    | some p=>
     obtain⟨e,s⟩:=p;rw[ha]at he;rw[ih ha];cases e
     ·exact IH _ _ he
     ·exact he
     ·exact he
  exact key n σ x he
abbrev Qq:=Nat×List AV×List (List AV)×AV×List (List AV)
def Ma:List Qq→Nat→List AV→List (List AV)→Option (AV×List (List AV))
 | [],_,_,_=>none
 | (g,ar,b,v,b2):: fs,f,args,bs=>if(g == f && eqVE b bs && eqVL ar args)=true then some (v,b2)else Ma fs f args bs
def QQ (T:Nat→Option AFn) (fs:List Qq):Nat→ZJ
 | 0,_,_,_=>none
 | n+1,f,args,bs=>match Ma fs f args bs with
  | some r=>some r
  | none=>match T f with
   | none=>none
   | some (.orc g)=>g args bs
   | some (.code fn)=>
    if args.length=fn.nparams then
     match Q1 (QQ T fs n) n fn.body {env:=YA args,bs}with
     | some (.normal,σ)=>Yg fn bs σ
     | some (.ret,σ)=>Yg fn bs σ
     | _=>none
    else none
def Qv (T:Nat→Option AFn):List Qq→Prop
 | []=>True
 | (g,ar,b,v,b2):: fs=>call T g ar b=some (v,b2)∧Qv T fs
theorem Ia {T:Nat→Option AFn}: ∀{fs:List Qq},Qv T fs→∀{f args bs r},Ma fs f args bs=some r→call T f args bs=some r
 | [],_,_,_,_,_,h=>by simp[Ma]at h
 | (g,ar,b,v,b2):: fs,hf,f,args,bs,r,h=>by
  simp only[Ma]at h;split at h
  ·rename_i c;simp only[Bool.and_eq_true,beq_iff_eq]at c;obtain⟨⟨rfl,e2⟩,e⟩:=c;have e:=eqVL_eq _ _ e;have e2:=eqVE_eq _ _ e2;subst e;subst e2;cases h;exact hf.1
  ·exact Ia hf.2 h
theorem Qs {T:Nat→Option AFn} {fs:List Qq} (hf:Qv T fs): ∀n,KLe (QQ T fs n) (call T)
 | 0,_,_,_,_,h=>by simp[QQ]at h
 | n+1,f,args,bs,r,h=>by
  simp only[QQ]at h;split at h
  ·rename_i r' hl;cases h;exact Ia hf hl
  ·rw[MC];have ih:=Qs hf n;split at h
   ·cases h
   ·rename_i g hg;rw[hg];exact h
   ·rename_i fn hg;rw[hg];simp only;split at h
    ·rename_i hl;rw[if_pos hl];split at h
     ·rename_i σ hr;rw[IE ih hr];exact h
     ·rename_i σ hr;rw[IE ih hr];exact h
     ·cases h
    ·cases h
def Fc:List UInt8:=[101,110,99]
def YV:List AV:=[.int .i64 2,.str [109],.int .i64 0,.sl false 4 []]
def WI:List AV:=[.int .i64 2,.str [107],.int .i64 3,.sl false 4 []]
def WU:List AV:=[.int .i64 3,.str Fc,.int .i64 0,.sl false 4 [YV,WI]]
def Rp:List AV:=[.int .i64 2,.str [110],.int .i64 2,.sl false 4 []]
def Rq:List AV:=[.int .i64 3,.str [112,97,105,114],.int .i64 0,.sl false 4 [Rp,WI]]
def Rr:List (List AV):=[WU,Rq]
def P9:List (List AV):=[WI,YV,Rp,WU,Rq]
def QbT:List (List AV):=[WI,WU,Rq]
def Fd:List (List AV):=[[.str [101,110,99,40,109,58,97,110,121,44,32,107,58,107,101,121,41]],[.str [112,97,105,114,40,110,58,110,111,110,99,101,44,32,107,58,107,101,121,41]]]
def Ns:List AV:=[.int .i64 3,.str [112,97,105,114],.int .i64 0,.sl false 4 [YV,Rp]]
def KW:List AV:=[.int .i64 3,.str [104,97,115,104],.int .i64 0,.sl false 4 [Ns]]
def KX:List (List AV):=[WI,YV,Rp,WU,Ns,Rq,KW]
def Xo:List AV:=[.int .i64 2,.str [108],.int .i64 3,.sl false 4 []]
def Dg:List (List AV):=[WI,Xo,YV,Rp,WU,Rq]
def Tl:List AV:=[.int .i64 2,.str [103],.int .i64 4,.sl false 4 []]
def Vb:List AV:=[.int .i64 2,.str [120],.int .i64 2,.sl false 4 []]
def Tn:List AV:=[.int .i64 3,.str [101,120,112],.int .i64 0,.sl false 4 [Tl,Vb]]
def Wx:List AV:=[.int .i64 2,.str [121],.int .i64 2,.sl false 4 []]
def UI:List AV:=[.int .i64 3,.str [109,117,108],.int .i64 0,.sl false 4 [Vb,Wx]]
def Nt:List AV:=[.int .i64 3,.str [101,120,112],.int .i64 0,.sl false 4 [Tl,UI]]
def Dh:List (List AV):=[Tl,Vb,Wx,Tn,UI,Nt]
def KY:List (List AV):=[Wx,Tn]
def Nu:List (List AV):=[Tl,Wx,Tn]
def KZ:List (List AV):=[Tl,Wx,Tn,Nt]
def Di:List AV:=[.str [121,58,110,111,110,99,101]]
def Dj:List (List AV):=[[.str [101,120,112,40,103,58,100,97,116,97,44,32,120,58,110,111,110,99,101,41]],Di]
def Dk:List (List AV):=[Tl,Vb,Wx,Tn]
def Dl:List UInt8:=[120,58,110,111,110,99,101]
def Pk:List AV:=[.int .i64 3,.str Fc,.int .i64 0,.sl false 4 [WU,Xo]]
def UJ:List (List AV):=[Pk]
def Nv:List (List AV):=[WI,Xo,YV,WU,Pk]
def Pm:List (List AV):=[WI,Pk]
def Nw:List (List AV):=[Xo,Pk]
def K0:List (List AV):=[Xo,WU,Pk]
def Nx:List AV:=[.int .i64 3,.str Fc,.int .i64 0,.sl false 4 [YV,Xo]]
def Sf:List (List AV):=[Nx]
def Ny:List (List AV):=[Xo,YV,Nx]
def K1:List (List AV):=[Vb,Wx,UI]
def Nz:List AV:=[.int .i64 2,.str [97],.int .i64 0,.sl false 4 []]
def Pn:List AV:=[.int .i64 2,.str [98],.int .i64 0,.sl false 4 []]
def NA:List AV:=[.int .i64 3,.str [120,111,114],.int .i64 0,.sl false 4 [Nz,Pn]]
def K2:List (List AV):=[Nz,Pn,NA]
def G2:List Qq:=[]
def Oa:Qq:=(518,[.sl false 4 Rr,.sl false 4 [YV]],[],.tup [.sl false 4 P9,.int .i64 0],[])
def G3:List Qq:=Oa:: G2
def Ob:Qq:=(531,[.sl false 4 Rr,.agg WI],[],.bool true,[])
def G4:List Qq:=Ob:: G3
def Oc:Qq:=(531,[.sl false 4 QbT,.agg YV],[],.bool true,[])
def G5:List Qq:=Oc:: G4
def Od:Qq:=(531,[.sl false 4 [WI,YV,WU,Rq],.agg Rp],[],.bool true,[])
def G6:List Qq:=Od:: G5
def Oe:Qq:=(529,[.sl false 4 Rr,.sl false 4 P9],[],.sl false 4 P9,[])
def G7:List Qq:=Oe:: G6
def Of:Qq:=(603,[.str [109,58,97,110,121],.sl false 1 Fd],[],.bool true,[])
def G8:List Qq:=Of:: G7
def Og:Qq:=(518,[.sl false 4 Rr,.sl false 4 [KW]],[],.tup [.sl false 4 KX,.int .i64 0],[])
def G9:List Qq:=Og:: G8
def Oh:Qq:=(531,[.sl false 4 P9,.agg Ns],[],.bool true,[])
def Fa:List Qq:=Oh:: G9
def Oi:Qq:=(531,[.sl false 4 [WI,YV,Rp,WU,Ns,Rq],.agg KW],[],.bool true,[])
def Fb:List Qq:=Oi:: Fa
def Oj:Qq:=(529,[.sl false 4 Rr,.sl false 4 KX],[],.sl false 4 KX,[])
def L4:List Qq:=Oj:: Fb
def Sg:Qq:=(603,[.str [104,97,115,104,40,112,97,105,114,40,109,58,97,110,121,44,32,110,58,110,111,110,99,101,41,41],.sl false 1 Fd],[],.bool true,[])
def L5:List Qq:=Sg:: L4
def Sh:Qq:=(518,[.sl false 4 Rr,.sl false 4 [Xo]],[],.tup [.sl false 4 Dg,.int .i64 0],[])
def L6:List Qq:=Sh:: L5
def Si:Qq:=(531,[.sl false 4 QbT,.agg Xo],[],.bool false,[])
def L7:List Qq:=Si:: L6
def Sj:Qq:=(531,[.sl false 4 P9,.agg Xo],[],.bool false,[])
def L8:List Qq:=Sj:: L7
def Sk:Qq:=(529,[.sl false 4 Rr,.sl false 4 Dg],[],.sl false 4 P9,[])
def L9:List Qq:=Sk:: L8
def Sl:Qq:=(603,[.str [108,58,107,101,121],.sl false 1 Fd],[],.bool false,[])
def Ka:List Qq:=Sl:: L9
def Sm:Qq:=(518,[.sl false 4 [Tn,Wx],.sl false 4 [Nt]],[],.tup [.sl false 4 Dh,.int .i64 0],[])
def Kb:List Qq:=Sm:: Ka
def Sn:Qq:=(531,[.sl false 4 KY,.agg Tl],[],.bool true,[])
def Kc:List Qq:=Sn:: Kb
def So:Qq:=(531,[.sl false 4 Nu,.agg Vb],[],.bool false,[])
def Kd:List Qq:=So:: Kc
def Sq:Qq:=(531,[.sl false 4 Nu,.agg UI],[],.bool false,[])
def Ke:List Qq:=Sq:: Kd
def Sr:Qq:=(531,[.sl false 4 Nu,.agg Nt],[],.bool true,[])
def Kf:List Qq:=Sr:: Ke
def Ss:Qq:=(531,[.sl false 4 KZ,.agg Vb],[],.bool false,[])
def Kg:List Qq:=Ss:: Kf
def Su:Qq:=(531,[.sl false 4 KZ,.agg UI],[],.bool false,[])
def Kh:List Qq:=Su:: Kg
def Sv:Qq:=(529,[.sl false 4 KY,.sl false 4 Dh],[],.sl false 4 KZ,[])
def Ki:List Qq:=Sv:: Kh
def Sw:Qq:=(603,[.str [101,120,112,40,103,58,100,97,116,97,44,32,109,117,108,40,120,58,110,111,110,99,101,44,32,121,58,110,111,110,99,101,41,41],.sl false 1 Dj],[],.bool true,[])
def Kj:List Qq:=Sw:: Ki
def Sx:Qq:=(518,[.sl false 4 [Tn,Wx],.sl false 4 [Vb]],[],.tup [.sl false 4 Dk,.int .i64 0],[])
def Kk:List Qq:=Sx:: Kj
def Sz:Qq:=(529,[.sl false 4 KY,.sl false 4 Dk],[],.sl false 4 Nu,[])
def Kl:List Qq:=Sz:: Kk
def SA:Qq:=(603,[.str Dl,.sl false 1 Dj],[],.bool false,[])
def Km:List Qq:=SA:: Kl
def SB:Qq:=(518,[.sl false 4 UJ,.sl false 4 [YV]],[],.tup [.sl false 4 Nv,.int .i64 0],[])
def Ko:List Qq:=SB:: Km
def SC:Qq:=(531,[.sl false 4 UJ,.agg WI],[],.bool false,[])
def Kp:List Qq:=SC:: Ko
def SD:Qq:=(531,[.sl false 4 UJ,.agg Xo],[],.bool false,[])
def Kq:List Qq:=SD:: Kp
def SE:Qq:=(531,[.sl false 4 UJ,.agg YV],[],.bool false,[])
def Kr:List Qq:=SE:: Kq
def SF:Qq:=(531,[.sl false 4 UJ,.agg WU],[],.bool false,[])
def Ks:List Qq:=SF:: Kr
def SG:Qq:=(529,[.sl false 4 UJ,.sl false 4 Nv],[],.sl false 4 UJ,[])
def Kt:List Qq:=SG:: Ks
def SI:Qq:=(531,[.sl false 4 Pm,.agg Xo],[],.bool false,[])
def Ku:List Qq:=SI:: Kt
def SJ:Qq:=(531,[.sl false 4 Pm,.agg YV],[],.bool false,[])
def Kv:List Qq:=SJ:: Ku
def SL:Qq:=(531,[.sl false 4 Pm,.agg WU],[],.bool false,[])
def Kw:List Qq:=SL:: Kv
def SM:Qq:=(529,[.sl false 4 Pm,.sl false 4 Nv],[],.sl false 4 Pm,[])
def Kx:List Qq:=SM:: Kw
def SN:Qq:=(531,[.sl false 4 Nw,.agg WI],[],.bool false,[])
def Ky:List Qq:=SN:: Kx
def SO:Qq:=(531,[.sl false 4 Nw,.agg YV],[],.bool false,[])
def Kz:List Qq:=SO:: Ky
def SP:Qq:=(531,[.sl false 4 Nw,.agg WU],[],.bool true,[])
def KA:List Qq:=SP:: Kz
def SQ:Qq:=(531,[.sl false 4 K0,.agg WI],[],.bool false,[])
def KB:List Qq:=SQ:: KA
def SR:Qq:=(531,[.sl false 4 K0,.agg YV],[],.bool false,[])
def KC:List Qq:=SR:: KB
def SS:Qq:=(529,[.sl false 4 Nw,.sl false 4 Nv],[],.sl false 4 K0,[])
def KD:List Qq:=SS:: KC
def ST:Qq:=(605,[.sl false 4 UJ,.agg YV],[],.tup [.sl false 4 [],.int .i64 0],[])
def KE:List Qq:=ST:: KD
def SU:Qq:=(518,[.sl false 4 Sf,.sl false 4 [YV]],[],.tup [.sl false 4 Ny,.int .i64 0],[])
def KF:List Qq:=SU:: KE
def SV:Qq:=(531,[.sl false 4 Sf,.agg Xo],[],.bool false,[])
def KH:List Qq:=SV:: KF
def SW:Qq:=(531,[.sl false 4 Sf,.agg YV],[],.bool false,[])
def KI:List Qq:=SW:: KH
def SX:Qq:=(529,[.sl false 4 Sf,.sl false 4 Ny],[],.sl false 4 Sf,[])
def KJ:List Qq:=SX:: KI
def SZ:Qq:=(531,[.sl false 4 [Xo,Nx],.agg YV],[],.bool true,[])
def KL:List Qq:=SZ:: KJ
def S0:Qq:=(529,[.sl false 4 [Xo,Nx],.sl false 4 Ny],[],.sl false 4 Ny,[])
def KN:List Qq:=S0:: KL
def S1:Qq:=(605,[.sl false 4 Sf,.agg YV],[],.tup [.sl false 4 [Xo],.int .i64 0],[])
def KO:List Qq:=S1:: KN
def S2:Qq:=(518,[.sl false 4 [UI,Wx],.sl false 4 [Vb]],[],.tup [.sl false 4 K1,.int .i64 0],[])
def KP:List Qq:=S2:: KO
def S3:Qq:=(531,[.sl false 4 [Wx,UI],.agg Vb],[],.bool true,[])
def KQ:List Qq:=S3:: KP
def S5:Qq:=(529,[.sl false 4 [Wx,UI],.sl false 4 K1],[],.sl false 4 K1,[])
def KR:List Qq:=S5:: KQ
def S6:Qq:=(603,[.str Dl,.sl false 1 [[.str [109,117,108,40,120,58,110,111,110,99,101,44,32,121,58,110,111,110,99,101,41]],Di]],[],.bool true,[])
def KS:List Qq:=S6:: KR
def S7:Qq:=(518,[.sl false 4 [NA,Pn],.sl false 4 [Nz]],[],.tup [.sl false 4 K2,.int .i64 0],[])
def KT:List Qq:=S7:: KS
def S8:Qq:=(531,[.sl false 4 [Pn,NA],.agg Nz],[],.bool true,[])
def KU:List Qq:=S8:: KT
def S9:Qq:=(529,[.sl false 4 [Pn,NA],.sl false 4 K2],[],.sl false 4 K2,[])
def KV:List Qq:=S9:: KU
def Ra:Qq:=(603,[.str [97,58,97,110,121],.sl false 1 [[.str [120,111,114,40,97,58,97,110,121,44,32,98,58,97,110,121,41]],[.str [98,58,97,110,121]]]],[],.bool true,[])
def Df:List Qq:=Ra:: KV
end Go.Am
