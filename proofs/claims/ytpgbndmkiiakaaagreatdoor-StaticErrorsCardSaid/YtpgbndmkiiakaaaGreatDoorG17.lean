/-
  Rc12, Rc13, Rc14, Rc15.
-/
import Derived.Test.YtpgbndmkiiakaaaGreatDoorG16
set_option linter.unusedVariables false
set_option linter.unusedSimpArgs false
namespace Go.Am
set_option maxRecDepth 8000
def Qw:Tm:= .mk 0 [] 0 []
theorem QE:Qa Qw=[.int .i64 0,.str [],.int .i64 0,.sl false 4 []]:=by simp[Qw,Qa,encTs]
def tmX:List Tm→Tm
 | []=> .mk 3 Zy 0 []
 | [p]=>p
 | p:: q:: r=> .mk 3 XOR 0 (p:: q:: r)
def WQ (l:List Tm):Tm×Int:=if WG l≠0 then(Qw,WG l)else if QF (tmX (sumL [] l))≠0 then(Qw,3)else(tmX (sumL [] l),0)
def QS (r:Tm×Int):AV:= .tup [.agg (Qa r.1),.int .i64 r.2]
theorem Jn (t:Tm): ∀l:List Tm,massL (Zr t l)≤massL l+t.mass
 | []=>by simp[Zr,massL]
 | x:: xs=>by
  have:=Jn t xs;simp only[Zr];split
  ·simp only[massL];omega
  ·split
   ·simp only[massL];omega
   ·simp only[massL];omega
theorem Qaw (l:List Tm) (t:Tm):massL (WR l t)≤massL l+t.mass:=by
 unfold WR;split
 ·have: ∀(l:List Tm) (p:Tm→Bool),massL (l.filter p)≤massL l:=by
   intro l p
   induction l with
   | nil=>simp
   | cons x xs ih=>
    rw[List.filter_cons];split <;> simp only[massL] <;> omega
  have:=this l (fun x=> !decide (Qm x t=0));omega
 ·exact Jn t l
theorem LY: ∀(b a:List Tm),massL (Yx a b)≤massL a+massL b
 | [],a=>by simp[Yx,massL]
 | x:: b,a=>by
  have h1:=LY b (WR a x);have h2:=Qaw a x;simp only[Yx,List.foldl_cons,massL]at *;omega
mutual
theorem Qav: ∀t:Tm,massL (ZB t)≤t.mass
 | .mk k n s ks=>by
  simp only[ZB];split
  ·simp[massL]
  ·split
   ·have:=massL_sumL ks [];simp only[massL,Tm.mass]at *;omega
   ·simp[massL]
theorem massL_sumL: ∀(ts acc:List Tm),massL (sumL acc ts)≤massL acc+massL ts
 | [],acc=>by simp[sumL,massL]
 | t:: ts,acc=>by
  have h1:=massL_sumL ts (Yx acc (ZB t));have h2:=LY (ZB t) acc;have h3:=Qav t;simp only[sumL,massL]at *;omega
end
theorem Dx (l:List Tm): (tmX l).mass≤10+l.length+massL l:=by
 unfold tmX;split
 ·simp[Tm.mass,massL,Zy]
 ·simp[massL]
 ·simp[Tm.mass,massL,XOR]
theorem Qe4 (l:List Tm) (bs:List (List AV)) (hm:massL l < 20000000) (hl:l.length < 20000000) (k:Kn)
  (hk0: ∀(o:Bool) (ρ:Nat→AV),ρ 2= .bx [.int .i64 0,.str [],.int .i64 0,.sl true 4 []]→ρ 5= .sl o 4 (encTs (sumL [] l))→R F.tb F.f178r0 ρ bs (Qt F.f178 bs)=some (QS (WQ l),bs)):
  ∀(post pre acc:List Tm) (o:Bool) (ρ:Nat→AV),l=pre ++ post→sumL acc post=sumL [] l→acc.length+nodesL post < 25000000→Asc acc→(∀x∈acc,x.mass < big)→ρ 2= .bx [.int .i64 0,.str [],.int .i64 0,.sl true 4 []]→ρ 5= .sl o 4 (encTs acc)→ρ 15= .sl false 4 (encTs l)→ρ 16= .int .i64 l.length→ρ 17= .int .i64 pre.length→
  R F.tb (.loop F.f178l0) ρ bs (Ql 0 (Qr F.tb F.f178r0 (Qt F.f178 bs)))=some (QS (WQ l),bs):=by
 intro post
 induction post with
 | nil=>
  intro pre acc o ρ hk he ha has hma h2 h5 h15 h16 h17;simp only[List.append_nil]at hk;rw[← hk]at h17;simp only[sumL]at he;subst he;rw[Qc F.f178l0.eq_1];simp[h5,h15,h16,h17];refine hk0 o _ ?_ ?_ <;> simp[h2,h5]
 | cons x post IH=>
  intro pre acc o ρ hk he ha has hma h2 h5 h15 h16 h17;have hg:=Qp hk;have hll:=Qx hk;have hw1:=wr1 pre.length (by omega);have hlt:=Qy hk;have hxl:x∈l:=by rw[hk];simp
  have hxm:=QD hxl;have hxn:=Zm x;have hsl:=Rs x;simp only[nodesL]at ha;obtain⟨o1,hc1⟩:=HT x bs (by omega);have hsm: ∀y∈ZB x,y.mass < big:=fun y hy=>by have:=X4 x y (Rt x y hy);unfold big;omega
  obtain⟨o2,hc2⟩:=I4 acc (ZB x) false false bs (by omega) hma hsm;rw[Dc has (Um x)]at hc2;have hpl:=VM (ZB x) acc;have hpm: ∀y∈Yx acc (ZB x),y.mass < big:=fun y hy=>by
   rcases VI (Um x) hy with h | h
   ·exact hma y h
   ·exact hsm y h
  have i2:=fun ρ=>IH (pre ++ [x]) (Yx acc (ZB x)) o2 ρ (by rw[hk];simp) he (by omega) (TM _ _ has) hpm;rw[Qc F.f178l0.eq_1];simp[h5,h15,h16,h17,hg,hlt,hw1,QO,hc1,hc2];refine i2 _ ?_ ?_ ?_ ?_ ?_ <;> simp[h2,h15,h16]
theorem Qff (l:List Tm) (o:Bool) (bs:List (List AV)) (hm:massL l < 20000000) (hl:l.length < 20000000):call F.tb 178 [.sl o 4 (encTs l)] bs=some (QS (WQ l),bs):=by
 have hr:=A3 l false true bs (by omega) (fun x hx=>by have:=QD hx;unfold big;omega);have hn:=nodesL_le_mass l;have hk0:WG l=0→∀(o:Bool) (ρ:Nat→AV),ρ 2= .bx [.int .i64 0,.str [],.int .i64 0,.sl true 4 []]→ρ 5= .sl o 4 (encTs (sumL [] l))→R F.tb F.f178r0 ρ bs (Qt F.f178 bs)=some (QS (WQ l),bs):=by
  intro hr0 o ρ h2 h5;have h1:=sumL_len l [];have h3:=massL_sumL l [];have h4:=Dx (sumL [] l);simp only[massL,List.length_nil,Nat.zero_add]at h1 h3;obtain⟨o3,ho⟩:=Qfg (sumL [] l) false bs (by omega) (fun x hx=>by have:=QD hx;omega);have hv:=XW (tmX (sumL [] l)) bs (by unfold big;omega);have es:WQ l=if QF (tmX (sumL [] l))≠0 then(Qw,3)else(tmX (sumL [] l),0):=by simp[WQ,hr0]
  rw[es];generalize sumL [] l=ps at *
  match ps with
  | []=>
   have e1:Qa (tmX [])=[.int .i64 3,.str Zy,.int .i64 0,.sl false 4 []]:=by simp[tmX,Qa,encTs]
   rw[e1]at hv;simp only[Zy]at hv e1;simp only[encTs]at ho h5;by_cases h:QF (tmX [])=0
   ·simp[F.f178r0,h5,ho,h2,hv,h,QS,e1]
   ·simp[F.f178r0,h5,ho,h2,hv,h,QS,QE]
  | [p]=>
   simp only[tmX]at hv ⊢;by_cases h:QF p=0
   ·simp[F.f178r0,h5,ho,h2,hv,h,QS,QO]
   ·simp[F.f178r0,h5,ho,h2,hv,h,QS,QE,QO]
  | p:: q:: r=>
   have e1:Qa (tmX (p:: q:: r))=[.int .i64 3,.str XOR,.int .i64 0,.sl false 4 (encTs (p:: q:: r))]:=by simp[tmX,Qa]
   rw[e1]at hv;simp only[XOR]at hv e1;have n1: ¬((r.length:Int)+1+1=0):=by omega
   have n2: ¬((r.length:Int)+1+1=1):=by omega
   by_cases h:QF (tmX (p:: q:: r))=0
   ·simp[F.f178r0,h5,ho,h2,hv,h,n1,n2,QS,e1]
   ·simp[F.f178r0,h5,ho,h2,hv,h,n1,n2,QS,QE]
 rw[Qb F.tb_178 _ _ rfl];by_cases h0:WG l=0
 ·have h:=fun ρ=>Qe4 l bs hm hl (Qt F.f178 bs) (hk0 h0) l [] [] true ρ rfl rfl (by simp;omega) Asc.nil (by simp);simp[F.f178C,hr,h0];refine h _ ?_ ?_ ?_ ?_ ?_ <;> simp[encTs]
 ·have hb: (WG l != 0)=true:=by simp[h0]
  simp[F.f178C,hr,h0,hb,WQ,QS,QE]
theorem AZ (bs:List (List AV)):call F.tb 245 [] bs=some (.agg (Qa (.mk 3 Zy 0 [])),bs):=by
 have h:=I3 Zy [] true bs (by simp);simp only[Zy,encTs]at h;rw[Qb F.tb_245 _ _ rfl];simp[F.f245,F.f245C,h,Zy,QO]
theorem DO (l:List Tm) (o:Bool) (bs:List (List AV)) (hl:l.length < 100000000):call F.tb 251 [.sl o 4 (encTs l)] bs=some (.agg (Qa (tmX l)),bs):=by
 have h:=I3 Zy [] true bs (by simp);simp only[Zy,encTs]at h;rw[Qb F.tb_251 _ _ rfl]
 match l with
 | []=>simp[F.f251C,h,Zy,QO,tmX]
 | [p]=>simp[F.f251C,QO,tmX]
 | p:: q:: r=>
  have n1: ¬((r.length:Int)+1+1=0):=by omega
  have n2: ¬((r.length:Int)+1+1=1):=by omega
  have hb: (r.length+1+1)*56≤140737488355328:=Yi (by simp at hl;omega);simp[F.f251C,n1,n2,hb,tmX,Qa,XOR]
theorem Gf (l:List Tm) (t:Tm) (bs:List (List AV)) (hl:l.length < 100000000) (hm: ∀x∈l,x.mass < big) (ht:t.mass < big): ∀(post pre:List Tm) (ρ:Nat→AV),l=pre ++ post→ρ 0= .sl false 4 (encTs l)→ρ 3= .bx (Qa t)→ρ 5= .int .i64 pre.length→
  R F.tb (.loop F.f246l0) ρ bs (Ql 0 (Qr F.tb F.f246r0 (Qt F.f246 bs)))=some (.int .i64 (if Vv post≠0 then Vv post else QF t),bs):=by
 intro post
 induction post with
 | nil=>
  intro pre ρ hk h0 h3 h5;simp only[List.append_nil]at hk;rw[← hk]at h5;have hc:=YQ t bs ht;rw[Qc F.f246l0.eq_1];simp[h0,h3,h5,F.f246r0,Vv,QO,hc]
 | cons x post IH=>
  intro pre ρ hk h0 h3 h5;have hg:=Qp hk;have hll:=Qx hk;have hw1:=wr1 pre.length (by omega);have hlt:=Qy hk;have hc:=YQ x bs (hm x (by rw[hk];simp));rw[Qc F.f246l0.eq_1];by_cases hv:QF x=0
  ·simp only[Vv,hv,ne_eq,not_true_eq_false,if_false];simp[h0,h3,h5,hg,hlt,hw1,QO,hc,hv];have:=fun ρ=>IH (pre ++ [x]) ρ (by rw[hk];simp);simp only[ne_eq]at this;rw[this] <;> simp[h0,h3]
  ·simp[h0,h3,h5,hg,hlt,hw1,QO,hc,hv,Vv]
theorem Qa4:QF (.mk 3 Zy 0 [])=0:=by decide
theorem F8 (l:List Tm) (o:Bool) (bs:List (List AV)) (hl:l.length < 100000000) (hm: ∀x∈l,x.mass < big):call F.tb 246 [.sl o 4 (encTs l),.agg (Qa (.mk 3 Zy 0 []))] bs=some (.int .i64 (WG l),bs):=by
 have h:=fun ρ=>Gf l (.mk 3 Zy 0 []) bs hl hm (by simp[Tm.mass,massL,Zy,big]) l [] ρ rfl;rw[Qa4]at h;have e: (if Vv l≠0 then Vv l else 0)=Vv l:=by split <;> simp_all
 rw[e]at h;rw[Qb F.tb_246 _ _ rfl];by_cases h2:200 < l.length
 ·have h2': (200:Int) < (l.length:Int):=by omega
  simp[F.f246C,h2',h2,WG]
 ·have h2': ¬(200:Int) < (l.length:Int):=by omega
  simp[F.f246C,h2',h2,WG];refine h _ ?_ ?_ ?_ <;> simp
theorem At (l:List Tm) (bs:List (List AV)) (hm:massL l < 20000000) (hl:l.length < 20000000)
  (hk0: ∀(o:Bool) (ρ:Nat→AV),ρ 2= .bx [.int .i64 0,.str [],.int .i64 0,.sl true 4 []]→ρ 5= .sl o 4 (encTs (sumL [] l))→R F.tb F.f244r0 ρ bs (Qt F.f244 bs)=some (QS (WQ l),bs)):
  ∀(post pre acc:List Tm) (o:Bool) (ρ:Nat→AV),l=pre ++ post→sumL acc post=sumL [] l→acc.length+nodesL post < 25000000→(∀x∈acc,x.mass < big)→ρ 0= .sl false 4 (encTs l)→ρ 2= .bx [.int .i64 0,.str [],.int .i64 0,.sl true 4 []]→ρ 5= .sl o 4 (encTs acc)→ρ 6= .int .i64 pre.length→
  R F.tb (.loop F.f244l0) ρ bs (Ql 0 (Qr F.tb F.f244r0 (Qt F.f244 bs)))=some (QS (WQ l),bs):=by
 intro post
 induction post with
 | nil=>
  intro pre acc o ρ hk he ha hma h0 h2 h5 h6;simp only[List.append_nil]at hk;rw[← hk]at h6;simp only[sumL]at he;subst he;rw[Qc F.f244l0.eq_1];simp[h0,h5,h6];refine hk0 o _ ?_ ?_ <;> simp[h2,h5]
 | cons x post IH=>
  intro pre acc o ρ hk he ha hma h0 h2 h5 h6;have hg:=Qp hk;have hll:=Qx hk;have hw1:=wr1 pre.length (by omega);have hlt:=Qy hk;have hxl:x∈l:=by rw[hk];simp
  have hxm:=QD hxl;have hxn:=Zm x;have hsl:=Rs x;simp only[nodesL]at ha;obtain⟨o1,hc1⟩:=Iv x bs (by omega);have hsm: ∀y∈ZB x,y.mass < big:=fun y hy=>by have:=X4 x y (Rt x y hy);unfold big;omega
  have hc2:=KX acc (ZB x) false false bs (by omega) (by omega) hma hsm;have hpl:=VM (ZB x) acc;have hpm: ∀y∈Yx acc (ZB x),y.mass < big:=fun y hy=>by
   rcases VI (Um x) hy with h | h
   ·exact hma y h
   ·exact hsm y h
  have i2:=fun ρ=>IH (pre ++ [x]) (Yx acc (ZB x)) false ρ (by rw[hk];simp) he (by omega) hpm;rw[Qc F.f244l0.eq_1];simp[h0,h5,h6,hg,hlt,hw1,QO,hc1,hc2];refine i2 _ ?_ ?_ ?_ ?_ <;> simp[h0,h2]
theorem AU (l:List Tm) (o:Bool) (bs:List (List AV)) (hm:massL l < 20000000) (hl:l.length < 20000000):call F.tb 244 [.sl o 4 (encTs l)] bs=some (QS (WQ l),bs):=by
 have hr:=F8 l false bs (by omega) (fun x hx=>by have:=QD hx;unfold big;omega);have hz:=AZ bs;have hn:=nodesL_le_mass l;have hk0:WG l=0→∀(o:Bool) (ρ:Nat→AV),ρ 2= .bx [.int .i64 0,.str [],.int .i64 0,.sl true 4 []]→ρ 5= .sl o 4 (encTs (sumL [] l))→R F.tb F.f244r0 ρ bs (Qt F.f244 bs)=some (QS (WQ l),bs):=by
  intro hr0 o ρ h2 h5;have h1:=sumL_len l [];have h3:=massL_sumL l [];have h4:=Dx (sumL [] l);simp only[massL,List.length_nil,Nat.zero_add]at h1 h3;have ht:=DO (sumL [] l) false bs (by omega);have hv:=YQ (tmX (sumL [] l)) bs (by unfold big;omega);have es:WQ l=if QF (tmX (sumL [] l))≠0 then(Qw,3)else(tmX (sumL [] l),0):=by simp[WQ,hr0]
  rw[es];generalize tmX (sumL [] l)=u at *;generalize sumL [] l=ps at *;by_cases h:QF u=0
  ·simp[F.f244r0,h5,ht,h2,hv,h,QS,QO]
  ·simp[F.f244r0,h5,ht,h2,hv,h,QS,QE,QO]
 rw[Qb F.tb_244 _ _ rfl];by_cases h0:WG l=0
 ·have h:=fun ρ=>At l bs hm hl (hk0 h0) l [] [] true ρ rfl rfl (by simp;omega) (by simp);simp[F.f244C,hz,hr,h0];refine h _ ?_ ?_ ?_ ?_ <;> simp[encTs]
 ·have hb: (WG l != 0)=true:=by simp[h0]
  simp[F.f244C,hz,hr,h0,hb,WQ,QS,QE]
theorem Cn (t:Tm) (hm:t.mass < big) (hne:t.kids≠[]) (ih: ∀x∈t.kids,∀bs,call F.tb 192 [.agg (Qa x)] bs=some (.agg (Qa x),bs)) (B:List (List AV)):
  ∀(post pre:List Tm) (ρ:Nat→AV),t.kids=pre ++ post→ρ 1= .bx [.int .i64 t.kind,.str t.name,.int .i64 t.sort,.gs B.length 0 4 t.kids.length]→ρ 2= .bx [.int .i64 0,.str [],.int .i64 0,.sl true 4 []]→
   ρ 10= .gs B.length 0 4 t.kids.length→ρ 11= .int .i64 t.kids.length→ρ 12= .int .i64 pre.length→
  R F.tb (.loop F.f192l0) ρ (B ++ [Qu t.kids]) (Ql 0 (Qr F.tb F.f192r0 (Qt F.f192 B)))=some (.agg (Qa t),B):=by
 have hm2:=Qo t;unfold big at hm;have es: ∀x y:List AV,(B ++ [x]).set B.length y=B ++ [y]:=fun x y=>by rw[List.set_append];simp
 have eg: ∀x:List AV,(B ++ [x])[B.length]? =some x:=fun x=>List.getElem?_concat_length;have hlen: (Qu t.kids).length=t.kids.length*4:=Z2 QR _;have hst: (Qu t.kids).map AV.strip=Qu t.kids:=Z6 Zu _;intro post
 induction post with
 | nil=>
  intro pre ρ hk h1 h2 h10 h11 h12;simp only[List.append_nil]at hk;rw[← hk]at h12;have hch:Yc (Qu t.kids) 0 4 t.kids.length=encTs t.kids:=by
   have:=XH (f:=Qa) (k:=4) QR Zu t.kids [];rw[Ut,List.append_nil]at this;exact this
  have hz: ¬t.kids.length=0:=fun e=>hne (List.eq_nil_of_length_eq_zero e);rw[Qc F.f192l0.eq_1];simp[h1,h2,h10,h11,h12,F.f192r0,hz,hne,hlen,hch,es,eg,WC,Tm.eta]
 | cons x post IH=>
  intro pre ρ hk h1 h2 h10 h11 h12;have hl:=Qx hk;have hw1:=wr1 pre.length (by omega);have hlt:=Qy hk;have hlt':pre.length < t.kids.length:=by omega
  have r1: ((Qu t.kids).drop (pre.length*4)).take 4=Qa x:=by
   have:=Ue (f:=Qa) (k:=4) QR hk [];simpa using this
  have hput: (Qu t.kids).take (pre.length*4)++ (Qa x ++ (Qu t.kids).drop (pre.length*4+4))=Qu t.kids:=by
   have:=O8 (f:=Qa) (k:=4) QR x hk [];rw[← hk]at this;simpa using this
  have hle:pre.length*4+4≤t.kids.length*4:=by omega
  have hc:=ih x (by rw[hk];simp);have h2':=IH (pre ++ [x]);rw[Qc F.f192l0.eq_1];generalize Qu t.kids=c at *;simp[h1,h2,h10,h11,h12,hw1,hlt,hlt',eg,es,hlen,hle,hst,r1,hc,hput];refine h2' _ (by rw[hk];simp) ?_ ?_ ?_ ?_ ?_ <;> simp[h1,h2,h10,h11]
theorem Tx: ∀(t:Tm) (bs:List (List AV)),t.mass < big→call F.tb 192 [.agg (Qa t)] bs=some (.agg (Qa t),bs):=by
 refine Zp ?_;intro k n s ks ih bs hm;have hme:=Qo (.mk k n s ks);simp only[QN,Q5]at hme;have hb:ks.length*56≤140737488355328:=by unfold big at hm;omega
 rw[Qb F.tb_192 _ _ rfl];have ho:call F.tb 193 [.sl false 4 (encTs ks)] bs=if ks.length=0 then some (.gs 0 0 0 0,bs)else some (.gs bs.length 0 4 ks.length,bs ++ [Qu ks]):=by
  have hst: (Qu ks).map AV.strip=Qu ks:=Z6 Zu _;rw[Xv F.tb_193];simp only[Ua,if_true,UQ,XM,hb,encTs_gp,T3,hst]
 by_cases hk:ks=[]
 ·subst hk;simp[F.f192C,Qg,encTs]at ho ⊢;simp[ho];rw[Qc F.f192l0.eq_1];simp[F.f192r0]
 ·have hz: ¬ks.length=0:=fun e=>hk (List.eq_nil_of_length_eq_zero e);rw[if_neg hz]at ho;have hl:=fun ρ=>Cn (.mk k n s ks) hm hk (fun x hx bs=>ih x hx bs (by have:=QD (show x∈ks from hx);omega)) bs ks [] ρ rfl;simp only[YJ,Q5,Wu,QN]at hl;simp[F.f192C];simp[Qg,ho];have e:AV.agg [.int .i64 k,.str n,.int .i64 s,.sl false 4 (encTs ks)]= .agg (Qa (.mk k n s ks)):=by rw[Qg];rfl
  rw[e];refine hl _ ?_ ?_ ?_ ?_ ?_ <;> simp
abbrev Pw:=Tm×Int
def Q9 (p:Pw):List AV:=Qa p.1 ++ [.int .i64 p.2]
def QQ (l:List Pw):List (List AV):=l.map Q9
abbrev QT (l:List Pw):List AV:=ZP Q9 l
theorem BE (p:Pw):Q9 p=[.int .i64 p.1.kind,.str p.1.name,.int .i64 p.1.sort,.sl false 4 (encTs p.1.kids),.int .i64 p.2]:=by simp[Q9,Qg]
@[simp] theorem WN (p:Pw): (Q9 p).length=5:=by simp[Q9]
@[simp] theorem Vc (p:Pw): (Q9 p).map AV.strip=Q9 p:=by simp[Q9]
@[simp] theorem Qoa (p:Pw): (Q9 p).take 4=Qa p.1:=by simp[Q9]
@[simp] theorem Qob (p:Pw): (Q9 p).take 5=Q9 p:=List.take_of_length_le (by simp)
@[simp] theorem Qo8 (p:Pw): (Q9 p)[4]? =some (.int .i64 p.2):=by simp[Q9]
@[simp] theorem QoZ (p:Pw) (h:4 < (Q9 p).length): (Q9 p)[4]= .int .i64 p.2:=by simp[Q9]
@[simp] theorem Qn9 (p:Pw): (Q9 p).drop 5=[]:=by simp[Q9,List.drop_append]
@[simp] theorem Qjk (p:Pw):gpfreeL (Q9 p)=true:=by simp[Q9,R3]
@[simp] theorem Qop (l:List Pw): (QQ l).length=l.length:=by simp[QQ]
@[simp] theorem Qoo (l:List Pw) (i:Nat): (QQ l)[i]? =(l[i]?).map Q9:=by simp[QQ]
theorem Uw (a b:List Pw):QQ a ++ QQ b=QQ (a ++ b):=by simp[QQ]
theorem Ux (p:Pw): [Q9 p]=QQ [p]:=rfl
@[simp] theorem Kc: ∀l:List Pw,gpfreeE (QQ l)=true
 | []=>rfl
 | p:: l=>by
  have:=Kc l;simp only[QQ]at this ⊢;simp[gpfreeE,this]
theorem Xf (l:List Pw): (QT l).length=l.length*5:=Z2 WN l
theorem C7 (p:Pw) (t:Tm) (B:List (List AV)) (hp:p.1.mass < big) (ht:t.mass < big):call F.tb 190 [.agg (Q9 p),.agg (Qa t)] B=some (.int .i64 (Qm p.1 t),B):=by
 have h:=call_Compare p.1 t B hp ht;rw[Qb F.tb_190 _ _ rfl];simp[F.f190,F.f190C,h]
def Wm (l:List Pw):List Tm:=l.map (·.1)
def PAt (l:List Pw) (t:Tm) (k:Nat):Prop:=k≤l.length∧(∀(i:Nat) (p:Pw),l[i]? =some p→i < k→Qm p.1 t < 0)∧(∀(i:Nat) (p:Pw),l[i]? =some p→k≤i→¬Qm p.1 t < 0)
def hit (l:List Pw) (t:Tm) (k:Nat):Bool:=match l[k]? with
 | some p=>decide (Qm p.1 t=0)
 | none=>false
def QkP (l:List Pw) (t:Tm) (B:List (List AV)) (r:Out):Prop:=∃k,PAt l t k∧r=some (.tup [.int .i64 k,.bool (hit l t k)],B)
theorem IP {l:List Pw} {i:Nat} {p:Pw} {c:List AV} (h: (c.drop (i*5)).take 5=Q9 p): ((c.map AV.strip).drop (i*5)).take 5=Q9 p:=by
 rw[← List.map_drop,← List.map_take,h,Vc]
theorem MV {l:List Pw} {i:Nat} {p:Pw} (h:l[i]? =some p) (c:List AV): ((QT l ++ c).drop (i*5)).take 5=Q9 p:=by
 obtain⟨hi,rfl⟩:=List.getElem?_eq_some_iff.1 h;have hl:l=l.take i ++ l[i]:: l.drop (i+1):=by rw[List.getElem_cons_drop,List.take_append_drop]
 have:=Ue (f:=Q9) (k:=5) WN hl c;rw[List.length_take,Nat.min_eq_left (by omega)]at this;exact this
theorem Qm6 {i j:Nat} (h:i+j < 9223372036854775808):IntKind.i64.wrap (IntKind.u64.wrap (IntKind.i64.wrap ((i:Int)+ (j:Int))) / 2 ^ min 1 IntKind.u64.bits)=(((i+j) / 2:Nat):Int):=by
 rw[ZG (n:=(i:Int)+j) (by omega) (by omega)];have h1:IntKind.u64.wrap ((i:Int)+j)=(i:Int)+j:=by
  simp[IntKind.wrap,IntKind.bits,IntKind.signed];omega
 have h2: (2:Int) ^ min 1 IntKind.u64.bits=2:=by decide
 rw[h1,h2,ZG (by omega) (by omega)];omega
theorem Qf9 {l:List Pw} {t:Tm} {B:List (List AV)} {id sz:Nat} {c:List AV} (hl:l.length < 100000000) (hb:l≠[]→sz=5∧B[id]? =some (QT l ++ c)) (hm: ∀p∈l,p.1.mass < big) (ht:t.mass < big) (ha:Asc (Wm l)):
  ∀(d i j:Nat) (ρ:Nat→AV),j - i≤d→i≤j→j≤l.length→(∀(k:Nat) (p:Pw),l[k]? =some p→k < i→Qm p.1 t < 0)→(∀(k:Nat) (p:Pw),l[k]? =some p→j≤k→¬Qm p.1 t < 0)→
  ρ 0= .gs id 0 sz l.length→ρ 4= .bx (Qa t)→ρ 2= .fn 190 []→ρ 8= .int .i64 l.length→ρ 9= .int .i64 i→ρ 10= .int .i64 j→
  QkP l t B (R F.tb (.loop F.f191l0) ρ B (Ql 0 (Qr F.tb F.f191r0 (Qt F.f191 B)))):=by
 have mono: ∀(i j:Nat) (p q:Pw),l[i]? =some p→l[j]? =some q→i≤j→Qm q.1 t < 0→Qm p.1 t < 0:=by
  intro i j p q hp hq hij h;rcases Nat.lt_or_ge i j with hlt | hge
  ·obtain⟨h1,rfl⟩:=List.getElem?_eq_some_iff.1 hp;obtain⟨h2,rfl⟩:=List.getElem?_eq_some_iff.1 hq;have:=List.pairwise_iff_getElem.1 ha i j (by simpa[Wm]using h1) (by simpa[Wm]using h2) hlt;simp only[Wm,List.getElem_map]at this;exact YD this h
  ·have:i=j:=by omega
   subst this;rw[hp]at hq;injection hq with hq;subst hq;exact h
 intro d
 induction d with
 | zero=>
  intro i j ρ hd hij hj hlo hhi h0 h4 h2 h8 h9 h10;have:i=j:=by omega
  subst this;refine⟨i,⟨hj,hlo,hhi⟩,?_⟩;rw[Qc F.f191l0.eq_1];by_cases c1:i < l.length
  ·have hp:=List.getElem?_eq_getElem c1;obtain⟨rfl,hbx⟩:=hb (by intro e;subst e;simp at c1);have r1:=IP (l:=l) (MV hp c);have hmp:=hm _ (List.getElem_mem c1);have hle:i*5+5≤(QT l ++ c).length:=by rw[List.length_append,Xf];omega
   have c1': (i:Int) < (l.length:Int):=by omega
   have hh:hit l t i=decide (Qm l[i].1 t=0):=by simp[hit,hp]
   rw[hh];generalize l[i]=p at *;have h3:=C7 p t B hmp ht;generalize QT l ++ c=cc at *;simp[F.f191r0,h0,h2,h4,h8,h9,h10,c1,c1',hbx,hle,r1,h3]
  ·have hh:hit l t i=false:=by simp[hit,List.getElem?_eq_none (Nat.le_of_not_lt c1)]
   have c1': ¬(i:Int) < (l.length:Int):=by omega
   simp[F.f191r0,h0,h2,h4,h8,h9,h10,c1,c1',hh]
 | succ d IH=>
  intro i j ρ hd hij hj hlo hhi h0 h4 h2 h8 h9 h10;by_cases hlt:i < j
  ·have hmn: (i+j) / 2 < l.length:=by omega
   have hw:=Qm6 (i:=i) (j:=j) (by omega);have hp:=List.getElem?_eq_getElem hmn;obtain⟨rfl,hbx⟩:=hb (by intro e;subst e;simp at hmn);have r1:=IP (l:=l) (MV hp c);have hmp:=hm _ (List.getElem_mem hmn);have hle: (i+j) / 2*5+5≤(QT l ++ c).length:=by rw[List.length_append,Xf];omega
   have hltI: (i:Int) < (j:Int):=by omega
   have hb1:i≤(i+j) / 2:=by omega
   have hb2: (i+j) / 2 < j:=by omega
   generalize l[(i+j) / 2]=p at *;generalize hmm: (i+j) / 2=m at *;have h3:=C7 p t B hmp ht;have hw1:IntKind.i64.wrap ((m:Int)+1)=((m+1:Nat):Int):=by rw[ZG (by omega) (by omega)];omega
   have c1': (m:Int) < (l.length:Int):=by omega
   generalize hcc:QT l ++ c=cc at *;rw[Qc F.f191l0.eq_1];by_cases cc1:Qm p.1 t < 0
   ·have ih:=fun ρ=>IH (m+1) j ρ (by omega) (by omega) hj (fun k q hq hk=>mono k m q p hq hp (by omega) cc1) hhi;simp[-getElem?_pos,h0,h2,h4,h8,h9,h10,hltI,hw,hw1,c1',hmn,hbx,hle,r1,h3,cc1];refine ih _ ?_ ?_ ?_ ?_ ?_ ?_ <;> simp[h0,h2,h4,h8,h10]
   ·have ih:=fun ρ=>IH i m ρ (by omega) (by omega) (by omega) hlo (fun k q hq hk h=>cc1 (mono m k p q hp hq hk h));simp[-getElem?_pos,h0,h2,h4,h8,h9,h10,hltI,hw,hw1,c1',hmn,hbx,hle,r1,h3,cc1];refine ih _ ?_ ?_ ?_ ?_ ?_ ?_ <;> simp[h0,h2,h4,h8,h9]
  ·exact IH i j ρ (by omega) hij hj hlo hhi h0 h4 h2 h8 h9 h10
theorem Qh9 {l:List Pw} {t:Tm} {B:List (List AV)} {id sz:Nat} {c:List AV} (hl:l.length < 100000000) (hb:l≠[]→sz=5∧B[id]? =some (QT l ++ c)) (hm: ∀p∈l,p.1.mass < big) (ht:t.mass < big) (ha:Asc (Wm l)):
  QkP l t B (call F.tb 191 [.gs id 0 sz l.length,.agg (Qa t),.fn 190 []] B):=by
 have h:=fun ρ=>Qf9 hl hb hm ht ha l.length 0 l.length ρ (by omega) (by omega) (by omega) (fun k p _ hk=>by omega) (fun k p hp hk=>by rw[List.getElem?_eq_none hk]at hp;cases hp);rw[Qb F.tb_191 _ _ rfl];simp[F.f191C];refine h _ ?_ ?_ ?_ ?_ ?_ ?_ <;> simp
@[simp] theorem Qad (t:Tm): (Qa t).drop 5=[]:=by simp[Qg]
def QkF (l:List Pw) (id:Nat) (B:List (List AV)) (r:Out):Prop:=∃t,t≠[]∧r=some (.gs id 0 5 l.length,B.set id (QT l ++ t))
theorem Qia {pre post:List Pw} {p:Pw} {id n:Nat} {B:List (List AV)} {t:List AV} (hn:n=pre.length+1+post.length) (hl:n < 100000000) (hb:B[id]? =some (QT (pre ++ p:: post)++ t)):
  QkF (pre ++ post) id B (call F.tb 195 [.gs id 0 5 n,.int .i64 pre.length,.int .i64 ((pre.length:Int)+1)] B):=by
 have hlt:=VG hb;have e1: (0:Int)≤(pre.length:Int):=by omega
 have e2: (pre.length:Int)≤(pre.length:Int)+1:=by omega
 have e3: (pre.length:Int)+1≤(n:Int):=by omega
 have e4: (0:Int)≤(pre.length:Int)+1:=by omega
 have e5: ¬(pre.length:Int)=(pre.length:Int)+1:=by omega
 have e6: (pre.length:Int)≤(n:Int):=by omega
 have e7: ((pre.length:Int)+1).toNat=pre.length+1:=by omega
 have e8:n - (pre.length+1)=post.length:=by omega
 have e9: (pre.length+post.length)=n - 1:=by omega
 have e10:n - (n - 1)=1:=by omega
 have e11: ((n - 1:Nat):Int)≤(n:Int):=by omega
 have hl0: (QT pre).length=pre.length*5:=Xf pre;have hp0: (QT post).length=post.length*5:=Xf post;have hst: (QT post).map AV.strip=QT post:=Z6 Vc post;have hrl: (QT (pre ++ p:: post)++ t).length=n*5+t.length:=by rw[List.length_append,Xf];simp;omega
 have htk:=NH (f:=Q9) (k:=5) WN (l:=pre ++ p:: post) (pre:=pre) (post:=p:: post) rfl t;have hdr:=Kx (f:=Q9) (k:=5) WN (l:=pre ++ p:: post) (pre:=pre ++ [p]) (post:=post) (by simp) t;rw[List.length_append,List.length_singleton]at hdr;have hne:QT (pre ++ p:: post)++ t≠[]:=by
  intro e;have:=congrArg List.length e;rw[hrl]at this;simp at this;omega
 have hb56:n*64≤140737488355328:=by omega
 have hb57:pre.length*64≤140737488355328:=by omega
 have hb58: (pre.length+post.length)*64≤140737488355328:=by omega
 have hq2: (n:Int)≤((QT (pre ++ p:: post)++ t).length:Int) / 5:=by rw[hrl];omega
 have e13:pre.length≤n:=by omega
 rw[Qb F.tb_195 _ _ rfl];generalize hcc:QT (pre ++ p:: post)++ t=c at *;by_cases hp:post=[]
 ·subst hp;have e8':n - (pre.length+1)=0:=by simpa using e8
  have e9':pre.length=n - 1:=by simpa using e9
  have e12:n - pre.length=1:=by omega
  have hle:pre.length*5+5≤c.length:=by omega
  refine⟨List.replicate 5 .undef ++ c.drop (pre.length*5+5),by simp,?_⟩;simp[-getElem?_pos,F.f195C,e1,e2,e3,e4,e5,e6,e7,e8',e12,e13,hb,hb57,hq2,hle,hne,htk,appM,Xp]
 ·have hz: ¬post.length=0:=fun e=>hp (List.eq_nil_of_length_eq_zero e);have hle: (pre.length+1)*5+post.length*5≤c.length:=by omega
  have hle2: (pre.length+post.length)*5≤c.length:=by omega
  have hle3:pre.length*5≤c.length:=by omega
  have htp: ((c.map AV.strip).drop ((pre.length+1)*5)).take (post.length*5)=QT post:=by
   rw[← List.map_drop,hdr,← hp0,List.map_append];change List.take (QT post).length (List.map AV.strip (QT post)++ List.map AV.strip t)=QT post;rw[hst,List.take_left]
  have e14: (pre.length:Int)+ (post.length:Int)≤(n:Int):=by omega
  have e15: (0:Int)≤(pre.length:Int)+ (post.length:Int):=by omega
  have e16:n - (pre.length+post.length)=1:=by omega
  have e17: ((pre.length:Int)+ (post.length:Int)).toNat=pre.length+post.length:=by omega
  have e18:pre.length+post.length≤n:=by omega
  have hgs: ∀x:List AV,(B.set id x)[id]? =some x:=fun x=>by simp[hlt]
  obtain⟨c1,hc1⟩: ∃c1,ZP Q9 pre ++ (QT post ++ c.drop (pre.length*5+post.length*5))=c1:=⟨_,rfl⟩;have hc1':c1=QT (pre ++ post)++ c.drop ((pre.length+post.length)*5):=by rw[← hc1,show QT (pre ++ post)=QT pre ++ QT post from X9 _ _ _,Nat.add_mul];simp
  have hr1: (QT (pre ++ post)).length=(pre.length+post.length)*5:=by rw[Xf];simp
  have hl1:c1.length=c.length:=by rw[hc1',List.length_append,hr1,List.length_drop];omega
  have htk1:c1.take ((pre.length+post.length)*5)=QT (pre ++ post):=by rw[hc1',← hr1,List.take_left]
  have hle4: (pre.length+post.length)*5+5≤c1.length:=by omega
  rw[← hl1]at hq2;refine⟨List.replicate 5 .undef ++ c1.drop ((pre.length+post.length)*5+5),by simp,?_⟩;rw[hl1]at hq2;have hq3: (n:Int)≤(c1.length:Int) / 5:=by rw[hl1];exact hq2
  simp[-getElem?_pos,F.f195C,e1,e2,e3,e4,e5,e6,e7,e8,e14,e15,e16,e17,e18,hp,hb,hb57,hb58,hq2,hq3,hle,hle2,hle3,hle4,hne,htk,htk1,htp,hp0,hgs,hc1,appM,Xp]
def Yz:List Pw→Tm→Int→List Pw
 | [],t,n=>[(t,n)]
 | p:: r,t,n=>if Qm p.1 t < 0 then p:: Yz r t n else if Qm p.1 t=0 then(if p.2+n=0 then r else(p.1,p.2+n):: r)else(t,n):: p:: r
theorem FT: ∀(pre post:List Pw) (t:Tm) (n:Int),(∀p∈pre,Qm p.1 t < 0)→Yz (pre ++ post) t n=pre ++ Yz post t n
 | [],_,_,_,_=>rfl
 | p:: pre,post,t,n,h=>by
  simp only[List.cons_append,Yz];rw[if_pos (h p (by simp)),FT pre post t n fun q hq=>h q (by simp[hq])]
def PS (B0 B:List (List AV)) (v:AV) (l:List Pw):Prop:=∃(M:List (List AV)) (id sz:Nat),B=B0 ++ M∧v= .gs id 0 sz l.length∧
 ((sz=0∧id=0∧l=[])∨(sz=5∧B0.length≤id∧∃t,B[id]? =some (QT l ++ t)∧QT l ++ t≠[]))
def Qe0 (B0:List (List AV)) (l:List Pw) (r:Out):Prop:=∃v B,r=some (v,B)∧PS B0 B v l
theorem Qd8 (B0:List (List AV)):PS B0 B0 (.gs 0 0 0 0) []:=⟨[],0,0,by simp,rfl,.inl ⟨rfl,rfl,rfl⟩⟩
theorem Y2 {B0 M:List (List AV)} {id:Nat} (h:B0.length≤id) (x:List AV): (B0 ++ M).set id x=B0 ++ M.set (id - B0.length) x:=by rw[List.set_append,if_neg (by omega)]
theorem C6 {B0 B:List (List AV)} {v:AV} {l:List Pw} {p:Pw} (h:PS B0 B v l) (hl:l.length < 50000000) (hm: ∀q∈l,q.1.mass < big∧ -100000000 < q.2∧q.2 < 100000000) (hp:p.1.mass < big) (hpn: -100000000 < p.2∧p.2 < 100000000) (ha:Asc (Wm l)):
  Qe0 B0 (Yz l p.1 p.2) (call F.tb 189 [v,.agg (Q9 p)] B):=by
 obtain⟨M,id,sz,rfl,rfl,hcase⟩:=h;have hb: ∃c,l≠[]→sz=5∧(B0 ++ M)[id]? =some (QT l ++ c):=by
  rcases hcase with⟨_,_,rfl⟩ | ⟨h1,_,t,h2,_⟩
  ·exact⟨[],fun h=>absurd rfl h⟩
  ·exact⟨t,fun _=>⟨h1,h2⟩⟩
 obtain⟨c,hb⟩:=hb;obtain⟨k,⟨hk1,hk2,hk3⟩,hc⟩:=Qh9 (t:=p.1) (by omega) hb (fun q hq=>(hm q hq).1) hp ha;have hcl:=Tx p.1 (B0 ++ M) hp;have hsplit:l=l.take k ++ l.drop k:=(List.take_append_drop _ _).symm;have hkl: (l.take k).length=k:=by rw[List.length_take];omega
 have hpre: ∀q∈l.take k,Qm q.1 p.1 < 0:=by
  intro q hq;obtain⟨i,hi,rfl⟩:=List.getElem_of_mem hq;rw[hkl]at hi;exact hk2 i _ (by rw[List.getElem_take];exact List.getElem?_eq_getElem (by omega)) hi
 have hadd:Yz l p.1 p.2=l.take k ++ Yz (l.drop k) p.1 p.2:=by
  conv=>lhs;rw[hsplit]
  exact FT _ _ _ _ hpre
 rw[Qb F.tb_189 _ _ rfl];by_cases hh:hit l p.1 k=true
 ·rw[hh]at hc;obtain⟨q,hq,hq0⟩: ∃q,l[k]? =some q∧Qm q.1 p.1=0:=by
   unfold hit at hh;split at hh
   ·rename_i q hq;exact⟨q,hq,by simpa using hh⟩
   ·cases hh
  have hkl2:k < l.length:=by
   rcases Nat.lt_or_ge k l.length with h | h
   ·exact h
   ·rw[List.getElem?_eq_none h]at hq;cases hq
  have hne0:l≠[]:=by intro e;subst e;simp at hkl2
  have hqe:q.1=p.1:=ZY _ _ hq0;have hdk:l.drop k=q:: l.drop (k+1):=by
   rw[List.drop_eq_getElem_cons hkl2];rw[List.getElem?_eq_getElem hkl2]at hq;injection hq with hq;rw[hq]
  have hlq:l=l.take k ++ q:: l.drop (k+1):=by rw[← hdk];exact hsplit
  have hadd2:Yz (l.drop k) p.1 p.2=if q.2+p.2=0 then l.drop (k+1)else(q.1,q.2+p.2):: l.drop (k+1):=by
   rw[hdk];simp[Yz,hq0]
  rw[hadd,hadd2];rcases hcase with⟨_,_,rfl⟩ | ⟨rfl,hid,t,hbx,hne⟩
  ·exact absurd rfl hne0
  have hlt:=VG hbx;have hqm:=(hm q (List.mem_of_getElem? hq)).2;have hw:IntKind.i64.wrap (q.2+p.2)=q.2+p.2:=ZG (by omega) (by omega);have hrd:=MV hq t;have hlen: (QT l ++ t).length=l.length*5+t.length:=by rw[List.length_append,Xf]
  have hcell: (QT l ++ t)[k*5+4]? =some (.int .i64 q.2):=by
   have h1: (((QT l ++ t).drop (k*5)).take 5)[4]? =some (.int .i64 q.2):=by rw[hrd];simp
   rw[List.getElem?_take_of_lt (by omega),List.getElem?_drop]at h1;exact h1
  have hle:k*5+4+1≤(QT l ++ t).length:=by omega
  have hnew: (QT l ++ t).take (k*5+4)++ (AV.int .i64 (q.2+p.2):: (QT l ++ t).drop (k*5+4+1))=QT (l.take k ++ (q.1,q.2+p.2):: l.drop (k+1))++ t:=by
   have h1:=O8 (f:=Q9) (k:=5) WN (q.1,q.2+p.2) hlq t;rw[hkl]at h1;rw[show QT (l.take k ++ (q.1,q.2+p.2):: l.drop (k+1))++ t=_ from h1.symm];have h2: (QT l ++ t).take (k*5+4)=(QT l ++ t).take (k*5)++ Qa q.1:=by
    rw[List.take_add];congr 1;have: ((QT l ++ t).drop (k*5)).take 4=(((QT l ++ t).drop (k*5)).take 5).take 4:=by rw[List.take_take];rfl
    rw[this];rw[hrd];simp
   rw[h2];simp[Q9]
  have hlt3: (k:Int) < (l.length:Int):=by omega
  have hgs: ∀x:List AV,((B0 ++ M).set id x)[id]? =some x:=fun x=>by
   have:id < (B0 ++ M).length:=hlt;rw[List.getElem?_set,if_pos rfl,if_pos this]
  have hcell2: (QT (l.take k ++ (q.1,q.2+p.2):: l.drop (k+1))++ t)[k*5+4]? =some (.int .i64 (q.2+p.2)):=by
   have h0: (l.take k ++ (q.1,q.2+p.2):: l.drop (k+1))[k]? =some (q.1,q.2+p.2):=by
    rw[List.getElem?_append_right (by omega),hkl,Nat.sub_self];rfl
   have h1: (((QT (l.take k ++ (q.1,q.2+p.2):: l.drop (k+1))++ t).drop (k*5)).take 5)[4]? =some (.int .i64 (q.2+p.2)):=by rw[MV h0 t];simp
   rw[List.getElem?_take_of_lt (by omega),List.getElem?_drop]at h1;exact h1
  have hln: (l.take k ++ (q.1,q.2+p.2):: l.drop (k+1)).length=l.length:=by simp;omega
  have hle2:k*5+4+1≤(QT (l.take k ++ (q.1,q.2+p.2):: l.drop (k+1))++ t).length:=by rw[List.length_append,Xf,hln];omega
  have hw2:IntKind.i64.wrap ((k:Int)+1)=(k:Int)+1:=ZG (by omega) (by omega);have hdel:=fun(x:Pw) (B:List (List AV)) (hB:B[id]? =some (QT (l.take k ++ x:: l.drop (k+1))++ t))=>Qia (n:=l.length) (by simp;omega) (by omega) hB;rw[hkl]at hdel;generalize hc1:QT (l.take k ++ (q.1,q.2+p.2):: l.drop (k+1))++ t=c1 at *;generalize hc0:QT l ++ t=c0 at *;by_cases hz:q.2+p.2=0
  ·obtain⟨t3,ht3,hd3⟩:=hdel (q.1,q.2+p.2) ((B0 ++ M).set id c1) (by rw[hc1];exact hgs c1);rw[if_pos hz];rw[List.set_set]at hd3;refine⟨.gs id 0 5 (l.take k ++ l.drop (k+1)).length,(B0 ++ M).set id (QT (l.take k ++ l.drop (k+1))++ t3),?_,M.set (id - B0.length) (QT (l.take k ++ l.drop (k+1))++ t3),id,5,Y2 hid _,rfl,.inr ⟨rfl,hid,t3,hgs _,by simp[ht3]⟩⟩;have hwz:IntKind.i64.wrap (q.2+p.2)=0:=by rw[hw,hz]
   rw[hz]at hnew hcell2;simp[-getElem?_pos,Ya,List.getElem?_cons_succ,F.f189C,hc,hlt3,hbx,hcell,hle,hwz,hw2,hnew,hgs,hcell2,hle2,hd3]
  ·rw[if_neg hz];refine⟨.gs id 0 5 l.length,(B0 ++ M).set id c1,?_,M.set (id - B0.length) c1,id,5,Y2 hid _,by rw[hln],.inr ⟨rfl,hid,t,by rw[hc1];exact hgs _,by rw[hc1];intro e;rw[e]at hle2;simp at hle2⟩⟩;simp[-getElem?_pos,Ya,List.getElem?_cons_succ,F.f189C,hc,hlt3,hbx,hcell,hle,hw,hw2,hnew,hgs,hcell2,hle2,hz]
 ·have hh':hit l p.1 k=false:=by simpa using hh
  have hadd2:Yz (l.drop k) p.1 p.2=p:: l.drop k:=by
   cases hd:l.drop k with
   | nil=>rfl
   | cons q r=>
    have hq:l[k]? =some q:=by rw[← List.head?_drop,hd];rfl
    have h1:=hk3 k q hq (Nat.le_refl _);have h2: ¬Qm q.1 p.1=0:=by simpa[hit,hq]using hh'
    simp[Yz,h1,h2]
  rw[hadd,hadd2];have hins: ∃t2 M2 id2,call F.tb 194 [.gs id 0 sz l.length,.int .i64 k,.sl false 5 [Q9 p]] (B0 ++ M)=some (.gs id2 0 5 (l.length+1),B0 ++ M2)∧B0.length≤id2∧(B0 ++ M2)[id2]? =some (QT (l.take k ++ p:: l.drop k)++ t2):=by
   rw[Xv F.tb_194];have q1: (0:Int)≤(k:Int):=by omega
   have q2: (k:Int)≤(l.length:Int):=by omega
   have q3: (l.length+1)*64≤140737488355328:=by omega
   have q4:l.length+1≤140737488355328:=by omega
   rcases hcase with⟨rfl,rfl,rfl⟩ | ⟨rfl,hid,t,hbx,hne⟩
   ·have hk0:k=0:=by simpa using hk1
    subst hk0;refine⟨[],M ++ [Q9 p],(B0 ++ M).length,?_,by simp,?_⟩
    ·simp[IG,Re,Kk]
    ·rw[← List.append_assoc,List.getElem?_concat_length];simp[QT,ZP]
   ·have hlt:=VG hbx;have hr0:=Xf l;have hle:l.length*5≤(QT l ++ t).length:=by rw[List.length_append,hr0];omega
    have hcs:Re k 5 l.length (QT l ++ t) [Q9 p]=QT (l.take k ++ p:: l.drop k):=by
     have h1: (QT l ++ t).take (l.length*5)=QT l:=by rw[← hr0,List.take_left]
     have h2:=NH (f:=Q9) (k:=5) WN (l:=l) (pre:=l.take k) (post:=l.drop k) hsplit [];have h3:=Kx (f:=Q9) (k:=5) WN (l:=l) (pre:=l.take k) (post:=l.drop k) hsplit [];rw[hkl,List.append_nil]at h2 h3;rw[List.append_nil]at h3;unfold Re;rw[h1,h2,h3,show QT (l.take k ++ p:: l.drop k)=QT (l.take k)++ (Q9 p ++ QT (l.drop k)) by simp[QT,X9,Uu]];rw[List.map_append,List.map_append,Z6 Vc,Z6 Vc];simp
    have hgp:gpfreeL (QT (l.take k ++ p:: l.drop k))=true:=Qeb Qjk _;refine⟨[],M.set (id - B0.length) []++ [QT (l.take k ++ p:: l.drop k)],(B0 ++ M).length,?_,by simp,?_⟩
    ·simp only[IG];rw[if_pos ⟨trivial,by omega,by simp,q1,q2,by simpa using q3,by simpa using q4⟩,if_neg (by omega),if_pos ⟨trivial,trivial⟩,hbx];simp only[Option.bind_some];rw[if_pos ⟨hne,hle⟩,Int.toNat_natCast,hcs,Y2 hid];simp[Kk,hgp]
    ·rw[← List.append_assoc,List.append_nil];have: (B0 ++ M).length=(B0 ++ M.set (id - B0.length) []).length:=by simp
     rw[this,List.getElem?_concat_length]
  obtain⟨t2,M2,id2,hc2,h2a,h2b⟩:=hins;refine⟨.gs id2 0 5 (l.length+1),B0 ++ M2,?_,M2,id2,5,rfl,?_,.inr ⟨rfl,h2a,t2,h2b,?_⟩⟩
  ·rw[hh']at hc;have hfold: [AV.int .i64 p.1.kind,.str p.1.name,.int .i64 p.1.sort,.sl false 4 (encTs p.1.kids),.int .i64 p.2]=Q9 p:=(BE p).symm;have hf:Qa p.1 ++ [.int .i64 p.2]=Q9 p:=rfl;simp[F.f189C,hc,hcl,List.take_append,List.drop_append,hf,Qad,hc2]
  ·congr 1;simp;omega
  ·intro e;have:=congrArg List.length e;rw[List.length_append,Xf]at this;simp at this
def MUL:List UInt8:=[109,117,108]
def INV:List UInt8:=[105,110,118]
def ONE:List UInt8:=[111,110,101]
def X2 (t:Tm):Bool:=decide (t.kind=3) && (t.name == MUL || t.name == INV || t.name == ONE)
theorem Dw {t:Tm} (h:X2 t=true):t.kind=3∧(t.name=MUL∨t.name=INV∨t.name=ONE):=by
 simp only[X2,Bool.and_eq_true,Bool.or_eq_true,decide_eq_true_eq,beq_iff_eq]at h;obtain⟨h1,(h2 | h2) | h2⟩:=h
 ·exact⟨h1,.inl h2⟩
 ·exact⟨h1,.inr (.inl h2)⟩
 ·exact⟨h1,.inr (.inr h2)⟩
theorem Mk (t:Tm) (bs:List (List AV)):call F.tb 188 [.agg (Qa t)] bs=some (.bool (X2 t),bs):=by
 rw[Qb F.tb_188 _ _ rfl];by_cases hk:t.kind=3
 ·cases h1:t.name == MUL
  ·cases h2:t.name == INV
   ·cases h3:t.name == ONE <;> simp only[MUL,INV,ONE]at h1 h2 h3 <;> simp[F.f188C,X2,hk,h1,h2,h3,MUL,INV,ONE]
   ·simp only[MUL,INV,ONE]at h1 h2;simp[F.f188C,X2,hk,h1,h2,MUL,INV,ONE]
  ·simp only[MUL,INV,ONE]at h1;simp[F.f188C,X2,hk,h1,MUL,INV,ONE]
 ·simp[F.f188C,X2,hk]
theorem S7 (t:Tm) (bs:List (List AV)):call F.tb 255 [.agg (Qa t)] bs=some (.bool (X2 t),bs):=by
 rw[Qb F.tb_255 _ _ rfl];by_cases hk:t.kind=3
 ·cases h1:t.name == MUL
  ·cases h2:t.name == INV
   ·cases h3:t.name == ONE <;> simp only[MUL,INV,ONE]at h1 h2 h3 <;> simp[F.f255C,X2,hk,h1,h2,h3,MUL,INV,ONE]
   ·simp only[MUL,INV,ONE]at h1 h2;simp[F.f255C,X2,hk,h1,h2,MUL,INV,ONE]
  ·simp only[MUL,INV,ONE]at h1;simp[F.f255C,X2,hk,h1,MUL,INV,ONE]
 ·simp[F.f255C,X2,hk]
def XK (t:Tm):Bool:= !((t.name == MUL && decide (t.kids.length < 2)) || (t.name == INV && !decide (t.kids.length=1)) || (t.name == ONE && !decide (t.kids.length=0)))
mutual
def arB:Tm→Bool
 | .mk k n s ks=> !X2 (.mk k n s ks) || (XK (.mk k n s ks) && arL ks)
def arL:List Tm→Bool
 | []=>true
 | t:: ts=>arB t && arL ts
end
theorem Qc3 (t:Tm):arB t=(!X2 t || (XK t && arL t.kids)):=by cases t;simp[arB]
mutual
def We:List Pw→Tm→Int→List Pw
 | l,.mk k n s ks,m=>if X2 (.mk k n s ks)then colL l ks (if n == INV then -m else m)else Yz l (.mk k n s ks) m
def colL:List Pw→List Tm→Int→List Pw
 | l,[],_=>l
 | l,t:: ts,m=>colL (We l t m) ts m
end
theorem OX (l:List Pw) (t:Tm) (m:Int):We l t m=if X2 t then colL l t.kids (if t.name == INV then -m else m)else Yz l t m:=by cases t;simp[We]
theorem AK (t:Tm) (bs:List (List AV)) (hm:t.mass < big) (ih: ∀x∈t.kids,∀bs,call F.tb 254 [.agg (Qa x)] bs=some (.bool (arB x),bs)):
  ∀(post pre:List Tm) (ρ:Nat→AV),t.kids=pre ++ post→ρ 1= .bx (Qa t)→ρ 3= .int .i64 t.kids.length→ρ 4= .int .i64 pre.length→
  R F.tb (.loop F.f254l0) ρ bs (Ql 0 (Qr F.tb F.f254r0 (Qt F.f254 bs)))=some (.bool (arL post),bs):=by
 have hm2:=Qo t;unfold big at hm;intro post
 induction post with
 | nil=>
  intro pre ρ hk h1 h3 h4;simp only[List.append_nil]at hk;rw[← hk]at h4;rw[Qc F.f254l0.eq_1];simp[h1,h3,h4,F.f254r0,arL]
 | cons x post IH=>
  intro pre ρ hk h1 h3 h4;have hg:=Qp hk;have hl:=Qx hk;have hw1:=wr1 pre.length (by omega);have hlt:=Qy hk;have hc:=ih x (by rw[hk];simp) bs;rw[Qc F.f254l0.eq_1];cases hb:arB x
  ·simp[h1,h3,h4,hg,hw1,hlt,hc,hb,arL]
  ·have h2:=fun ρ=>IH (pre ++ [x]) ρ (by rw[hk];simp);simp[h1,h3,h4,hg,hw1,hlt,hc,hb,arL];refine h2 _ ?_ ?_ ?_ <;> simp[h1,h3]
theorem A0: ∀(t:Tm) (bs:List (List AV)),t.mass < big→call F.tb 254 [.agg (Qa t)] bs=some (.bool (arB t),bs):=by
 refine Zp ?_;intro k n s ks ih bs hm;have hl:=fun ρ=>AK (.mk k n s ks) bs hm (fun x hx bs=>ih x hx bs (by have:=QD hx;have:=Qo (.mk k n s ks);simp at *;omega)) ks [] ρ rfl;have hsp:=S7 (.mk k n s ks) bs;rw[Qb F.tb_254 _ _ rfl,Qc3];cases hs:X2 (.mk k n s ks)
 ·simp[F.f254C,hsp,hs]
 ·have hbe: ((Qa (.mk k n s ks)).map AV.strip)=Qa (.mk k n s ks):=Zu _;obtain⟨rfl,hn⟩:=Dw hs;simp only[Q5]at hn;simp only[QN]at hl;rcases hn with rfl | rfl | rfl
  ·by_cases d:ks.length < 2
   ·have d': (ks.length:Int) < 2:=by omega
    have hc:XK (.mk 3 MUL s ks)=false:=by simp[XK,d]
    simp only[hc];simp[MUL]at hsp hs hc;simp[F.f254C,hsp,hs,MUL,d']
   ·have d': ¬(ks.length:Int) < 2:=by omega
    have hc:XK (.mk 3 MUL s ks)=true:=by simp[XK,d];simp[MUL,INV,ONE]
    simp only[hc];simp[MUL]at hsp hs hc hl;simp[F.f254C,hsp,hs,MUL,d'];refine hl _ ?_ ?_ ?_ <;> simp
  ·by_cases d:ks.length=1
   ·have d': (ks.length:Int)=1:=by omega
    have hc:XK (.mk 3 INV s ks)=true:=by simp[XK,d];simp[MUL,INV,ONE]
    simp only[hc];simp[INV]at hsp hs hc hl;simp[F.f254C,hsp,hs,INV,d'];refine hl _ ?_ ?_ ?_ <;> simp[d]
   ·have d': ¬(ks.length:Int)=1:=by omega
    have hc:XK (.mk 3 INV s ks)=false:=by simp[XK,d]
    simp only[hc];simp[INV]at hsp hs hc;simp[F.f254C,hsp,hs,INV,d']
  ·by_cases d:ks=[]
   ·subst d;have hc:XK (.mk 3 ONE s [])=true:=by simp[XK];simp[MUL,INV,ONE]
    simp only[hc];simp[ONE]at hsp hs hc hl;simp[F.f254C,hsp,hs,ONE];refine hl _ ?_ ?_ ?_ <;> simp
   ·have d0: ¬ks.length=0:=fun e=>d (List.eq_nil_of_length_eq_zero e);have d': ¬(ks.length:Int)=0:=by omega
    have hc:XK (.mk 3 ONE s ks)=false:=by simp[XK,d]
    simp only[hc];simp[ONE]at hsp hs hc;simp[F.f254C,hsp,hs,ONE,d,d']
theorem LE {n:Nat} (h:n < 100000000):n*64≤140737488355328:=by omega
theorem L5 (l:List Pw) (t:Tm) (m:Int) (bs:List (List AV)) (hl:l.length < 100000000) (hm: ∀q∈l,q.1.mass < big) (ht:t.mass < big):
  ∀(post pre acc:List Pw) (o:Bool) (ρ:Nat→AV),l=pre ++ post→acc.length+post.length < 100000000→(∀q∈post,q.2≠0∧Qm t q.1≠0)→ρ 0= .sl o 5 (QQ l)→ρ 2= .int .i64 m→ρ 4= .bx (Qa t)→ρ 7= .sl true 5 (QQ acc)→ρ 8= .bool true→ρ 9= .int .i64 pre.length→
  R F.tb (.loop F.f257l0) ρ bs (Ql 0 (Qr F.tb F.f257r0 (Qt F.f257 bs)))=some (.sl false 5 (QQ (acc ++ post)),bs):=by
 intro post
 induction post with
 | nil=>
  intro pre acc o ρ hk ha hp h0 h2 h4 h7 h8 h9;simp only[List.append_nil]at hk;rw[← hk]at h9;rw[Qc F.f257l0.eq_1];simp[h0,h2,h4,h7,h8,h9,F.f257r0]
 | cons q post IH=>
  intro pre acc o ρ hk ha hp h0 h2 h4 h7 h8 h9;have hg:=Qp hk;have hll:=Qx hk;have hw1:=wr1 pre.length (by omega);have hlt:=Qy hk;have hc:=Wr t q.1 bs ht (hm q (by rw[hk];simp));obtain⟨hq1,hq2⟩:=hp q (by simp);have hb: (acc.length+1)*64≤140737488355328:=LE (by simp at ha;omega);have h3:=fun ρ=>IH (pre ++ [q]) (acc ++ [q]) o ρ (by rw[hk];simp) (by simp at ha ⊢;omega) (fun x hx=>hp x (by simp[hx]));simp only[List.append_assoc,List.cons_append,List.nil_append]at h3;rw[Qc F.f257l0.eq_1];simp[h0,h2,h4,h7,h8,h9,hg,hlt,hw1,hc,hq1,hq2,hb,Ux,Uw];refine h3 _ ?_ ?_ ?_ ?_ ?_ ?_ <;> simp[h0,h2,h4,h8]
def NZ (l:List Pw):Prop:=∀q∈l,q.2≠0
theorem Qe6 (l:List Pw) (t:Tm) (m:Int) (bs:List (List AV)) (hl:l.length < 50000000) (hm: ∀q∈l,q.1.mass < big∧ -100000000 < q.2∧q.2 < 100000000) (hmm: -100000000 < m∧m < 100000000) (ht:t.mass < big) (ha:Asc (Wm l)) (hz:NZ l):
  ∀(post pre acc:List Pw) (o:Bool) (ρ:Nat→AV),l=pre ++ post→acc.length+post.length < 50000000→ρ 0= .sl o 5 (QQ l)→ρ 2= .int .i64 m→ρ 4= .bx (Qa t)→ρ 7= .sl true 5 (QQ acc)→ρ 8= .bool false→ρ 9= .int .i64 pre.length→
  R F.tb (.loop F.f257l0) ρ bs (Ql 0 (Qr F.tb F.f257r0 (Qt F.f257 bs)))=some (.sl false 5 (QQ (acc ++ Yz post t m)),bs):=by
 intro post
 induction post with
 | nil=>
  intro pre acc o ρ hk hac h0 h2 h4 h7 h8 h9;simp only[List.append_nil]at hk;rw[← hk]at h9;have hb: (acc.length+1)*64≤140737488355328:=LE (by simp at hac;omega);have hf:Qa t ++ [.int .i64 m]=Q9 (t,m):=rfl;rw[Qc F.f257l0.eq_1];simp[h0,h2,h4,h7,h8,h9,F.f257r0,Yz,hb,List.take_append,List.drop_append,hf,Ux,Uw]
 | cons q post IH=>
  intro pre acc o ρ hk hac h0 h2 h4 h7 h8 h9;have hg:=Qp hk;have hll:=Qx hk;have hw1:=wr1 pre.length (by omega);have hlt:=Qy hk;have hql:q∈l:=by rw[hk];simp
  have hqm:=hm q hql;have hq0:=hz q hql;have hc:=Wr t q.1 bs ht hqm.1;have hb: (acc.length+1)*64≤140737488355328:=LE (by simp at hac;omega);have hb2: (acc.length+1+1)*64≤140737488355328:=LE (by clear hb;simp at hac;omega);have hap: ∀x∈post,Qm q.1 x.1 < 0:=by
   intro x hx;have h1:=ha;rw[hk,Wm,List.map_append,List.map_cons]at h1;have h2:=(List.pairwise_append.1 h1).2.1;exact(List.pairwise_cons.1 h2).1 x.1 (List.mem_map_of_mem hx)
  have hpz: ∀x∈post,x.2≠0:=fun x hx=>hz x (by rw[hk];simp[hx]);have hf:Qa t ++ [.int .i64 m]=Q9 (t,m):=rfl;have hanti:=XJ t q.1;rw[Qc F.f257l0.eq_1];by_cases c1:Qm q.1 t < 0
  ·have e1: ¬Qm t q.1 < 0:=by clear hb hb2;omega
   have e2: ¬Qm t q.1=0:=by clear hb hb2;omega
   have h3:=fun ρ=>IH (pre ++ [q]) (acc ++ [q]) o ρ (by rw[hk];simp) (by clear hb hb2;simp at hac ⊢;omega);simp only[List.append_assoc,List.cons_append,List.nil_append]at h3;simp only[Yz,c1,if_true];simp[h0,h2,h4,h7,h8,h9,hg,hlt,hw1,hc,hq0,e1,e2,hb,Ux,Uw];refine h3 _ ?_ ?_ ?_ ?_ ?_ ?_ <;> simp[h0,h2,h4,h8]
  ·by_cases c2:Qm q.1 t=0
   ·have e1: ¬Qm t q.1 < 0:=by clear hb hb2;omega
    have e2:Qm t q.1=0:=by clear hb hb2;omega
    have hqt:=ZY _ _ c2;have hw2:IntKind.i64.wrap (q.2+m)=q.2+m:=ZG (by clear hb hb2;omega) (by clear hb hb2;omega);have hpo: ∀x∈post,x.2≠0∧Qm t x.1≠0:=fun x hx=>⟨hpz x hx,by have:=hap x hx;rw[hqt]at this;clear hb hb2;omega⟩;have hf2: (Q9 q).take 4 ++ [.int .i64 (q.2+m)]=Q9 (q.1,q.2+m):=by simp[Q9]
    by_cases c3:q.2+m=0
    ·have h3:=fun ρ=>L5 l t m bs (by clear hb hb2;omega) (fun q hq=>(hm q hq).1) ht post (pre ++ [q]) acc o ρ (by rw[hk];simp) (by clear hb hb2;simp at hac;omega) hpo;simp only[Yz,c1,c2,c3,if_true,if_false];have hf3: (Q9 q).take 4 ++ [.int .i64 0]=Q9 (q.1,0):=by simp[Q9]
     simp[h0,h2,h4,h7,h8,h9,hg,hlt,hw1,hw2,hc,e2,c3,Ux,Uw];refine h3 _ ?_ ?_ ?_ ?_ ?_ ?_ <;> simp[h0,h2,h4,h7]
    ·have h3:=fun ρ=>L5 l t m bs (by clear hb hb2;omega) (fun q hq=>(hm q hq).1) ht post (pre ++ [q]) (acc ++ [(q.1,q.2+m)]) o ρ (by rw[hk];simp) (by clear hb hb2;simp at hac ⊢;omega) hpo;simp only[List.append_assoc,List.cons_append,List.nil_append]at h3;simp only[Yz,c1,c2,c3,if_true,if_false];have hf3:Qa q.1 ++ [.int .i64 (q.2+m)]=Q9 (q.1,q.2+m):=rfl;simp[h0,h2,h4,h7,h8,h9,hg,hlt,hw1,hw2,hc,e2,c3,hb,hf3,Ux,Uw];refine h3 _ ?_ ?_ ?_ ?_ ?_ ?_ <;> simp[h0,h2,h4]
   ·have e1:Qm t q.1 < 0:=by clear hb hb2;omega
    have e2: ¬Qm t q.1=0:=by clear hb hb2;omega
    have hpo: ∀x∈post,x.2≠0∧Qm t x.1≠0:=fun x hx=>⟨hpz x hx,by have:=YD e1 (hap x hx);clear hb hb2;omega⟩;have h3:=fun ρ=>L5 l t m bs (by clear hb hb2;omega) (fun q hq=>(hm q hq).1) ht post (pre ++ [q]) (acc ++ [(t,m),q]) o ρ (by rw[hk];simp) (by clear hb hb2;simp at hac ⊢;omega) hpo;simp only[List.append_assoc,List.cons_append,List.nil_append]at h3;simp only[Yz,c1,c2,if_false];simp[h0,h2,h4,h7,h8,h9,hg,hlt,hw1,hc,hq0,e1,e2,hb,hb2,List.take_append,List.drop_append,hf,Ux,Uw];refine h3 _ ?_ ?_ ?_ ?_ ?_ ?_ <;> simp[h0,h2,h4]
end Go.Am
