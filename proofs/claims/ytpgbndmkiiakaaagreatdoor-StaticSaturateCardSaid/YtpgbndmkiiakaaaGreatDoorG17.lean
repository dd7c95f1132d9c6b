/-
  Rc12, Rc13, Rc14, Rc15.
-/
import Derived.Test.YtpgbndmkiiakaaaGreatDoorG16
set_option linter.unusedVariables false
set_option linter.unusedSimpArgs false
namespace Go.Am
set_option maxRecDepth 8000
def Qy:Tm:= .mk 0 [] 0 []
theorem QA:Qa Qy=[.int .i64 0,.str [],.int .i64 0,.sl false 4 []]:=by simp[Qy,Qa,encTs]
def tmX:List Tm→Tm
 | []=> .mk 3 Zq 0 []
 | [p]=>p
 | p:: q:: r=> .mk 3 XOR 0 (p:: q:: r)
def Wm (l:List Tm):Tm×Int:=if Wb l≠0 then(Qy,Wb l)else if QF (tmX (sumL [] l))≠0 then(Qy,3)else(tmX (sumL [] l),0)
def QL (r:Tm×Int):AV:= .tup [.agg (Qa r.1),.int .i64 r.2]
theorem LJ (t:Tm): ∀l:List Tm,massL (Yn t l)≤massL l+t.mass
 | []=>by simp[Yn,massL]
 | x:: xs=>by
  have:=LJ t xs
  simp only[Yn]
  split
  ·simp only[massL];omega
  ·split
   ·simp only[massL];omega
   ·simp only[massL];omega
theorem Bc (l:List Tm) (t:Tm):massL (Wn l t)≤massL l+t.mass:=by
 unfold Wn
 split
 ·have: ∀(l:List Tm) (p:Tm→Bool),massL (l.filter p)≤massL l:=by
   intro l p
   induction l with
   | nil=>simp
   | cons x xs ih=>
    rw[List.filter_cons]
    split <;> simp only[massL] <;> omega
  have:=this l (fun x=> !decide (Qm x t=0))
  omega
 ·exact LJ t l
theorem Ml: ∀(b a:List Tm),massL (Yb a b)≤massL a+massL b
 | [],a=>by simp[Yb,massL]
 | x:: b,a=>by
  have h1:=Ml b (Wn a x)
  have h2:=Bc a x
  simp only[Yb,List.foldl_cons,massL]at *
  omega
mutual
theorem Bb: ∀t:Tm,massL (Zr t)≤t.mass
 | .mk k n s ks=>by
  simp only[Zr]
  split
  ·simp[massL]
  ·split
   ·have:=massL_sumL ks [];simp only[massL,Tm.mass]at *;omega
   ·simp[massL]
theorem massL_sumL: ∀(ts acc:List Tm),massL (sumL acc ts)≤massL acc+massL ts
 | [],acc=>by simp[sumL,massL]
 | t:: ts,acc=>by
  have h1:=massL_sumL ts (Yb acc (Zr t))
  have h2:=Ml (Zr t) acc
  have h3:=Bb t
  simp only[sumL,massL]at *
  omega
end
theorem Ft (l:List Tm): (tmX l).mass≤10+l.length+massL l:=by
 unfold tmX
 split
 ·simp[Tm.mass,massL,Zq]
 ·simp[massL]
 ·simp[Tm.mass,massL,XOR]
theorem QcI (l:List Tm) (bs:List (List AV)) (hm:massL l < 20000000) (hl:l.length < 20000000) (k:Kn)
  (hk0: ∀(o:Bool) (ρ:Nat→AV),ρ 2= .bx [.int .i64 0,.str [],.int .i64 0,.sl true 4 []]→ρ 5= .sl o 4 (encTs (sumL [] l))→R F.tb F.f178r0 ρ bs (Qx F.f178 bs)=some (QL (Wm l),bs)):
  ∀(post pre acc:List Tm) (o:Bool) (ρ:Nat→AV),l=pre ++ post→sumL acc post=sumL [] l→acc.length+nodesL post < 25000000→Asc acc→(∀x∈acc,x.mass < big)→ρ 2= .bx [.int .i64 0,.str [],.int .i64 0,.sl true 4 []]→ρ 5= .sl o 4 (encTs acc)→ρ 15= .sl false 4 (encTs l)→ρ 16= .int .i64 l.length→ρ 17= .int .i64 pre.length→
  R F.tb (.loop F.f178l0) ρ bs (Qk 0 (Qv F.tb F.f178r0 (Qx F.f178 bs)))=some (QL (Wm l),bs):=by
 intro post
 induction post with
 | nil=>
  intro pre acc o ρ hk he ha has hma h2 h5 h15 h16 h17
  simp only[List.append_nil]at hk
  rw[← hk]at h17
  simp only[sumL]at he
  subst he
  rw[Qc F.f178l0.eq_1]
  simp[h5,h15,h16,h17]
  refine hk0 o _ ?_ ?_ <;> simp[h2,h5]
 | cons x post IH=>
  intro pre acc o ρ hk he ha has hma h2 h5 h15 h16 h17
  have hg:=Qp hk
  have hll:l.length=pre.length+ (post.length+1):=by rw[hk];simp
  have hw1:IntKind.i64.wrap ((pre.length:Int)+1)=(pre.length:Int)+1:=Ql (by omega) (by omega)
  have hlt: (pre.length:Int) < (l.length:Int):=by omega
  have hxl:x∈l:=by rw[hk];simp
  have hxm:=Qz hxl
  have hxn:=Zj x
  have hsl:=Sx x
  simp only[nodesL]at ha
  obtain⟨o1,hc1⟩:=JZ x bs (by omega)
  have hsm: ∀y∈Zr x,y.mass < big:=fun y hy=>by have:=XA x y (Sz x y hy);unfold big;omega
  obtain⟨o2,hc2⟩:=Jf acc (Zr x) false false bs (by omega) hma hsm
  rw[G9 has (VI x)]at hc2
  have hpl:=Vd (Zr x) acc
  have hpm: ∀y∈Yb acc (Zr x),y.mass < big:=fun y hy=>by
   rcases Va (VI x) hy with h | h
   ·exact hma y h
   ·exact hsm y h
  have i2:=fun ρ=>IH (pre ++ [x]) (Yb acc (Zr x)) o2 ρ (by rw[hk];simp) he (by omega) (UY _ _ has) hpm
  rw[Qc F.f178l0.eq_1]
  simp[h5,h15,h16,h17,hg,hlt,hw1,QE,hc1,hc2]
  refine i2 _ ?_ ?_ ?_ ?_ ?_ <;> simp[h2,h15,h16]
theorem QcT (l:List Tm) (o:Bool) (bs:List (List AV)) (hm:massL l < 20000000) (hl:l.length < 20000000):call F.tb 178 [.sl o 4 (encTs l)] bs=some (QL (Wm l),bs):=by
 have hr:=CJ l false true bs (by omega) (fun x hx=>by have:=Qz hx;unfold big;omega)
 have hn:=nodesL_le_mass l
 have hk0:Wb l=0→∀(o:Bool) (ρ:Nat→AV),ρ 2= .bx [.int .i64 0,.str [],.int .i64 0,.sl true 4 []]→ρ 5= .sl o 4 (encTs (sumL [] l))→R F.tb F.f178r0 ρ bs (Qx F.f178 bs)=some (QL (Wm l),bs):=by
  intro hr0 o ρ h2 h5
  have h1:=sumL_len l []
  have h3:=massL_sumL l []
  have h4:=Ft (sumL [] l)
  simp only[massL,List.length_nil,Nat.zero_add]at h1 h3
  obtain⟨o3,ho⟩:=QcU (sumL [] l) false bs (by omega) (fun x hx=>by have:=Qz hx;omega)
  have hv:=Xp (tmX (sumL [] l)) bs (by unfold big;omega)
  have es:Wm l=if QF (tmX (sumL [] l))≠0 then(Qy,3)else(tmX (sumL [] l),0):=by simp[Wm,hr0]
  rw[es]
  generalize sumL [] l=ps at *
  match ps with
  | []=>
   have e1:Qa (tmX [])=[.int .i64 3,.str Zq,.int .i64 0,.sl false 4 []]:=by simp[tmX,Qa,encTs]
   rw[e1]at hv
   simp only[Zq]at hv e1
   simp only[encTs]at ho h5
   by_cases h:QF (tmX [])=0
   ·simp[F.f178r0,h5,ho,h2,hv,h,F.f178R,F.f178K,QL,e1]
   ·simp[F.f178r0,h5,ho,h2,hv,h,F.f178R,F.f178K,QL,QA]
  | [p]=>
   simp only[tmX]at hv ⊢
   by_cases h:QF p=0
   ·simp[F.f178r0,h5,ho,h2,hv,h,F.f178R,F.f178K,QL,QE]
   ·simp[F.f178r0,h5,ho,h2,hv,h,F.f178R,F.f178K,QL,QA,QE]
  | p:: q:: r=>
   have e1:Qa (tmX (p:: q:: r))=[.int .i64 3,.str XOR,.int .i64 0,.sl false 4 (encTs (p:: q:: r))]:=by simp[tmX,Qa]
   rw[e1]at hv
   simp only[XOR]at hv e1
   have n1: ¬((r.length:Int)+1+1=0):=by omega
   have n2: ¬((r.length:Int)+1+1=1):=by omega
   by_cases h:QF (tmX (p:: q:: r))=0
   ·simp[F.f178r0,h5,ho,h2,hv,h,n1,n2,F.f178R,F.f178K,QL,e1]
   ·simp[F.f178r0,h5,ho,h2,hv,h,n1,n2,F.f178R,F.f178K,QL,QA]
 rw[Qb F.tb_178 _ _ rfl]
 by_cases h0:Wb l=0
 ·have h:=fun ρ=>QcI l bs hm hl (Qx F.f178 bs) (hk0 h0) l [] [] true ρ rfl rfl (by simp;omega) Asc.nil (by simp)
  simp[F.f178B,F.f178C,hr,h0]
  refine h _ ?_ ?_ ?_ ?_ ?_ <;> simp[encTs]
 ·have hb: (Wb l != 0)=true:=by simp[h0]
  simp[F.f178B,F.f178C,hr,h0,hb,F.f178R,F.f178K,Wm,QL,QA]
theorem CG (bs:List (List AV)):call F.tb 245 [] bs=some (.agg (Qa (.mk 3 Zq 0 [])),bs):=by
 have h:=Je Zq [] true bs (by simp)
 simp only[Zq,encTs]at h
 rw[Qb F.tb_245 _ _ rfl]
 simp[F.f245,F.f245C,h,Zq,QE]
theorem FG (l:List Tm) (o:Bool) (bs:List (List AV)) (hl:l.length < 100000000):call F.tb 251 [.sl o 4 (encTs l)] bs=some (.agg (Qa (tmX l)),bs):=by
 have h:=Je Zq [] true bs (by simp)
 simp only[Zq,encTs]at h
 rw[Qb F.tb_251 _ _ rfl]
 match l with
 | []=>simp[F.f251B,F.f251C,h,Zq,QE,tmX,F.f251R,F.f251K]
 | [p]=>simp[F.f251B,F.f251C,QE,tmX,F.f251R,F.f251K]
 | p:: q:: r=>
  have n1: ¬((r.length:Int)+1+1=0):=by omega
  have n2: ¬((r.length:Int)+1+1=1):=by omega
  have hb: (r.length+1+1)*56≤140737488355328:=Yr (by simp at hl;omega)
  simp[F.f251B,F.f251C,n1,n2,hb,tmX,Qa,XOR,F.f251R,F.f251K]
theorem Ii (l:List Tm) (t:Tm) (bs:List (List AV)) (hl:l.length < 100000000) (hm: ∀x∈l,x.mass < big) (ht:t.mass < big): ∀(post pre:List Tm) (ρ:Nat→AV),l=pre ++ post→ρ 0= .sl false 4 (encTs l)→ρ 3= .bx (Qa t)→ρ 5= .int .i64 pre.length→
  R F.tb (.loop F.f246l0) ρ bs (Qk 0 (Qv F.tb F.f246r0 (Qx F.f246 bs)))=some (.int .i64 (if WW post≠0 then WW post else QF t),bs):=by
 intro post
 induction post with
 | nil=>
  intro pre ρ hk h0 h3 h5
  simp only[List.append_nil]at hk
  rw[← hk]at h5
  have hc:=Yv t bs ht
  rw[Qc F.f246l0.eq_1]
  simp[h0,h3,h5,F.f246r0,F.f246R,F.f246K,WW,QE,hc]
 | cons x post IH=>
  intro pre ρ hk h0 h3 h5
  have hg:=Qp hk
  have hll:l.length=pre.length+ (post.length+1):=by rw[hk];simp
  have hw1:IntKind.i64.wrap ((pre.length:Int)+1)=(pre.length:Int)+1:=Ql (by omega) (by omega)
  have hlt: (pre.length:Int) < (l.length:Int):=by omega
  have hc:=Yv x bs (hm x (by rw[hk];simp))
  rw[Qc F.f246l0.eq_1]
  by_cases hv:QF x=0
  ·simp only[WW,hv,ne_eq,not_true_eq_false,if_false]
   simp[h0,h3,h5,hg,hlt,hw1,QE,hc,hv]
   have:=fun ρ=>IH (pre ++ [x]) ρ (by rw[hk];simp)
   simp only[ne_eq]at this
   rw[this] <;> simp[h0,h3]
  ·simp[h0,h3,h5,hg,hlt,hw1,QE,hc,hv,WW,F.f246R,F.f246K]
theorem BL:QF (.mk 3 Zq 0 [])=0:=by decide
theorem Gd (l:List Tm) (o:Bool) (bs:List (List AV)) (hl:l.length < 100000000) (hm: ∀x∈l,x.mass < big):call F.tb 246 [.sl o 4 (encTs l),.agg (Qa (.mk 3 Zq 0 []))] bs=some (.int .i64 (Wb l),bs):=by
 have h:=fun ρ=>Ii l (.mk 3 Zq 0 []) bs hl hm (by simp[Tm.mass,massL,Zq,big]) l [] ρ rfl
 rw[BL]at h
 have e: (if WW l≠0 then WW l else 0)=WW l:=by split <;> simp_all
 rw[e]at h
 rw[Qb F.tb_246 _ _ rfl]
 by_cases h2:200 < l.length
 ·have h2': (200:Int) < (l.length:Int):=by omega
  simp[F.f246B,F.f246C,h2',h2,Wb,F.f246R,F.f246K]
 ·have h2': ¬(200:Int) < (l.length:Int):=by omega
  simp[F.f246B,F.f246C,h2',h2,Wb]
  refine h _ ?_ ?_ ?_ <;> simp
theorem Cf (l:List Tm) (bs:List (List AV)) (hm:massL l < 20000000) (hl:l.length < 20000000)
  (hk0: ∀(o:Bool) (ρ:Nat→AV),ρ 2= .bx [.int .i64 0,.str [],.int .i64 0,.sl true 4 []]→ρ 5= .sl o 4 (encTs (sumL [] l))→R F.tb F.f244r0 ρ bs (Qx F.f244 bs)=some (QL (Wm l),bs)):
  ∀(post pre acc:List Tm) (o:Bool) (ρ:Nat→AV),l=pre ++ post→sumL acc post=sumL [] l→acc.length+nodesL post < 25000000→(∀x∈acc,x.mass < big)→ρ 0= .sl false 4 (encTs l)→ρ 2= .bx [.int .i64 0,.str [],.int .i64 0,.sl true 4 []]→ρ 5= .sl o 4 (encTs acc)→ρ 6= .int .i64 pre.length→
  R F.tb (.loop F.f244l0) ρ bs (Qk 0 (Qv F.tb F.f244r0 (Qx F.f244 bs)))=some (QL (Wm l),bs):=by
 intro post
 induction post with
 | nil=>
  intro pre acc o ρ hk he ha hma h0 h2 h5 h6
  simp only[List.append_nil]at hk
  rw[← hk]at h6
  simp only[sumL]at he
  subst he
  rw[Qc F.f244l0.eq_1]
  simp[h0,h5,h6]
  refine hk0 o _ ?_ ?_ <;> simp[h2,h5]
 | cons x post IH=>
  intro pre acc o ρ hk he ha hma h0 h2 h5 h6
  have hg:=Qp hk
  have hll:l.length=pre.length+ (post.length+1):=by rw[hk];simp
  have hw1:IntKind.i64.wrap ((pre.length:Int)+1)=(pre.length:Int)+1:=Ql (by omega) (by omega)
  have hlt: (pre.length:Int) < (l.length:Int):=by omega
  have hxl:x∈l:=by rw[hk];simp
  have hxm:=Qz hxl
  have hxn:=Zj x
  have hsl:=Sx x
  simp only[nodesL]at ha
  obtain⟨o1,hc1⟩:=KP x bs (by omega)
  have hsm: ∀y∈Zr x,y.mass < big:=fun y hy=>by have:=XA x y (Sz x y hy);unfold big;omega
  have hc2:=Ll acc (Zr x) false false bs (by omega) (by omega) hma hsm
  have hpl:=Vd (Zr x) acc
  have hpm: ∀y∈Yb acc (Zr x),y.mass < big:=fun y hy=>by
   rcases Va (VI x) hy with h | h
   ·exact hma y h
   ·exact hsm y h
  have i2:=fun ρ=>IH (pre ++ [x]) (Yb acc (Zr x)) false ρ (by rw[hk];simp) he (by omega) hpm
  rw[Qc F.f244l0.eq_1]
  simp[h0,h5,h6,hg,hlt,hw1,QE,hc1,hc2]
  refine i2 _ ?_ ?_ ?_ ?_ <;> simp[h0,h2]
theorem CC (l:List Tm) (o:Bool) (bs:List (List AV)) (hm:massL l < 20000000) (hl:l.length < 20000000):call F.tb 244 [.sl o 4 (encTs l)] bs=some (QL (Wm l),bs):=by
 have hr:=Gd l false bs (by omega) (fun x hx=>by have:=Qz hx;unfold big;omega)
 have hz:=CG bs
 have hn:=nodesL_le_mass l
 have hk0:Wb l=0→∀(o:Bool) (ρ:Nat→AV),ρ 2= .bx [.int .i64 0,.str [],.int .i64 0,.sl true 4 []]→ρ 5= .sl o 4 (encTs (sumL [] l))→R F.tb F.f244r0 ρ bs (Qx F.f244 bs)=some (QL (Wm l),bs):=by
  intro hr0 o ρ h2 h5
  have h1:=sumL_len l []
  have h3:=massL_sumL l []
  have h4:=Ft (sumL [] l)
  simp only[massL,List.length_nil,Nat.zero_add]at h1 h3
  have ht:=FG (sumL [] l) false bs (by omega)
  have hv:=Yv (tmX (sumL [] l)) bs (by unfold big;omega)
  have es:Wm l=if QF (tmX (sumL [] l))≠0 then(Qy,3)else(tmX (sumL [] l),0):=by simp[Wm,hr0]
  rw[es]
  generalize tmX (sumL [] l)=u at *
  generalize sumL [] l=ps at *
  by_cases h:QF u=0
  ·simp[F.f244r0,h5,ht,h2,hv,h,F.f244R,F.f244K,QL,QE]
  ·simp[F.f244r0,h5,ht,h2,hv,h,F.f244R,F.f244K,QL,QA,QE]
 rw[Qb F.tb_244 _ _ rfl]
 by_cases h0:Wb l=0
 ·have h:=fun ρ=>Cf l bs hm hl (hk0 h0) l [] [] true ρ rfl rfl (by simp;omega) (by simp)
  simp[F.f244B,F.f244C,hz,hr,h0]
  refine h _ ?_ ?_ ?_ ?_ <;> simp[encTs]
 ·have hb: (Wb l != 0)=true:=by simp[h0]
  simp[F.f244B,F.f244C,hz,hr,h0,hb,F.f244R,F.f244K,Wm,QL,QA]
end Go.Am
namespace Go.Am
set_option maxRecDepth 8000
theorem Ef (t:Tm) (hm:t.mass < big) (hne:t.kids≠[]) (ih: ∀x∈t.kids,∀bs,call F.tb 192 [.agg (Qa x)] bs=some (.agg (Qa x),bs)) (B:List (List AV)):
  ∀(post pre:List Tm) (ρ:Nat→AV),t.kids=pre ++ post→ρ 1= .bx [.int .i64 t.kind,.str t.name,.int .i64 t.sort,.gs B.length 0 4 t.kids.length]→ρ 2= .bx [.int .i64 0,.str [],.int .i64 0,.sl true 4 []]→
   ρ 10= .gs B.length 0 4 t.kids.length→ρ 11= .int .i64 t.kids.length→ρ 12= .int .i64 pre.length→
  R F.tb (.loop F.f192l0) ρ (B ++ [Qw t.kids]) (Qk 0 (Qv F.tb F.f192r0 (Qx F.f192 B)))=some (.agg (Qa t),B):=by
 have hm2:=Qo t
 unfold big at hm
 have es: ∀x y:List AV,(B ++ [x]).set B.length y=B ++ [y]:=fun x y=>by rw[List.set_append];simp
 have eg: ∀x:List AV,(B ++ [x])[B.length]? =some x:=fun x=>List.getElem?_concat_length
 have hlen: (Qw t.kids).length=t.kids.length*4:=Z2 QO _
 have hst: (Qw t.kids).map AV.strip=Qw t.kids:=Z5 Zs _
 intro post
 induction post with
 | nil=>
  intro pre ρ hk h1 h2 h10 h11 h12
  simp only[List.append_nil]at hk
  rw[← hk]at h12
  have hch:ZU (Qw t.kids) 0 4 t.kids.length=encTs t.kids:=by
   have:=Xx (f:=Qa) (k:=4) QO Zs t.kids []
   rw[UF,List.append_nil]at this
   exact this
  have hz: ¬t.kids.length=0:=fun e=>hne (List.eq_nil_of_length_eq_zero e)
  rw[Qc F.f192l0.eq_1]
  simp[h1,h2,h10,h11,h12,F.f192r0,F.f192R,F.f192K,hz,hne,hlen,hch,es,eg,X6,Tm.eta]
 | cons x post IH=>
  intro pre ρ hk h1 h2 h10 h11 h12
  have hl:t.kids.length=pre.length+ (post.length+1):=by rw[hk];simp
  have hw1:IntKind.i64.wrap ((pre.length:Int)+1)=(pre.length:Int)+1:=Ql (by omega) (by omega)
  have hlt: (pre.length:Int) < (t.kids.length:Int):=by omega
  have hlt':pre.length < t.kids.length:=by omega
  have r1: ((Qw t.kids).drop (pre.length*4)).take 4=Qa x:=by
   have:=VB (f:=Qa) (k:=4) QO hk []
   simpa using this
  have hput: (Qw t.kids).take (pre.length*4)++ (Qa x ++ (Qw t.kids).drop (pre.length*4+4))=Qw t.kids:=by
   have:=P2 (f:=Qa) (k:=4) QO x hk []
   rw[← hk]at this
   simpa using this
  have hle:pre.length*4+4≤t.kids.length*4:=by omega
  have hc:=ih x (by rw[hk];simp)
  have h2':=IH (pre ++ [x])
  rw[Qc F.f192l0.eq_1]
  generalize Qw t.kids=c at *
  simp[h1,h2,h10,h11,h12,hw1,hlt,hlt',eg,es,hlen,hle,hst,r1,hc,hput]
  refine h2' _ (by rw[hk];simp) ?_ ?_ ?_ ?_ ?_ <;> simp[h1,h2,h10,h11]
theorem UM: ∀(t:Tm) (bs:List (List AV)),t.mass < big→call F.tb 192 [.agg (Qa t)] bs=some (.agg (Qa t),bs):=by
 refine Zh ?_
 intro k n s ks ih bs hm
 have hme:=Qo (.mk k n s ks)
 simp only[QJ,Q3]at hme
 have hb:ks.length*56≤140737488355328:=by unfold big at hm;omega
 rw[Qb F.tb_192 _ _ rfl]
 have ho:call F.tb 193 [.sl false 4 (encTs ks)] bs=if ks.length=0 then some (.gs 0 0 0 0,bs)else some (.gs bs.length 0 4 ks.length,bs ++ [Qw ks]):=by
  have hst: (Qw ks).map AV.strip=Qw ks:=Z5 Zs _
  rw[XH F.tb_193]
  simp only[U0,if_true,Sg,XJ,hb,encTs_gp,Oh,hst]
 by_cases hk:ks=[]
 ·subst hk
  simp[F.f192B,F.f192C,Qj,encTs]at ho ⊢
  simp[ho]
  rw[Qc F.f192l0.eq_1]
  simp[F.f192r0,F.f192R,F.f192K]
 ·have hz: ¬ks.length=0:=fun e=>hk (List.eq_nil_of_length_eq_zero e)
  rw[if_neg hz]at ho
  have hl:=fun ρ=>Ef (.mk k n s ks) hm hk (fun x hx bs=>ih x hx bs (by have:=Qz (show x∈ks from hx);omega)) bs ks [] ρ rfl
  simp only[Xi,Q3,WT,QJ]at hl
  simp[F.f192B,F.f192C]
  simp[Qj,ho]
  have e:AV.agg [.int .i64 k,.str n,.int .i64 s,.sl false 4 (encTs ks)]= .agg (Qa (.mk k n s ks)):=by rw[Qj];rfl
  rw[e]
  refine hl _ ?_ ?_ ?_ ?_ ?_ <;> simp
abbrev Pw:=Tm×Int
def QZ (p:Pw):List AV:=Qa p.1 ++ [.int .i64 p.2]
def QH (l:List Pw):List (List AV):=l.map QZ
abbrev QM (l:List Pw):List AV:=ZL QZ l
theorem Dv (p:Pw):QZ p=[.int .i64 p.1.kind,.str p.1.name,.int .i64 p.1.sort,.sl false 4 (encTs p.1.kids),.int .i64 p.2]:=by simp[QZ,Qj]
@[simp] theorem Wk (p:Pw): (QZ p).length=5:=by simp[QZ]
@[simp] theorem WH (p:Pw): (QZ p).map AV.strip=QZ p:=by simp[QZ]
@[simp] theorem Qls (p:Pw): (QZ p).take 4=Qa p.1:=by simp[QZ]
@[simp] theorem Qlt (p:Pw): (QZ p).take 5=QZ p:=List.take_of_length_le (by simp)
@[simp] theorem Qmp (p:Pw): (QZ p)[4]? =some (.int .i64 p.2):=by simp[QZ]
@[simp] theorem Qmg (p:Pw) (h:4 < (QZ p).length): (QZ p)[4]= .int .i64 p.2:=by simp[QZ]
@[simp] theorem Qlr (p:Pw): (QZ p).drop 5=[]:=by simp[QZ,List.drop_append]
@[simp] theorem QgP (p:Pw):gpfreeL (QZ p)=true:=by simp[QZ,S4]
@[simp] theorem QlG (l:List Pw): (QH l).length=l.length:=by simp[QH]
@[simp] theorem QlF (l:List Pw) (i:Nat): (QH l)[i]? =(l[i]?).map QZ:=by simp[QH]
theorem VS (a b:List Pw):QH a ++ QH b=QH (a ++ b):=by simp[QH]
theorem VT (p:Pw): [QZ p]=QH [p]:=rfl
@[simp] theorem MD: ∀l:List Pw,gpfreeE (QH l)=true
 | []=>rfl
 | p:: l=>by
  have:=MD l
  simp only[QH]at this ⊢
  simp[gpfreeE,this]
theorem YJ (l:List Pw): (QM l).length=l.length*5:=Z2 Wk l
theorem E3 (p:Pw) (t:Tm) (B:List (List AV)) (hp:p.1.mass < big) (ht:t.mass < big):call F.tb 190 [.agg (QZ p),.agg (Qa t)] B=some (.int .i64 (Qm p.1 t),B):=by
 have h:=call_Compare p.1 t B hp ht
 rw[Qb F.tb_190 _ _ rfl]
 simp[F.f190,F.f190C,h]
def XQ (l:List Pw):List Tm:=l.map (·.1)
def PAt (l:List Pw) (t:Tm) (k:Nat):Prop:=k≤l.length∧(∀(i:Nat) (p:Pw),l[i]? =some p→i < k→Qm p.1 t < 0)∧(∀(i:Nat) (p:Pw),l[i]? =some p→k≤i→¬Qm p.1 t < 0)
def hit (l:List Pw) (t:Tm) (k:Nat):Bool:=match l[k]? with
 | some p=>decide (Qm p.1 t=0)
 | none=>false
def Qih (l:List Pw) (t:Tm) (B:List (List AV)) (r:Out):Prop:=∃k,PAt l t k∧r=some (.tup [.int .i64 k,.bool (hit l t k)],B)
theorem K3 {l:List Pw} {i:Nat} {p:Pw} {c:List AV} (h: (c.drop (i*5)).take 5=QZ p): ((c.map AV.strip).drop (i*5)).take 5=QZ p:=by
 rw[← List.map_drop,← List.map_take,h,WH]
theorem Nz {l:List Pw} {i:Nat} {p:Pw} (h:l[i]? =some p) (c:List AV): ((QM l ++ c).drop (i*5)).take 5=QZ p:=by
 obtain⟨hi,rfl⟩:=List.getElem?_eq_some_iff.1 h
 have hl:l=l.take i ++ l[i]:: l.drop (i+1):=by rw[List.getElem_cons_drop,List.take_append_drop]
 have:=VB (f:=QZ) (k:=5) Wk hl c
 rw[List.length_take,Nat.min_eq_left (by omega)]at this
 exact this
theorem Qkq {i j:Nat} (h:i+j < 9223372036854775808):IntKind.i64.wrap (IntKind.u64.wrap (IntKind.i64.wrap ((i:Int)+ (j:Int))) / 2 ^ min 1 IntKind.u64.bits)=(((i+j) / 2:Nat):Int):=by
 rw[Ql (n:=(i:Int)+j) (by omega) (by omega)]
 have h1:IntKind.u64.wrap ((i:Int)+j)=(i:Int)+j:=by
  simp[IntKind.wrap,IntKind.bits,IntKind.signed];omega
 have h2: (2:Int) ^ min 1 IntKind.u64.bits=2:=by decide
 rw[h1,h2,Ql (by omega) (by omega)]
 omega
theorem QdL {l:List Pw} {t:Tm} {B:List (List AV)} {id sz:Nat} {c:List AV} (hl:l.length < 100000000) (hb:l≠[]→sz=5∧B[id]? =some (QM l ++ c)) (hm: ∀p∈l,p.1.mass < big) (ht:t.mass < big) (ha:Asc (XQ l)):
  ∀(d i j:Nat) (ρ:Nat→AV),j - i≤d→i≤j→j≤l.length→(∀(k:Nat) (p:Pw),l[k]? =some p→k < i→Qm p.1 t < 0)→(∀(k:Nat) (p:Pw),l[k]? =some p→j≤k→¬Qm p.1 t < 0)→
  ρ 0= .gs id 0 sz l.length→ρ 4= .bx (Qa t)→ρ 2= .fn 190 []→ρ 8= .int .i64 l.length→ρ 9= .int .i64 i→ρ 10= .int .i64 j→
  Qih l t B (R F.tb (.loop F.f191l0) ρ B (Qk 0 (Qv F.tb F.f191r0 (Qx F.f191 B)))):=by
 have mono: ∀(i j:Nat) (p q:Pw),l[i]? =some p→l[j]? =some q→i≤j→Qm q.1 t < 0→Qm p.1 t < 0:=by
  intro i j p q hp hq hij h
  rcases Nat.lt_or_ge i j with hlt | hge
  ·obtain⟨h1,rfl⟩:=List.getElem?_eq_some_iff.1 hp
   obtain⟨h2,rfl⟩:=List.getElem?_eq_some_iff.1 hq
   have:=List.pairwise_iff_getElem.1 ha i j (by simpa[XQ]using h1) (by simpa[XQ]using h2) hlt
   simp only[XQ,List.getElem_map]at this
   exact Ys this h
  ·have:i=j:=by omega
   subst this;rw[hp]at hq;injection hq with hq;subst hq;exact h
 intro d
 induction d with
 | zero=>
  intro i j ρ hd hij hj hlo hhi h0 h4 h2 h8 h9 h10
  have:i=j:=by omega
  subst this
  refine⟨i,⟨hj,hlo,hhi⟩,?_⟩
  rw[Qc F.f191l0.eq_1]
  by_cases c1:i < l.length
  ·have hp:=List.getElem?_eq_getElem c1
   obtain⟨rfl,hbx⟩:=hb (by intro e;subst e;simp at c1)
   have r1:=K3 (l:=l) (Nz hp c)
   have hmp:=hm _ (List.getElem_mem c1)
   have hle:i*5+5≤(QM l ++ c).length:=by rw[List.length_append,YJ];omega
   have c1': (i:Int) < (l.length:Int):=by omega
   have hh:hit l t i=decide (Qm l[i].1 t=0):=by simp[hit,hp]
   rw[hh]
   generalize l[i]=p at *
   have h3:=E3 p t B hmp ht
   generalize QM l ++ c=cc at *
   simp[F.f191r0,h0,h2,h4,h8,h9,h10,c1,c1',hbx,hle,r1,h3,F.f191R,F.f191K]
  ·have hh:hit l t i=false:=by simp[hit,List.getElem?_eq_none (Nat.le_of_not_lt c1)]
   have c1': ¬(i:Int) < (l.length:Int):=by omega
   simp[F.f191r0,h0,h2,h4,h8,h9,h10,c1,c1',hh,F.f191R,F.f191K]
 | succ d IH=>
  intro i j ρ hd hij hj hlo hhi h0 h4 h2 h8 h9 h10
  by_cases hlt:i < j
  ·have hmn: (i+j) / 2 < l.length:=by omega
   have hw:=Qkq (i:=i) (j:=j) (by omega)
   have hp:=List.getElem?_eq_getElem hmn
   obtain⟨rfl,hbx⟩:=hb (by intro e;subst e;simp at hmn)
   have r1:=K3 (l:=l) (Nz hp c)
   have hmp:=hm _ (List.getElem_mem hmn)
   have hle: (i+j) / 2*5+5≤(QM l ++ c).length:=by rw[List.length_append,YJ];omega
   have hltI: (i:Int) < (j:Int):=by omega
   have hb1:i≤(i+j) / 2:=by omega
   have hb2: (i+j) / 2 < j:=by omega
   generalize l[(i+j) / 2]=p at *
   generalize hmm: (i+j) / 2=m at *
   have h3:=E3 p t B hmp ht
   have hw1:IntKind.i64.wrap ((m:Int)+1)=((m+1:Nat):Int):=by rw[Ql (by omega) (by omega)];omega
   have c1': (m:Int) < (l.length:Int):=by omega
   generalize hcc:QM l ++ c=cc at *
   rw[Qc F.f191l0.eq_1]
   by_cases cc1:Qm p.1 t < 0
   ·have ih:=fun ρ=>IH (m+1) j ρ (by omega) (by omega) hj (fun k q hq hk=>mono k m q p hq hp (by omega) cc1) hhi
    simp[-getElem?_pos,h0,h2,h4,h8,h9,h10,hltI,hw,hw1,c1',hmn,hbx,hle,r1,h3,cc1]
    refine ih _ ?_ ?_ ?_ ?_ ?_ ?_ <;> simp[h0,h2,h4,h8,h10]
   ·have ih:=fun ρ=>IH i m ρ (by omega) (by omega) (by omega) hlo (fun k q hq hk h=>cc1 (mono m k p q hp hq hk h))
    simp[-getElem?_pos,h0,h2,h4,h8,h9,h10,hltI,hw,hw1,c1',hmn,hbx,hle,r1,h3,cc1]
    refine ih _ ?_ ?_ ?_ ?_ ?_ ?_ <;> simp[h0,h2,h4,h8,h9]
  ·exact IH i j ρ (by omega) hij hj hlo hhi h0 h4 h2 h8 h9 h10
theorem QfH {l:List Pw} {t:Tm} {B:List (List AV)} {id sz:Nat} {c:List AV} (hl:l.length < 100000000) (hb:l≠[]→sz=5∧B[id]? =some (QM l ++ c)) (hm: ∀p∈l,p.1.mass < big) (ht:t.mass < big) (ha:Asc (XQ l)):
  Qih l t B (call F.tb 191 [.gs id 0 sz l.length,.agg (Qa t),.fn 190 []] B):=by
 have h:=fun ρ=>QdL hl hb hm ht ha l.length 0 l.length ρ (by omega) (by omega) (by omega) (fun k p _ hk=>by omega) (fun k p hp hk=>by rw[List.getElem?_eq_none hk]at hp;cases hp)
 rw[Qb F.tb_191 _ _ rfl]
 simp[F.f191B,F.f191C]
 refine h _ ?_ ?_ ?_ ?_ ?_ ?_ <;> simp
end Go.Am
namespace Go.Am
set_option maxRecDepth 8000
@[simp] theorem CS (t:Tm): (Qa t).drop 5=[]:=by simp[Qj]
def Qh8 (l:List Pw) (id:Nat) (B:List (List AV)) (r:Out):Prop:=∃t,t≠[]∧r=some (.gs id 0 5 l.length,B.set id (QM l ++ t))
theorem QfI {pre post:List Pw} {p:Pw} {id n:Nat} {B:List (List AV)} {t:List AV} (hn:n=pre.length+1+post.length) (hl:n < 100000000) (hb:B[id]? =some (QM (pre ++ p:: post)++ t)):
  Qh8 (pre ++ post) id B (call F.tb 195 [.gs id 0 5 n,.int .i64 pre.length,.int .i64 ((pre.length:Int)+1)] B):=by
 have hlt:=Ug hb
 have e1: (0:Int)≤(pre.length:Int):=by omega
 have e2: (pre.length:Int)≤(pre.length:Int)+1:=by omega
 have e3: (pre.length:Int)+1≤(n:Int):=by omega
 have e4: (0:Int)≤(pre.length:Int)+1:=by omega
 have e5: ¬(pre.length:Int)=(pre.length:Int)+1:=by omega
 have e6: (pre.length:Int)≤(n:Int):=by omega
 have e7: ((pre.length:Int)+1).toNat=pre.length+1:=by omega
 have e8:n - (pre.length+1)=post.length:=by omega
 have e9: (pre.length+post.length)=n - 1:=by omega
 have e10:n - (n - 1)=1:=by omega
 have e11: ((n - 1:Nat):Int)≤(n:Int):=by omega
 have hl0: (QM pre).length=pre.length*5:=YJ pre
 have hp0: (QM post).length=post.length*5:=YJ post
 have hst: (QM post).map AV.strip=QM post:=Z5 WH post
 have hrl: (QM (pre ++ p:: post)++ t).length=n*5+t.length:=by rw[List.length_append,YJ];simp;omega
 have htk:=Ox (f:=QZ) (k:=5) Wk (l:=pre ++ p:: post) (pre:=pre) (post:=p:: post) rfl t
 have hdr:=MV (f:=QZ) (k:=5) Wk (l:=pre ++ p:: post) (pre:=pre ++ [p]) (post:=post) (by simp) t
 rw[List.length_append,List.length_singleton]at hdr
 have hne:QM (pre ++ p:: post)++ t≠[]:=by
  intro e;have:=congrArg List.length e;rw[hrl]at this;simp at this;omega
 have hb56:n*64≤140737488355328:=by omega
 have hb57:pre.length*64≤140737488355328:=by omega
 have hb58: (pre.length+post.length)*64≤140737488355328:=by omega
 have hq2: (n:Int)≤((QM (pre ++ p:: post)++ t).length:Int) / 5:=by rw[hrl];omega
 have e13:pre.length≤n:=by omega
 rw[Qb F.tb_195 _ _ rfl]
 generalize hcc:QM (pre ++ p:: post)++ t=c at *
 by_cases hp:post=[]
 ·subst hp
  have e8':n - (pre.length+1)=0:=by simpa using e8
  have e9':pre.length=n - 1:=by simpa using e9
  have e12:n - pre.length=1:=by omega
  have hle:pre.length*5+5≤c.length:=by omega
  refine⟨List.replicate 5 .undef ++ c.drop (pre.length*5+5),by simp,?_⟩
  simp[-getElem?_pos,F.f195B,F.f195C,e1,e2,e3,e4,e5,e6,e7,e8',e12,e13,hb,hb57,hq2,hle,hne,htk,appM,Wh,F.f195R,F.f195K]
 ·have hz: ¬post.length=0:=fun e=>hp (List.eq_nil_of_length_eq_zero e)
  have hle: (pre.length+1)*5+post.length*5≤c.length:=by omega
  have hle2: (pre.length+post.length)*5≤c.length:=by omega
  have hle3:pre.length*5≤c.length:=by omega
  have htp: ((c.map AV.strip).drop ((pre.length+1)*5)).take (post.length*5)=QM post:=by
   rw[← List.map_drop,hdr,← hp0,List.map_append]
   change List.take (QM post).length (List.map AV.strip (QM post)++ List.map AV.strip t)=QM post
   rw[hst,List.take_left]
  have e14: (pre.length:Int)+ (post.length:Int)≤(n:Int):=by omega
  have e15: (0:Int)≤(pre.length:Int)+ (post.length:Int):=by omega
  have e16:n - (pre.length+post.length)=1:=by omega
  have e17: ((pre.length:Int)+ (post.length:Int)).toNat=pre.length+post.length:=by omega
  have e18:pre.length+post.length≤n:=by omega
  have hgs: ∀x:List AV,(B.set id x)[id]? =some x:=fun x=>by simp[hlt]
  obtain⟨c1,hc1⟩: ∃c1,ZL QZ pre ++ (QM post ++ c.drop (pre.length*5+post.length*5))=c1:=⟨_,rfl⟩
  have hc1':c1=QM (pre ++ post)++ c.drop ((pre.length+post.length)*5):=by rw[← hc1,show QM (pre ++ post)=QM pre ++ QM post from XZ _ _ _,Nat.add_mul];simp
  have hr1: (QM (pre ++ post)).length=(pre.length+post.length)*5:=by rw[YJ];simp
  have hl1:c1.length=c.length:=by rw[hc1',List.length_append,hr1,List.length_drop];omega
  have htk1:c1.take ((pre.length+post.length)*5)=QM (pre ++ post):=by rw[hc1',← hr1,List.take_left]
  have hle4: (pre.length+post.length)*5+5≤c1.length:=by omega
  rw[← hl1]at hq2
  refine⟨List.replicate 5 .undef ++ c1.drop ((pre.length+post.length)*5+5),by simp,?_⟩
  rw[hl1]at hq2
  have hq3: (n:Int)≤(c1.length:Int) / 5:=by rw[hl1];exact hq2
  simp[-getElem?_pos,F.f195B,F.f195C,e1,e2,e3,e4,e5,e6,e7,e8,e14,e15,e16,e17,e18,hp,hb,hb57,hb58,hq2,hq3,hle,hle2,hle3,hle4,hne,htk,htk1,htp,hp0,hgs,hc1,appM,Wh,F.f195R,F.f195K]
def Yc:List Pw→Tm→Int→List Pw
 | [],t,n=>[(t,n)]
 | p:: r,t,n=>if Qm p.1 t < 0 then p:: Yc r t n else if Qm p.1 t=0 then(if p.2+n=0 then r else(p.1,p.2+n):: r)else(t,n):: p:: r
theorem HW: ∀(pre post:List Pw) (t:Tm) (n:Int),(∀p∈pre,Qm p.1 t < 0)→Yc (pre ++ post) t n=pre ++ Yc post t n
 | [],_,_,_,_=>rfl
 | p:: pre,post,t,n,h=>by
  simp only[List.cons_append,Yc]
  rw[if_pos (h p (by simp)),HW pre post t n fun q hq=>h q (by simp[hq])]
def PS (B0 B:List (List AV)) (v:AV) (l:List Pw):Prop:=∃(M:List (List AV)) (id sz:Nat),B=B0 ++ M∧v= .gs id 0 sz l.length∧
 ((sz=0∧id=0∧l=[])∨(sz=5∧B0.length≤id∧∃t,B[id]? =some (QM l ++ t)∧QM l ++ t≠[]))
def QcE (B0:List (List AV)) (l:List Pw) (r:Out):Prop:=∃v B,r=some (v,B)∧PS B0 B v l
theorem QbT (B0:List (List AV)):PS B0 B0 (.gs 0 0 0 0) []:=⟨[],0,0,by simp,rfl,.inl ⟨rfl,rfl,rfl⟩⟩
theorem Y0 {B0 M:List (List AV)} {id:Nat} (h:B0.length≤id) (x:List AV): (B0 ++ M).set id x=B0 ++ M.set (id - B0.length) x:=by rw[List.set_append,if_neg (by omega)]
theorem E1 {B0 B:List (List AV)} {v:AV} {l:List Pw} {p:Pw} (h:PS B0 B v l) (hl:l.length < 50000000) (hm: ∀q∈l,q.1.mass < big∧ -100000000 < q.2∧q.2 < 100000000) (hp:p.1.mass < big) (hpn: -100000000 < p.2∧p.2 < 100000000) (ha:Asc (XQ l)):
  QcE B0 (Yc l p.1 p.2) (call F.tb 189 [v,.agg (QZ p)] B):=by
 obtain⟨M,id,sz,rfl,rfl,hcase⟩:=h
 have hb: ∃c,l≠[]→sz=5∧(B0 ++ M)[id]? =some (QM l ++ c):=by
  rcases hcase with⟨_,_,rfl⟩ | ⟨h1,_,t,h2,_⟩
  ·exact⟨[],fun h=>absurd rfl h⟩
  ·exact⟨t,fun _=>⟨h1,h2⟩⟩
 obtain⟨c,hb⟩:=hb
 obtain⟨k,⟨hk1,hk2,hk3⟩,hc⟩:=QfH (t:=p.1) (by omega) hb (fun q hq=>(hm q hq).1) hp ha
 have hcl:=UM p.1 (B0 ++ M) hp
 have hsplit:l=l.take k ++ l.drop k:=(List.take_append_drop _ _).symm
 have hkl: (l.take k).length=k:=by rw[List.length_take];omega
 have hpre: ∀q∈l.take k,Qm q.1 p.1 < 0:=by
  intro q hq
  obtain⟨i,hi,rfl⟩:=List.getElem_of_mem hq
  rw[hkl]at hi
  exact hk2 i _ (by rw[List.getElem_take];exact List.getElem?_eq_getElem (by omega)) hi
 have hadd:Yc l p.1 p.2=l.take k ++ Yc (l.drop k) p.1 p.2:=by
  conv=>lhs;rw[hsplit]
  exact HW _ _ _ _ hpre
 rw[Qb F.tb_189 _ _ rfl]
 by_cases hh:hit l p.1 k=true
 ·rw[hh]at hc
  obtain⟨q,hq,hq0⟩: ∃q,l[k]? =some q∧Qm q.1 p.1=0:=by
   unfold hit at hh
   split at hh
   ·rename_i q hq;exact⟨q,hq,by simpa using hh⟩
   ·cases hh
  have hkl2:k < l.length:=by
   rcases Nat.lt_or_ge k l.length with h | h
   ·exact h
   ·rw[List.getElem?_eq_none h]at hq;cases hq
  have hne0:l≠[]:=by intro e;subst e;simp at hkl2
  have hqe:q.1=p.1:=Z6 _ _ hq0
  have hdk:l.drop k=q:: l.drop (k+1):=by
   rw[List.drop_eq_getElem_cons hkl2]
   rw[List.getElem?_eq_getElem hkl2]at hq;injection hq with hq;rw[hq]
  have hlq:l=l.take k ++ q:: l.drop (k+1):=by rw[← hdk];exact hsplit
  have hadd2:Yc (l.drop k) p.1 p.2=if q.2+p.2=0 then l.drop (k+1)else(q.1,q.2+p.2):: l.drop (k+1):=by
   rw[hdk];simp[Yc,hq0]
  rw[hadd,hadd2]
  rcases hcase with⟨_,_,rfl⟩ | ⟨rfl,hid,t,hbx,hne⟩
  ·exact absurd rfl hne0
  have hlt:=Ug hbx
  have hqm:=(hm q (List.mem_of_getElem? hq)).2
  have hw:IntKind.i64.wrap (q.2+p.2)=q.2+p.2:=Ql (by omega) (by omega)
  have hrd:=Nz hq t
  have hlen: (QM l ++ t).length=l.length*5+t.length:=by rw[List.length_append,YJ]
  have hcell: (QM l ++ t)[k*5+4]? =some (.int .i64 q.2):=by
   have h1: (((QM l ++ t).drop (k*5)).take 5)[4]? =some (.int .i64 q.2):=by rw[hrd];simp
   rw[List.getElem?_take_of_lt (by omega),List.getElem?_drop]at h1
   exact h1
  have hle:k*5+4+1≤(QM l ++ t).length:=by omega
  have hnew: (QM l ++ t).take (k*5+4)++ (AV.int .i64 (q.2+p.2):: (QM l ++ t).drop (k*5+4+1))=QM (l.take k ++ (q.1,q.2+p.2):: l.drop (k+1))++ t:=by
   have h1:=P2 (f:=QZ) (k:=5) Wk (q.1,q.2+p.2) hlq t
   rw[hkl]at h1
   rw[show QM (l.take k ++ (q.1,q.2+p.2):: l.drop (k+1))++ t=_ from h1.symm]
   have h2: (QM l ++ t).take (k*5+4)=(QM l ++ t).take (k*5)++ Qa q.1:=by
    rw[List.take_add]
    congr 1
    have: ((QM l ++ t).drop (k*5)).take 4=(((QM l ++ t).drop (k*5)).take 5).take 4:=by rw[List.take_take];rfl
    rw[this]
    rw[hrd];simp
   rw[h2]
   simp[QZ]
  have hlt3: (k:Int) < (l.length:Int):=by omega
  have hgs: ∀x:List AV,((B0 ++ M).set id x)[id]? =some x:=fun x=>by
   have:id < (B0 ++ M).length:=hlt
   rw[List.getElem?_set,if_pos rfl,if_pos this]
  have hcell2: (QM (l.take k ++ (q.1,q.2+p.2):: l.drop (k+1))++ t)[k*5+4]? =some (.int .i64 (q.2+p.2)):=by
   have h0: (l.take k ++ (q.1,q.2+p.2):: l.drop (k+1))[k]? =some (q.1,q.2+p.2):=by
    rw[List.getElem?_append_right (by omega),hkl,Nat.sub_self];rfl
   have h1: (((QM (l.take k ++ (q.1,q.2+p.2):: l.drop (k+1))++ t).drop (k*5)).take 5)[4]? =some (.int .i64 (q.2+p.2)):=by rw[Nz h0 t];simp
   rw[List.getElem?_take_of_lt (by omega),List.getElem?_drop]at h1
   exact h1
  have hln: (l.take k ++ (q.1,q.2+p.2):: l.drop (k+1)).length=l.length:=by simp;omega
  have hle2:k*5+4+1≤(QM (l.take k ++ (q.1,q.2+p.2):: l.drop (k+1))++ t).length:=by rw[List.length_append,YJ,hln];omega
  have hw2:IntKind.i64.wrap ((k:Int)+1)=(k:Int)+1:=Ql (by omega) (by omega)
  have hdel:=fun(x:Pw) (B:List (List AV)) (hB:B[id]? =some (QM (l.take k ++ x:: l.drop (k+1))++ t))=>QfI (n:=l.length) (by simp;omega) (by omega) hB
  rw[hkl]at hdel
  generalize hc1:QM (l.take k ++ (q.1,q.2+p.2):: l.drop (k+1))++ t=c1 at *
  generalize hc0:QM l ++ t=c0 at *
  by_cases hz:q.2+p.2=0
  ·obtain⟨t3,ht3,hd3⟩:=hdel (q.1,q.2+p.2) ((B0 ++ M).set id c1) (by rw[hc1];exact hgs c1)
   rw[if_pos hz]
   rw[List.set_set]at hd3
   refine⟨.gs id 0 5 (l.take k ++ l.drop (k+1)).length,(B0 ++ M).set id (QM (l.take k ++ l.drop (k+1))++ t3),?_,M.set (id - B0.length) (QM (l.take k ++ l.drop (k+1))++ t3),id,5,Y0 hid _,rfl,.inr ⟨rfl,hid,t3,hgs _,by simp[ht3]⟩⟩
   have hwz:IntKind.i64.wrap (q.2+p.2)=0:=by rw[hw,hz]
   rw[hz]at hnew hcell2
   simp[-getElem?_pos,Yi,List.getElem?_cons_succ,F.f189B,F.f189C,hc,hlt3,hbx,hcell,hle,hwz,hw2,hnew,hgs,hcell2,hle2,hd3,F.f189R,F.f189K]
  ·rw[if_neg hz]
   refine⟨.gs id 0 5 l.length,(B0 ++ M).set id c1,?_,M.set (id - B0.length) c1,id,5,Y0 hid _,by rw[hln],.inr ⟨rfl,hid,t,by rw[hc1];exact hgs _,by rw[hc1];intro e;rw[e]at hle2;simp at hle2⟩⟩
   simp[-getElem?_pos,Yi,List.getElem?_cons_succ,F.f189B,F.f189C,hc,hlt3,hbx,hcell,hle,hw,hw2,hnew,hgs,hcell2,hle2,hz,F.f189R,F.f189K]
 ·have hh':hit l p.1 k=false:=by simpa using hh
  have hadd2:Yc (l.drop k) p.1 p.2=p:: l.drop k:=by
   cases hd:l.drop k with
   | nil=>rfl
   | cons q r=>
    have hq:l[k]? =some q:=by rw[← List.head?_drop,hd];rfl
    have h1:=hk3 k q hq (Nat.le_refl _)
    have h2: ¬Qm q.1 p.1=0:=by simpa[hit,hq]using hh'
    simp[Yc,h1,h2]
  rw[hadd,hadd2]
  have hins: ∃t2 M2 id2,call F.tb 194 [.gs id 0 sz l.length,.int .i64 k,.sl false 5 [QZ p]] (B0 ++ M)=some (.gs id2 0 5 (l.length+1),B0 ++ M2)∧B0.length≤id2∧(B0 ++ M2)[id2]? =some (QM (l.take k ++ p:: l.drop k)++ t2):=by
   rw[XH F.tb_194]
   have q1: (0:Int)≤(k:Int):=by omega
   have q2: (k:Int)≤(l.length:Int):=by omega
   have q3: (l.length+1)*64≤140737488355328:=by omega
   have q4:l.length+1≤140737488355328:=by omega
   rcases hcase with⟨rfl,rfl,rfl⟩ | ⟨rfl,hid,t,hbx,hne⟩
   ·have hk0:k=0:=by simpa using hk1
    subst hk0
    refine⟨[],M ++ [QZ p],(B0 ++ M).length,?_,by simp,?_⟩
    ·simp[KW,Sk,MM]
    ·rw[← List.append_assoc,List.getElem?_concat_length];simp[QM,ZL]
   ·have hlt:=Ug hbx
    have hr0:=YJ l
    have hle:l.length*5≤(QM l ++ t).length:=by rw[List.length_append,hr0];omega
    have hcs:Sk k 5 l.length (QM l ++ t) [QZ p]=QM (l.take k ++ p:: l.drop k):=by
     have h1: (QM l ++ t).take (l.length*5)=QM l:=by rw[← hr0,List.take_left]
     have h2:=Ox (f:=QZ) (k:=5) Wk (l:=l) (pre:=l.take k) (post:=l.drop k) hsplit []
     have h3:=MV (f:=QZ) (k:=5) Wk (l:=l) (pre:=l.take k) (post:=l.drop k) hsplit []
     rw[hkl,List.append_nil]at h2 h3
     rw[List.append_nil]at h3
     unfold Sk
     rw[h1,h2,h3,show QM (l.take k ++ p:: l.drop k)=QM (l.take k)++ (QZ p ++ QM (l.drop k)) by simp[QM,XZ,UG]]
     rw[List.map_append,List.map_append,Z5 WH,Z5 WH]
     simp
    have hgp:gpfreeL (QM (l.take k ++ p:: l.drop k))=true:=QbU QgP _
    refine⟨[],M.set (id - B0.length) []++ [QM (l.take k ++ p:: l.drop k)],(B0 ++ M).length,?_,by simp,?_⟩
    ·simp only[KW]
     rw[if_pos ⟨trivial,by omega,by simp,q1,q2,by simpa using q3,by simpa using q4⟩,if_neg (by omega),if_pos ⟨trivial,trivial⟩,hbx]
     simp only[Option.bind_some]
     rw[if_pos ⟨hne,hle⟩,Int.toNat_natCast,hcs,Y0 hid]
     simp[MM,hgp]
    ·rw[← List.append_assoc,List.append_nil]
     have: (B0 ++ M).length=(B0 ++ M.set (id - B0.length) []).length:=by simp
     rw[this,List.getElem?_concat_length]
  obtain⟨t2,M2,id2,hc2,h2a,h2b⟩:=hins
  refine⟨.gs id2 0 5 (l.length+1),B0 ++ M2,?_,M2,id2,5,rfl,?_,.inr ⟨rfl,h2a,t2,h2b,?_⟩⟩
  ·rw[hh']at hc
   have hfold: [AV.int .i64 p.1.kind,.str p.1.name,.int .i64 p.1.sort,.sl false 4 (encTs p.1.kids),.int .i64 p.2]=QZ p:=(Dv p).symm
   have hf:Qa p.1 ++ [.int .i64 p.2]=QZ p:=rfl
   simp[F.f189B,F.f189C,hc,hcl,List.take_append,List.drop_append,hf,CS,hc2,F.f189R,F.f189K]
  ·congr 1;simp;omega
  ·intro e
   have:=congrArg List.length e
   rw[List.length_append,YJ]at this
   simp at this
end Go.Am
namespace Go.Am
set_option maxRecDepth 8000
def MUL:List UInt8:=[109,117,108]
def INV:List UInt8:=[105,110,118]
def ONE:List UInt8:=[111,110,101]
def Xy (t:Tm):Bool:=decide (t.kind=3) && (t.name == MUL || t.name == INV || t.name == ONE)
theorem Fs {t:Tm} (h:Xy t=true):t.kind=3∧(t.name=MUL∨t.name=INV∨t.name=ONE):=by
 simp only[Xy,Bool.and_eq_true,Bool.or_eq_true,decide_eq_true_eq,beq_iff_eq]at h
 obtain⟨h1,(h2 | h2) | h2⟩:=h
 ·exact⟨h1,.inl h2⟩
 ·exact⟨h1,.inr (.inl h2)⟩
 ·exact⟨h1,.inr (.inr h2)⟩
theorem O7 (t:Tm) (bs:List (List AV)):call F.tb 188 [.agg (Qa t)] bs=some (.bool (Xy t),bs):=by
 rw[Qb F.tb_188 _ _ rfl]
 by_cases hk:t.kind=3
 ·cases h1:t.name == MUL
  ·cases h2:t.name == INV
   ·cases h3:t.name == ONE <;> simp only[MUL,INV,ONE]at h1 h2 h3 <;> simp[F.f188B,F.f188C,F.f188R,F.f188K,Xy,hk,h1,h2,h3,MUL,INV,ONE]
   ·simp only[MUL,INV,ONE]at h1 h2;simp[F.f188B,F.f188C,F.f188R,F.f188K,Xy,hk,h1,h2,MUL,INV,ONE]
  ·simp only[MUL,INV,ONE]at h1;simp[F.f188B,F.f188C,F.f188R,F.f188K,Xy,hk,h1,MUL,INV,ONE]
 ·simp[F.f188B,F.f188C,F.f188R,F.f188K,Xy,hk]
theorem Sf (t:Tm) (bs:List (List AV)):call F.tb 255 [.agg (Qa t)] bs=some (.bool (Xy t),bs):=by
 rw[Qb F.tb_255 _ _ rfl]
 by_cases hk:t.kind=3
 ·cases h1:t.name == MUL
  ·cases h2:t.name == INV
   ·cases h3:t.name == ONE <;> simp only[MUL,INV,ONE]at h1 h2 h3 <;> simp[F.f255B,F.f255C,F.f255R,F.f255K,Xy,hk,h1,h2,h3,MUL,INV,ONE]
   ·simp only[MUL,INV,ONE]at h1 h2;simp[F.f255B,F.f255C,F.f255R,F.f255K,Xy,hk,h1,h2,MUL,INV,ONE]
  ·simp only[MUL,INV,ONE]at h1;simp[F.f255B,F.f255C,F.f255R,F.f255K,Xy,hk,h1,MUL,INV,ONE]
 ·simp[F.f255B,F.f255C,F.f255R,F.f255K,Xy,hk]
def Y9 (t:Tm):Bool:= !((t.name == MUL && decide (t.kids.length < 2)) || (t.name == INV && !decide (t.kids.length=1)) || (t.name == ONE && !decide (t.kids.length=0)))
mutual
def arB:Tm→Bool
 | .mk k n s ks=> !Xy (.mk k n s ks) || (Y9 (.mk k n s ks) && arL ks)
def arL:List Tm→Bool
 | []=>true
 | t:: ts=>arB t && arL ts
end
theorem QaX (t:Tm):arB t=(!Xy t || (Y9 t && arL t.kids)):=by cases t;simp[arB]
mutual
def XI:List Pw→Tm→Int→List Pw
 | l,.mk k n s ks,m=>if Xy (.mk k n s ks)then colL l ks (if n == INV then -m else m)else Yc l (.mk k n s ks) m
def colL:List Pw→List Tm→Int→List Pw
 | l,[],_=>l
 | l,t:: ts,m=>colL (XI l t m) ts m
end
theorem PT (l:List Pw) (t:Tm) (m:Int):XI l t m=if Xy t then colL l t.kids (if t.name == INV then -m else m)else Yc l t m:=by cases t;simp[XI]
theorem Cv (t:Tm) (bs:List (List AV)) (hm:t.mass < big) (ih: ∀x∈t.kids,∀bs,call F.tb 254 [.agg (Qa x)] bs=some (.bool (arB x),bs)):
  ∀(post pre:List Tm) (ρ:Nat→AV),t.kids=pre ++ post→ρ 1= .bx (Qa t)→ρ 3= .int .i64 t.kids.length→ρ 4= .int .i64 pre.length→
  R F.tb (.loop F.f254l0) ρ bs (Qk 0 (Qv F.tb F.f254r0 (Qx F.f254 bs)))=some (.bool (arL post),bs):=by
 have hm2:=Qo t
 unfold big at hm
 intro post
 induction post with
 | nil=>
  intro pre ρ hk h1 h3 h4
  simp only[List.append_nil]at hk
  rw[← hk]at h4
  rw[Qc F.f254l0.eq_1]
  simp[h1,h3,h4,F.f254r0,F.f254R,F.f254K,arL]
 | cons x post IH=>
  intro pre ρ hk h1 h3 h4
  have hg:=Qp hk
  have hl:t.kids.length=pre.length+ (post.length+1):=by rw[hk];simp
  have hw1:IntKind.i64.wrap ((pre.length:Int)+1)=(pre.length:Int)+1:=Ql (by omega) (by omega)
  have hlt: (pre.length:Int) < (t.kids.length:Int):=by omega
  have hc:=ih x (by rw[hk];simp) bs
  rw[Qc F.f254l0.eq_1]
  cases hb:arB x
  ·simp[h1,h3,h4,hg,hw1,hlt,hc,hb,F.f254R,F.f254K,arL]
  ·have h2:=fun ρ=>IH (pre ++ [x]) ρ (by rw[hk];simp)
   simp[h1,h3,h4,hg,hw1,hlt,hc,hb,arL]
   refine h2 _ ?_ ?_ ?_ <;> simp[h1,h3]
theorem CH: ∀(t:Tm) (bs:List (List AV)),t.mass < big→call F.tb 254 [.agg (Qa t)] bs=some (.bool (arB t),bs):=by
 refine Zh ?_
 intro k n s ks ih bs hm
 have hl:=fun ρ=>Cv (.mk k n s ks) bs hm (fun x hx bs=>ih x hx bs (by have:=Qz hx;have:=Qo (.mk k n s ks);simp at *;omega)) ks [] ρ rfl
 have hsp:=Sf (.mk k n s ks) bs
 rw[Qb F.tb_254 _ _ rfl,QaX]
 cases hs:Xy (.mk k n s ks)
 ·simp[F.f254B,F.f254C,hsp,hs,F.f254R,F.f254K]
 ·have hbe: ((Qa (.mk k n s ks)).map AV.strip)=Qa (.mk k n s ks):=Zs _
  obtain⟨rfl,hn⟩:=Fs hs
  simp only[Q3]at hn
  simp only[QJ]at hl
  rcases hn with rfl | rfl | rfl
  ·by_cases d:ks.length < 2
   ·have d': (ks.length:Int) < 2:=by omega
    have hc:Y9 (.mk 3 MUL s ks)=false:=by simp[Y9,d]
    simp only[hc]
    simp[MUL]at hsp hs hc
    simp[F.f254B,F.f254C,hsp,hs,MUL,d',F.f254R,F.f254K]
   ·have d': ¬(ks.length:Int) < 2:=by omega
    have hc:Y9 (.mk 3 MUL s ks)=true:=by simp[Y9,d];simp[MUL,INV,ONE]
    simp only[hc]
    simp[MUL]at hsp hs hc hl
    simp[F.f254B,F.f254C,hsp,hs,MUL,d']
    refine hl _ ?_ ?_ ?_ <;> simp
  ·by_cases d:ks.length=1
   ·have d': (ks.length:Int)=1:=by omega
    have hc:Y9 (.mk 3 INV s ks)=true:=by simp[Y9,d];simp[MUL,INV,ONE]
    simp only[hc]
    simp[INV]at hsp hs hc hl
    simp[F.f254B,F.f254C,hsp,hs,INV,d']
    refine hl _ ?_ ?_ ?_ <;> simp[d]
   ·have d': ¬(ks.length:Int)=1:=by omega
    have hc:Y9 (.mk 3 INV s ks)=false:=by simp[Y9,d]
    simp only[hc]
    simp[INV]at hsp hs hc
    simp[F.f254B,F.f254C,hsp,hs,INV,d',F.f254R,F.f254K]
  ·by_cases d:ks=[]
   ·subst d
    have hc:Y9 (.mk 3 ONE s [])=true:=by simp[Y9];simp[MUL,INV,ONE]
    simp only[hc]
    simp[ONE]at hsp hs hc hl
    simp[F.f254B,F.f254C,hsp,hs,ONE]
    refine hl _ ?_ ?_ ?_ <;> simp
   ·have d0: ¬ks.length=0:=fun e=>d (List.eq_nil_of_length_eq_zero e)
    have d': ¬(ks.length:Int)=0:=by omega
    have hc:Y9 (.mk 3 ONE s ks)=false:=by simp[Y9,d]
    simp only[hc]
    simp[ONE]at hsp hs hc
    simp[F.f254B,F.f254C,hsp,hs,ONE,d,d',F.f254R,F.f254K]
theorem N6 {n:Nat} (h:n < 100000000):n*64≤140737488355328:=by omega
theorem Mt (l:List Pw) (t:Tm) (m:Int) (bs:List (List AV)) (hl:l.length < 100000000) (hm: ∀q∈l,q.1.mass < big) (ht:t.mass < big):
  ∀(post pre acc:List Pw) (o:Bool) (ρ:Nat→AV),l=pre ++ post→acc.length+post.length < 100000000→(∀q∈post,q.2≠0∧Qm t q.1≠0)→ρ 0= .sl o 5 (QH l)→ρ 2= .int .i64 m→ρ 4= .bx (Qa t)→ρ 7= .sl true 5 (QH acc)→ρ 8= .bool true→ρ 9= .int .i64 pre.length→
  R F.tb (.loop F.f257l0) ρ bs (Qk 0 (Qv F.tb F.f257r0 (Qx F.f257 bs)))=some (.sl false 5 (QH (acc ++ post)),bs):=by
 intro post
 induction post with
 | nil=>
  intro pre acc o ρ hk ha hp h0 h2 h4 h7 h8 h9
  simp only[List.append_nil]at hk
  rw[← hk]at h9
  rw[Qc F.f257l0.eq_1]
  simp[h0,h2,h4,h7,h8,h9,F.f257r0,F.f257R,F.f257K]
 | cons q post IH=>
  intro pre acc o ρ hk ha hp h0 h2 h4 h7 h8 h9
  have hg:=Qp hk
  have hll:l.length=pre.length+ (post.length+1):=by rw[hk];simp
  have hw1:IntKind.i64.wrap ((pre.length:Int)+1)=(pre.length:Int)+1:=Ql (by omega) (by omega)
  have hlt: (pre.length:Int) < (l.length:Int):=by omega
  have hc:=XW t q.1 bs ht (hm q (by rw[hk];simp))
  obtain⟨hq1,hq2⟩:=hp q (by simp)
  have hb: (acc.length+1)*64≤140737488355328:=N6 (by simp at ha;omega)
  have h3:=fun ρ=>IH (pre ++ [q]) (acc ++ [q]) o ρ (by rw[hk];simp) (by simp at ha ⊢;omega) (fun x hx=>hp x (by simp[hx]))
  simp only[List.append_assoc,List.cons_append,List.nil_append]at h3
  rw[Qc F.f257l0.eq_1]
  simp[h0,h2,h4,h7,h8,h9,hg,hlt,hw1,hc,hq1,hq2,hb,VT,VS]
  refine h3 _ ?_ ?_ ?_ ?_ ?_ ?_ <;> simp[h0,h2,h4,h8]
def NZ (l:List Pw):Prop:=∀q∈l,q.2≠0
theorem QcK (l:List Pw) (t:Tm) (m:Int) (bs:List (List AV)) (hl:l.length < 50000000) (hm: ∀q∈l,q.1.mass < big∧ -100000000 < q.2∧q.2 < 100000000) (hmm: -100000000 < m∧m < 100000000) (ht:t.mass < big) (ha:Asc (XQ l)) (hz:NZ l):
  ∀(post pre acc:List Pw) (o:Bool) (ρ:Nat→AV),l=pre ++ post→acc.length+post.length < 50000000→ρ 0= .sl o 5 (QH l)→ρ 2= .int .i64 m→ρ 4= .bx (Qa t)→ρ 7= .sl true 5 (QH acc)→ρ 8= .bool false→ρ 9= .int .i64 pre.length→
  R F.tb (.loop F.f257l0) ρ bs (Qk 0 (Qv F.tb F.f257r0 (Qx F.f257 bs)))=some (.sl false 5 (QH (acc ++ Yc post t m)),bs):=by
 intro post
 induction post with
 | nil=>
  intro pre acc o ρ hk hac h0 h2 h4 h7 h8 h9
  simp only[List.append_nil]at hk
  rw[← hk]at h9
  have hb: (acc.length+1)*64≤140737488355328:=N6 (by simp at hac;omega)
  have hf:Qa t ++ [.int .i64 m]=QZ (t,m):=rfl
  rw[Qc F.f257l0.eq_1]
  simp[h0,h2,h4,h7,h8,h9,F.f257r0,F.f257R,F.f257K,Yc,hb,List.take_append,List.drop_append,hf,VT,VS]
 | cons q post IH=>
  intro pre acc o ρ hk hac h0 h2 h4 h7 h8 h9
  have hg:=Qp hk
  have hll:l.length=pre.length+ (post.length+1):=by rw[hk];simp
  have hw1:IntKind.i64.wrap ((pre.length:Int)+1)=(pre.length:Int)+1:=Ql (by omega) (by omega)
  have hlt: (pre.length:Int) < (l.length:Int):=by omega
  have hql:q∈l:=by rw[hk];simp
  have hqm:=hm q hql
  have hq0:=hz q hql
  have hc:=XW t q.1 bs ht hqm.1
  have hb: (acc.length+1)*64≤140737488355328:=N6 (by simp at hac;omega)
  have hb2: (acc.length+1+1)*64≤140737488355328:=N6 (by clear hb;simp at hac;omega)
  have hap: ∀x∈post,Qm q.1 x.1 < 0:=by
   intro x hx
   have h1:=ha
   rw[hk,XQ,List.map_append,List.map_cons]at h1
   have h2:=(List.pairwise_append.1 h1).2.1
   exact(List.pairwise_cons.1 h2).1 x.1 (List.mem_map_of_mem hx)
  have hpz: ∀x∈post,x.2≠0:=fun x hx=>hz x (by rw[hk];simp[hx])
  have hf:Qa t ++ [.int .i64 m]=QZ (t,m):=rfl
  have hanti:=Y7 t q.1
  rw[Qc F.f257l0.eq_1]
  by_cases c1:Qm q.1 t < 0
  ·have e1: ¬Qm t q.1 < 0:=by clear hb hb2;omega
   have e2: ¬Qm t q.1=0:=by clear hb hb2;omega
   have h3:=fun ρ=>IH (pre ++ [q]) (acc ++ [q]) o ρ (by rw[hk];simp) (by clear hb hb2;simp at hac ⊢;omega)
   simp only[List.append_assoc,List.cons_append,List.nil_append]at h3
   simp only[Yc,c1,if_true]
   simp[h0,h2,h4,h7,h8,h9,hg,hlt,hw1,hc,hq0,e1,e2,hb,VT,VS]
   refine h3 _ ?_ ?_ ?_ ?_ ?_ ?_ <;> simp[h0,h2,h4,h8]
  ·by_cases c2:Qm q.1 t=0
   ·have e1: ¬Qm t q.1 < 0:=by clear hb hb2;omega
    have e2:Qm t q.1=0:=by clear hb hb2;omega
    have hqt:=Z6 _ _ c2
    have hw2:IntKind.i64.wrap (q.2+m)=q.2+m:=Ql (by clear hb hb2;omega) (by clear hb hb2;omega)
    have hpo: ∀x∈post,x.2≠0∧Qm t x.1≠0:=fun x hx=>⟨hpz x hx,by have:=hap x hx;rw[hqt]at this;clear hb hb2;omega⟩
    have hf2: (QZ q).take 4 ++ [.int .i64 (q.2+m)]=QZ (q.1,q.2+m):=by simp[QZ]
    by_cases c3:q.2+m=0
    ·have h3:=fun ρ=>Mt l t m bs (by clear hb hb2;omega) (fun q hq=>(hm q hq).1) ht post (pre ++ [q]) acc o ρ (by rw[hk];simp) (by clear hb hb2;simp at hac;omega) hpo
     simp only[Yc,c1,c2,c3,if_true,if_false]
     have hf3: (QZ q).take 4 ++ [.int .i64 0]=QZ (q.1,0):=by simp[QZ]
     simp[h0,h2,h4,h7,h8,h9,hg,hlt,hw1,hw2,hc,e2,c3,VT,VS]
     refine h3 _ ?_ ?_ ?_ ?_ ?_ ?_ <;> simp[h0,h2,h4,h7]
    ·have h3:=fun ρ=>Mt l t m bs (by clear hb hb2;omega) (fun q hq=>(hm q hq).1) ht post (pre ++ [q]) (acc ++ [(q.1,q.2+m)]) o ρ (by rw[hk];simp) (by clear hb hb2;simp at hac ⊢;omega) hpo
     simp only[List.append_assoc,List.cons_append,List.nil_append]at h3
     simp only[Yc,c1,c2,c3,if_true,if_false]
     have hf3:Qa q.1 ++ [.int .i64 (q.2+m)]=QZ (q.1,q.2+m):=rfl
     simp[h0,h2,h4,h7,h8,h9,hg,hlt,hw1,hw2,hc,e2,c3,hb,hf3,VT,VS]
     refine h3 _ ?_ ?_ ?_ ?_ ?_ ?_ <;> simp[h0,h2,h4]
   ·have e1:Qm t q.1 < 0:=by clear hb hb2;omega
    have e2: ¬Qm t q.1=0:=by clear hb hb2;omega
    have hpo: ∀x∈post,x.2≠0∧Qm t x.1≠0:=fun x hx=>⟨hpz x hx,by have:=Ys e1 (hap x hx);clear hb hb2;omega⟩
    have h3:=fun ρ=>Mt l t m bs (by clear hb hb2;omega) (fun q hq=>(hm q hq).1) ht post (pre ++ [q]) (acc ++ [(t,m),q]) o ρ (by rw[hk];simp) (by clear hb hb2;simp at hac ⊢;omega) hpo
    simp only[List.append_assoc,List.cons_append,List.nil_append]at h3
    simp only[Yc,c1,c2,if_false]
    simp[h0,h2,h4,h7,h8,h9,hg,hlt,hw1,hc,hq0,e1,e2,hb,hb2,List.take_append,List.drop_append,hf,VT,VS]
    refine h3 _ ?_ ?_ ?_ ?_ ?_ ?_ <;> simp[h0,h2,h4]
end Go.Am
