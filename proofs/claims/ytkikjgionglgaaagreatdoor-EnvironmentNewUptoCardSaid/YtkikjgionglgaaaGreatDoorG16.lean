/-
  Rc7, Rc8, Rc9, Rc10, Rc11, Rc12.
-/
import Derived.Test.YtkikjgionglgaaaGreatDoorG15
set_option linter.unusedVariables false
set_option linter.unusedSimpArgs false
namespace Go.Am
set_option maxRecDepth 8000
theorem ZS {n:Nat} (h:n≤200000000):n*56≤140737488355328:=by omega
theorem Bz (t:Tm) (bs:List (List AV)) (hm:t.mass < 100000000) (ih: ∀x∈t.kids,∀bs,call F.tb 237 [.agg (Qb x)] bs=some (.sl false 4 (encTs (Zh x)),bs)):
  ∀(post pre:List Tm) (ρ:Nat→AV),t.kids=pre ++ post→ρ 1= .bx (Qb t)→ρ 3= .sl true 4 (encTs (t:: allL pre))→ρ 4= .int .i64 pre.length→
  R F.tb (.loop F.f237l0) ρ bs (Qi 0 (Qs F.tb F.f237r0 (Qy F.f237 bs)))=some (.sl false 4 (encTs (Zh t)),bs):=by
 have hmk:=Qu t;have hn:=ZK t;have hnk:=Yo t;intro post
 induction post with
 | nil=>
  intro pre ρ hk h1 h3 h4;simp only[List.append_nil]at hk;rw[← hk]at h3 h4;rw[← Qbb]at h3;rw[Qc F.f237l0.eq_1];simp[h1,h3,h4,F.f237r0]
 | cons x post IH=>
  intro pre ρ hk h1 h3 h4;have hg:=Qn hk;have hl:=Qv hk;have hw1:=wr1 pre.length (by omega);have hlt:=Qw hk;have hnn:nodesL t.kids=nodesL pre+ (x.nodes+nodesL post):=by rw[hk,Z6];simp[nodesL]
  have hb: ((allL pre).length+1+ (Zh x).length)*56≤140737488355328:=by rw[allL_len,Xu];omega
  have hgl:t.kids[pre.length]'(by omega)=x:=by
   have:=List.getElem?_eq_getElem (l:=t.kids) (i:=pre.length) (by omega);rw[hg]at this;injection this with this;exact this.symm
  have hih:=ih x (by rw[hk];simp);have h2:=IH (pre ++ [x]);rw[Jq,show allL [x]=Zh x by simp[allL]]at h2;rw[Qc F.f237l0.eq_1];simp[h1,h3,h4,hg,hgl,hlt,hw1,hih,hb,Q1];rw[h2] <;> simp[h1,hk]
theorem OO: ∀(t:Tm) (bs:List (List AV)),t.mass < 100000000→call F.tb 237 [.agg (Qb t)] bs=some (.sl false 4 (encTs (Zh t)),bs):=by
 refine Zo ?_;intro k n s ks ih bs hm;have hl:=fun ρ=>Bz (.mk k n s ks) bs hm (fun x hx bs=>ih x hx bs (by have:=QB hx;have:=Qu (.mk k n s ks);simp at *;omega)) ks [] ρ rfl;rw[Qa F.tb_237 _ _ rfl];simp[F.f237C,QC];refine hl _ ?_ ?_ ?_ <;> simp[allL,encTs]
theorem Bx (l:List Tm) (t:Tm) (bs:List (List AV)) (hl:l.length < 100000000) (hm: ∀x∈l,x.mass < big) (ht:t.mass < big):
  ∀(post pre acc:List Tm) (d:Bool) (ρ:Nat→AV),l=pre ++ post→acc.length≤pre.length+1→(d=false→acc.length=pre.length)→ρ 0= .sl false 4 (encTs l)→ρ 3= .bx (Qb t)→ρ 5= .sl true 4 (encTs acc)→ρ 6= .bool d→ρ 7= .int .i64 pre.length→
  R F.tb (.loop F.f239l0) ρ bs (Qi 0 (Qs F.tb F.f239r0 (Qy F.f239 bs)))=some (.sl false 4 (encTs (acc ++ if d then post else Ye t post)),bs):=by
 intro post
 induction post with
 | nil=>
  intro pre acc d ρ hk ha hd h0 h3 h5 h6 h7;simp only[List.append_nil]at hk;rw[← hk]at h7 ha hd;have hb: (acc.length+1)*56≤140737488355328:=by omega
  rw[Qc F.f239l0.eq_1];cases d
  ·simp[h0,h3,h5,h6,h7,F.f239r0,hb,Ye,QC,Zi,Q1]
  ·simp[h0,h3,h5,h6,h7,F.f239r0,hb,Ye]
 | cons x post IH=>
  intro pre acc d ρ hk ha hd h0 h3 h5 h6 h7;have hg:=Qn hk;have hll:=Qv hk;have hw1:=wr1 pre.length (by omega);have hlt:=Qw hk;have hb: (acc.length+1)*56≤140737488355328:=ZS (by omega);have hb2: (acc.length+1+1)*56≤140737488355328:=ZS (by clear hb;omega);have hc:=Wr t x bs ht (hm x (by rw[hk];simp));rw[Qc F.f239l0.eq_1];cases d
  ·have hd:=hd rfl;by_cases h1:Qm t x < 0
   ·have hle:Qm t x≤0:=by omega
    have e:acc ++ (if false=true then x:: post else Ye t (x:: post))=(acc ++ [t]++ [x])++ (if true=true then post else Ye t post):=by simp[Ye,h1]
    rw[e];simp[h0,h3,h5,h6,h7,hg,hlt,hw1,hc,h1,hle,hb,hb2,QC,Zi,Q1];clear hb hb2;rw[IH (pre ++ [x]) (acc ++ [t]++ [x]) true] <;> simp[h0,h3,hk] <;> omega
   ·by_cases h2:Qm t x=0
    ·have e:acc ++ (if false=true then x:: post else Ye t (x:: post))=(acc ++ [x])++ (if true=true then post else Ye t post):=by simp[Ye,h2]
     rw[e];simp[h0,h3,h5,h6,h7,hg,hlt,hw1,hc,h1,h2,hb,QC,Zi,Q1];clear hb hb2;rw[IH (pre ++ [x]) (acc ++ [x]) true] <;> simp[h0,h3,hk] <;> omega
    ·have hle: ¬Qm t x≤0:=by omega
     have e:acc ++ (if false=true then x:: post else Ye t (x:: post))=(acc ++ [x])++ (if false=true then post else Ye t post):=by simp[Ye,h1,h2]
     rw[e];simp[h0,h3,h5,h6,h7,hg,hlt,hw1,hc,h1,h2,hle,hb,QC,Zi,Q1];clear hb hb2;rw[IH (pre ++ [x]) (acc ++ [x]) false] <;> simp[h0,h3,hk] <;> omega
  ·have e:acc ++ (if true=true then x:: post else Ye t (x:: post))=(acc ++ [x])++ (if true=true then post else Ye t post):=by simp
   rw[e];simp[h0,h3,h5,h6,h7,hg,hlt,hw1,hc,hb,QC,Zi,Q1];clear hb hb2;rw[IH (pre ++ [x]) (acc ++ [x]) true] <;> simp[h0,h3,hk] <;> omega
theorem JA (l:List Tm) (t:Tm) (o:Bool) (bs:List (List AV)) (hl:l.length < 100000000) (hm: ∀x∈l,x.mass < big) (ht:t.mass < big):
  call F.tb 239 [.sl o 4 (encTs l),.agg (Qb t)] bs=some (.sl false 4 (encTs (Ye t l)),bs):=by
 have h:=fun ρ=>Bx l t bs hl hm ht l [] [] false ρ rfl (by simp) (fun _=>rfl);rw[Qa F.tb_239 _ _ rfl];simp[F.f239C];simp at h;refine h _ ?_ ?_ ?_ ?_ ?_ <;> simp[encTs]
theorem BK (l:List Tm) (bs:List (List AV)) (hl:l.length < 100000000) (hm: ∀x∈l,x.mass < big):
  ∀(post pre acc:List Tm) (o:Bool) (ρ:Nat→AV),l=pre ++ post→acc.length≤pre.length→(∀x∈acc,x.mass < big)→ρ 0= .sl false 4 (encTs l)→ρ 3= .sl o 4 (encTs acc)→ρ 4= .int .i64 pre.length→
  R F.tb (.loop F.f238l0) ρ bs (Qi 0 (Qs F.tb F.f238r0 (Qy F.f238 bs)))=some (.sl false 4 (encTs (Xt acc post)),bs):=by
 intro post
 induction post with
 | nil=>
  intro pre acc o ρ hk ha hma h0 h3 h4;simp only[List.append_nil]at hk;rw[← hk]at h4;rw[Qc F.f238l0.eq_1];simp[h0,h3,h4,F.f238r0,Xt]
 | cons x post IH=>
  intro pre acc o ρ hk ha hma h0 h3 h4;have hg:=Qn hk;have hll:=Qv hk;have hw1:=wr1 pre.length (by omega);have hlt:=Qw hk;have hx:=hm x (by rw[hk];simp);have hc:=JA acc x false bs (by omega) hma hx;have hln:=Rt x acc;rw[Qc F.f238l0.eq_1];simp[h0,h3,h4,hg,hlt,hw1,hc];rw[IH (pre ++ [x]) (Ye x acc) false] <;> (try simp[h0,hk,Xt])
  ·omega
  ·intro y hy;rcases U1.1 hy with rfl | hy
   ·exact hx
   ·exact hma y hy
theorem VS (l:List Tm) (o:Bool) (bs:List (List AV)) (hl:l.length < 100000000) (hm: ∀x∈l,x.mass < big):
  call F.tb 238 [.sl o 4 (encTs l)] bs=some (.sl false 4 (encTs (QT l)),bs):=by
 have h:=fun ρ=>BK l bs hl hm l [] [] true ρ rfl (by simp) (by simp);rw[Qa F.tb_238 _ _ rfl];simp[F.f238C];refine h _ ?_ ?_ ?_ <;> simp[encTs]
theorem Lf (l:List Tm) (bs:List (List AV)) (hl:l.length < 100000000) (hm:massL l < 100000000):
  ∀(post pre:List Tm) (ρ:Nat→AV),l=pre ++ post→ρ 0= .sl false 4 (encTs l)→ρ 3= .sl true 4 (encTs (allL pre))→ρ 4= .int .i64 pre.length→
  R F.tb (.loop F.f265l0) ρ bs (Qi 0 (Qs F.tb F.f265r0 (Qy F.f265 bs)))=some (.sl false 4 (encTs (QT (allL l))),bs):=by
 have hnm:=nodesL_le_mass l;intro post
 induction post with
 | nil=>
  intro pre ρ hk h0 h3 h4;simp only[List.append_nil]at hk;rw[← hk]at h4 h3;have hc:=fun o=>VS (allL l) o bs (by rw[allL_len];omega) (fun x hx=>by have:=allL_mass l x hx;unfold big;omega);rw[Qc F.f265l0.eq_1];simp[h0,h3,h4,F.f265r0,hc]
 | cons x post IH=>
  intro pre ρ hk h0 h3 h4;have hg:=Qn hk;have hll:=Qv hk;have hw1:=wr1 pre.length (by omega);have hlt:=Qw hk;have hxm:x∈l:=by rw[hk];simp
  have hc:=OO x bs (by have:=QB hxm;omega);have hnn:nodesL l=nodesL pre+ (x.nodes+nodesL post):=by rw[hk,Z6];simp[nodesL]
  have hb: ((allL pre).length+ (Zh x).length)*56≤140737488355328:=by rw[allL_len,Xu];omega
  have h2:=IH (pre ++ [x]);rw[Jq,show allL [x]=Zh x by simp[allL]]at h2;rw[Qc F.f265l0.eq_1];simp[h0,h3,h4,hg,hlt,hw1,hc,hb,Q1];rw[h2] <;> simp[h0,hk]
theorem Ll (l:List Tm) (o:Bool) (bs:List (List AV)) (hl:l.length < 100000000) (hm:massL l < 100000000):
  call F.tb 265 [.sl o 4 (encTs l)] bs=some (.sl false 4 (encTs (QT (allL l))),bs):=by
 have h:=fun ρ=>Lf l bs hl hm l [] ρ rfl;rw[Qa F.tb_265 _ _ rfl];simp[F.f265C];refine h _ ?_ ?_ ?_ <;> simp[encTs,allL]
theorem CK (t:Tm) (k:Int) (bs:List (List AV)) (hm:t.mass < 100000000):
  ∀(post pre:List Tm) (o:Bool) (ρ:Nat→AV),Zh t=pre ++ post→ρ 1= .int .i64 k→ρ 5= .sl true 4 (encTs (pre.filter (Ym k)))→ρ 6= .sl o 4 (encTs (Zh t))→ρ 7= .int .i64 pre.length→
  R F.tb (.loop F.f236l0) ρ bs (Qi 0 (Qs F.tb F.f236r0 (Qy F.f236 bs)))=some (.sl false 4 (encTs (QT ((Zh t).filter (Ym k)))),bs):=by
 have hn:=ZK t;have hal:=Xu t;intro post
 induction post with
 | nil=>
  intro pre o ρ hk h1 h5 h6 h7;simp only[List.append_nil]at hk;rw[← hk]at h5 h7;have hfl:=List.length_filter_le (Ym k) (Zh t);have hc:=fun o=>VS ((Zh t).filter (Ym k)) o bs (by omega) (fun x hx=>by have:=X9 t x (List.mem_filter.1 hx).1;unfold big;omega);rw[Qc F.f236l0.eq_1];simp[h1,h5,h6,h7,F.f236r0,hc]
 | cons x post IH=>
  intro pre o ρ hk h1 h5 h6 h7;have hg:=Qn hk;have hll: (Zh t).length=pre.length+ (post.length+1):=by rw[hk];simp
  have hw1:=wr1 pre.length (by omega);have hlt: (pre.length:Int) < ((Zh t).length:Int):=by omega
  have hfl:=List.length_filter_le (Ym k) pre;have hb: ((pre.filter (Ym k)).length+1)*56≤140737488355328:=by omega
  have h2:=IH (pre ++ [x]) o;rw[Qc F.f236l0.eq_1];by_cases hx:x.kind=k
  ·have hf: (pre ++ [x]).filter (Ym k)=pre.filter (Ym k)++ [x]:=by simp[List.filter_cons,Ym,hx]
   rw[hf]at h2;simp[h1,h5,h6,h7,hg,hlt,hw1,hx,hb,QC,Zi,Q1];rw[h2] <;> simp[h1,h6,hk]
  ·have hf: (pre ++ [x]).filter (Ym k)=pre.filter (Ym k):=by simp[List.filter_cons,Ym,hx]
   rw[hf]at h2;simp[h1,h5,h6,h7,hg,hlt,hw1,hx];rw[h2] <;> simp[h1,h5,h6,hk]
theorem G8 (t:Tm) (k:Int) (bs:List (List AV)) (hm:t.mass < 100000000):call F.tb 236 [.agg (Qb t),.int .i64 k] bs=some (.sl false 4 (encTs (QT ((Zh t).filter (Ym k)))),bs):=by
 have h:=fun o ρ=>CK t k bs hm (Zh t) [] o ρ rfl;have hc:=OO t bs hm;rw[Qa F.tb_236 _ _ rfl];simp[F.f236C,QC,hc];refine h false _ ?_ ?_ ?_ ?_ <;> simp[encTs]
theorem G7 (t:Tm) (bs:List (List AV)) (hm:t.mass < 100000000):call F.tb 235 [.agg (Qb t)] bs=some (.sl false 4 (encTs (W7 t)),bs):=by
 have h:=G8 t 1 bs hm;rw[Qa F.tb_235 _ _ rfl];simp[F.f235,F.f235C,QC,h,W7]
theorem IZ (t:Tm) (bs:List (List AV)) (hm:t.mass < 100000000):call F.tb 234 [.agg (Qb t)] bs=some (.bool (decide ((W7 t)=[])),bs):=by
 have h:=G7 t bs hm;rw[Qa F.tb_234 _ _ rfl];simp[F.f234,F.f234C,QC,h]
def Z2 (l:List Tm) (t:Tm):Bool:=l.any fun x=>decide (Qm x t=0)
theorem JZ {l:List Tm} {t:Tm}:Z2 l t=true↔t∈l:=by
 simp only[Z2,List.any_eq_true,decide_eq_true_eq];constructor
 ·rintro⟨x,hx,h⟩;rw[← ZX _ _ h];exact hx
 ·intro h;exact⟨t,h,Wa t⟩
def XZ (l:List Tm) (t:Tm):List Tm:=if Z2 l t then l.filter (fun x=> !decide (Qm x t=0))else Ye t l
def Z0 (a b:List Tm):List Tm:=b.foldl XZ a
theorem G4 {l:List Tm} (p:Tm→Bool) (h:Asc l):Asc (l.filter p):=List.Pairwise.filter _ h
theorem BP {l:List Tm} (t:Tm) (h:Asc l):Asc (XZ l t):=by
 unfold XZ;split
 ·exact G4 _ h
 ·exact OJ h
theorem Id {l:List Tm} {t y:Tm}:y∈XZ l t↔(y∈l∧y≠t)∨(y=t∧t ∉ l):=by
 unfold XZ;split
 ·rename_i h;rw[JZ]at h;simp only[List.mem_filter,Bool.not_eq_true',decide_eq_false_iff_not,OU];constructor
  ·rintro⟨h1,h2⟩;exact .inl ⟨h1,h2⟩
  ·rintro(⟨h1,h2⟩ | ⟨rfl,h2⟩)
   ·exact⟨h1,h2⟩
   ·exact absurd h h2
 ·rename_i h;rw[JZ]at h;rw[U1];constructor
  ·rintro(rfl | h1)
   ·exact .inr ⟨rfl,h⟩
   ·refine .inl ⟨h1,fun e=> ?_⟩;subst e;exact h h1
  ·rintro(⟨h1,h2⟩ | ⟨h1,h2⟩)
   ·exact .inr h1
   ·exact .inl h1
theorem Ui: ∀(b a:List Tm),Asc a→Asc (Z0 a b)
 | [],_,h=>h
 | x:: b,a,h=>Ui b _ (BP x h)
theorem PN {y:Tm}: ∀{b a:List Tm},Asc b→(y∈Z0 a b↔(y∈a∧y ∉ b)∨(y ∉ a∧y∈b))
 | [],a,_=>by simp[Z0]
 | x:: b,a,h=>by
  rw[YA]at h;have ih:=PN (y:=y) (b:=b) (a:=XZ a x) h.2;have hxb:x ∉ b:=fun hm=>X4 x (h.1 x hm);simp only[Z0,List.foldl_cons]at ih ⊢;rw[ih,Id];simp only[List.mem_cons];by_cases e:y=x
  ·subst e;by_cases hy:y∈a <;> simp[hy,hxb]
  ·by_cases hy:y∈a <;> by_cases hb:y∈b <;> simp[hy,hb,e]
theorem WL: ∀(b a:List Tm),(Z0 a b).length≤a.length+b.length
 | [],a=>by simp[Z0]
 | x:: b,a=>by
  have ih:=WL b (XZ a x);have: (XZ a x).length≤a.length+1:=by
   unfold XZ;split
   ·have:=List.length_filter_le (fun y=> !decide (Qm y x=0)) a;omega
   ·exact Rt x a
  simp only[Z0,List.foldl_cons,List.length_cons]at ih ⊢;omega
def Xk:List Tm→List Tm→List Tm
 | [],b=>b
 | a,[]=>a
 | x:: a,y:: b=>if Qm x y < 0 then x:: Xk a (y:: b)else if 0 < Qm x y then y:: Xk (x:: a) b else Xk a b
termination_by a b=>a.length+b.length
theorem PQ (b:List Tm):Xk [] b=b:=by rw[Xk]
theorem RT (a:List Tm):Xk a []=a:=by cases a <;> rw[Xk];simp
theorem RR (x y:Tm) (a b:List Tm):Xk (x:: a) (y:: b)=if Qm x y < 0 then x:: Xk a (y:: b)else if 0 < Qm x y then y:: Xk (x:: a) b else Xk a b:=by rw[Xk]
theorem Vn {y:Tm}: ∀(n:Nat) (a b:List Tm),a.length+b.length≤n→Asc a→Asc b→(y∈Xk a b↔(y∈a∧y ∉ b)∨(y ∉ a∧y∈b))
 | _,[],b,_,_,_=>by rw[PQ];simp
 | _,x:: a,[],_,_,_=>by rw[RT];simp
 | 0,x:: a,z:: b,h,_,_=>by simp at h
 | n+1,x:: a,z:: b,h,ha,hb=>by
  have ha0:=ha;have hb0:=hb;rw[YA]at ha hb;simp only[List.length_cons]at h;rw[RR];split
  ·rename_i h1;rw[List.mem_cons,Vn n a (z:: b) (by simp;omega) ha.2 hb0];have hxb:x ∉ z:: b:=fun hm=>by
    rcases List.mem_cons.1 hm with e | e
    ·subst e;exact X4 x h1
    ·exact X4 x (Yu h1 (hb.1 x e))
   have hxa:x ∉ a:=fun hm=>X4 x (ha.1 x hm);by_cases e:y=x
   ·subst e;simp[hxb]
   ·simp[e]
  ·rename_i h1;split
   ·rename_i h2;have h2':=Nz.1 h2;rw[List.mem_cons,Vn n (x:: a) b (by simp;omega) ha0 hb.2];have hza:z ∉ x:: a:=fun hm=>by
     rcases List.mem_cons.1 hm with e | e
     ·subst e;exact X4 z h2'
     ·exact X4 z (Yu h2' (ha.1 z e))
    have hzb:z ∉ b:=fun hm=>X4 z (hb.1 z hm);by_cases e:y=z
    ·subst e;simp[hza]
    ·simp[e]
   ·rename_i h2;have e0:=ZX x z (by omega);subst e0;rw[Vn n a b (by omega) ha.2 hb.2];have hxa:x ∉ a:=fun hm=>X4 x (ha.1 x hm);have hxb:x ∉ b:=fun hm=>X4 x (hb.1 x hm);by_cases e:y=x
    ·subst e;simp[hxa,hxb]
    ·simp[e]
theorem Tg: ∀(n:Nat) (a b:List Tm),a.length+b.length≤n→Asc a→Asc b→Asc (Xk a b)
 | _,[],b,_,_,hb=>by rw[PQ];exact hb
 | _,x:: a,[],_,ha,_=>by rw[RT];exact ha
 | 0,x:: a,z:: b,h,_,_=>by simp at h
 | n+1,x:: a,z:: b,h,ha,hb=>by
  have ha0:=ha;have hb0:=hb;rw[YA]at ha hb;simp only[List.length_cons]at h;rw[RR];split
  ·rename_i h1;rw[YA];refine⟨fun y hy=> ?_,Tg n a (z:: b) (by simp;omega) ha.2 hb0⟩;rw[Vn n a (z:: b) (by simp;omega) ha.2 hb0]at hy;rcases hy with⟨hy,_⟩ | ⟨_,hy⟩
   ·exact ha.1 y hy
   ·rcases List.mem_cons.1 hy with e | e
    ·subst e;exact h1
    ·exact Yu h1 (hb.1 y e)
  ·rename_i h1;split
   ·rename_i h2;have h2':=Nz.1 h2;rw[YA];refine⟨fun y hy=> ?_,Tg n (x:: a) b (by simp;omega) ha0 hb.2⟩;rw[Vn n (x:: a) b (by simp;omega) ha0 hb.2]at hy;rcases hy with⟨hy,_⟩ | ⟨_,hy⟩
    ·rcases List.mem_cons.1 hy with e | e
     ·subst e;exact h2'
     ·exact Yu h2' (ha.1 y e)
    ·exact hb.1 y hy
   ·exact Tg n a b (by omega) ha.2 hb.2
theorem Iq {a b:List Tm} (ha:Asc a) (hb:Asc b):Xk a b=Z0 a b:=
 Oa (Tg _ a b (Nat.le_refl _) ha hb) (Ui b a ha) fun x=>by rw[Vn _ a b (Nat.le_refl _) ha hb,PN hb]
def Yw:List UInt8:=[122,101,114,111]
def XOR:List UInt8:=[120,111,114]
mutual
def Zc:Tm→List Tm
 | .mk k n s ks=>if k=3∧n=Yw∧ks=[]then []else if k=3∧n=XOR then sumL [] ks else [.mk k n s ks]
def sumL (acc:List Tm):List Tm→List Tm
 | []=>acc
 | t:: ts=>sumL (Z0 acc (Zc t)) ts
end
mutual
theorem W9: ∀t:Tm,Asc (Zc t)
 | .mk k n s ks=>by
  simp only[Zc];split
  ·exact Asc.nil
  ·split
   ·exact asc_sumL ks [] Asc.nil
   ·exact Me _
theorem asc_sumL: ∀(ts acc:List Tm),Asc acc→Asc (sumL acc ts)
 | [],_,h=>h
 | t:: ts,acc,h=>asc_sumL ts _ (Ui _ _ h)
end
theorem WI {y:Tm} {b a:List Tm} (hb:Asc b) (h:y∈Z0 a b):y∈a∨y∈b:=by
 rw[PN hb]at h;rcases h with h | h
 ·exact .inl h.1
 ·exact .inr h.2
mutual
theorem Td: ∀(t y:Tm),y∈Zc t→y∈Zh t
 | .mk k n s ks,y,h=>by
  simp only[Zc]at h;simp only[Zh,List.mem_cons];split at h
  ·simp at h
  ·split at h
   ·rcases sumL_mem ks [] y h with h | h
    ·simp at h
    ·exact .inr h
   ·simp at h;exact .inl h
theorem sumL_mem: ∀(ts acc:List Tm) (y:Tm),y∈sumL acc ts→y∈acc∨y∈allL ts
 | [],acc,y,h=> .inl h
 | t:: ts,acc,y,h=>by
  simp only[allL,List.mem_append];rcases sumL_mem ts _ y h with h | h
  ·rcases WI (W9 t) h with h | h
   ·exact .inl h
   ·exact .inr (.inl (Td t y h))
  ·exact .inr (.inr h)
end
mutual
theorem Tc: ∀t:Tm,(Zc t).length≤t.nodes
 | .mk k n s ks=>by
  simp only[Zc,Tm.nodes];split
  ·simp
  ·split
   ·have:=sumL_len ks [];simp at this;omega
   ·simp
theorem sumL_len: ∀(ts acc:List Tm),(sumL acc ts).length≤acc.length+nodesL ts
 | [],acc=>by simp[sumL,nodesL]
 | t:: ts,acc=>by
  have h1:=sumL_len ts (Z0 acc (Zc t));have h2:=WL (Zc t) acc;have h3:=Tc t;simp only[sumL,nodesL]at *;omega
end
theorem Li (l:List Tm) (t:Tm) (bs:List (List AV)) (hl:l.length < 100000000) (hm: ∀x∈l,x.mass < big) (ht:t.mass < big):
  ∀(post pre:List Tm) (ρ:Nat→AV),l=pre ++ post→ρ 0= .sl false 4 (encTs l)→ρ 3= .bx (Qb t)→ρ 5= .int .i64 pre.length→
  R F.tb (.loop F.f250l0) ρ bs (Qi 0 (Qs F.tb F.f250r0 (Qy F.f250 bs)))=some (.bool (Z2 post t),bs):=by
 intro post
 induction post with
 | nil=>
  intro pre ρ hk h0 h3 h5;simp only[List.append_nil]at hk;rw[← hk]at h5;rw[Qc F.f250l0.eq_1];simp[h0,h3,h5,F.f250r0,Z2]
 | cons x post IH=>
  intro pre ρ hk h0 h3 h5;have hg:=Qn hk;have hll:=Qv hk;have hw1:=wr1 pre.length (by omega);have hlt:=Qw hk;have hc:=We x t bs (hm x (by rw[hk];simp)) ht;rw[Qc F.f250l0.eq_1];by_cases he:Qm x t=0
  ·simp[h0,h3,h5,hg,hlt,hw1,hc,he,QC,Z2]
  ·have e:Z2 (x:: post) t=Z2 post t:=by simp[Z2,he]
   rw[e];simp[h0,h3,h5,hg,hlt,hw1,hc,he,QC];rw[IH (pre ++ [x])] <;> simp[h0,h3,hk]
theorem OP (l:List Tm) (t:Tm) (o:Bool) (bs:List (List AV)) (hl:l.length < 100000000) (hm: ∀x∈l,x.mass < big) (ht:t.mass < big):
  call F.tb 250 [.sl o 4 (encTs l),.agg (Qb t)] bs=some (.bool (Z2 l t),bs):=by
 have h:=fun ρ=>Li l t bs hl hm ht l [] ρ rfl;rw[Qa F.tb_250 _ _ rfl];simp[F.f250C];refine h _ ?_ ?_ ?_ <;> simp
theorem Qaq (l:List Tm) (t:Tm) (bs:List (List AV)) (hl:l.length < 100000000) (hm: ∀x∈l,x.mass < big) (ht:t.mass < big):
  ∀(post pre:List Tm) (ρ:Nat→AV),l=pre ++ post→ρ 0= .sl false 4 (encTs l)→ρ 3= .bx (Qb t)→ρ 5= .sl true 4 (encTs (pre.filter (fun x=> !decide (Qm x t=0))))→ρ 6= .int .i64 pre.length→
  R F.tb (.loop F.f249l0) ρ bs (Qi 0 (Qs F.tb F.f249r0 (Qy F.f249 bs)))=some (.sl false 4 (encTs (l.filter (fun x=> !decide (Qm x t=0)))),bs):=by
 intro post
 induction post with
 | nil=>
  intro pre ρ hk h0 h3 h5 h6;simp only[List.append_nil]at hk;rw[← hk]at h5 h6;rw[Qc F.f249l0.eq_1];simp[h0,h3,h5,h6,F.f249r0]
 | cons x post IH=>
  intro pre ρ hk h0 h3 h5 h6;have hg:=Qn hk;have hll:=Qv hk;have hw1:=wr1 pre.length (by omega);have hlt:=Qw hk;have hfl:=List.length_filter_le (fun x=> !decide (Qm x t=0)) pre;have hb: ((pre.filter (fun x=> !decide (Qm x t=0))).length+1)*56≤140737488355328:=ZS (by omega);have hc:=We x t bs (hm x (by rw[hk];simp)) ht;have h2:=IH (pre ++ [x]);rw[Qc F.f249l0.eq_1];by_cases he:Qm x t=0
  ·have hf: (pre ++ [x]).filter (fun x=> !decide (Qm x t=0))=pre.filter (fun x=> !decide (Qm x t=0)):=by simp[List.filter_cons,he]
   rw[hf]at h2;generalize pre.filter (fun x=> !decide (Qm x t=0))=pf at *;generalize l.filter (fun x=> !decide (Qm x t=0))=lf at *;simp[h0,h3,h5,h6,hg,hlt,hw1,hc,he,QC];rw[h2] <;> simp[h0,h3,h5,hk]
  ·have hf: (pre ++ [x]).filter (fun x=> !decide (Qm x t=0))=pre.filter (fun x=> !decide (Qm x t=0))++ [x]:=by simp[List.filter_cons,he]
   rw[hf]at h2;generalize pre.filter (fun x=> !decide (Qm x t=0))=pf at *;generalize l.filter (fun x=> !decide (Qm x t=0))=lf at *;simp[h0,h3,h5,h6,hg,hlt,hw1,hc,he,hb,QC,Zi,Q1];rw[h2] <;> simp[h0,h3,hk]
theorem I6 (l:List Tm) (t:Tm) (o:Bool) (bs:List (List AV)) (hl:l.length < 100000000) (hm: ∀x∈l,x.mass < big) (ht:t.mass < big):
  call F.tb 249 [.sl o 4 (encTs l),.agg (Qb t)] bs=some (.sl false 4 (encTs (XZ l t)),bs):=by
 have h:=fun ρ=>Qaq l t bs hl hm ht l [] ρ rfl;have hh:=OP l t false bs hl hm ht;have ha:=JA l t false bs hl hm ht;rw[Qa F.tb_249 _ _ rfl];cases hb:Z2 l t
 ·have e:XZ l t=Ye t l:=by simp[XZ,hb]
  rw[e];simp[F.f249C,QC,hh,hb,ha]
 ·have e:XZ l t=l.filter (fun x=> !decide (Qm x t=0)):=by simp[XZ,hb]
  rw[e];generalize l.filter (fun x=> !decide (Qm x t=0))=lf at *;simp[F.f249C,QC,hh,hb];refine h _ ?_ ?_ ?_ ?_ <;> simp[encTs]
theorem GZ (b:List Tm) (bs:List (List AV)) (hl:b.length < 40000000) (hm: ∀x∈b,x.mass < big):
  ∀(post pre acc:List Tm) (o:Bool) (ρ:Nat→AV),b=pre ++ post→acc.length+post.length < 90000000→(∀x∈acc,x.mass < big)→ρ 1= .sl false 4 (encTs b)→ρ 5= .sl o 4 (encTs acc)→ρ 6= .int .i64 pre.length→
  R F.tb (.loop F.f248l0) ρ bs (Qi 0 (Qs F.tb F.f248r0 (Qy F.f248 bs)))=some (.sl false 4 (encTs (Z0 acc post)),bs):=by
 intro post
 induction post with
 | nil=>
  intro pre acc o ρ hk ha hma h1 h5 h6;simp only[List.append_nil]at hk;rw[← hk]at h6;rw[Qc F.f248l0.eq_1];simp[h1,h5,h6,F.f248r0,Z0]
 | cons x post IH=>
  intro pre acc o ρ hk ha hma h1 h5 h6;have hg:=Qn hk;have hll:=Qv hk;have hw1:=wr1 pre.length (by omega);have hlt:=Qw hk;have hx:=hm x (by rw[hk];simp);have hal:acc.length+ (post.length+1) < 90000000:=by simpa using ha
  have hc:=I6 acc x false bs (by omega) hma hx;have htl: (XZ acc x).length≤acc.length+1:=by
   have:=WL [x] acc;simpa[Z0]using this
  have htm: ∀y∈XZ acc x,y.mass < big:=fun y hy=>by
   rcases Id.1 hy with h | h
   ·exact hma y h.1
   ·rw[h.1];exact hx
  have h2:=fun ρ=>IH (pre ++ [x]) (XZ acc x) false ρ (by rw[hk];simp) (by omega) htm;rw[Qc F.f248l0.eq_1];simp[h1,h5,h6,hg,hlt,hw1,hc];rw[show Z0 acc (x:: post)=Z0 (XZ acc x) post from rfl];refine h2 _ ?_ ?_ ?_ <;> simp[h1]
theorem Nl (a b:List Tm) (o o2:Bool) (bs:List (List AV)) (ha:a.length < 40000000) (hb:b.length < 40000000) (hma: ∀x∈a,x.mass < big) (hmb: ∀x∈b,x.mass < big):
  call F.tb 248 [.sl o 4 (encTs a),.sl o2 4 (encTs b)] bs=some (.sl false 4 (encTs (Z0 a b)),bs):=by
 have h:=fun o ρ=>GZ b bs hb hmb b [] a o ρ rfl (by omega) hma;have hlim:a.length*56≤140737488355328:=ZS (by omega);rw[Qa F.tb_248 _ _ rfl];simp[F.f248C,hlim];refine h true _ ?_ ?_ ?_ <;> simp
theorem D1 (t:Tm) (bs:List (List AV)) (hm:t.mass < 30000000) (ih: ∀x∈t.kids,∀bs,∃o,call F.tb 247 [.agg (Qb x)] bs=some (.sl o 4 (encTs (Zc x)),bs)):
  ∀(post pre acc:List Tm) (o:Bool) (ρ:Nat→AV),t.kids=pre ++ post→acc.length+nodesL post < 30000000→(∀x∈acc,x.mass < big)→ρ 1= .bx (Qb t)→ρ 3= .sl o 4 (encTs acc)→ρ 4= .int .i64 pre.length→
  R F.tb (.loop F.f247l0) ρ bs (Qi 0 (Qs F.tb F.f247r0 (Qy F.f247 bs)))=some (.sl false 4 (encTs (sumL acc post)),bs):=by
 have hmk:=Qu t;intro post
 induction post with
 | nil=>
  intro pre acc o ρ hk ha hma h1 h3 h4;simp only[List.append_nil]at hk;rw[← hk]at h4;rw[Qc F.f247l0.eq_1];simp[h1,h3,h4,F.f247r0,sumL]
 | cons x post IH=>
  intro pre acc o ρ hk ha hma h1 h3 h4;have hg:=Qn hk;have hll:=Qv hk;have hgl:t.kids[pre.length]'(by omega)=x:=by
   have:=List.getElem?_eq_getElem (l:=t.kids) (i:=pre.length) (by omega);rw[hg]at this;injection this with this;exact this.symm
  have hw1:=wr1 pre.length (by omega);have hlt:=Qw hk;have hxk:x∈t.kids:=by rw[hk];simp
  have hxm:=QB hxk;have hxn:=ZK x;have hsl:=Tc x;simp only[nodesL]at ha;obtain⟨o1,hc1⟩:=ih x hxk bs;have hsm: ∀y∈Zc x,y.mass < big:=fun y hy=>by have:=X9 x y (Td x y hy);unfold big;omega
  have hc2:=Nl acc (Zc x) false false bs (by omega) (by omega) hma hsm;have hpl:=WL (Zc x) acc;have hpm: ∀y∈Z0 acc (Zc x),y.mass < big:=fun y hy=>by
   rcases WI (W9 x) hy with h | h
   ·exact hma y h
   ·exact hsm y h
  have h2:=fun ρ=>IH (pre ++ [x]) (Z0 acc (Zc x)) false ρ (by rw[hk];simp) (by omega) hpm;rw[Qc F.f247l0.eq_1];simp[h1,h3,h4,hg,hgl,hlt,hw1,hc1,hc2,sumL];refine h2 _ ?_ ?_ ?_ <;> simp[h1]
theorem Mo: ∀(t:Tm) (bs:List (List AV)),t.mass < 30000000→∃o,call F.tb 247 [.agg (Qb t)] bs=some (.sl o 4 (encTs (Zc t)),bs):=by
 refine Zo ?_;intro k n s ks ih bs hm;have hmk:=Qu (.mk k n s ks);have hnm:=nodesL_le_mass ks;simp only[QZ,Zu]at hmk;have hl:=fun ρ=>D1 (.mk k n s ks) bs hm (fun x hx bs=>ih x hx bs (by have:=QB hx;simp at this;omega)) ks [] [] true ρ rfl (by simp;omega) (by simp);rw[Qa F.tb_247 _ _ rfl];by_cases hk:k=3
 ·by_cases hz:n=Yw
  ·cases ks with
   | nil=>
    refine⟨true,?_⟩;simp[F.f247C,Qb,encTs,Zc,hk,hz,Yw]
   | cons x xs=>
    refine⟨true,?_⟩;simp only[Yw]at hz;have: ¬((xs.length:Int)+1=0):=by omega
    simp[F.f247C,Qb,Zc,hk,hz,Yw,XOR,this,encTs]
  ·by_cases hx:n=XOR
   ·refine⟨false,?_⟩;have e:Zc (.mk k n s ks)=sumL [] ks:=by simp[Zc,hk,hx,Yw,XOR]
    rw[e];have hb1: (n == [122,101,114,111])=false:=by simpa[Yw]using hz
    simp only[XOR]at hx;simp[F.f247C,Qb,hk,hx];refine hl _ ?_ ?_ ?_ <;> simp[Qb,encTs,hk,hx]
   ·refine⟨true,?_⟩;have e:Zc (.mk k n s ks)=[.mk k n s ks]:=by simp[Zc,hk,hx,hz]
    rw[e];have hb1: (n == [122,101,114,111])=false:=by simpa[Yw]using hz
    have hb2: (n == [120,111,114])=false:=by simpa[XOR]using hx
    have hb3: (n != [120,111,114])=true:=by simpa[XOR]using hx
    simp[F.f247C,Qb,hk,hb1,hb2,hb3,encTs]
 ·refine⟨true,?_⟩;have e:Zc (.mk k n s ks)=[.mk k n s ks]:=by simp[Zc,hk]
  rw[e];have hb: (k != 3)=true:=by simp[hk]
  simp[F.f247C,Qb,hk,hb,encTs]
@[simp] theorem Qg4 (x:Tm) (a:List Tm) (h:0 < (encTs (x:: a)).length): (encTs (x:: a))[0]=Qb x:=by simp[encTs]
def WC (l:List Tm) (bs:List (List AV)) (r:Option (AV×List (List AV))):Prop:=∃o,r=some (.sl o 4 (encTs l),bs)
theorem CU (bs:List (List AV)): ∀(n:Nat) (a b acc:List Tm) (o1 o2:Bool) (ρ:Nat→AV),a.length+b.length≤n→acc.length+a.length+b.length < 100000000→(∀x∈a,x.mass < big)→(∀x∈b,x.mass < big)→
   ρ 0= .sl o1 4 (encTs a)→ρ 1= .sl o2 4 (encTs b)→ρ 5= .sl true 4 (encTs acc)→
  WC (acc ++ Xk a b) bs (R F.tb (.loop F.f183l0) ρ bs (Qi 0 (Qs F.tb F.f183r0 (Qy F.f183 bs)))):=by
 have hend: ∀(a b acc:List Tm) (o1 o2:Bool) (ρ:Nat→AV),(a=[]∨b=[])→acc.length+a.length+b.length < 100000000→ρ 0= .sl o1 4 (encTs a)→ρ 1= .sl o2 4 (encTs b)→ρ 5= .sl true 4 (encTs acc)→
   WC (acc ++ Xk a b) bs (R F.tb F.f183r0 ρ bs (Qy F.f183 bs)):=by
  intro a b acc o1 o2 ρ hab hl h0 h1 h5;have e:Xk a b=a ++ b:=by
   rcases hab with rfl | rfl
   ·rw[PQ];simp
   ·rw[RT];simp
  have hb1: (acc.length+a.length)*56≤140737488355328:=ZS (by omega);have hb2: (acc.length+ (a.length+b.length))*56≤140737488355328:=ZS (by clear hb1;omega);rw[e];refine⟨true,?_⟩;simp[h0,h1,h5,hb1,hb2,F.f183r0,Q1,Nat.add_assoc]
 intro n
 induction n with
 | zero=>
  intro a b acc o1 o2 ρ hn hl hma hmb h0 h1 h5;have ha:a=[]:=List.eq_nil_of_length_eq_zero (by omega);subst ha;have h2:=fun ρ=>hend [] b acc o1 o2 ρ (.inl rfl) hl;rw[Qc F.f183l0.eq_1];simp[h0,h1,h5,encTs];refine h2 _ ?_ ?_ ?_ <;> simp[h0,h1,h5]
 | succ n IH=>
  intro a b acc o1 o2 ρ hn hl hma hmb h0 h1 h5
  match a,b with
  | [],b=>
   have h2:=fun ρ=>hend [] b acc o1 o2 ρ (.inl rfl) hl;rw[Qc F.f183l0.eq_1];simp[h0,h1,h5,encTs];refine h2 _ ?_ ?_ ?_ <;> simp[h0,h1,h5]
  | x:: a,[]=>
   have h2:=fun ρ=>hend (x:: a) [] acc o1 o2 ρ (.inr rfl) hl;have hp: (0:Int) < (a.length:Int)+1:=by omega
   rw[Qc F.f183l0.eq_1];simp[h0,h1,h5,hp];refine h2 _ ?_ ?_ ?_ <;> simp[h0,h1,h5]
  | x:: a,y:: b=>
   simp only[List.length_cons]at hn hl;have hp: (0:Int) < (a.length:Int)+1:=by omega
   have hp2: (0:Int) < (b.length:Int)+1:=by omega
   have hp3: (1:Int)≤(a.length:Int)+1:=by omega
   have hp4: (1:Int)≤(b.length:Int)+1:=by omega
   have hc:=call_Compare x y bs (hma x (by simp)) (hmb y (by simp));have hb: (acc.length+1)*56≤140737488355328:=ZS (by omega);have et: (encTs (x:: a)).take ((encTs (x:: a)).length)=encTs (x:: a):=List.take_length;have i1:=fun ρ=>IH a (y:: b) (acc ++ [x]) false o2 ρ (by simp;omega) (by simp;omega) (fun z hz=>hma z (by simp[hz])) hmb;have i2:=fun ρ=>IH (x:: a) b (acc ++ [y]) o1 false ρ (by simp;omega) (by simp;omega) hma (fun z hz=>hmb z (by simp[hz]));have i3:=fun ρ=>IH a b acc false false ρ (by omega) (by omega) (fun z hz=>hma z (by simp[hz])) (fun z hz=>hmb z (by simp[hz]));rw[Qc F.f183l0.eq_1,RR];clear hn;by_cases h1':Qm x y < 0
   ·simp only[h1',if_true];simp only[List.append_assoc,List.cons_append,List.nil_append]at i1;simp[h0,h1,h5,hp,hp2,hp3,hc,h1',hb,Zi,Q1,RD,RE];refine i1 _ ?_ ?_ ?_ <;> simp[h1]
   ·by_cases h2':0 < Qm x y
    ·simp only[h1',h2',if_true,if_false];simp only[List.append_assoc,List.cons_append,List.nil_append]at i2;simp[h0,h1,h5,hp,hp2,hp4,hc,h1',h2',hb,Zi,Q1,RD,RE];refine i2 _ ?_ ?_ ?_ <;> simp[h0]
    ·simp only[h1',h2',if_false];simp[h0,h1,h5,hp,hp2,hp3,hp4,hc,h1',h2',RD,RE];refine i3 _ ?_ ?_ ?_ <;> simp[h5]
theorem MJ (a b:List Tm) (o1 o2:Bool) (bs:List (List AV)) (hl:a.length+b.length < 100000000) (hma: ∀x∈a,x.mass < big) (hmb: ∀x∈b,x.mass < big):
  WC (Xk a b) bs (call F.tb 183 [.sl o1 4 (encTs a),.sl o2 4 (encTs b)] bs):=by
 have h:=fun ρ=>CU bs _ a b [] false false ρ (Nat.le_refl _) (by simp;omega) hma hmb;simp only[List.nil_append]at h;rw[Qa F.tb_183 _ _ rfl];simp[F.f183C];refine h _ ?_ ?_ ?_ <;> simp[encTs]
theorem Qao (t:Tm) (bs:List (List AV)) (hm:t.mass < 30000000) (ih: ∀x∈t.kids,∀bs,WC (Zc x) bs (call F.tb 182 [.agg (Qb x)] bs)):
  ∀(post pre acc:List Tm) (o:Bool) (ρ:Nat→AV),t.kids=pre ++ post→acc.length+nodesL post < 30000000→Asc acc→(∀x∈acc,x.mass < big)→ρ 3= .sl o 4 (encTs acc)→ρ 31= .sl false 4 (encTs t.kids)→ρ 32= .int .i64 t.kids.length→ρ 33= .int .i64 pre.length→
  R F.tb (.loop F.f182l0) ρ bs (Qi 1 (Qs F.tb F.f182r0 (Qi 0 (Qs F.tb F.f182r1 (Qy F.f182 bs)))))=some (.sl false 4 (encTs (sumL acc post)),bs):=by
 have hmk:=Qu t;intro post
 induction post with
 | nil=>
  intro pre acc o ρ hk ha has hma h3 h31 h32 h33;simp only[List.append_nil]at hk;rw[← hk]at h33;rw[Qc F.f182l0.eq_1];simp[h3,h31,h32,h33,F.f182r0,sumL]
 | cons x post IH=>
  intro pre acc o ρ hk ha has hma h3 h31 h32 h33;have hg:=Qn hk;have hll:=Qv hk;have hw1:=wr1 pre.length (by omega);have hlt:=Qw hk;have hxk:x∈t.kids:=by rw[hk];simp
  have hxm:=QB hxk;have hxn:=ZK x;have hsl:=Tc x;simp only[nodesL]at ha;obtain⟨o1,hc1⟩:=ih x hxk bs;have hsm: ∀y∈Zc x,y.mass < big:=fun y hy=>by have:=X9 x y (Td x y hy);unfold big;omega
  obtain⟨o2,hc2⟩:=MJ acc (Zc x) false false bs (by omega) hma hsm;rw[Iq has (W9 x)]at hc2;have hpl:=WL (Zc x) acc;have hpm: ∀y∈Z0 acc (Zc x),y.mass < big:=fun y hy=>by
   rcases WI (W9 x) hy with h | h
   ·exact hma y h
   ·exact hsm y h
  have h2:=fun ρ=>IH (pre ++ [x]) (Z0 acc (Zc x)) o2 ρ (by rw[hk];simp) (by omega) (Ui _ _ has) hpm;rw[Qc F.f182l0.eq_1];simp[h3,h31,h32,h33,hg,hlt,hw1,QC,hc1,hc2,sumL];refine h2 _ ?_ ?_ ?_ ?_ <;> simp[h31,h32]
theorem Lm: ∀(t:Tm) (bs:List (List AV)),t.mass < 30000000→WC (Zc t) bs (call F.tb 182 [.agg (Qb t)] bs):=by
 refine Zo ?_;intro k n s ks ih bs hm;have hmk:=Qu (.mk k n s ks);have hnm:=nodesL_le_mass ks;simp only[QZ,Zu]at hmk;have hl:=fun ρ=>Qao (.mk k n s ks) bs hm (fun x hx bs=>ih x hx bs (by have:=QB hx;simp at this;omega)) ks [] [] true ρ rfl (by simp;omega) Asc.nil (by simp);simp only[QZ]at hl;rw[Qa F.tb_182 _ _ rfl];by_cases hk:k=3
 ·by_cases hz:n=Yw
  ·cases ks with
   | nil=>
    refine⟨true,?_⟩;simp[F.f182C,Qb,encTs,Zc,hk,hz,Yw]
   | cons x xs=>
    refine⟨true,?_⟩;simp only[Yw]at hz;have: ¬((xs.length:Int)+1=0):=by omega
    simp[F.f182C,Qb,Zc,hk,hz,Yw,XOR,this,encTs,F.f182r1]
  ·by_cases hx:n=XOR
   ·refine⟨false,?_⟩;have e:Zc (.mk k n s ks)=sumL [] ks:=by simp[Zc,hk,hx,Yw,XOR]
    rw[e];simp only[XOR]at hx;simp[F.f182C,Qb,hk,hx];refine hl _ ?_ ?_ ?_ ?_ <;> simp[encTs]
   ·refine⟨true,?_⟩;have e:Zc (.mk k n s ks)=[.mk k n s ks]:=by simp[Zc,hk,hx,hz]
    rw[e];have hb1: (n == [122,101,114,111])=false:=by simpa[Yw]using hz
    have hb2: (n == [120,111,114])=false:=by simpa[XOR]using hx
    simp[F.f182C,Qb,hk,hb1,hb2,encTs,F.f182r1]
 ·refine⟨true,?_⟩;have e:Zc (.mk k n s ks)=[.mk k n s ks]:=by simp[Zc,hk]
  rw[e];simp[F.f182C,Qb,hk,encTs,F.f182r1]
theorem Lj (t u:Tm) (o:Bool) (bs:List (List AV)) (ht:t.mass < big) (hu:u.mass < big):call F.tb 185 [.agg (Qb t),.sl o 1 [],.agg (Qb u)] bs=some (.tup [.agg (Qb u),.int .i64 0],bs):=by
 have h1:=fun bs=>Ry t bs ht;have h2:=fun bs=>Ry u bs hu;rw[Qa F.tb_185 _ _ rfl];have e1: ∀x y:List AV,(bs ++ [x]).set bs.length y=bs ++ [y]:=fun x y=>by rw[List.set_append];simp
 simp[F.f185C,h1,QC,e1,put];rw[Qc F.f185l0.eq_1];simp[F.f185r0,h2,QC,e1,put]
def V5 (ls:List (List Tm)):List (List AV):=ls.map fun l=>[AV.sl false 4 (encTs l)]
theorem MO {ls pre post:List (List Tm)} {x:List Tm} (h:ls=pre ++ x:: post): (V5 ls)[pre.length]? =some [AV.sl false 4 (encTs x)]:=by subst h;simp[V5]
theorem MP (ls:List (List Tm)): (V5 ls).length=ls.length:=by simp[V5]
theorem D9 (n:Nat) (bs:List (List AV)) (hn:n < 100000000):call F.tb 181 [.gs 0 0 0 0,.int .i64 n] bs=some (.sl true 4 [],bs):=by
 rw[Xb F.tb_181];simp only[Oi];rw[if_pos];refine⟨by omega,?_,by omega⟩;simp;exact ZS (by omega)
theorem Eh (ls:List (List Tm)) (bs:List (List AV)) (hl:ls.length < 1000) (hf:ls.flatten.length < 100000000):
  ∀(post pre:List (List Tm)) (ρ:Nat→AV),ls=pre ++ post→ρ 6= .sl true 4 (encTs pre.flatten)→ρ 25= .sl false 1 (V5 ls)→ρ 26= .int .i64 ls.length→ρ 27= .int .i64 pre.length→
  R F.tb (.loop F.f180l1) ρ bs (Qi 2 (Qs F.tb F.f180r0 (Qy F.f180 bs)))=some (.sl false 4 (encTs ls.flatten),bs):=by
 intro post
 induction post with
 | nil=>
  intro pre ρ hk h6 h25 h26 h27;simp only[List.append_nil]at hk;rw[← hk]at h27 h6;rw[Qc F.f180l1.eq_1];simp[h6,h25,h26,h27,F.f180r0]
 | cons x post IH=>
  intro pre ρ hk h6 h25 h26 h27;have hg:=MO hk;have hll:=Qv hk;have hw1:=wr1 pre.length (by omega);have hlt:=Qw hk;have hfl:ls.flatten.length=pre.flatten.length+ (x.length+post.flatten.length):=by rw[hk];simp
  have hb: (pre.flatten.length+x.length)*56≤140737488355328:=ZS (by omega);have h2:=IH (pre ++ [x]);have e: (pre ++ [x]).flatten=pre.flatten ++ x:=by simp
  rw[e]at h2;generalize pre.flatten=pf at *;rw[Qc F.f180l1.eq_1];simp[h6,h25,h26,h27,hg,hlt,hw1,hb,Q1];rw[h2] <;> simp[h25,h26,hk]
theorem Ef (ls:List (List Tm)) (bs:List (List AV)) (hl:ls.length < 1000) (hf:ls.flatten.length < 100000000):
  ∀(post pre:List (List Tm)) (ρ:Nat→AV),ls=pre ++ post→ρ 0= .sl false 1 (V5 ls)→ρ 3= .int .i64 pre.flatten.length→ρ 9= .sl false 1 (V5 ls)→ρ 10= .int .i64 ls.length→ρ 11= .int .i64 pre.length→
  R F.tb (.loop F.f180l0) ρ bs (Qi 0 (Qs F.tb F.f180r1 (Qy F.f180 bs)))=some (.sl false 4 (encTs ls.flatten),bs):=by
 intro post
 induction post with
 | nil=>
  intro pre ρ hk h0 h3 h9 h10 h11;simp only[List.append_nil]at hk;rw[← hk]at h11 h3;have hc:=D9 ls.flatten.length bs hf;have h1:=fun ρ=>Eh ls bs hl hf ls [] ρ rfl;generalize ls.flatten=lf at *;rw[Qc F.f180l0.eq_1];simp[h0,h3,h9,h10,h11,F.f180r1,hc];refine h1 _ ?_ ?_ ?_ ?_ <;> simp[h0,encTs,MP]
 | cons x post IH=>
  intro pre ρ hk h0 h3 h9 h10 h11;have hg:=MO hk;have hll:=Qv hk;have hw1:=wr1 pre.length (by omega);have hlt:=Qw hk;have hfl:ls.flatten.length=pre.flatten.length+ (x.length+post.flatten.length):=by rw[hk];simp
  have hw2:IntKind.i64.wrap ((pre.flatten.length:Int)+ (x.length:Int))=(pre.flatten.length:Int)+ (x.length:Int):=Zd (by omega) (by omega);have hnn: ¬((pre.flatten.length:Int)+ (x.length:Int) < 0):=by omega
  have h2:=IH (pre ++ [x]);have e: ((pre ++ [x]).flatten.length:Int)=(pre.flatten.length:Int)+ (x.length:Int):=by simp
  rw[e]at h2;generalize (pre.flatten.length:Int)=pf at *;rw[Qc F.f180l0.eq_1];simp[h0,h3,h9,h10,h11,hg,hlt,hw1,hw2,hnn];rw[h2] <;> simp[h0,h9,h10,hk]
theorem Ot (ls:List (List Tm)) (o:Bool) (bs:List (List AV)) (hl:ls.length < 1000) (hf:ls.flatten.length < 100000000):
  call F.tb 180 [.sl o 1 (V5 ls)] bs=some (.sl false 4 (encTs ls.flatten),bs):=by
 have h:=fun ρ=>Ef ls bs hl hf ls [] ρ rfl;rw[Qa F.tb_180 _ _ rfl];simp[F.f180C];refine h _ ?_ ?_ ?_ ?_ ?_ <;> simp[MP]
def Wz:List Tm→Int
 | []=>0
 | t:: ts=>if QM t≠0 then QM t else Wz ts
theorem FR (l:List Tm) (bs:List (List AV)) (hl:l.length < 100000000) (hm: ∀x∈l,x.mass < big): ∀(post pre:List Tm) (ρ:Nat→AV),l=pre ++ post→ρ 14= .sl false 4 (encTs l)→ρ 15= .int .i64 l.length→ρ 16= .int .i64 pre.length→
  R F.tb (.loop F.f179l0) ρ bs (Qi 0 (Qs F.tb F.f179r0 (Qy F.f179 bs)))=some (.int .i64 (Wz post),bs):=by
 intro post
 induction post with
 | nil=>
  intro pre ρ hk h14 h15 h16;simp only[List.append_nil]at hk;rw[← hk]at h16;rw[Qc F.f179l0.eq_1];simp[h14,h15,h16,F.f179r0,Wz]
 | cons x post IH=>
  intro pre ρ hk h14 h15 h16;have hg:=Qn hk;have hll:=Qv hk;have hw1:=wr1 pre.length (by omega);have hlt:=Qw hk;have hc:=XI x bs (hm x (by rw[hk];simp));rw[Qc F.f179l0.eq_1];by_cases hv:QM x=0
  ·simp[h14,h15,h16,hg,hlt,hw1,QC,hc,hv,Wz];rw[IH (pre ++ [x])] <;> simp[h14,h15,hk]
  ·simp[h14,h15,h16,hg,hlt,hw1,QC,hc,hv,Wz]
def XO (l:List Tm):Int:=if 200 < l.length then 3 else Wz l
theorem Fe (l:List Tm) (o o2:Bool) (bs:List (List AV)) (hl:l.length < 100000000) (hm: ∀x∈l,x.mass < big):call F.tb 179 [.sl o 4 (encTs l),.sl o2 4 []] bs=some (.int .i64 (XO l),bs):=by
 have h:=fun ρ=>FR l bs hl hm l [] ρ rfl;have hc:=Ot [l,[]] false bs (by simp) (by simpa using hl);simp only[V5,List.map_cons,List.map_nil,List.flatten_cons,List.flatten_nil,List.append_nil,encTs]at hc;rw[Qa F.tb_179 _ _ rfl];by_cases h2:200 < l.length
 ·have h2': (200:Int) < (l.length:Int):=by omega
  simp[F.f179C,h2',h2,XO]
 ·have h2': ¬(200:Int) < (l.length:Int):=by omega
  simp[F.f179C,h2',h2,XO,hc];refine h _ ?_ ?_ ?_ <;> simp
theorem QcT {c:List AV} {n p:Nat} {pre:List Tm} {x:Tm} {v:AV} (hc:c.length=n*4) (hp:p=pre.length) (hlt:p < n) (ht: (c.map AV.strip).take (p*4)=Ql pre) (hv:v.strip= .sl false 4 (encTs x.kids)):
  ((c.take (p*4)++ (Qb x ++ c.drop (p*4+4))).set (p*4+3) v).length=n*4∧
  ((((c.take (p*4)++ (Qb x ++ c.drop (p*4+4))).set (p*4+3) v).map AV.strip).take ((p+1)*4))=Ql (pre ++ [x]):=by
 have h1: (c.take (p*4)).length=p*4:=by rw[List.length_take];omega
 have h2:=QA x;refine⟨by simp[h1,h2,hc];omega,?_⟩;have e: (c.take (p*4)++ (Qb x ++ c.drop (p*4+4))).set (p*4+3) v=c.take (p*4)++ ([.int .i64 x.kind,.str x.name,.int .i64 x.sort,v]++ c.drop (p*4+4)):=by
  rw[List.set_append,if_neg (by omega),h1,show p*4+3 - p*4=3 by omega,Q4];simp
 rw[e,List.map_append,List.map_append,List.map_take,ht];have h3: [AV.int .i64 x.kind,.str x.name,.int .i64 x.sort,v].map AV.strip=Qb x:=by rw[Q4];simp[hv]
 have hr: (Ql pre).length=p*4:=by rw[Zv QA,hp]
 rw[h3,← List.append_assoc,List.take_append_of_le_length (by simp[hr,h2];omega),List.take_of_length_le (by simp[hr,h2];omega)];simp[Ql,XF,UN]
theorem AP {c:List AV} {n p:Nat} {pre:List Tm} {x:Tm} (hc:c.length=n*4) (hp:p=pre.length) (hlt:p < n) (ht: (c.map AV.strip).take ((p+1)*4)=Ql (pre ++ [x])) (hx:x.kids=[]):
  (c.take (p*4+3)++ ([AV.sl false 4 []]++ c.drop (p*4+3+1))).length=n*4∧
  ((c.take (p*4+3)++ ([AV.sl false 4 []]++ c.drop (p*4+3+1))).map AV.strip).take ((p+1)*4)=Ql (pre ++ [x]):=by
 have h1: (c.take (p*4+3)).length=p*4+3:=by rw[List.length_take];omega
 refine⟨by simp[h1,hc];omega,?_⟩;have hr:Ql (pre ++ [x])=Ql pre ++ [.int .i64 x.kind,.str x.name,.int .i64 x.sort]++ [.sl false 4 []]:=by
  simp[Ql,XF,UN,Q4,hx,encTs]
 have hl0: (Ql pre).length=p*4:=by rw[Zv QA,hp]
 have e1: (c.take (p*4+3)).map AV.strip=Ql pre ++ [.int .i64 x.kind,.str x.name,.int .i64 x.sort]:=by
  have h2: ((c.map AV.strip).take ((p+1)*4)).take (p*4+3)=(c.map AV.strip).take (p*4+3):=by rw[List.take_take];congr 1;omega
  rw[List.map_take,← h2,ht,hr,List.take_append_of_le_length (by simp[hl0]),List.take_of_length_le (by simp[hl0])]
 rw[List.map_append,List.map_append,e1,← List.append_assoc,List.take_append_of_le_length (by simp[hl0];omega),List.take_of_length_le (by simp[hl0];omega),hr];simp
theorem AN (l:List Tm) (B:List (List AV)) (hl:l.length < 100000000) (hne:l≠[]) (hm: ∀x∈l,x.mass < big) (ih: ∀x∈l,∀bs,WC x.kids bs (call F.tb 184 [.sl false 4 (encTs x.kids)] bs)):
  ∀(post pre:List Tm) (c:List AV) (ρ:Nat→AV),l=pre ++ post→c.length=l.length*4→(c.map AV.strip).take (pre.length*4)=Ql pre→ρ 3= .gs B.length 0 4 l.length→ρ 9= .sl false 4 (encTs l)→ρ 10= .int .i64 l.length→ρ 11= .int .i64 pre.length→
  WC l B (R F.tb (.loop F.f184l0) ρ (B ++ [c]) (Qi 0 (Qs F.tb F.f184r0 (Qy F.f184 B)))):=by
 have es: ∀x y:List AV,(B ++ [x]).set B.length y=B ++ [y]:=fun x y=>by rw[List.set_append];simp
 have eg: ∀x:List AV,(B ++ [x])[B.length]? =some x:=fun x=>List.getElem?_concat_length;intro post
 induction post with
 | nil=>
  intro pre c ρ hk hc ht h3 h9 h10 h11;simp only[List.append_nil]at hk;rw[← hk]at h11 ht;have hz: ¬l.length=0:=fun e=>hne (List.eq_nil_of_length_eq_zero e);have hch:ZE c 0 4 l.length=encTs l:=by
   have e1:c.map AV.strip=Ql l:=by rw[← ht,List.take_of_length_le (by simp[hc])]
   have e2:ZE c 0 4 l.length=ZE (c.map AV.strip) 0 4 l.length:=by
    unfold ZE;apply List.map_congr_left;intro k _;rw[← List.map_drop,← List.map_take,List.map_map];apply List.map_congr_left;intro v _;exact(OE v).symm
   rw[e2,e1];have:=YX (f:=Qb) (k:=4) QA Q5 l [];rw[WM,List.append_nil]at this;exact this
  have hg:gpfreeE (encTs l)=true:=encTs_gp l;have hle:l.length*4≤c.length:=by omega
  refine⟨true,?_⟩;rw[Qc F.f184l0.eq_1];simp[h3,h9,h10,h11,F.f184r0,ZY,hz,hne,hle,es,hch]
 | cons x post IH=>
  intro pre c ρ hk hc ht h3 h9 h10 h11;have hg:=Qn hk;have hll:=Qv hk;have hw1:=wr1 pre.length (by omega);have hlt:=Qw hk;have hlt':pre.length < l.length:=by omega
  have hx:=hm x (by rw[hk];simp);have hc1:=fun bs=>Lj x x true bs hx hx;obtain⟨o,hc2⟩:=ih x (by rw[hk];simp) (B ++ [c.take (pre.length*4)++ (Qb x ++ c.drop (pre.length*4+4))]);have hle:pre.length*4+4≤c.length:=by omega
  obtain⟨p1,p2⟩:=QcT (v:= .sl o 4 (encTs x.kids)) hc rfl hlt' ht rfl;have hle2:pre.length*4+3 < (c.take (pre.length*4)++ (Qb x ++ c.drop (pre.length*4+4))).length:=by simp[QA];omega
  generalize hcc:c.take (pre.length*4)++ (Qb x ++ c.drop (pre.length*4+4))=cc at *;have hgl: ∀h:pre.length < (encTs l).length,(encTs l)[pre.length]=Qb x:=fun h=>by
   have:=List.getElem?_eq_getElem h;rw[Pz,hg]at this;injection this with this;exact this.symm
  rw[Qc F.f184l0.eq_1];by_cases hkz:x.kids=[]
  ·obtain⟨p3,p4⟩:=AP p1 rfl hlt' p2 hkz;have hle3:pre.length*4+3+1≤(cc.set (pre.length*4+3) (.sl o 4 (encTs x.kids))).length:=by rw[p1];omega
   have i1:=fun ρ=>IH (pre ++ [x]) _ ρ (by rw[hk];simp) p3 (by simpa using p4);rw[hkz]at hc2 hle3 i1;have hle3':pre.length*4+3+1≤cc.length:=by simpa using hle3
   simp only[encTs,List.cons_append,List.nil_append]at hc2 hle3 i1;simp[h3,h9,h10,h11,hg,hgl,hlt,hlt',hw1,QC,hc1,eg,es,hle,hcc,hc2,hle2,hkz,encTs,hle3',QA];refine i1 _ ?_ ?_ ?_ ?_ <;> simp[h3,h9,h10]
  ·have hkl: ¬(x.kids.length:Int)=0:=by
    intro e;exact hkz (List.eq_nil_of_length_eq_zero (by omega))
   have i1:=fun ρ=>IH (pre ++ [x]) _ ρ (by rw[hk];simp) p1 (by simpa using p2);simp[h3,h9,h10,h11,hg,hgl,hlt,hlt',hw1,QC,hc1,eg,es,hle,hcc,hc2,hle2,hkz,hkl,QA];refine i1 _ ?_ ?_ ?_ ?_ <;> simp[h3,h9,h10]
theorem CS (l:List Tm) (o:Bool) (bs:List (List AV)) (hl:l.length < 100000000) (hm: ∀x∈l,x.mass < big) (ih: ∀x∈l,∀bs,WC x.kids bs (call F.tb 184 [.sl false 4 (encTs x.kids)] bs)):
  WC l bs (call F.tb 184 [.sl o 4 (encTs l)] bs):=by
 have hb:l.length*56≤140737488355328:=ZS (by omega);have hb2: (l.length:Int)≤4611686018427387904:=by omega
 rw[Qa F.tb_184 _ _ rfl];by_cases hne:l=[]
 ·subst hne;refine⟨false,?_⟩;simp[F.f184C,encTs];rw[Qc F.f184l0.eq_1];simp[F.f184r0,ZY]
 ·have h:=fun c hc ρ=>AN l bs hl hne hm ih l [] c ρ rfl hc (by simp[ZD]);have hlen: (List.replicate l.length [AV.int .i64 0,.str [],.int .i64 0,.sl true 4 []]).flatten.length=l.length*4:=by simp
  have h2:=h _ hlen;simp[F.f184C,hb,hb2];refine h2 _ ?_ ?_ ?_ ?_ <;> simp
theorem AM: ∀(t:Tm) (bs:List (List AV)),t.mass < 100000000→WC t.kids bs (call F.tb 184 [.sl false 4 (encTs t.kids)] bs):=by
 refine Zo ?_;intro k n s ks ih bs hm;have hmk:=Qu (.mk k n s ks);simp only[QZ,Zu]at hmk ⊢;exact CS ks false bs (by omega) (fun x hx=>by have:=QB hx;unfold big;omega) fun x hx bs=>ih x hx bs (by have:=QB hx;omega)
theorem BZ (l:List Tm) (o:Bool) (bs:List (List AV)) (hl:l.length < 100000000) (hm: ∀x∈l,x.mass < 100000000):WC l bs (call F.tb 184 [.sl o 4 (encTs l)] bs):=
 CS l o bs hl (fun x hx=>by have:=hm x hx;unfold big;omega) fun x hx bs=>AM x bs (hm x hx)
def QE:Tm:= .mk 0 [] 0 []
theorem QG:Qb QE=[.int .i64 0,.str [],.int .i64 0,.sl false 4 []]:=by simp[QE,Qb,encTs]
def tmX:List Tm→Tm
 | []=> .mk 3 Yw 0 []
 | [p]=>p
 | p:: q:: r=> .mk 3 XOR 0 (p:: q:: r)
def XY (l:List Tm):Tm×Int:=if XO l≠0 then(QE,XO l)else if QM (tmX (sumL [] l))≠0 then(QE,3)else(tmX (sumL [] l),0)
def QP (r:Tm×Int):AV:= .tup [.agg (Qb r.1),.int .i64 r.2]
theorem NK (t:Tm): ∀l:List Tm,massL (Ye t l)≤massL l+t.mass
 | []=>by simp[Ye,massL]
 | x:: xs=>by
  have:=NK t xs;simp only[Ye];split
  ·simp only[massL];omega
  ·split
   ·simp only[massL];omega
   ·simp only[massL];omega
theorem FH (l:List Tm) (t:Tm):massL (XZ l t)≤massL l+t.mass:=by
 unfold XZ;split
 ·have: ∀(l:List Tm) (p:Tm→Bool),massL (l.filter p)≤massL l:=by
   intro l p
   induction l with
   | nil=>simp
   | cons x xs ih=>
    rw[List.filter_cons];split <;> simp only[massL] <;> omega
  have:=this l (fun x=> !decide (Qm x t=0));omega
 ·exact NK t l
theorem OA: ∀(b a:List Tm),massL (Z0 a b)≤massL a+massL b
 | [],a=>by simp[Z0,massL]
 | x:: b,a=>by
  have h1:=OA b (XZ a x);have h2:=FH a x;simp only[Z0,List.foldl_cons,massL]at *;omega
mutual
theorem FG: ∀t:Tm,massL (Zc t)≤t.mass
 | .mk k n s ks=>by
  simp only[Zc];split
  ·simp[massL]
  ·split
   ·have:=massL_sumL ks [];simp only[massL,Tm.mass]at *;omega
   ·simp[massL]
theorem massL_sumL: ∀(ts acc:List Tm),massL (sumL acc ts)≤massL acc+massL ts
 | [],acc=>by simp[sumL,massL]
 | t:: ts,acc=>by
  have h1:=massL_sumL ts (Z0 acc (Zc t));have h2:=OA (Zc t) acc;have h3:=FG t;simp only[sumL,massL]at *;omega
end
theorem IO (l:List Tm): (tmX l).mass≤10+l.length+massL l:=by
 unfold tmX;split
 ·simp[Tm.mass,massL,Yw]
 ·simp[massL]
 ·simp[Tm.mass,massL,XOR]
theorem BL (l:List Tm) (bs:List (List AV)) (hm:massL l < 20000000) (hl:l.length < 20000000) (k:Kn)
  (hk0: ∀(o:Bool) (ρ:Nat→AV),ρ 2= .bx [.int .i64 0,.str [],.int .i64 0,.sl true 4 []]→ρ 5= .sl o 4 (encTs (sumL [] l))→R F.tb F.f178r0 ρ bs (Qy F.f178 bs)=some (QP (XY l),bs)):
  ∀(post pre acc:List Tm) (o:Bool) (ρ:Nat→AV),l=pre ++ post→sumL acc post=sumL [] l→acc.length+nodesL post < 25000000→Asc acc→(∀x∈acc,x.mass < big)→ρ 2= .bx [.int .i64 0,.str [],.int .i64 0,.sl true 4 []]→ρ 5= .sl o 4 (encTs acc)→ρ 15= .sl false 4 (encTs l)→ρ 16= .int .i64 l.length→ρ 17= .int .i64 pre.length→
  R F.tb (.loop F.f178l0) ρ bs (Qi 0 (Qs F.tb F.f178r0 (Qy F.f178 bs)))=some (QP (XY l),bs):=by
 intro post
 induction post with
 | nil=>
  intro pre acc o ρ hk he ha has hma h2 h5 h15 h16 h17;simp only[List.append_nil]at hk;rw[← hk]at h17;simp only[sumL]at he;subst he;rw[Qc F.f178l0.eq_1];simp[h5,h15,h16,h17];refine hk0 o _ ?_ ?_ <;> simp[h2,h5]
 | cons x post IH=>
  intro pre acc o ρ hk he ha has hma h2 h5 h15 h16 h17;have hg:=Qn hk;have hll:=Qv hk;have hw1:=wr1 pre.length (by omega);have hlt:=Qw hk;have hxl:x∈l:=by rw[hk];simp
  have hxm:=QB hxl;have hxn:=ZK x;have hsl:=Tc x;simp only[nodesL]at ha;obtain⟨o1,hc1⟩:=Lm x bs (by omega);have hsm: ∀y∈Zc x,y.mass < big:=fun y hy=>by have:=X9 x y (Td x y hy);unfold big;omega
  obtain⟨o2,hc2⟩:=MJ acc (Zc x) false false bs (by omega) hma hsm;rw[Iq has (W9 x)]at hc2;have hpl:=WL (Zc x) acc;have hpm: ∀y∈Z0 acc (Zc x),y.mass < big:=fun y hy=>by
   rcases WI (W9 x) hy with h | h
   ·exact hma y h
   ·exact hsm y h
  have i2:=fun ρ=>IH (pre ++ [x]) (Z0 acc (Zc x)) o2 ρ (by rw[hk];simp) he (by omega) (Ui _ _ has) hpm;rw[Qc F.f178l0.eq_1];simp[h5,h15,h16,h17,hg,hlt,hw1,QC,hc1,hc2];refine i2 _ ?_ ?_ ?_ ?_ ?_ <;> simp[h2,h15,h16]
theorem BX (l:List Tm) (o:Bool) (bs:List (List AV)) (hm:massL l < 20000000) (hl:l.length < 20000000):call F.tb 178 [.sl o 4 (encTs l)] bs=some (QP (XY l),bs):=by
 have hr:=Fe l false true bs (by omega) (fun x hx=>by have:=QB hx;unfold big;omega);have hn:=nodesL_le_mass l;have hk0:XO l=0→∀(o:Bool) (ρ:Nat→AV),ρ 2= .bx [.int .i64 0,.str [],.int .i64 0,.sl true 4 []]→ρ 5= .sl o 4 (encTs (sumL [] l))→R F.tb F.f178r0 ρ bs (Qy F.f178 bs)=some (QP (XY l),bs):=by
  intro hr0 o ρ h2 h5;have h1:=sumL_len l [];have h3:=massL_sumL l [];have h4:=IO (sumL [] l);simp only[massL,List.length_nil,Nat.zero_add]at h1 h3;obtain⟨o3,ho⟩:=BZ (sumL [] l) false bs (by omega) (fun x hx=>by have:=QB hx;omega);have hv:=XI (tmX (sumL [] l)) bs (by unfold big;omega);have es:XY l=if QM (tmX (sumL [] l))≠0 then(QE,3)else(tmX (sumL [] l),0):=by simp[XY,hr0]
  rw[es];generalize sumL [] l=ps at *
  match ps with
  | []=>
   have e1:Qb (tmX [])=[.int .i64 3,.str Yw,.int .i64 0,.sl false 4 []]:=by simp[tmX,Qb,encTs]
   rw[e1]at hv;simp only[Yw]at hv e1;simp only[encTs]at ho h5;by_cases h:QM (tmX [])=0
   ·simp[F.f178r0,h5,ho,h2,hv,h,QP,e1]
   ·simp[F.f178r0,h5,ho,h2,hv,h,QP,QG]
  | [p]=>
   simp only[tmX]at hv ⊢;by_cases h:QM p=0
   ·simp[F.f178r0,h5,ho,h2,hv,h,QP,QC]
   ·simp[F.f178r0,h5,ho,h2,hv,h,QP,QG,QC]
  | p:: q:: r=>
   have e1:Qb (tmX (p:: q:: r))=[.int .i64 3,.str XOR,.int .i64 0,.sl false 4 (encTs (p:: q:: r))]:=by simp[tmX,Qb]
   rw[e1]at hv;simp only[XOR]at hv e1;have n1: ¬((r.length:Int)+1+1=0):=by omega
   have n2: ¬((r.length:Int)+1+1=1):=by omega
   by_cases h:QM (tmX (p:: q:: r))=0
   ·simp[F.f178r0,h5,ho,h2,hv,h,n1,n2,QP,e1]
   ·simp[F.f178r0,h5,ho,h2,hv,h,n1,n2,QP,QG]
 rw[Qa F.tb_178 _ _ rfl];by_cases h0:XO l=0
 ·have h:=fun ρ=>BL l bs hm hl (Qy F.f178 bs) (hk0 h0) l [] [] true ρ rfl rfl (by simp;omega) Asc.nil (by simp);simp[F.f178C,hr,h0];refine h _ ?_ ?_ ?_ ?_ ?_ <;> simp[encTs]
 ·have hb: (XO l != 0)=true:=by simp[h0]
  simp[F.f178C,hr,h0,hb,XY,QP,QG]
theorem Fa (bs:List (List AV)):call F.tb 245 [] bs=some (.agg (Qb (.mk 3 Yw 0 [])),bs):=by
 have h:=MI Yw [] true bs (by simp);simp only[Yw,encTs]at h;rw[Qa F.tb_245 _ _ rfl];simp[F.f245,F.f245C,h,Yw,QC]
theorem I1 (l:List Tm) (o:Bool) (bs:List (List AV)) (hl:l.length < 100000000):call F.tb 251 [.sl o 4 (encTs l)] bs=some (.agg (Qb (tmX l)),bs):=by
 have h:=MI Yw [] true bs (by simp);simp only[Yw,encTs]at h;rw[Qa F.tb_251 _ _ rfl]
 match l with
 | []=>simp[F.f251C,h,Yw,QC,tmX]
 | [p]=>simp[F.f251C,QC,tmX]
 | p:: q:: r=>
  have n1: ¬((r.length:Int)+1+1=0):=by omega
  have n2: ¬((r.length:Int)+1+1=1):=by omega
  have hb: (r.length+1+1)*56≤140737488355328:=ZS (by simp at hl;omega);simp[F.f251C,n1,n2,hb,tmX,Qb,XOR]
theorem Jn (l:List Tm) (t:Tm) (bs:List (List AV)) (hl:l.length < 100000000) (hm: ∀x∈l,x.mass < big) (ht:t.mass < big): ∀(post pre:List Tm) (ρ:Nat→AV),l=pre ++ post→ρ 0= .sl false 4 (encTs l)→ρ 3= .bx (Qb t)→ρ 5= .int .i64 pre.length→
  R F.tb (.loop F.f246l0) ρ bs (Qi 0 (Qs F.tb F.f246r0 (Qy F.f246 bs)))=some (.int .i64 (if Wz post≠0 then Wz post else QM t),bs):=by
 intro post
 induction post with
 | nil=>
  intro pre ρ hk h0 h3 h5;simp only[List.append_nil]at hk;rw[← hk]at h5;have hc:=YY t bs ht;rw[Qc F.f246l0.eq_1];simp[h0,h3,h5,F.f246r0,Wz,QC,hc]
 | cons x post IH=>
  intro pre ρ hk h0 h3 h5;have hg:=Qn hk;have hll:=Qv hk;have hw1:=wr1 pre.length (by omega);have hlt:=Qw hk;have hc:=YY x bs (hm x (by rw[hk];simp));rw[Qc F.f246l0.eq_1];by_cases hv:QM x=0
  ·simp only[Wz,hv,ne_eq,not_true_eq_false,if_false];simp[h0,h3,h5,hg,hlt,hw1,QC,hc,hv];have:=fun ρ=>IH (pre ++ [x]) ρ (by rw[hk];simp);simp only[ne_eq]at this;rw[this] <;> simp[h0,h3]
  ·simp[h0,h3,h5,hg,hlt,hw1,QC,hc,hv,Wz]
theorem Ee:QM (.mk 3 Yw 0 [])=0:=by decide
theorem JD (l:List Tm) (o:Bool) (bs:List (List AV)) (hl:l.length < 100000000) (hm: ∀x∈l,x.mass < big):call F.tb 246 [.sl o 4 (encTs l),.agg (Qb (.mk 3 Yw 0 []))] bs=some (.int .i64 (XO l),bs):=by
 have h:=fun ρ=>Jn l (.mk 3 Yw 0 []) bs hl hm (by simp[Tm.mass,massL,Yw,big]) l [] ρ rfl;rw[Ee]at h;have e: (if Wz l≠0 then Wz l else 0)=Wz l:=by split <;> simp_all
 rw[e]at h;rw[Qa F.tb_246 _ _ rfl];by_cases h2:200 < l.length
 ·have h2': (200:Int) < (l.length:Int):=by omega
  simp[F.f246C,h2',h2,XO]
 ·have h2': ¬(200:Int) < (l.length:Int):=by omega
  simp[F.f246C,h2',h2,XO];refine h _ ?_ ?_ ?_ <;> simp
theorem G1 (l:List Tm) (bs:List (List AV)) (hm:massL l < 20000000) (hl:l.length < 20000000)
  (hk0: ∀(o:Bool) (ρ:Nat→AV),ρ 2= .bx [.int .i64 0,.str [],.int .i64 0,.sl true 4 []]→ρ 5= .sl o 4 (encTs (sumL [] l))→R F.tb F.f244r0 ρ bs (Qy F.f244 bs)=some (QP (XY l),bs)):
  ∀(post pre acc:List Tm) (o:Bool) (ρ:Nat→AV),l=pre ++ post→sumL acc post=sumL [] l→acc.length+nodesL post < 25000000→(∀x∈acc,x.mass < big)→ρ 0= .sl false 4 (encTs l)→ρ 2= .bx [.int .i64 0,.str [],.int .i64 0,.sl true 4 []]→ρ 5= .sl o 4 (encTs acc)→ρ 6= .int .i64 pre.length→
  R F.tb (.loop F.f244l0) ρ bs (Qi 0 (Qs F.tb F.f244r0 (Qy F.f244 bs)))=some (QP (XY l),bs):=by
 intro post
 induction post with
 | nil=>
  intro pre acc o ρ hk he ha hma h0 h2 h5 h6;simp only[List.append_nil]at hk;rw[← hk]at h6;simp only[sumL]at he;subst he;rw[Qc F.f244l0.eq_1];simp[h0,h5,h6];refine hk0 o _ ?_ ?_ <;> simp[h2,h5]
 | cons x post IH=>
  intro pre acc o ρ hk he ha hma h0 h2 h5 h6;have hg:=Qn hk;have hll:=Qv hk;have hw1:=wr1 pre.length (by omega);have hlt:=Qw hk;have hxl:x∈l:=by rw[hk];simp
  have hxm:=QB hxl;have hxn:=ZK x;have hsl:=Tc x;simp only[nodesL]at ha;obtain⟨o1,hc1⟩:=Mo x bs (by omega);have hsm: ∀y∈Zc x,y.mass < big:=fun y hy=>by have:=X9 x y (Td x y hy);unfold big;omega
  have hc2:=Nl acc (Zc x) false false bs (by omega) (by omega) hma hsm;have hpl:=WL (Zc x) acc;have hpm: ∀y∈Z0 acc (Zc x),y.mass < big:=fun y hy=>by
   rcases WI (W9 x) hy with h | h
   ·exact hma y h
   ·exact hsm y h
  have i2:=fun ρ=>IH (pre ++ [x]) (Z0 acc (Zc x)) false ρ (by rw[hk];simp) he (by omega) hpm;rw[Qc F.f244l0.eq_1];simp[h0,h5,h6,hg,hlt,hw1,QC,hc1,hc2];refine i2 _ ?_ ?_ ?_ ?_ <;> simp[h0,h2]
theorem G6 (l:List Tm) (o:Bool) (bs:List (List AV)) (hm:massL l < 20000000) (hl:l.length < 20000000):call F.tb 244 [.sl o 4 (encTs l)] bs=some (QP (XY l),bs):=by
 have hr:=JD l false bs (by omega) (fun x hx=>by have:=QB hx;unfold big;omega);have hz:=Fa bs;have hn:=nodesL_le_mass l;have hk0:XO l=0→∀(o:Bool) (ρ:Nat→AV),ρ 2= .bx [.int .i64 0,.str [],.int .i64 0,.sl true 4 []]→ρ 5= .sl o 4 (encTs (sumL [] l))→R F.tb F.f244r0 ρ bs (Qy F.f244 bs)=some (QP (XY l),bs):=by
  intro hr0 o ρ h2 h5;have h1:=sumL_len l [];have h3:=massL_sumL l [];have h4:=IO (sumL [] l);simp only[massL,List.length_nil,Nat.zero_add]at h1 h3;have ht:=I1 (sumL [] l) false bs (by omega);have hv:=YY (tmX (sumL [] l)) bs (by unfold big;omega);have es:XY l=if QM (tmX (sumL [] l))≠0 then(QE,3)else(tmX (sumL [] l),0):=by simp[XY,hr0]
  rw[es];generalize tmX (sumL [] l)=u at *;generalize sumL [] l=ps at *;by_cases h:QM u=0
  ·simp[F.f244r0,h5,ht,h2,hv,h,QP,QC]
  ·simp[F.f244r0,h5,ht,h2,hv,h,QP,QG,QC]
 rw[Qa F.tb_244 _ _ rfl];by_cases h0:XO l=0
 ·have h:=fun ρ=>G1 l bs hm hl (hk0 h0) l [] [] true ρ rfl rfl (by simp;omega) (by simp);simp[F.f244C,hz,hr,h0];refine h _ ?_ ?_ ?_ ?_ <;> simp[encTs]
 ·have hb: (XO l != 0)=true:=by simp[h0]
  simp[F.f244C,hz,hr,h0,hb,XY,QP,QG]
end Go.Am
