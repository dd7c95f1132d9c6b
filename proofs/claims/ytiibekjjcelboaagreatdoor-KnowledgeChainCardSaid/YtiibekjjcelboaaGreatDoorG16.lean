/-
  Rc7, Rc8, Rc9, Rc10, Rc11, Rc12.
-/
import Derived.Test.YtiibekjjcelboaaGreatDoorG15
set_option linter.unusedVariables false
set_option linter.unusedSimpArgs false
namespace Go.Am
set_option maxRecDepth 8000
theorem YW {n:Nat} (h:n≤200000000):n*56≤140737488355328:=by omega
theorem Af (t:Tm) (bs:List (List AV)) (hm:t.mass < 100000000) (ih: ∀x∈t.kids,∀bs,call F.tb 237 [.agg (Qb x)] bs=some (.sl false 4 (encTs (QT x)),bs)):
  ∀(post pre:List Tm) (ρ:Nat→AV),t.kids=pre ++ post→ρ 1= .bx (Qb t)→ρ 3= .sl true 4 (encTs (t:: allL pre))→ρ 4= .int .i64 pre.length→
  R F.tb (.loop F.f237l0) ρ bs (Qj 0 (Qu F.tb F.f237r0 (Qx F.f237 bs)))=some (.sl false 4 (encTs (QT t)),bs):=by
 have hmk:=Qp t;have hn:=ZL t;have hnk:=YM t;intro post
 induction post with
 | nil=>
  intro pre ρ hk h1 h3 h4;simp only[List.append_nil]at hk;rw[← hk]at h3 h4;rw[← HT]at h3;rw[Qc F.f237l0.eq_1];simp[h1,h3,h4,F.f237r0]
 | cons x post IH=>
  intro pre ρ hk h1 h3 h4;have hg:=Qt hk;have hl:=QE hk;have hw1:=wr1 pre.length (by omega);have hlt:=QF hk;have hnn:nodesL t.kids=nodesL pre+ (x.nodes+nodesL post):=by rw[hk,Yu];simp[nodesL]
  have hb: ((allL pre).length+1+ (QT x).length)*56≤140737488355328:=by rw[allL_len,WL];omega
  have hgl:t.kids[pre.length]'(by omega)=x:=by
   have:=List.getElem?_eq_getElem (l:=t.kids) (i:=pre.length) (by omega);rw[hg]at this;injection this with this;exact this.symm
  have hih:=ih x (by rw[hk];simp);have h2:=IH (pre ++ [x]);rw[AA,show allL [x]=QT x by simp[allL]]at h2;rw[Qc F.f237l0.eq_1];simp[h1,h3,h4,hg,hgl,hlt,hw1,hih,hb,Q7];rw[h2] <;> simp[h1,hk]
theorem Qaf: ∀(t:Tm) (bs:List (List AV)),t.mass < 100000000→call F.tb 237 [.agg (Qb t)] bs=some (.sl false 4 (encTs (QT t)),bs):=by
 refine ZG ?_;intro k n s ks ih bs hm;have hl:=fun ρ=>Af (.mk k n s ks) bs hm (fun x hx bs=>ih x hx bs (by have:=QC hx;have:=Qp (.mk k n s ks);simp at *;omega)) ks [] ρ rfl;rw[Qa F.tb_237 _ _ rfl];simp[F.f237C,Qg];refine hl _ ?_ ?_ ?_ <;> simp[allL,encTs]
theorem Ae (l:List Tm) (t:Tm) (bs:List (List AV)) (hl:l.length < 100000000) (hm: ∀x∈l,x.mass < big) (ht:t.mass < big):
  ∀(post pre acc:List Tm) (d:Bool) (ρ:Nat→AV),l=pre ++ post→acc.length≤pre.length+1→(d=false→acc.length=pre.length)→ρ 0= .sl false 4 (encTs l)→ρ 3= .bx (Qb t)→ρ 5= .sl true 4 (encTs acc)→ρ 6= .bool d→ρ 7= .int .i64 pre.length→
  R F.tb (.loop F.f239l0) ρ bs (Qj 0 (Qu F.tb F.f239r0 (Qx F.f239 bs)))=some (.sl false 4 (encTs (acc ++ if d then post else Q4 t post)),bs):=by
 intro post
 induction post with
 | nil=>
  intro pre acc d ρ hk ha hd h0 h3 h5 h6 h7;simp only[List.append_nil]at hk;rw[← hk]at h7 ha hd;have hb: (acc.length+1)*56≤140737488355328:=by omega
  rw[Qc F.f239l0.eq_1];cases d
  ·simp[h0,h3,h5,h6,h7,F.f239r0,hb,Q4,Qg,Zt,Q7]
  ·simp[h0,h3,h5,h6,h7,F.f239r0,hb,Q4]
 | cons x post IH=>
  intro pre acc d ρ hk ha hd h0 h3 h5 h6 h7;have hg:=Qt hk;have hll:=QE hk;have hw1:=wr1 pre.length (by omega);have hlt:=QF hk;have hb: (acc.length+1)*56≤140737488355328:=YW (by omega);have hb2: (acc.length+1+1)*56≤140737488355328:=YW (by clear hb;omega);have hc:=Wz t x bs ht (hm x (by rw[hk];simp));rw[Qc F.f239l0.eq_1];cases d
  ·have hd:=hd rfl;by_cases h1:Qh t x < 0
   ·have hle:Qh t x≤0:=by omega
    have e:acc ++ (if false=true then x:: post else Q4 t (x:: post))=(acc ++ [t]++ [x])++ (if true=true then post else Q4 t post):=by simp[Q4,h1]
    rw[e];simp[h0,h3,h5,h6,h7,hg,hlt,hw1,hc,h1,hle,hb,hb2,Qg,Zt,Q7];clear hb hb2;rw[IH (pre ++ [x]) (acc ++ [t]++ [x]) true] <;> simp[h0,h3,hk] <;> omega
   ·by_cases h2:Qh t x=0
    ·have e:acc ++ (if false=true then x:: post else Q4 t (x:: post))=(acc ++ [x])++ (if true=true then post else Q4 t post):=by simp[Q4,h2]
     rw[e];simp[h0,h3,h5,h6,h7,hg,hlt,hw1,hc,h1,h2,hb,Qg,Zt,Q7];clear hb hb2;rw[IH (pre ++ [x]) (acc ++ [x]) true] <;> simp[h0,h3,hk] <;> omega
    ·have hle: ¬Qh t x≤0:=by omega
     have e:acc ++ (if false=true then x:: post else Q4 t (x:: post))=(acc ++ [x])++ (if false=true then post else Q4 t post):=by simp[Q4,h1,h2]
     rw[e];simp[h0,h3,h5,h6,h7,hg,hlt,hw1,hc,h1,h2,hle,hb,Qg,Zt,Q7];clear hb hb2;rw[IH (pre ++ [x]) (acc ++ [x]) false] <;> simp[h0,h3,hk] <;> omega
  ·have e:acc ++ (if true=true then x:: post else Q4 t (x:: post))=(acc ++ [x])++ (if true=true then post else Q4 t post):=by simp
   rw[e];simp[h0,h3,h5,h6,h7,hg,hlt,hw1,hc,hb,Qg,Zt,Q7];clear hb hb2;rw[IH (pre ++ [x]) (acc ++ [x]) true] <;> simp[h0,h3,hk] <;> omega
theorem Qae (l:List Tm) (t:Tm) (o:Bool) (bs:List (List AV)) (hl:l.length < 100000000) (hm: ∀x∈l,x.mass < big) (ht:t.mass < big):
  call F.tb 239 [.sl o 4 (encTs l),.agg (Qb t)] bs=some (.sl false 4 (encTs (Q4 t l)),bs):=by
 have h:=fun ρ=>Ae l t bs hl hm ht l [] [] false ρ rfl (by simp) (fun _=>rfl);rw[Qa F.tb_239 _ _ rfl];simp[F.f239C];simp at h;refine h _ ?_ ?_ ?_ ?_ ?_ <;> simp[encTs]
def Q3 (l:List Tm) (t:Tm):Bool:=l.any fun x=>decide (Qh x t=0)
theorem Zx {l:List Tm} {t:Tm}:Q3 l t=true↔t∈l:=by
 simp only[Q3,List.any_eq_true,decide_eq_true_eq];constructor
 ·rintro⟨x,hx,h⟩;rw[← ZV _ _ h];exact hx
 ·intro h;exact⟨t,h,YS t⟩
def Wa (l:List Tm) (t:Tm):List Tm:=if Q3 l t then l.filter (fun x=> !decide (Qh x t=0))else Q4 t l
def Z8 (a b:List Tm):List Tm:=b.foldl Wa a
theorem Fn {l:List Tm} (p:Tm→Bool) (h:Asc l):Asc (l.filter p):=List.Pairwise.filter _ h
theorem AE {l:List Tm} (t:Tm) (h:Asc l):Asc (Wa l t):=by
 unfold Wa;split
 ·exact Fn _ h
 ·exact Ru h
theorem Ic {l:List Tm} {t y:Tm}:y∈Wa l t↔(y∈l∧y≠t)∨(y=t∧t ∉ l):=by
 unfold Wa;split
 ·rename_i h;rw[Zx]at h;simp only[List.mem_filter,Bool.not_eq_true',decide_eq_false_iff_not,Yx];constructor
  ·rintro⟨h1,h2⟩;exact .inl ⟨h1,h2⟩
  ·rintro(⟨h1,h2⟩ | ⟨rfl,h2⟩)
   ·exact⟨h1,h2⟩
   ·exact absurd h h2
 ·rename_i h;rw[Zx]at h;rw[Vr];constructor
  ·rintro(rfl | h1)
   ·exact .inr ⟨rfl,h⟩
   ·refine .inl ⟨h1,fun e=> ?_⟩;subst e;exact h h1
  ·rintro(⟨h1,h2⟩ | ⟨h1,h2⟩)
   ·exact .inr h1
   ·exact .inl h1
theorem UN: ∀(b a:List Tm),Asc a→Asc (Z8 a b)
 | [],_,h=>h
 | x:: b,a,h=>UN b _ (AE x h)
theorem PX {y:Tm}: ∀{b a:List Tm},Asc b→(y∈Z8 a b↔(y∈a∧y ∉ b)∨(y ∉ a∧y∈b))
 | [],a,_=>by simp[Z8]
 | x:: b,a,h=>by
  rw[Yb]at h;have ih:=PX (y:=y) (b:=b) (a:=Wa a x) h.2;have hxb:x ∉ b:=fun hm=>XH x (h.1 x hm);simp only[Z8,List.foldl_cons]at ih ⊢;rw[ih,Ic];simp only[List.mem_cons];by_cases e:y=x
  ·subst e;by_cases hy:y∈a <;> simp[hy,hxb]
  ·by_cases hy:y∈a <;> by_cases hb:y∈b <;> simp[hy,hb,e]
theorem WR: ∀(b a:List Tm),(Z8 a b).length≤a.length+b.length
 | [],a=>by simp[Z8]
 | x:: b,a=>by
  have ih:=WR b (Wa a x);have: (Wa a x).length≤a.length+1:=by
   unfold Wa;split
   ·have:=List.length_filter_le (fun y=> !decide (Qh y x=0)) a;omega
   ·exact OR x a
  simp only[Z8,List.foldl_cons,List.length_cons]at ih ⊢;omega
def Xv:List Tm→List Tm→List Tm
 | [],b=>b
 | a,[]=>a
 | x:: a,y:: b=>if Qh x y < 0 then x:: Xv a (y:: b)else if 0 < Qh x y then y:: Xv (x:: a) b else Xv a b
termination_by a b=>a.length+b.length
theorem P2 (b:List Tm):Xv [] b=b:=by rw[Xv]
theorem RX (a:List Tm):Xv a []=a:=by cases a <;> rw[Xv];simp
theorem RU (x y:Tm) (a b:List Tm):Xv (x:: a) (y:: b)=if Qh x y < 0 then x:: Xv a (y:: b)else if 0 < Qh x y then y:: Xv (x:: a) b else Xv a b:=by rw[Xv]
theorem VH {y:Tm}: ∀(n:Nat) (a b:List Tm),a.length+b.length≤n→Asc a→Asc b→(y∈Xv a b↔(y∈a∧y ∉ b)∨(y ∉ a∧y∈b))
 | _,[],b,_,_,_=>by rw[P2];simp
 | _,x:: a,[],_,_,_=>by rw[RX];simp
 | 0,x:: a,z:: b,h,_,_=>by simp at h
 | n+1,x:: a,z:: b,h,ha,hb=>by
  have ha0:=ha;have hb0:=hb;rw[Yb]at ha hb;simp only[List.length_cons]at h;rw[RU];split
  ·rename_i h1;rw[List.mem_cons,VH n a (z:: b) (by simp;omega) ha.2 hb0];have hxb:x ∉ z:: b:=fun hm=>by
    rcases List.mem_cons.1 hm with e | e
    ·subst e;exact XH x h1
    ·exact XH x (Z0 h1 (hb.1 x e))
   have hxa:x ∉ a:=fun hm=>XH x (ha.1 x hm);by_cases e:y=x
   ·subst e;simp[hxb]
   ·simp[e]
  ·rename_i h1;split
   ·rename_i h2;have h2':=NV.1 h2;rw[List.mem_cons,VH n (x:: a) b (by simp;omega) ha0 hb.2];have hza:z ∉ x:: a:=fun hm=>by
     rcases List.mem_cons.1 hm with e | e
     ·subst e;exact XH z h2'
     ·exact XH z (Z0 h2' (ha.1 z e))
    have hzb:z ∉ b:=fun hm=>XH z (hb.1 z hm);by_cases e:y=z
    ·subst e;simp[hza]
    ·simp[e]
   ·rename_i h2;have e0:=ZV x z (by omega);subst e0;rw[VH n a b (by omega) ha.2 hb.2];have hxa:x ∉ a:=fun hm=>XH x (ha.1 x hm);have hxb:x ∉ b:=fun hm=>XH x (hb.1 x hm);by_cases e:y=x
    ·subst e;simp[hxa,hxb]
    ·simp[e]
theorem TJ: ∀(n:Nat) (a b:List Tm),a.length+b.length≤n→Asc a→Asc b→Asc (Xv a b)
 | _,[],b,_,_,hb=>by rw[P2];exact hb
 | _,x:: a,[],_,ha,_=>by rw[RX];exact ha
 | 0,x:: a,z:: b,h,_,_=>by simp at h
 | n+1,x:: a,z:: b,h,ha,hb=>by
  have ha0:=ha;have hb0:=hb;rw[Yb]at ha hb;simp only[List.length_cons]at h;rw[RU];split
  ·rename_i h1;rw[Yb];refine⟨fun y hy=> ?_,TJ n a (z:: b) (by simp;omega) ha.2 hb0⟩;rw[VH n a (z:: b) (by simp;omega) ha.2 hb0]at hy;rcases hy with⟨hy,_⟩ | ⟨_,hy⟩
   ·exact ha.1 y hy
   ·rcases List.mem_cons.1 hy with e | e
    ·subst e;exact h1
    ·exact Z0 h1 (hb.1 y e)
  ·rename_i h1;split
   ·rename_i h2;have h2':=NV.1 h2;rw[Yb];refine⟨fun y hy=> ?_,TJ n (x:: a) b (by simp;omega) ha0 hb.2⟩;rw[VH n (x:: a) b (by simp;omega) ha0 hb.2]at hy;rcases hy with⟨hy,_⟩ | ⟨_,hy⟩
    ·rcases List.mem_cons.1 hy with e | e
     ·subst e;exact h2'
     ·exact Z0 h2' (ha.1 y e)
    ·exact hb.1 y hy
   ·exact TJ n a b (by omega) ha.2 hb.2
theorem It {a b:List Tm} (ha:Asc a) (hb:Asc b):Xv a b=Z8 a b:=
 Ok (TJ _ a b (Nat.le_refl _) ha hb) (UN b a ha) fun x=>by rw[VH _ a b (Nat.le_refl _) ha hb,PX hb]
def ZM:List UInt8:=[122,101,114,111]
def XOR:List UInt8:=[120,111,114]
mutual
def QV:Tm→List Tm
 | .mk k n s ks=>if k=3∧n=ZM∧ks=[]then []else if k=3∧n=XOR then sumL [] ks else [.mk k n s ks]
def sumL (acc:List Tm):List Tm→List Tm
 | []=>acc
 | t:: ts=>sumL (Z8 acc (QV t)) ts
end
mutual
theorem WM: ∀t:Tm,Asc (QV t)
 | .mk k n s ks=>by
  simp only[QV];split
  ·exact Asc.nil
  ·split
   ·exact asc_sumL ks [] Asc.nil
   ·exact Rb _
theorem asc_sumL: ∀(ts acc:List Tm),Asc acc→Asc (sumL acc ts)
 | [],_,h=>h
 | t:: ts,acc,h=>asc_sumL ts _ (UN _ _ h)
end
theorem WP {y:Tm} {b a:List Tm} (hb:Asc b) (h:y∈Z8 a b):y∈a∨y∈b:=by
 rw[PX hb]at h;rcases h with h | h
 ·exact .inl h.1
 ·exact .inr h.2
mutual
theorem Uv: ∀(t y:Tm),y∈QV t→y∈QT t
 | .mk k n s ks,y,h=>by
  simp only[QV]at h;simp only[QT,List.mem_cons];split at h
  ·simp at h
  ·split at h
   ·rcases sumL_mem ks [] y h with h | h
    ·simp at h
    ·exact .inr h
   ·simp at h;exact .inl h
theorem sumL_mem: ∀(ts acc:List Tm) (y:Tm),y∈sumL acc ts→y∈acc∨y∈allL ts
 | [],acc,y,h=> .inl h
 | t:: ts,acc,y,h=>by
  simp only[allL,List.mem_append];rcases sumL_mem ts _ y h with h | h
  ·rcases WP (WM t) h with h | h
   ·exact .inl h
   ·exact .inr (.inl (Uv t y h))
  ·exact .inr (.inr h)
end
mutual
theorem Vw: ∀t:Tm,(QV t).length≤t.nodes
 | .mk k n s ks=>by
  simp only[QV,Tm.nodes];split
  ·simp
  ·split
   ·have:=sumL_len ks [];simp at this;omega
   ·simp
theorem sumL_len: ∀(ts acc:List Tm),(sumL acc ts).length≤acc.length+nodesL ts
 | [],acc=>by simp[sumL,nodesL]
 | t:: ts,acc=>by
  have h1:=sumL_len ts (Z8 acc (QV t));have h2:=WR (QV t) acc;have h3:=Vw t;simp only[sumL,nodesL]at *;omega
end
theorem LF (l:List Tm) (t:Tm) (bs:List (List AV)) (hl:l.length < 100000000) (hm: ∀x∈l,x.mass < big) (ht:t.mass < big):
  ∀(post pre:List Tm) (ρ:Nat→AV),l=pre ++ post→ρ 0= .sl false 4 (encTs l)→ρ 3= .bx (Qb t)→ρ 5= .int .i64 pre.length→
  R F.tb (.loop F.f250l0) ρ bs (Qj 0 (Qu F.tb F.f250r0 (Qx F.f250 bs)))=some (.bool (Q3 post t),bs):=by
 intro post
 induction post with
 | nil=>
  intro pre ρ hk h0 h3 h5;simp only[List.append_nil]at hk;rw[← hk]at h5;rw[Qc F.f250l0.eq_1];simp[h0,h3,h5,F.f250r0,Q3]
 | cons x post IH=>
  intro pre ρ hk h0 h3 h5;have hg:=Qt hk;have hll:=QE hk;have hw1:=wr1 pre.length (by omega);have hlt:=QF hk;have hc:=WW x t bs (hm x (by rw[hk];simp)) ht;rw[Qc F.f250l0.eq_1];by_cases he:Qh x t=0
  ·simp[h0,h3,h5,hg,hlt,hw1,hc,he,Qg,Q3]
  ·have e:Q3 (x:: post) t=Q3 post t:=by simp[Q3,he]
   rw[e];simp[h0,h3,h5,hg,hlt,hw1,hc,he,Qg];rw[IH (pre ++ [x])] <;> simp[h0,h3,hk]
theorem Qah (l:List Tm) (t:Tm) (o:Bool) (bs:List (List AV)) (hl:l.length < 100000000) (hm: ∀x∈l,x.mass < big) (ht:t.mass < big):
  call F.tb 250 [.sl o 4 (encTs l),.agg (Qb t)] bs=some (.bool (Q3 l t),bs):=by
 have h:=fun ρ=>LF l t bs hl hm ht l [] ρ rfl;rw[Qa F.tb_250 _ _ rfl];simp[F.f250C];refine h _ ?_ ?_ ?_ <;> simp
theorem QbL (l:List Tm) (t:Tm) (bs:List (List AV)) (hl:l.length < 100000000) (hm: ∀x∈l,x.mass < big) (ht:t.mass < big):
  ∀(post pre:List Tm) (ρ:Nat→AV),l=pre ++ post→ρ 0= .sl false 4 (encTs l)→ρ 3= .bx (Qb t)→ρ 5= .sl true 4 (encTs (pre.filter (fun x=> !decide (Qh x t=0))))→ρ 6= .int .i64 pre.length→
  R F.tb (.loop F.f249l0) ρ bs (Qj 0 (Qu F.tb F.f249r0 (Qx F.f249 bs)))=some (.sl false 4 (encTs (l.filter (fun x=> !decide (Qh x t=0)))),bs):=by
 intro post
 induction post with
 | nil=>
  intro pre ρ hk h0 h3 h5 h6;simp only[List.append_nil]at hk;rw[← hk]at h5 h6;rw[Qc F.f249l0.eq_1];simp[h0,h3,h5,h6,F.f249r0]
 | cons x post IH=>
  intro pre ρ hk h0 h3 h5 h6;have hg:=Qt hk;have hll:=QE hk;have hw1:=wr1 pre.length (by omega);have hlt:=QF hk;have hfl:=List.length_filter_le (fun x=> !decide (Qh x t=0)) pre;have hb: ((pre.filter (fun x=> !decide (Qh x t=0))).length+1)*56≤140737488355328:=YW (by omega);have hc:=WW x t bs (hm x (by rw[hk];simp)) ht;have h2:=IH (pre ++ [x]);rw[Qc F.f249l0.eq_1];by_cases he:Qh x t=0
  ·have hf: (pre ++ [x]).filter (fun x=> !decide (Qh x t=0))=pre.filter (fun x=> !decide (Qh x t=0)):=by simp[List.filter_cons,he]
   rw[hf]at h2;generalize pre.filter (fun x=> !decide (Qh x t=0))=pf at *;generalize l.filter (fun x=> !decide (Qh x t=0))=lf at *;simp[h0,h3,h5,h6,hg,hlt,hw1,hc,he,Qg];rw[h2] <;> simp[h0,h3,h5,hk]
  ·have hf: (pre ++ [x]).filter (fun x=> !decide (Qh x t=0))=pre.filter (fun x=> !decide (Qh x t=0))++ [x]:=by simp[List.filter_cons,he]
   rw[hf]at h2;generalize pre.filter (fun x=> !decide (Qh x t=0))=pf at *;generalize l.filter (fun x=> !decide (Qh x t=0))=lf at *;simp[h0,h3,h5,h6,hg,hlt,hw1,hc,he,hb,Qg,Zt,Q7];rw[h2] <;> simp[h0,h3,hk]
theorem Hh (l:List Tm) (t:Tm) (o:Bool) (bs:List (List AV)) (hl:l.length < 100000000) (hm: ∀x∈l,x.mass < big) (ht:t.mass < big):
  call F.tb 249 [.sl o 4 (encTs l),.agg (Qb t)] bs=some (.sl false 4 (encTs (Wa l t)),bs):=by
 have h:=fun ρ=>QbL l t bs hl hm ht l [] ρ rfl;have hh:=Qah l t false bs hl hm ht;have ha:=Qae l t false bs hl hm ht;rw[Qa F.tb_249 _ _ rfl];cases hb:Q3 l t
 ·have e:Wa l t=Q4 t l:=by simp[Wa,hb]
  rw[e];simp[F.f249C,Qg,hh,hb,ha]
 ·have e:Wa l t=l.filter (fun x=> !decide (Qh x t=0)):=by simp[Wa,hb]
  rw[e];generalize l.filter (fun x=> !decide (Qh x t=0))=lf at *;simp[F.f249C,Qg,hh,hb];refine h _ ?_ ?_ ?_ ?_ <;> simp[encTs]
theorem Ff (b:List Tm) (bs:List (List AV)) (hl:b.length < 40000000) (hm: ∀x∈b,x.mass < big):
  ∀(post pre acc:List Tm) (o:Bool) (ρ:Nat→AV),b=pre ++ post→acc.length+post.length < 90000000→(∀x∈acc,x.mass < big)→ρ 1= .sl false 4 (encTs b)→ρ 5= .sl o 4 (encTs acc)→ρ 6= .int .i64 pre.length→
  R F.tb (.loop F.f248l0) ρ bs (Qj 0 (Qu F.tb F.f248r0 (Qx F.f248 bs)))=some (.sl false 4 (encTs (Z8 acc post)),bs):=by
 intro post
 induction post with
 | nil=>
  intro pre acc o ρ hk ha hma h1 h5 h6;simp only[List.append_nil]at hk;rw[← hk]at h6;rw[Qc F.f248l0.eq_1];simp[h1,h5,h6,F.f248r0,Z8]
 | cons x post IH=>
  intro pre acc o ρ hk ha hma h1 h5 h6;have hg:=Qt hk;have hll:=QE hk;have hw1:=wr1 pre.length (by omega);have hlt:=QF hk;have hx:=hm x (by rw[hk];simp);have hal:acc.length+ (post.length+1) < 90000000:=by simpa using ha
  have hc:=Hh acc x false bs (by omega) hma hx;have htl: (Wa acc x).length≤acc.length+1:=by
   have:=WR [x] acc;simpa[Z8]using this
  have htm: ∀y∈Wa acc x,y.mass < big:=fun y hy=>by
   rcases Ic.1 hy with h | h
   ·exact hma y h.1
   ·rw[h.1];exact hx
  have h2:=fun ρ=>IH (pre ++ [x]) (Wa acc x) false ρ (by rw[hk];simp) (by omega) htm;rw[Qc F.f248l0.eq_1];simp[h1,h5,h6,hg,hlt,hw1,hc];rw[show Z8 acc (x:: post)=Z8 (Wa acc x) post from rfl];refine h2 _ ?_ ?_ ?_ <;> simp[h1]
theorem NH (a b:List Tm) (o o2:Bool) (bs:List (List AV)) (ha:a.length < 40000000) (hb:b.length < 40000000) (hma: ∀x∈a,x.mass < big) (hmb: ∀x∈b,x.mass < big):
  call F.tb 248 [.sl o 4 (encTs a),.sl o2 4 (encTs b)] bs=some (.sl false 4 (encTs (Z8 a b)),bs):=by
 have h:=fun o ρ=>Ff b bs hb hmb b [] a o ρ rfl (by omega) hma;have hlim:a.length*56≤140737488355328:=YW (by omega);rw[Qa F.tb_248 _ _ rfl];simp[F.f248C,hlim];refine h true _ ?_ ?_ ?_ <;> simp
theorem Cf (t:Tm) (bs:List (List AV)) (hm:t.mass < 30000000) (ih: ∀x∈t.kids,∀bs,∃o,call F.tb 247 [.agg (Qb x)] bs=some (.sl o 4 (encTs (QV x)),bs)):
  ∀(post pre acc:List Tm) (o:Bool) (ρ:Nat→AV),t.kids=pre ++ post→acc.length+nodesL post < 30000000→(∀x∈acc,x.mass < big)→ρ 1= .bx (Qb t)→ρ 3= .sl o 4 (encTs acc)→ρ 4= .int .i64 pre.length→
  R F.tb (.loop F.f247l0) ρ bs (Qj 0 (Qu F.tb F.f247r0 (Qx F.f247 bs)))=some (.sl false 4 (encTs (sumL acc post)),bs):=by
 have hmk:=Qp t;intro post
 induction post with
 | nil=>
  intro pre acc o ρ hk ha hma h1 h3 h4;simp only[List.append_nil]at hk;rw[← hk]at h4;rw[Qc F.f247l0.eq_1];simp[h1,h3,h4,F.f247r0,sumL]
 | cons x post IH=>
  intro pre acc o ρ hk ha hma h1 h3 h4;have hg:=Qt hk;have hll:=QE hk;have hgl:t.kids[pre.length]'(by omega)=x:=by
   have:=List.getElem?_eq_getElem (l:=t.kids) (i:=pre.length) (by omega);rw[hg]at this;injection this with this;exact this.symm
  have hw1:=wr1 pre.length (by omega);have hlt:=QF hk;have hxk:x∈t.kids:=by rw[hk];simp
  have hxm:=QC hxk;have hxn:=ZL x;have hsl:=Vw x;simp only[nodesL]at ha;obtain⟨o1,hc1⟩:=ih x hxk bs;have hsm: ∀y∈QV x,y.mass < big:=fun y hy=>by have:=Wh x y (Uv x y hy);unfold big;omega
  have hc2:=NH acc (QV x) false false bs (by omega) (by omega) hma hsm;have hpl:=WR (QV x) acc;have hpm: ∀y∈Z8 acc (QV x),y.mass < big:=fun y hy=>by
   rcases WP (WM x) hy with h | h
   ·exact hma y h
   ·exact hsm y h
  have h2:=fun ρ=>IH (pre ++ [x]) (Z8 acc (QV x)) false ρ (by rw[hk];simp) (by omega) hpm;rw[Qc F.f247l0.eq_1];simp[h1,h3,h4,hg,hgl,hlt,hw1,hc1,hc2,sumL];refine h2 _ ?_ ?_ ?_ <;> simp[h1]
theorem MB: ∀(t:Tm) (bs:List (List AV)),t.mass < 30000000→∃o,call F.tb 247 [.agg (Qb t)] bs=some (.sl o 4 (encTs (QV t)),bs):=by
 refine ZG ?_;intro k n s ks ih bs hm;have hmk:=Qp (.mk k n s ks);have hnm:=nodesL_le_mass ks;simp only[Q0,ZH]at hmk;have hl:=fun ρ=>Cf (.mk k n s ks) bs hm (fun x hx bs=>ih x hx bs (by have:=QC hx;simp at this;omega)) ks [] [] true ρ rfl (by simp;omega) (by simp);rw[Qa F.tb_247 _ _ rfl];by_cases hk:k=3
 ·by_cases hz:n=ZM
  ·cases ks with
   | nil=>
    refine⟨true,?_⟩;simp[F.f247C,Qb,encTs,QV,hk,hz,ZM]
   | cons x xs=>
    refine⟨true,?_⟩;simp only[ZM]at hz;have: ¬((xs.length:Int)+1=0):=by omega
    simp[F.f247C,Qb,QV,hk,hz,ZM,XOR,this,encTs]
  ·by_cases hx:n=XOR
   ·refine⟨false,?_⟩;have e:QV (.mk k n s ks)=sumL [] ks:=by simp[QV,hk,hx,ZM,XOR]
    rw[e];have hb1: (n == [122,101,114,111])=false:=by simpa[ZM]using hz
    simp only[XOR]at hx;simp[F.f247C,Qb,hk,hx];refine hl _ ?_ ?_ ?_ <;> simp[Qb,encTs,hk,hx]
   ·refine⟨true,?_⟩;have e:QV (.mk k n s ks)=[.mk k n s ks]:=by simp[QV,hk,hx,hz]
    rw[e];have hb1: (n == [122,101,114,111])=false:=by simpa[ZM]using hz
    have hb2: (n == [120,111,114])=false:=by simpa[XOR]using hx
    have hb3: (n != [120,111,114])=true:=by simpa[XOR]using hx
    simp[F.f247C,Qb,hk,hb1,hb2,hb3,encTs]
 ·refine⟨true,?_⟩;have e:QV (.mk k n s ks)=[.mk k n s ks]:=by simp[QV,hk]
  rw[e];have hb: (k != 3)=true:=by simp[hk]
  simp[F.f247C,Qb,hk,hb,encTs]
@[simp] theorem Qin (x:Tm) (a:List Tm) (h:0 < (encTs (x:: a)).length): (encTs (x:: a))[0]=Qb x:=by simp[encTs]
def Wc (l:List Tm) (bs:List (List AV)) (r:Option (AV×List (List AV))):Prop:=∃o,r=some (.sl o 4 (encTs l),bs)
theorem Bl (bs:List (List AV)): ∀(n:Nat) (a b acc:List Tm) (o1 o2:Bool) (ρ:Nat→AV),a.length+b.length≤n→acc.length+a.length+b.length < 100000000→(∀x∈a,x.mass < big)→(∀x∈b,x.mass < big)→
   ρ 0= .sl o1 4 (encTs a)→ρ 1= .sl o2 4 (encTs b)→ρ 5= .sl true 4 (encTs acc)→
  Wc (acc ++ Xv a b) bs (R F.tb (.loop F.f183l0) ρ bs (Qj 0 (Qu F.tb F.f183r0 (Qx F.f183 bs)))):=by
 have hend: ∀(a b acc:List Tm) (o1 o2:Bool) (ρ:Nat→AV),(a=[]∨b=[])→acc.length+a.length+b.length < 100000000→ρ 0= .sl o1 4 (encTs a)→ρ 1= .sl o2 4 (encTs b)→ρ 5= .sl true 4 (encTs acc)→
   Wc (acc ++ Xv a b) bs (R F.tb F.f183r0 ρ bs (Qx F.f183 bs)):=by
  intro a b acc o1 o2 ρ hab hl h0 h1 h5;have e:Xv a b=a ++ b:=by
   rcases hab with rfl | rfl
   ·rw[P2];simp
   ·rw[RX];simp
  have hb1: (acc.length+a.length)*56≤140737488355328:=YW (by omega);have hb2: (acc.length+ (a.length+b.length))*56≤140737488355328:=YW (by clear hb1;omega);rw[e];refine⟨true,?_⟩;simp[h0,h1,h5,hb1,hb2,F.f183r0,Q7,Nat.add_assoc]
 intro n
 induction n with
 | zero=>
  intro a b acc o1 o2 ρ hn hl hma hmb h0 h1 h5;have ha:a=[]:=List.eq_nil_of_length_eq_zero (by omega);subst ha;have h2:=fun ρ=>hend [] b acc o1 o2 ρ (.inl rfl) hl;rw[Qc F.f183l0.eq_1];simp[h0,h1,h5,encTs];refine h2 _ ?_ ?_ ?_ <;> simp[h0,h1,h5]
 | succ n IH=>
  intro a b acc o1 o2 ρ hn hl hma hmb h0 h1 h5
  match a,b with
  | [],b=>
   have h2:=fun ρ=>hend [] b acc o1 o2 ρ (.inl rfl) hl;rw[Qc F.f183l0.eq_1];simp[h0,h1,h5,encTs];refine h2 _ ?_ ?_ ?_ <;> simp[h0,h1,h5]
  | x:: a,[]=>
   have h2:=fun ρ=>hend (x:: a) [] acc o1 o2 ρ (.inr rfl) hl;have hp: (0:Int) < (a.length:Int)+1:=by omega
   rw[Qc F.f183l0.eq_1];simp[h0,h1,h5,hp];refine h2 _ ?_ ?_ ?_ <;> simp[h0,h1,h5]
  | x:: a,y:: b=>
   simp only[List.length_cons]at hn hl;have hp: (0:Int) < (a.length:Int)+1:=by omega
   have hp2: (0:Int) < (b.length:Int)+1:=by omega
   have hp3: (1:Int)≤(a.length:Int)+1:=by omega
   have hp4: (1:Int)≤(b.length:Int)+1:=by omega
   have hc:=call_Compare x y bs (hma x (by simp)) (hmb y (by simp));have hb: (acc.length+1)*56≤140737488355328:=YW (by omega);have et: (encTs (x:: a)).take ((encTs (x:: a)).length)=encTs (x:: a):=List.take_length;have i1:=fun ρ=>IH a (y:: b) (acc ++ [x]) false o2 ρ (by simp;omega) (by simp;omega) (fun z hz=>hma z (by simp[hz])) hmb;have i2:=fun ρ=>IH (x:: a) b (acc ++ [y]) o1 false ρ (by simp;omega) (by simp;omega) hma (fun z hz=>hmb z (by simp[hz]));have i3:=fun ρ=>IH a b acc false false ρ (by omega) (by omega) (fun z hz=>hma z (by simp[hz])) (fun z hz=>hmb z (by simp[hz]));rw[Qc F.f183l0.eq_1,RU];clear hn;by_cases h1':Qh x y < 0
   ·simp only[h1',if_true];simp only[List.append_assoc,List.cons_append,List.nil_append]at i1;simp[h0,h1,h5,hp,hp2,hp3,hc,h1',hb,Zt,Q7,RC,RD];refine i1 _ ?_ ?_ ?_ <;> simp[h1]
   ·by_cases h2':0 < Qh x y
    ·simp only[h1',h2',if_true,if_false];simp only[List.append_assoc,List.cons_append,List.nil_append]at i2;simp[h0,h1,h5,hp,hp2,hp4,hc,h1',h2',hb,Zt,Q7,RC,RD];refine i2 _ ?_ ?_ ?_ <;> simp[h0]
    ·simp only[h1',h2',if_false];simp[h0,h1,h5,hp,hp2,hp3,hp4,hc,h1',h2',RC,RD];refine i3 _ ?_ ?_ ?_ <;> simp[h5]
theorem MZ (a b:List Tm) (o1 o2:Bool) (bs:List (List AV)) (hl:a.length+b.length < 100000000) (hma: ∀x∈a,x.mass < big) (hmb: ∀x∈b,x.mass < big):
  Wc (Xv a b) bs (call F.tb 183 [.sl o1 4 (encTs a),.sl o2 4 (encTs b)] bs):=by
 have h:=fun ρ=>Bl bs _ a b [] false false ρ (Nat.le_refl _) (by simp;omega) hma hmb;simp only[List.nil_append]at h;rw[Qa F.tb_183 _ _ rfl];simp[F.f183C];refine h _ ?_ ?_ ?_ <;> simp[encTs]
theorem QbE (t:Tm) (bs:List (List AV)) (hm:t.mass < 30000000) (ih: ∀x∈t.kids,∀bs,Wc (QV x) bs (call F.tb 182 [.agg (Qb x)] bs)):
  ∀(post pre acc:List Tm) (o:Bool) (ρ:Nat→AV),t.kids=pre ++ post→acc.length+nodesL post < 30000000→Asc acc→(∀x∈acc,x.mass < big)→ρ 3= .sl o 4 (encTs acc)→ρ 31= .sl false 4 (encTs t.kids)→ρ 32= .int .i64 t.kids.length→ρ 33= .int .i64 pre.length→
  R F.tb (.loop F.f182l0) ρ bs (Qj 1 (Qu F.tb F.f182r0 (Qj 0 (Qu F.tb F.f182r1 (Qx F.f182 bs)))))=some (.sl false 4 (encTs (sumL acc post)),bs):=by
 have hmk:=Qp t;intro post
 induction post with
 | nil=>
  intro pre acc o ρ hk ha has hma h3 h31 h32 h33;simp only[List.append_nil]at hk;rw[← hk]at h33;rw[Qc F.f182l0.eq_1];simp[h3,h31,h32,h33,F.f182r0,sumL]
 | cons x post IH=>
  intro pre acc o ρ hk ha has hma h3 h31 h32 h33;have hg:=Qt hk;have hll:=QE hk;have hw1:=wr1 pre.length (by omega);have hlt:=QF hk;have hxk:x∈t.kids:=by rw[hk];simp
  have hxm:=QC hxk;have hxn:=ZL x;have hsl:=Vw x;simp only[nodesL]at ha;obtain⟨o1,hc1⟩:=ih x hxk bs;have hsm: ∀y∈QV x,y.mass < big:=fun y hy=>by have:=Wh x y (Uv x y hy);unfold big;omega
  obtain⟨o2,hc2⟩:=MZ acc (QV x) false false bs (by omega) hma hsm;rw[It has (WM x)]at hc2;have hpl:=WR (QV x) acc;have hpm: ∀y∈Z8 acc (QV x),y.mass < big:=fun y hy=>by
   rcases WP (WM x) hy with h | h
   ·exact hma y h
   ·exact hsm y h
  have h2:=fun ρ=>IH (pre ++ [x]) (Z8 acc (QV x)) o2 ρ (by rw[hk];simp) (by omega) (UN _ _ has) hpm;rw[Qc F.f182l0.eq_1];simp[h3,h31,h32,h33,hg,hlt,hw1,Qg,hc1,hc2,sumL];refine h2 _ ?_ ?_ ?_ ?_ <;> simp[h31,h32]
theorem Vf: ∀(t:Tm) (bs:List (List AV)),t.mass < 30000000→Wc (QV t) bs (call F.tb 182 [.agg (Qb t)] bs):=by
 refine ZG ?_;intro k n s ks ih bs hm;have hmk:=Qp (.mk k n s ks);have hnm:=nodesL_le_mass ks;simp only[Q0,ZH]at hmk;have hl:=fun ρ=>QbE (.mk k n s ks) bs hm (fun x hx bs=>ih x hx bs (by have:=QC hx;simp at this;omega)) ks [] [] true ρ rfl (by simp;omega) Asc.nil (by simp);simp only[Q0]at hl;rw[Qa F.tb_182 _ _ rfl];by_cases hk:k=3
 ·by_cases hz:n=ZM
  ·cases ks with
   | nil=>
    refine⟨true,?_⟩;simp[F.f182C,Qb,encTs,QV,hk,hz,ZM]
   | cons x xs=>
    refine⟨true,?_⟩;simp only[ZM]at hz;have: ¬((xs.length:Int)+1=0):=by omega
    simp[F.f182C,Qb,QV,hk,hz,ZM,XOR,this,encTs,F.f182r1]
  ·by_cases hx:n=XOR
   ·refine⟨false,?_⟩;have e:QV (.mk k n s ks)=sumL [] ks:=by simp[QV,hk,hx,ZM,XOR]
    rw[e];simp only[XOR]at hx;simp[F.f182C,Qb,hk,hx];refine hl _ ?_ ?_ ?_ ?_ <;> simp[encTs]
   ·refine⟨true,?_⟩;have e:QV (.mk k n s ks)=[.mk k n s ks]:=by simp[QV,hk,hx,hz]
    rw[e];have hb1: (n == [122,101,114,111])=false:=by simpa[ZM]using hz
    have hb2: (n == [120,111,114])=false:=by simpa[XOR]using hx
    simp[F.f182C,Qb,hk,hb1,hb2,encTs,F.f182r1]
 ·refine⟨true,?_⟩;have e:QV (.mk k n s ks)=[.mk k n s ks]:=by simp[QV,hk]
  rw[e];simp[F.f182C,Qb,hk,encTs,F.f182r1]
theorem R8 (t u:Tm) (o:Bool) (bs:List (List AV)) (ht:t.mass < big) (hu:u.mass < big):call F.tb 185 [.agg (Qb t),.sl o 1 [],.agg (Qb u)] bs=some (.tup [.agg (Qb u),.int .i64 0],bs):=by
 have h1:=fun bs=>U0 t bs ht;have h2:=fun bs=>U0 u bs hu;rw[Qa F.tb_185 _ _ rfl];have e1: ∀x y:List AV,(bs ++ [x]).set bs.length y=bs ++ [y]:=fun x y=>by rw[List.set_append];simp
 simp[F.f185C,h1,Qg,e1,put];rw[Qc F.f185l0.eq_1];simp[F.f185r0,h2,Qg,e1,put]
def Vg (ls:List (List Tm)):List (List AV):=ls.map fun l=>[AV.sl false 4 (encTs l)]
theorem M8 {ls pre post:List (List Tm)} {x:List Tm} (h:ls=pre ++ x:: post): (Vg ls)[pre.length]? =some [AV.sl false 4 (encTs x)]:=by subst h;simp[Vg]
theorem M9 (ls:List (List Tm)): (Vg ls).length=ls.length:=by simp[Vg]
theorem Ct (n:Nat) (bs:List (List AV)) (hn:n < 100000000):call F.tb 181 [.gs 0 0 0 0,.int .i64 n] bs=some (.sl true 4 [],bs):=by
 rw[ZP F.tb_181];simp only[Ot];rw[if_pos];refine⟨by omega,?_,by omega⟩;simp;exact YW (by omega)
theorem E9 (ls:List (List Tm)) (bs:List (List AV)) (hl:ls.length < 1000) (hf:ls.flatten.length < 100000000):
  ∀(post pre:List (List Tm)) (ρ:Nat→AV),ls=pre ++ post→ρ 6= .sl true 4 (encTs pre.flatten)→ρ 25= .sl false 1 (Vg ls)→ρ 26= .int .i64 ls.length→ρ 27= .int .i64 pre.length→
  R F.tb (.loop F.f180l1) ρ bs (Qj 2 (Qu F.tb F.f180r0 (Qx F.f180 bs)))=some (.sl false 4 (encTs ls.flatten),bs):=by
 intro post
 induction post with
 | nil=>
  intro pre ρ hk h6 h25 h26 h27;simp only[List.append_nil]at hk;rw[← hk]at h27 h6;rw[Qc F.f180l1.eq_1];simp[h6,h25,h26,h27,F.f180r0]
 | cons x post IH=>
  intro pre ρ hk h6 h25 h26 h27;have hg:=M8 hk;have hll:=QE hk;have hw1:=wr1 pre.length (by omega);have hlt:=QF hk;have hfl:ls.flatten.length=pre.flatten.length+ (x.length+post.flatten.length):=by rw[hk];simp
  have hb: (pre.flatten.length+x.length)*56≤140737488355328:=YW (by omega);have h2:=IH (pre ++ [x]);have e: (pre ++ [x]).flatten=pre.flatten ++ x:=by simp
  rw[e]at h2;generalize pre.flatten=pf at *;rw[Qc F.f180l1.eq_1];simp[h6,h25,h26,h27,hg,hlt,hw1,hb,Q7];rw[h2] <;> simp[h25,h26,hk]
theorem E8 (ls:List (List Tm)) (bs:List (List AV)) (hl:ls.length < 1000) (hf:ls.flatten.length < 100000000):
  ∀(post pre:List (List Tm)) (ρ:Nat→AV),ls=pre ++ post→ρ 0= .sl false 1 (Vg ls)→ρ 3= .int .i64 pre.flatten.length→ρ 9= .sl false 1 (Vg ls)→ρ 10= .int .i64 ls.length→ρ 11= .int .i64 pre.length→
  R F.tb (.loop F.f180l0) ρ bs (Qj 0 (Qu F.tb F.f180r1 (Qx F.f180 bs)))=some (.sl false 4 (encTs ls.flatten),bs):=by
 intro post
 induction post with
 | nil=>
  intro pre ρ hk h0 h3 h9 h10 h11;simp only[List.append_nil]at hk;rw[← hk]at h11 h3;have hc:=Ct ls.flatten.length bs hf;have h1:=fun ρ=>E9 ls bs hl hf ls [] ρ rfl;generalize ls.flatten=lf at *;rw[Qc F.f180l0.eq_1];simp[h0,h3,h9,h10,h11,F.f180r1,hc];refine h1 _ ?_ ?_ ?_ ?_ <;> simp[h0,encTs,M9]
 | cons x post IH=>
  intro pre ρ hk h0 h3 h9 h10 h11;have hg:=M8 hk;have hll:=QE hk;have hw1:=wr1 pre.length (by omega);have hlt:=QF hk;have hfl:ls.flatten.length=pre.flatten.length+ (x.length+post.flatten.length):=by rw[hk];simp
  have hw2:IntKind.i64.wrap ((pre.flatten.length:Int)+ (x.length:Int))=(pre.flatten.length:Int)+ (x.length:Int):=QB (by omega) (by omega);have hnn: ¬((pre.flatten.length:Int)+ (x.length:Int) < 0):=by omega
  have h2:=IH (pre ++ [x]);have e: ((pre ++ [x]).flatten.length:Int)=(pre.flatten.length:Int)+ (x.length:Int):=by simp
  rw[e]at h2;generalize (pre.flatten.length:Int)=pf at *;rw[Qc F.f180l0.eq_1];simp[h0,h3,h9,h10,h11,hg,hlt,hw1,hw2,hnn];rw[h2] <;> simp[h0,h9,h10,hk]
theorem Uw (ls:List (List Tm)) (o:Bool) (bs:List (List AV)) (hl:ls.length < 1000) (hf:ls.flatten.length < 100000000):
  call F.tb 180 [.sl o 1 (Vg ls)] bs=some (.sl false 4 (encTs ls.flatten),bs):=by
 have h:=fun ρ=>E8 ls bs hl hf ls [] ρ rfl;rw[Qa F.tb_180 _ _ rfl];simp[F.f180C];refine h _ ?_ ?_ ?_ ?_ ?_ <;> simp[M9]
def Xt:List Tm→Int
 | []=>0
 | t:: ts=>if Qz t≠0 then Qz t else Xt ts
theorem Mk (l:List Tm) (bs:List (List AV)) (hl:l.length < 100000000) (hm: ∀x∈l,x.mass < big): ∀(post pre:List Tm) (ρ:Nat→AV),l=pre ++ post→ρ 14= .sl false 4 (encTs l)→ρ 15= .int .i64 l.length→ρ 16= .int .i64 pre.length→
  R F.tb (.loop F.f179l0) ρ bs (Qj 0 (Qu F.tb F.f179r0 (Qx F.f179 bs)))=some (.int .i64 (Xt post),bs):=by
 intro post
 induction post with
 | nil=>
  intro pre ρ hk h14 h15 h16;simp only[List.append_nil]at hk;rw[← hk]at h16;rw[Qc F.f179l0.eq_1];simp[h14,h15,h16,F.f179r0,Xt]
 | cons x post IH=>
  intro pre ρ hk h14 h15 h16;have hg:=Qt hk;have hll:=QE hk;have hw1:=wr1 pre.length (by omega);have hlt:=QF hk;have hc:=Wm x bs (hm x (by rw[hk];simp));rw[Qc F.f179l0.eq_1];by_cases hv:Qz x=0
  ·simp[h14,h15,h16,hg,hlt,hw1,Qg,hc,hv,Xt];rw[IH (pre ++ [x])] <;> simp[h14,h15,hk]
  ·simp[h14,h15,h16,hg,hlt,hw1,Qg,hc,hv,Xt]
def XZ (l:List Tm):Int:=if 200 < l.length then 3 else Xt l
theorem Fw (l:List Tm) (o o2:Bool) (bs:List (List AV)) (hl:l.length < 100000000) (hm: ∀x∈l,x.mass < big):call F.tb 179 [.sl o 4 (encTs l),.sl o2 4 []] bs=some (.int .i64 (XZ l),bs):=by
 have h:=fun ρ=>Mk l bs hl hm l [] ρ rfl;have hc:=Uw [l,[]] false bs (by simp) (by simpa using hl);simp only[Vg,List.map_cons,List.map_nil,List.flatten_cons,List.flatten_nil,List.append_nil,encTs]at hc;rw[Qa F.tb_179 _ _ rfl];by_cases h2:200 < l.length
 ·have h2': (200:Int) < (l.length:Int):=by omega
  simp[F.f179C,h2',h2,XZ]
 ·have h2': ¬(200:Int) < (l.length:Int):=by omega
  simp[F.f179C,h2',h2,XZ,hc];refine h _ ?_ ?_ ?_ <;> simp
theorem GF {c:List AV} {n p:Nat} {pre:List Tm} {x:Tm} {v:AV} (hc:c.length=n*4) (hp:p=pre.length) (hlt:p < n) (ht: (c.map AV.strip).take (p*4)=Qf pre) (hv:v.strip= .sl false 4 (encTs x.kids)):
  ((c.take (p*4)++ (Qb x ++ c.drop (p*4+4))).set (p*4+3) v).length=n*4∧
  ((((c.take (p*4)++ (Qb x ++ c.drop (p*4+4))).set (p*4+3) v).map AV.strip).take ((p+1)*4))=Qf (pre ++ [x]):=by
 have h1: (c.take (p*4)).length=p*4:=by rw[List.length_take];omega
 have h2:=Qk x;refine⟨by simp[h1,h2,hc];omega,?_⟩;have e: (c.take (p*4)++ (Qb x ++ c.drop (p*4+4))).set (p*4+3) v=c.take (p*4)++ ([.int .i64 x.kind,.str x.name,.int .i64 x.sort,v]++ c.drop (p*4+4)):=by
  rw[List.set_append,if_neg (by omega),h1,show p*4+3 - p*4=3 by omega,Q6];simp
 rw[e,List.map_append,List.map_append,List.map_take,ht];have h3: [AV.int .i64 x.kind,.str x.name,.int .i64 x.sort,v].map AV.strip=Qb x:=by rw[Q6];simp[hv]
 have hr: (Qf pre).length=p*4:=by rw[Q8 Qk,hp]
 rw[h3,← List.append_assoc,List.take_append_of_le_length (by simp[hr,h2];omega),List.take_of_length_le (by simp[hr,h2];omega)];simp[Qf,Xj,Tg]
theorem Io {c:List AV} {n p:Nat} {pre:List Tm} {x:Tm} (hc:c.length=n*4) (hp:p=pre.length) (hlt:p < n) (ht: (c.map AV.strip).take ((p+1)*4)=Qf (pre ++ [x])) (hx:x.kids=[]):
  (c.take (p*4+3)++ ([AV.sl false 4 []]++ c.drop (p*4+3+1))).length=n*4∧
  ((c.take (p*4+3)++ ([AV.sl false 4 []]++ c.drop (p*4+3+1))).map AV.strip).take ((p+1)*4)=Qf (pre ++ [x]):=by
 have h1: (c.take (p*4+3)).length=p*4+3:=by rw[List.length_take];omega
 refine⟨by simp[h1,hc];omega,?_⟩;have hr:Qf (pre ++ [x])=Qf pre ++ [.int .i64 x.kind,.str x.name,.int .i64 x.sort]++ [.sl false 4 []]:=by
  simp[Qf,Xj,Tg,Q6,hx,encTs]
 have hl0: (Qf pre).length=p*4:=by rw[Q8 Qk,hp]
 have e1: (c.take (p*4+3)).map AV.strip=Qf pre ++ [.int .i64 x.kind,.str x.name,.int .i64 x.sort]:=by
  have h2: ((c.map AV.strip).take ((p+1)*4)).take (p*4+3)=(c.map AV.strip).take (p*4+3):=by rw[List.take_take];congr 1;omega
  rw[List.map_take,← h2,ht,hr,List.take_append_of_le_length (by simp[hl0]),List.take_of_length_le (by simp[hl0])]
 rw[List.map_append,List.map_append,e1,← List.append_assoc,List.take_append_of_le_length (by simp[hl0];omega),List.take_of_length_le (by simp[hl0];omega),hr];simp
theorem Qa2 (l:List Tm) (B:List (List AV)) (hl:l.length < 100000000) (hne:l≠[]) (hm: ∀x∈l,x.mass < big) (ih: ∀x∈l,∀bs,Wc x.kids bs (call F.tb 184 [.sl false 4 (encTs x.kids)] bs)):
  ∀(post pre:List Tm) (c:List AV) (ρ:Nat→AV),l=pre ++ post→c.length=l.length*4→(c.map AV.strip).take (pre.length*4)=Qf pre→ρ 3= .gs B.length 0 4 l.length→ρ 9= .sl false 4 (encTs l)→ρ 10= .int .i64 l.length→ρ 11= .int .i64 pre.length→
  Wc l B (R F.tb (.loop F.f184l0) ρ (B ++ [c]) (Qj 0 (Qu F.tb F.f184r0 (Qx F.f184 B)))):=by
 have es: ∀x y:List AV,(B ++ [x]).set B.length y=B ++ [y]:=fun x y=>by rw[List.set_append];simp
 have eg: ∀x:List AV,(B ++ [x])[B.length]? =some x:=fun x=>List.getElem?_concat_length;intro post
 induction post with
 | nil=>
  intro pre c ρ hk hc ht h3 h9 h10 h11;simp only[List.append_nil]at hk;rw[← hk]at h11 ht;have hz: ¬l.length=0:=fun e=>hne (List.eq_nil_of_length_eq_zero e);have hch:Q5 c 0 4 l.length=encTs l:=by
   have e1:c.map AV.strip=Qf l:=by rw[← ht,List.take_of_length_le (by simp[hc])]
   have e2:Q5 c 0 4 l.length=Q5 (c.map AV.strip) 0 4 l.length:=by
    unfold Q5;apply List.map_congr_left;intro k _;rw[← List.map_drop,← List.map_take,List.map_map];apply List.map_congr_left;intro v _;exact(UG v).symm
   rw[e2,e1];have:=Yv (f:=Qb) (k:=4) Qk QL l [];rw[Wu,List.append_nil]at this;exact this
  have hg:gpfreeE (encTs l)=true:=encTs_gp l;have hle:l.length*4≤c.length:=by omega
  refine⟨true,?_⟩;rw[Qc F.f184l0.eq_1];simp[h3,h9,h10,h11,F.f184r0,Zg,hz,hne,hle,es,hch]
 | cons x post IH=>
  intro pre c ρ hk hc ht h3 h9 h10 h11;have hg:=Qt hk;have hll:=QE hk;have hw1:=wr1 pre.length (by omega);have hlt:=QF hk;have hlt':pre.length < l.length:=by omega
  have hx:=hm x (by rw[hk];simp);have hc1:=fun bs=>R8 x x true bs hx hx;obtain⟨o,hc2⟩:=ih x (by rw[hk];simp) (B ++ [c.take (pre.length*4)++ (Qb x ++ c.drop (pre.length*4+4))]);have hle:pre.length*4+4≤c.length:=by omega
  obtain⟨p1,p2⟩:=GF (v:= .sl o 4 (encTs x.kids)) hc rfl hlt' ht rfl;have hle2:pre.length*4+3 < (c.take (pre.length*4)++ (Qb x ++ c.drop (pre.length*4+4))).length:=by simp[Qk];omega
  generalize hcc:c.take (pre.length*4)++ (Qb x ++ c.drop (pre.length*4+4))=cc at *;have hgl: ∀h:pre.length < (encTs l).length,(encTs l)[pre.length]=Qb x:=fun h=>by
   have:=List.getElem?_eq_getElem h;rw[UQ,hg]at this;injection this with this;exact this.symm
  rw[Qc F.f184l0.eq_1];by_cases hkz:x.kids=[]
  ·obtain⟨p3,p4⟩:=Io p1 rfl hlt' p2 hkz;have hle3:pre.length*4+3+1≤(cc.set (pre.length*4+3) (.sl o 4 (encTs x.kids))).length:=by rw[p1];omega
   have i1:=fun ρ=>IH (pre ++ [x]) _ ρ (by rw[hk];simp) p3 (by simpa using p4);rw[hkz]at hc2 hle3 i1;have hle3':pre.length*4+3+1≤cc.length:=by simpa using hle3
   simp only[encTs,List.cons_append,List.nil_append]at hc2 hle3 i1;simp[h3,h9,h10,h11,hg,hgl,hlt,hlt',hw1,Qg,hc1,eg,es,hle,hcc,hc2,hle2,hkz,encTs,hle3',Qk];refine i1 _ ?_ ?_ ?_ ?_ <;> simp[h3,h9,h10]
  ·have hkl: ¬(x.kids.length:Int)=0:=by
    intro e;exact hkz (List.eq_nil_of_length_eq_zero (by omega))
   have i1:=fun ρ=>IH (pre ++ [x]) _ ρ (by rw[hk];simp) p1 (by simpa using p2);simp[h3,h9,h10,h11,hg,hgl,hlt,hlt',hw1,Qg,hc1,eg,es,hle,hcc,hc2,hle2,hkz,hkl,Qk];refine i1 _ ?_ ?_ ?_ ?_ <;> simp[h3,h9,h10]
theorem Bi (l:List Tm) (o:Bool) (bs:List (List AV)) (hl:l.length < 100000000) (hm: ∀x∈l,x.mass < big) (ih: ∀x∈l,∀bs,Wc x.kids bs (call F.tb 184 [.sl false 4 (encTs x.kids)] bs)):
  Wc l bs (call F.tb 184 [.sl o 4 (encTs l)] bs):=by
 have hb:l.length*56≤140737488355328:=YW (by omega);have hb2: (l.length:Int)≤4611686018427387904:=by omega
 rw[Qa F.tb_184 _ _ rfl];by_cases hne:l=[]
 ·subst hne;refine⟨false,?_⟩;simp[F.f184C,encTs];rw[Qc F.f184l0.eq_1];simp[F.f184r0,Zg]
 ·have h:=fun c hc ρ=>Qa2 l bs hl hne hm ih l [] c ρ rfl hc (by simp[ZA]);have hlen: (List.replicate l.length [AV.int .i64 0,.str [],.int .i64 0,.sl true 4 []]).flatten.length=l.length*4:=by simp
  have h2:=h _ hlen;simp[F.f184C,hb,hb2];refine h2 _ ?_ ?_ ?_ ?_ <;> simp
theorem Im: ∀(t:Tm) (bs:List (List AV)),t.mass < 100000000→Wc t.kids bs (call F.tb 184 [.sl false 4 (encTs t.kids)] bs):=by
 refine ZG ?_;intro k n s ks ih bs hm;have hmk:=Qp (.mk k n s ks);simp only[Q0,ZH]at hmk ⊢;exact Bi ks false bs (by omega) (fun x hx=>by have:=QC hx;unfold big;omega) fun x hx bs=>ih x hx bs (by have:=QC hx;omega)
theorem Qaj (l:List Tm) (o:Bool) (bs:List (List AV)) (hl:l.length < 100000000) (hm: ∀x∈l,x.mass < 100000000):Wc l bs (call F.tb 184 [.sl o 4 (encTs l)] bs):=
 Bi l o bs hl (fun x hx=>by have:=hm x hx;unfold big;omega) fun x hx bs=>Im x bs (hm x hx)
def QD:Tm:= .mk 0 [] 0 []
theorem QJ:Qb QD=[.int .i64 0,.str [],.int .i64 0,.sl false 4 []]:=by simp[QD,Qb,encTs]
def tmX:List Tm→Tm
 | []=> .mk 3 ZM 0 []
 | [p]=>p
 | p:: q:: r=> .mk 3 XOR 0 (p:: q:: r)
def X9 (l:List Tm):Tm×Int:=if XZ l≠0 then(QD,XZ l)else if Qz (tmX (sumL [] l))≠0 then(QD,3)else(tmX (sumL [] l),0)
def QR (r:Tm×Int):AV:= .tup [.agg (Qb r.1),.int .i64 r.2]
theorem Mb (t:Tm): ∀l:List Tm,massL (Q4 t l)≤massL l+t.mass
 | []=>by simp[Q4,massL]
 | x:: xs=>by
  have:=Mb t xs;simp only[Q4];split
  ·simp only[massL];omega
  ·split
   ·simp only[massL];omega
   ·simp only[massL];omega
theorem F4 (l:List Tm) (t:Tm):massL (Wa l t)≤massL l+t.mass:=by
 unfold Wa;split
 ·have: ∀(l:List Tm) (p:Tm→Bool),massL (l.filter p)≤massL l:=by
   intro l p
   induction l with
   | nil=>simp
   | cons x xs ih=>
    rw[List.filter_cons];split <;> simp only[massL] <;> omega
  have:=this l (fun x=> !decide (Qh x t=0));omega
 ·exact Mb t l
theorem ON: ∀(b a:List Tm),massL (Z8 a b)≤massL a+massL b
 | [],a=>by simp[Z8,massL]
 | x:: b,a=>by
  have h1:=ON b (Wa a x);have h2:=F4 a x;simp only[Z8,List.foldl_cons,massL]at *;omega
mutual
theorem F3: ∀t:Tm,massL (QV t)≤t.mass
 | .mk k n s ks=>by
  simp only[QV];split
  ·simp[massL]
  ·split
   ·have:=massL_sumL ks [];simp only[massL,Tm.mass]at *;omega
   ·simp[massL]
theorem massL_sumL: ∀(ts acc:List Tm),massL (sumL acc ts)≤massL acc+massL ts
 | [],acc=>by simp[sumL,massL]
 | t:: ts,acc=>by
  have h1:=massL_sumL ts (Z8 acc (QV t));have h2:=ON (QV t) acc;have h3:=F3 t;simp only[sumL,massL]at *;omega
end
theorem IY (l:List Tm): (tmX l).mass≤10+l.length+massL l:=by
 unfold tmX;split
 ·simp[Tm.mass,massL,ZM]
 ·simp[massL]
 ·simp[Tm.mass,massL,XOR]
theorem Av (l:List Tm) (bs:List (List AV)) (hm:massL l < 20000000) (hl:l.length < 20000000) (k:Kn)
  (hk0: ∀(o:Bool) (ρ:Nat→AV),ρ 2= .bx [.int .i64 0,.str [],.int .i64 0,.sl true 4 []]→ρ 5= .sl o 4 (encTs (sumL [] l))→R F.tb F.f178r0 ρ bs (Qx F.f178 bs)=some (QR (X9 l),bs)):
  ∀(post pre acc:List Tm) (o:Bool) (ρ:Nat→AV),l=pre ++ post→sumL acc post=sumL [] l→acc.length+nodesL post < 25000000→Asc acc→(∀x∈acc,x.mass < big)→ρ 2= .bx [.int .i64 0,.str [],.int .i64 0,.sl true 4 []]→ρ 5= .sl o 4 (encTs acc)→ρ 15= .sl false 4 (encTs l)→ρ 16= .int .i64 l.length→ρ 17= .int .i64 pre.length→
  R F.tb (.loop F.f178l0) ρ bs (Qj 0 (Qu F.tb F.f178r0 (Qx F.f178 bs)))=some (QR (X9 l),bs):=by
 intro post
 induction post with
 | nil=>
  intro pre acc o ρ hk he ha has hma h2 h5 h15 h16 h17;simp only[List.append_nil]at hk;rw[← hk]at h17;simp only[sumL]at he;subst he;rw[Qc F.f178l0.eq_1];simp[h5,h15,h16,h17];refine hk0 o _ ?_ ?_ <;> simp[h2,h5]
 | cons x post IH=>
  intro pre acc o ρ hk he ha has hma h2 h5 h15 h16 h17;have hg:=Qt hk;have hll:=QE hk;have hw1:=wr1 pre.length (by omega);have hlt:=QF hk;have hxl:x∈l:=by rw[hk];simp
  have hxm:=QC hxl;have hxn:=ZL x;have hsl:=Vw x;simp only[nodesL]at ha;obtain⟨o1,hc1⟩:=Vf x bs (by omega);have hsm: ∀y∈QV x,y.mass < big:=fun y hy=>by have:=Wh x y (Uv x y hy);unfold big;omega
  obtain⟨o2,hc2⟩:=MZ acc (QV x) false false bs (by omega) hma hsm;rw[It has (WM x)]at hc2;have hpl:=WR (QV x) acc;have hpm: ∀y∈Z8 acc (QV x),y.mass < big:=fun y hy=>by
   rcases WP (WM x) hy with h | h
   ·exact hma y h
   ·exact hsm y h
  have i2:=fun ρ=>IH (pre ++ [x]) (Z8 acc (QV x)) o2 ρ (by rw[hk];simp) he (by omega) (UN _ _ has) hpm;rw[Qc F.f178l0.eq_1];simp[h5,h15,h16,h17,hg,hlt,hw1,Qg,hc1,hc2];refine i2 _ ?_ ?_ ?_ ?_ ?_ <;> simp[h2,h15,h16]
theorem Qai (l:List Tm) (o:Bool) (bs:List (List AV)) (hm:massL l < 20000000) (hl:l.length < 20000000):call F.tb 178 [.sl o 4 (encTs l)] bs=some (QR (X9 l),bs):=by
 have hr:=Fw l false true bs (by omega) (fun x hx=>by have:=QC hx;unfold big;omega);have hn:=nodesL_le_mass l;have hk0:XZ l=0→∀(o:Bool) (ρ:Nat→AV),ρ 2= .bx [.int .i64 0,.str [],.int .i64 0,.sl true 4 []]→ρ 5= .sl o 4 (encTs (sumL [] l))→R F.tb F.f178r0 ρ bs (Qx F.f178 bs)=some (QR (X9 l),bs):=by
  intro hr0 o ρ h2 h5;have h1:=sumL_len l [];have h3:=massL_sumL l [];have h4:=IY (sumL [] l);simp only[massL,List.length_nil,Nat.zero_add]at h1 h3;obtain⟨o3,ho⟩:=Qaj (sumL [] l) false bs (by omega) (fun x hx=>by have:=QC hx;omega);have hv:=Wm (tmX (sumL [] l)) bs (by unfold big;omega);have es:X9 l=if Qz (tmX (sumL [] l))≠0 then(QD,3)else(tmX (sumL [] l),0):=by simp[X9,hr0]
  rw[es];generalize sumL [] l=ps at *
  match ps with
  | []=>
   have e1:Qb (tmX [])=[.int .i64 3,.str ZM,.int .i64 0,.sl false 4 []]:=by simp[tmX,Qb,encTs]
   rw[e1]at hv;simp only[ZM]at hv e1;simp only[encTs]at ho h5;by_cases h:Qz (tmX [])=0
   ·simp[F.f178r0,h5,ho,h2,hv,h,QR,e1]
   ·simp[F.f178r0,h5,ho,h2,hv,h,QR,QJ]
  | [p]=>
   simp only[tmX]at hv ⊢;by_cases h:Qz p=0
   ·simp[F.f178r0,h5,ho,h2,hv,h,QR,Qg]
   ·simp[F.f178r0,h5,ho,h2,hv,h,QR,QJ,Qg]
  | p:: q:: r=>
   have e1:Qb (tmX (p:: q:: r))=[.int .i64 3,.str XOR,.int .i64 0,.sl false 4 (encTs (p:: q:: r))]:=by simp[tmX,Qb]
   rw[e1]at hv;simp only[XOR]at hv e1;have n1: ¬((r.length:Int)+1+1=0):=by omega
   have n2: ¬((r.length:Int)+1+1=1):=by omega
   by_cases h:Qz (tmX (p:: q:: r))=0
   ·simp[F.f178r0,h5,ho,h2,hv,h,n1,n2,QR,e1]
   ·simp[F.f178r0,h5,ho,h2,hv,h,n1,n2,QR,QJ]
 rw[Qa F.tb_178 _ _ rfl];by_cases h0:XZ l=0
 ·have h:=fun ρ=>Av l bs hm hl (Qx F.f178 bs) (hk0 h0) l [] [] true ρ rfl rfl (by simp;omega) Asc.nil (by simp);simp[F.f178C,hr,h0];refine h _ ?_ ?_ ?_ ?_ ?_ <;> simp[encTs]
 ·have hb: (XZ l != 0)=true:=by simp[h0]
  simp[F.f178C,hr,h0,hb,X9,QR,QJ]
theorem Ft (bs:List (List AV)):call F.tb 245 [] bs=some (.agg (Qb (.mk 3 ZM 0 [])),bs):=by
 have h:=VA ZM [] true bs (by simp);simp only[ZM,encTs]at h;rw[Qa F.tb_245 _ _ rfl];simp[F.f245,F.f245C,h,ZM,Qg]
theorem Hc (l:List Tm) (o:Bool) (bs:List (List AV)) (hl:l.length < 100000000):call F.tb 251 [.sl o 4 (encTs l)] bs=some (.agg (Qb (tmX l)),bs):=by
 have h:=VA ZM [] true bs (by simp);simp only[ZM,encTs]at h;rw[Qa F.tb_251 _ _ rfl]
 match l with
 | []=>simp[F.f251C,h,ZM,Qg,tmX]
 | [p]=>simp[F.f251C,Qg,tmX]
 | p:: q:: r=>
  have n1: ¬((r.length:Int)+1+1=0):=by omega
  have n2: ¬((r.length:Int)+1+1=1):=by omega
  have hb: (r.length+1+1)*56≤140737488355328:=YW (by simp at hl;omega);simp[F.f251C,n1,n2,hb,tmX,Qb,XOR]
theorem K5 (l:List Tm) (t:Tm) (bs:List (List AV)) (hl:l.length < 100000000) (hm: ∀x∈l,x.mass < big) (ht:t.mass < big): ∀(post pre:List Tm) (ρ:Nat→AV),l=pre ++ post→ρ 0= .sl false 4 (encTs l)→ρ 3= .bx (Qb t)→ρ 5= .int .i64 pre.length→
  R F.tb (.loop F.f246l0) ρ bs (Qj 0 (Qu F.tb F.f246r0 (Qx F.f246 bs)))=some (.int .i64 (if Xt post≠0 then Xt post else Qz t),bs):=by
 intro post
 induction post with
 | nil=>
  intro pre ρ hk h0 h3 h5;simp only[List.append_nil]at hk;rw[← hk]at h5;have hc:=Y7 t bs ht;rw[Qc F.f246l0.eq_1];simp[h0,h3,h5,F.f246r0,Xt,Qg,hc]
 | cons x post IH=>
  intro pre ρ hk h0 h3 h5;have hg:=Qt hk;have hll:=QE hk;have hw1:=wr1 pre.length (by omega);have hlt:=QF hk;have hc:=Y7 x bs (hm x (by rw[hk];simp));rw[Qc F.f246l0.eq_1];by_cases hv:Qz x=0
  ·simp only[Xt,hv,ne_eq,not_true_eq_false,if_false];simp[h0,h3,h5,hg,hlt,hw1,Qg,hc,hv];have:=fun ρ=>IH (pre ++ [x]) ρ (by rw[hk];simp);simp only[ne_eq]at this;rw[this] <;> simp[h0,h3]
  ·simp[h0,h3,h5,hg,hlt,hw1,Qg,hc,hv,Xt]
theorem E7:Qz (.mk 3 ZM 0 [])=0:=by decide
theorem Jp (l:List Tm) (o:Bool) (bs:List (List AV)) (hl:l.length < 100000000) (hm: ∀x∈l,x.mass < big):call F.tb 246 [.sl o 4 (encTs l),.agg (Qb (.mk 3 ZM 0 []))] bs=some (.int .i64 (XZ l),bs):=by
 have h:=fun ρ=>K5 l (.mk 3 ZM 0 []) bs hl hm (by simp[Tm.mass,massL,ZM,big]) l [] ρ rfl;rw[E7]at h;have e: (if Xt l≠0 then Xt l else 0)=Xt l:=by split <;> simp_all
 rw[e]at h;rw[Qa F.tb_246 _ _ rfl];by_cases h2:200 < l.length
 ·have h2': (200:Int) < (l.length:Int):=by omega
  simp[F.f246C,h2',h2,XZ]
 ·have h2': ¬(200:Int) < (l.length:Int):=by omega
  simp[F.f246C,h2',h2,XZ];refine h _ ?_ ?_ ?_ <;> simp
theorem Fh (l:List Tm) (bs:List (List AV)) (hm:massL l < 20000000) (hl:l.length < 20000000)
  (hk0: ∀(o:Bool) (ρ:Nat→AV),ρ 2= .bx [.int .i64 0,.str [],.int .i64 0,.sl true 4 []]→ρ 5= .sl o 4 (encTs (sumL [] l))→R F.tb F.f244r0 ρ bs (Qx F.f244 bs)=some (QR (X9 l),bs)):
  ∀(post pre acc:List Tm) (o:Bool) (ρ:Nat→AV),l=pre ++ post→sumL acc post=sumL [] l→acc.length+nodesL post < 25000000→(∀x∈acc,x.mass < big)→ρ 0= .sl false 4 (encTs l)→ρ 2= .bx [.int .i64 0,.str [],.int .i64 0,.sl true 4 []]→ρ 5= .sl o 4 (encTs acc)→ρ 6= .int .i64 pre.length→
  R F.tb (.loop F.f244l0) ρ bs (Qj 0 (Qu F.tb F.f244r0 (Qx F.f244 bs)))=some (QR (X9 l),bs):=by
 intro post
 induction post with
 | nil=>
  intro pre acc o ρ hk he ha hma h0 h2 h5 h6;simp only[List.append_nil]at hk;rw[← hk]at h6;simp only[sumL]at he;subst he;rw[Qc F.f244l0.eq_1];simp[h0,h5,h6];refine hk0 o _ ?_ ?_ <;> simp[h2,h5]
 | cons x post IH=>
  intro pre acc o ρ hk he ha hma h0 h2 h5 h6;have hg:=Qt hk;have hll:=QE hk;have hw1:=wr1 pre.length (by omega);have hlt:=QF hk;have hxl:x∈l:=by rw[hk];simp
  have hxm:=QC hxl;have hxn:=ZL x;have hsl:=Vw x;simp only[nodesL]at ha;obtain⟨o1,hc1⟩:=MB x bs (by omega);have hsm: ∀y∈QV x,y.mass < big:=fun y hy=>by have:=Wh x y (Uv x y hy);unfold big;omega
  have hc2:=NH acc (QV x) false false bs (by omega) (by omega) hma hsm;have hpl:=WR (QV x) acc;have hpm: ∀y∈Z8 acc (QV x),y.mass < big:=fun y hy=>by
   rcases WP (WM x) hy with h | h
   ·exact hma y h
   ·exact hsm y h
  have i2:=fun ρ=>IH (pre ++ [x]) (Z8 acc (QV x)) false ρ (by rw[hk];simp) he (by omega) hpm;rw[Qc F.f244l0.eq_1];simp[h0,h5,h6,hg,hlt,hw1,Qg,hc1,hc2];refine i2 _ ?_ ?_ ?_ ?_ <;> simp[h0,h2]
theorem Fr (l:List Tm) (o:Bool) (bs:List (List AV)) (hm:massL l < 20000000) (hl:l.length < 20000000):call F.tb 244 [.sl o 4 (encTs l)] bs=some (QR (X9 l),bs):=by
 have hr:=Jp l false bs (by omega) (fun x hx=>by have:=QC hx;unfold big;omega);have hz:=Ft bs;have hn:=nodesL_le_mass l;have hk0:XZ l=0→∀(o:Bool) (ρ:Nat→AV),ρ 2= .bx [.int .i64 0,.str [],.int .i64 0,.sl true 4 []]→ρ 5= .sl o 4 (encTs (sumL [] l))→R F.tb F.f244r0 ρ bs (Qx F.f244 bs)=some (QR (X9 l),bs):=by
  intro hr0 o ρ h2 h5;have h1:=sumL_len l [];have h3:=massL_sumL l [];have h4:=IY (sumL [] l);simp only[massL,List.length_nil,Nat.zero_add]at h1 h3;have ht:=Hc (sumL [] l) false bs (by omega);have hv:=Y7 (tmX (sumL [] l)) bs (by unfold big;omega);have es:X9 l=if Qz (tmX (sumL [] l))≠0 then(QD,3)else(tmX (sumL [] l),0):=by simp[X9,hr0]
  rw[es];generalize tmX (sumL [] l)=u at *;generalize sumL [] l=ps at *;by_cases h:Qz u=0
  ·simp[F.f244r0,h5,ht,h2,hv,h,QR,Qg]
  ·simp[F.f244r0,h5,ht,h2,hv,h,QR,QJ,Qg]
 rw[Qa F.tb_244 _ _ rfl];by_cases h0:XZ l=0
 ·have h:=fun ρ=>Fh l bs hm hl (hk0 h0) l [] [] true ρ rfl rfl (by simp;omega) (by simp);simp[F.f244C,hz,hr,h0];refine h _ ?_ ?_ ?_ ?_ <;> simp[encTs]
 ·have hb: (XZ l != 0)=true:=by simp[h0]
  simp[F.f244C,hz,hr,h0,hb,X9,QR,QJ]
end Go.Am
