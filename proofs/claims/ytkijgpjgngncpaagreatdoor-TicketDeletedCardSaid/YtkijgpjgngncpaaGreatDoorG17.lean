/-
  Rc6, Rc7, Rc8, Rc9, Rc10, Rc11, Rc12, Rc13.
-/
import Derived.Test.YtkijgpjgngncpaaGreatDoorG16
set_option linter.all false
namespace Go.Am
set_option maxRecDepth 8000
mutual
def Q1:Tm→List Tm
 | .mk k n s ks=> .mk k n s ks:: allL ks
def allL:List Tm→List Tm
 | []=>[]
 | t:: ts=>Q1 t ++ allL ts
end
theorem Qa4 (t:Tm):Q1 t=t:: allL t.kids:=by cases t;simp[Q1]
mutual
theorem UH: ∀t:Tm,(Q1 t).length=t.nodes
 | .mk k n s ks=>by simp only[Q1,List.length_cons,Tm.nodes,allL_len ks];omega
theorem allL_len: ∀ts:List Tm,(allL ts).length=nodesL ts
 | []=>by simp[allL,nodesL]
 | t:: ts=>by simp only[allL,List.length_append,nodesL,UH t,allL_len ts]
end
mutual
theorem V0: ∀(t x:Tm),x∈Q1 t→x.mass≤t.mass
 | .mk k n s ks,x,h=>by
  simp only[Q1,List.mem_cons]at h;rcases h with rfl | h
  ·exact Nat.le_refl _
  ·have:=allL_mass ks x h;simp only[Tm.mass];omega
theorem allL_mass: ∀(ts:List Tm) (x:Tm),x∈allL ts→x.mass≤massL ts
 | [],x,h=>by simp[allL]at h
 | t:: ts,x,h=>by
  simp only[allL,List.mem_append]at h;simp only[massL];rcases h with h | h
  ·have:=V0 t x h;omega
  ·have:=allL_mass ts x h;omega
end
def W0 (k:Int) (x:Tm):Bool:=decide (x.kind=k)
def WOk (B0:List (List AV)) (k:Int) (acc:List Tm) (r:Option (AV×List (List AV))):Prop:=∃bs',r=some (.tup [],bs')∧Wst B0 k acc bs'
theorem CA (B0:List (List AV)) (k:Int) (t:Tm) (B:List (List AV)) (hm:t.mass < 100000000)
  (ih: ∀x∈t.kids,∀acc bs,Wst B0 k acc bs→acc.length+x.nodes < 100000000→WOk B0 k (acc ++ (Q1 x).filter (W0 k)) (call F.tb 168 [.agg (Qb x),.fn 167 [.gp B0.length 0,.gp (B0.length+1) 0]] bs)):
  ∀(post pre acc:List Tm) (bs:List (List AV)) (ρ:Nat→AV),t.kids=pre ++ post→Wst B0 k acc bs→acc.length+nodesL post < 100000000→ρ 1= .fn 167 [.gp B0.length 0,.gp (B0.length+1) 0]→ρ 10= .sl false 4 (encTs t.kids)→ρ 11= .int .i64 t.kids.length→ρ 12= .int .i64 pre.length→
  WOk B0 k (acc ++ (allL post).filter (W0 k)) (R F.tb (.loop F.f168l0) ρ bs (Qi 0 (Qy F.f168 B))):=by
 have hmk:=Qr t;intro post
 induction post with
 | nil=>
  intro pre acc bs ρ hk hw ha h1 h10 h11 h12;simp only[List.append_nil]at hk;rw[← hk]at h12;rw[Qd F.f168l0.eq_1];refine⟨bs,?_,by simpa[allL]using hw⟩;simp[h1,h10,h11,h12]
 | cons x post IH=>
  intro pre acc bs ρ hk hw ha h1 h10 h11 h12;have hg:=QB hk;have hl:=QM hk;have hw1:=wr1 pre.length (by omega);have hlt:=QO hk;simp only[nodesL]at ha;obtain⟨bs',hc,hw'⟩:=ih x (by rw[hk];simp) acc bs hw (by omega);have hfl: ((Q1 x).filter (W0 k)).length≤x.nodes:=by rw[← UH];exact List.length_filter_le _ _
  have h2:=fun ρ=>IH (pre ++ [x]) _ bs' ρ (by rw[hk];simp) hw' (by rw[List.length_append];omega);rw[List.append_assoc,← List.filter_append,show Q1 x ++ allL post=allL (x:: post) by simp[allL]]at h2;rw[Qd F.f168l0.eq_1];simp[h1,h10,h11,h12,hg,hlt,hw1,hc];refine h2 _ ?_ ?_ ?_ ?_ <;> simp[h1,h10,h11]
theorem EI (B0:List (List AV)) (k:Int): ∀(t:Tm) (acc:List Tm) (bs:List (List AV)),t.mass < 100000000→Wst B0 k acc bs→acc.length+t.nodes < 100000000→
  WOk B0 k (acc ++ (Q1 t).filter (W0 k)) (call F.tb 168 [.agg (Qb t),.fn 167 [.gp B0.length 0,.gp (B0.length+1) 0]] bs):=by
 refine ZU ?_;intro kk n s ks ih acc bs hm hw ha;have hmk:=Qr (.mk kk n s ks);have hnk:=ZJ (.mk kk n s ks);simp only[QX,Zk]at hmk hnk;obtain⟨bs1,hc,hw1⟩:=GJ B0 k acc bs (.mk kk n s ks) hw (by omega);have hl:=fun ρ=>CA B0 k (.mk kk n s ks) bs hm (fun x hx acc bs hw ha=>ih x hx acc bs (by have:=QN hx;simp at this;omega) hw ha) ks [] _ bs1 ρ rfl hw1 (by
  rw[List.length_append];split <;> simp <;> omega)
 have he:acc ++ (Q1 (.mk kk n s ks)).filter (W0 k)=(acc ++ if(Tm.mk kk n s ks).kind=k then [.mk kk n s ks]else [])++ (allL ks).filter (W0 k):=by
  simp only[Q1,List.filter_cons,W0,Xm];by_cases h:kk=k <;> simp[h]
 rw[he,Qa F.tb_168 _ _ rfl];simp[F.f168C,hc];simp only[Xm,QX,List.append_assoc]at hl;refine hl _ ?_ ?_ ?_ ?_ <;> simp[Qz]
theorem IB (t:Tm) (k:Int) (B:List (List AV)) (hm:t.mass < 100000000):
  call F.tb 166 [.agg (Qb t),.int .i64 k] B=some (.sl true 4 (encTs (Zv ((Q1 t).filter (W0 k)))),B):=by
 have hn:=YA t;have hw0:Wst B k [] (B ++ [[.int .i64 k],[.gs 0 0 0 0]]):=by
  refine⟨by simp,by simp,by simp,.inl ⟨rfl,?_⟩⟩;rw[List.getElem?_append_right (by omega)];simp
 obtain⟨bs',hc,h1,h2,h3,h4⟩:=EI B k t [] _ hm hw0 (by simp;omega);rw[Qa F.tb_166 _ _ rfl];have e1: (B ++ [[AV.int .i64 k]])++ [[AV.gs 0 0 0 0]]=B ++ [[.int .i64 k],[.gs 0 0 0 0]]:=by simp
 have e2: (B ++ [[AV.int .i64 k]]).length=B.length+1:=by simp
 generalize hF: (Q1 t).filter (W0 k)=A at *;have hlen:A.length < 100000000:=by rw[← hF];have:=List.length_filter_le (W0 k) (Q1 t);rw[UH]at this;omega
 have hmm: ∀x∈A,x.mass < big:=fun x hx=>by
  rw[← hF]at hx;have:=V0 t x (List.mem_filter.1 hx).1;unfold big;omega
 have hgp:gpfreeE (encTs (Zv A))=true:=encTs_gp _;simp only[List.nil_append]at h4;rcases h4 with⟨h5,h6⟩ | ⟨h5,g,h6,h7,h8⟩
 ·have ho:=Pi bs';subst h5;simp[F.f166,F.f166C,Qj,e1,e2,hc,h6,ho,h2,Zv,WJ,encTs]
 ·have ho:=Pz A bs' g h8 h5 hlen hmm;have hgl:=Zp h8;have ht: (bs'.set g []).take B.length=B:=by rw[List.take_set_of_le (by omega)];exact h2
  simp[F.f166,F.f166C,Qj,e1,e2,hc,h7,ho,ht,hgp]
def Tl (t:Tm):List Tm:=Zv ((Q1 t).filter (W0 1))
theorem EB (t:Tm) (B:List (List AV)) (hm:t.mass < 100000000):call F.tb 165 [.agg (Qb t)] B=some (.sl true 4 (encTs (Tl t)),B):=by
 rw[Qa F.tb_165 _ _ rfl];have h:=IB t 1 B hm;have hgp:gpfreeE (encTs (Zv ((Q1 t).filter (W0 1))))=true:=encTs_gp _;simp[F.f165,F.f165C,Qj,h,Tl]
theorem VI {n:Nat} (h:n≤200000000):n*56≤140737488355328:=by omega
def Q2 (l:List Tm) (t:Tm):Bool:=l.any fun x=>decide (Qh x t=0)
theorem Zo {l:List Tm} {t:Tm}:Q2 l t=true↔t∈l:=by
 simp only[Q2,List.any_eq_true,decide_eq_true_eq];constructor
 ·rintro⟨x,hx,h⟩;rw[← Ze _ _ h];exact hx
 ·intro h;exact⟨t,h,Z3 t⟩
def TG (l:List Tm) (t:Tm):List Tm:=if Q2 l t then l.filter (fun x=> !decide (Qh x t=0))else Zu t l
def Xw (a b:List Tm):List Tm:=b.foldl TG a
theorem Gz {l:List Tm} (p:Tm→Bool) (h:Asc l):Asc (l.filter p):=List.Pairwise.filter _ h
theorem CW {l:List Tm} (t:Tm) (h:Asc l):Asc (TG l t):=by
 unfold TG;split
 ·exact Gz _ h
 ·exact Rz h
theorem Ak {l:List Tm} {t y:Tm}:y∈TG l t↔(y∈l∧y≠t)∨(y=t∧t ∉ l):=by
 unfold TG;split
 ·rename_i h;rw[Zo]at h;simp only[List.mem_filter,Bool.not_eq_true',decide_eq_false_iff_not,ZW];constructor
  ·rintro⟨h1,h2⟩;exact .inl ⟨h1,h2⟩
  ·rintro(⟨h1,h2⟩ | ⟨rfl,h2⟩)
   ·exact⟨h1,h2⟩
   ·exact absurd h h2
 ·rename_i h;rw[Zo]at h;rw[VS];constructor
  ·rintro(rfl | h1)
   ·exact .inr ⟨rfl,h⟩
   ·refine .inl ⟨h1,fun e=> ?_⟩;subst e;exact h h1
  ·rintro(⟨h1,h2⟩ | ⟨h1,h2⟩)
   ·exact .inr h1
   ·exact .inl h1
theorem Tp: ∀(b a:List Tm),Asc a→Asc (Xw a b)
 | [],_,h=>h
 | x:: b,a,h=>Tp b _ (CW x h)
theorem P8 {y:Tm}: ∀{b a:List Tm},Asc b→(y∈Xw a b↔(y∈a∧y ∉ b)∨(y ∉ a∧y∈b))
 | [],a,_=>by simp[Xw]
 | x:: b,a,h=>by
  rw[Yf]at h;have ih:=P8 (y:=y) (b:=b) (a:=TG a x) h.2;have hxb:x ∉ b:=fun hm=>XO x (h.1 x hm);simp only[Xw,List.foldl_cons]at ih ⊢;rw[ih,Ak];simp only[List.mem_cons];by_cases e:y=x
  ·subst e;by_cases hy:y∈a <;> simp[hy,hxb]
  ·by_cases hy:y∈a <;> by_cases hb:y∈b <;> simp[hy,hb,e]
theorem SM: ∀(b a:List Tm),(Xw a b).length≤a.length+b.length
 | [],a=>by simp[Xw]
 | x:: b,a=>by
  have ih:=SM b (TG a x);have: (TG a x).length≤a.length+1:=by
   unfold TG;split
   ·have:=List.length_filter_le (fun y=> !decide (Qh y x=0)) a;omega
   ·exact OZ x a
  simp only[Xw,List.foldl_cons,List.length_cons]at ih ⊢;omega
def Xv:List Tm→List Tm→List Tm
 | [],b=>b
 | a,[]=>a
 | x:: a,y:: b=>if Qh x y < 0 then x:: Xv a (y:: b)else if 0 < Qh x y then y:: Xv (x:: a) b else Xv a b
termination_by a b=>a.length+b.length
theorem Of (b:List Tm):Xv [] b=b:=by rw[Xv]
theorem R6 (a:List Tm):Xv a []=a:=by cases a <;> rw[Xv];simp
theorem R5 (x y:Tm) (a b:List Tm):Xv (x:: a) (y:: b)=if Qh x y < 0 then x:: Xv a (y:: b)else if 0 < Qh x y then y:: Xv (x:: a) b else Xv a b:=by rw[Xv]
theorem V8 {y:Tm}: ∀(n:Nat) (a b:List Tm),a.length+b.length≤n→Asc a→Asc b→(y∈Xv a b↔(y∈a∧y ∉ b)∨(y ∉ a∧y∈b))
 | _,[],b,_,_,_=>by rw[Of];simp
 | _,x:: a,[],_,_,_=>by rw[R6];simp
 | 0,x:: a,z:: b,h,_,_=>by simp at h
 | n+1,x:: a,z:: b,h,ha,hb=>by
  have ha0:=ha;have hb0:=hb;rw[Yf]at ha hb;simp only[List.length_cons]at h;rw[R5];split
  ·rename_i h1;rw[List.mem_cons,V8 n a (z:: b) (by simp;omega) ha.2 hb0];have hxb:x ∉ z:: b:=fun hm=>by
    rcases List.mem_cons.1 hm with e | e
    ·subst e;exact XO x h1
    ·exact XO x (Z4 h1 (hb.1 x e))
   have hxa:x ∉ a:=fun hm=>XO x (ha.1 x hm);by_cases e:y=x
   ·subst e;simp[hxb]
   ·simp[e]
  ·rename_i h1;split
   ·rename_i h2;have h2':=NV.1 h2;rw[List.mem_cons,V8 n (x:: a) b (by simp;omega) ha0 hb.2];have hza:z ∉ x:: a:=fun hm=>by
     rcases List.mem_cons.1 hm with e | e
     ·subst e;exact XO z h2'
     ·exact XO z (Z4 h2' (ha.1 z e))
    have hzb:z ∉ b:=fun hm=>XO z (hb.1 z hm);by_cases e:y=z
    ·subst e;simp[hza]
    ·simp[e]
   ·rename_i h2;have e0:=Ze x z (by omega);subst e0;rw[V8 n a b (by omega) ha.2 hb.2];have hxa:x ∉ a:=fun hm=>XO x (ha.1 x hm);have hxb:x ∉ b:=fun hm=>XO x (hb.1 x hm);by_cases e:y=x
    ·subst e;simp[hxa,hxb]
    ·simp[e]
theorem Sv: ∀(n:Nat) (a b:List Tm),a.length+b.length≤n→Asc a→Asc b→Asc (Xv a b)
 | _,[],b,_,_,hb=>by rw[Of];exact hb
 | _,x:: a,[],_,ha,_=>by rw[R6];exact ha
 | 0,x:: a,z:: b,h,_,_=>by simp at h
 | n+1,x:: a,z:: b,h,ha,hb=>by
  have ha0:=ha;have hb0:=hb;rw[Yf]at ha hb;simp only[List.length_cons]at h;rw[R5];split
  ·rename_i h1;rw[Yf];refine⟨fun y hy=> ?_,Sv n a (z:: b) (by simp;omega) ha.2 hb0⟩;rw[V8 n a (z:: b) (by simp;omega) ha.2 hb0]at hy;rcases hy with⟨hy,_⟩ | ⟨_,hy⟩
   ·exact ha.1 y hy
   ·rcases List.mem_cons.1 hy with e | e
    ·subst e;exact h1
    ·exact Z4 h1 (hb.1 y e)
  ·rename_i h1;split
   ·rename_i h2;have h2':=NV.1 h2;rw[Yf];refine⟨fun y hy=> ?_,Sv n (x:: a) b (by simp;omega) ha0 hb.2⟩;rw[V8 n (x:: a) b (by simp;omega) ha0 hb.2]at hy;rcases hy with⟨hy,_⟩ | ⟨_,hy⟩
    ·rcases List.mem_cons.1 hy with e | e
     ·subst e;exact h2'
     ·exact Z4 h2' (ha.1 y e)
    ·exact hb.1 y hy
   ·exact Sv n a b (by omega) ha.2 hb.2
theorem JS {a b:List Tm} (ha:Asc a) (hb:Asc b):Xv a b=Xw a b:=
 Om (Sv _ a b (Nat.le_refl _) ha hb) (Tp b a ha) fun x=>by rw[V8 _ a b (Nat.le_refl _) ha hb,P8 hb]
def Xr:List UInt8:=[122,101,114,111]
def XOR:List UInt8:=[120,111,114]
mutual
def Zi:Tm→List Tm
 | .mk k n s ks=>if k=3∧n=Xr∧ks=[]then []else if k=3∧n=XOR then sumL [] ks else [.mk k n s ks]
def sumL (acc:List Tm):List Tm→List Tm
 | []=>acc
 | t:: ts=>sumL (Xw acc (Zi t)) ts
end
mutual
theorem UI: ∀t:Tm,Asc (Zi t)
 | .mk k n s ks=>by
  simp only[Zi];split
  ·exact Asc.nil
  ·split
   ·exact asc_sumL ks [] Asc.nil
   ·exact Re _
theorem asc_sumL: ∀(ts acc:List Tm),Asc acc→Asc (sumL acc ts)
 | [],_,h=>h
 | t:: ts,acc,h=>asc_sumL ts _ (Tp _ _ h)
end
theorem Sh {y:Tm} {b a:List Tm} (hb:Asc b) (h:y∈Xw a b):y∈a∨y∈b:=by
 rw[P8 hb]at h;rcases h with h | h
 ·exact .inl h.1
 ·exact .inr h.2
mutual
theorem Pc: ∀(t y:Tm),y∈Zi t→y∈Q1 t
 | .mk k n s ks,y,h=>by
  simp only[Zi]at h;simp only[Q1,List.mem_cons];split at h
  ·simp at h
  ·split at h
   ·rcases sumL_mem ks [] y h with h | h
    ·simp at h
    ·exact .inr h
   ·simp at h;exact .inl h
theorem sumL_mem: ∀(ts acc:List Tm) (y:Tm),y∈sumL acc ts→y∈acc∨y∈allL ts
 | [],acc,y,h=> .inl h
 | t:: ts,acc,y,h=>by
  simp only[allL,List.mem_append];rcases sumL_mem ts _ y h with h | h
  ·rcases Sh (UI t) h with h | h
   ·exact .inl h
   ·exact .inr (.inl (Pc t y h))
  ·exact .inr (.inr h)
end
mutual
theorem Sq: ∀t:Tm,(Zi t).length≤t.nodes
 | .mk k n s ks=>by
  simp only[Zi,Tm.nodes];split
  ·simp
  ·split
   ·have:=sumL_len ks [];simp at this;omega
   ·simp
theorem sumL_len: ∀(ts acc:List Tm),(sumL acc ts).length≤acc.length+nodesL ts
 | [],acc=>by simp[sumL,nodesL]
 | t:: ts,acc=>by
  have h1:=sumL_len ts (Xw acc (Zi t));have h2:=SM (Zi t) acc;have h3:=Sq t;simp only[sumL,nodesL]at *;omega
end
theorem LO (l:List Tm) (t:Tm) (bs:List (List AV)) (hl:l.length < 100000000) (hm: ∀x∈l,x.mass < big) (ht:t.mass < big):
  ∀(post pre:List Tm) (ρ:Nat→AV),l=pre ++ post→ρ 0= .sl false 4 (encTs l)→ρ 3= .bx (Qb t)→ρ 5= .int .i64 pre.length→
  R F.tb (.loop F.f250l0) ρ bs (Qi 0 (Qu F.tb F.f250r0 (Qy F.f250 bs)))=some (.bool (Q2 post t),bs):=by
 intro post
 induction post with
 | nil=>
  intro pre ρ hk h0 h3 h5;simp only[List.append_nil]at hk;rw[← hk]at h5;rw[Qd F.f250l0.eq_1];simp[h0,h3,h5,F.f250r0,Q2]
 | cons x post IH=>
  intro pre ρ hk h0 h3 h5;have hg:=QB hk;have hll:=QM hk;have hw1:=wr1 pre.length (by omega);have hlt:=QO hk;have hc:=RC x t bs (hm x (by rw[hk];simp)) ht;rw[Qd F.f250l0.eq_1];by_cases he:Qh x t=0
  ·simp[h0,h3,h5,hg,hlt,hw1,hc,he,Qj,Q2]
  ·have e:Q2 (x:: post) t=Q2 post t:=by simp[Q2,he]
   rw[e];simp[h0,h3,h5,hg,hlt,hw1,hc,he,Qj];rw[IH (pre ++ [x])] <;> simp[h0,h3,hk]
theorem Bq (l:List Tm) (t:Tm) (o:Bool) (bs:List (List AV)) (hl:l.length < 100000000) (hm: ∀x∈l,x.mass < big) (ht:t.mass < big):
  call F.tb 250 [.sl o 4 (encTs l),.agg (Qb t)] bs=some (.bool (Q2 l t),bs):=by
 have h:=fun ρ=>LO l t bs hl hm ht l [] ρ rfl;rw[Qa F.tb_250 _ _ rfl];simp[F.f250C];refine h _ ?_ ?_ ?_ <;> simp
@[simp] theorem Qge (x:Tm) (a:List Tm) (h:0 < (encTs (x:: a)).length): (encTs (x:: a))[0]=Qb x:=by simp[encTs]
def Wi (l:List Tm) (bs:List (List AV)) (r:Option (AV×List (List AV))):Prop:=∃o,r=some (.sl o 4 (encTs l),bs)
theorem DQ (bs:List (List AV)): ∀(n:Nat) (a b acc:List Tm) (o1 o2:Bool) (ρ:Nat→AV),a.length+b.length≤n→acc.length+a.length+b.length < 100000000→(∀x∈a,x.mass < big)→(∀x∈b,x.mass < big)→
   ρ 0= .sl o1 4 (encTs a)→ρ 1= .sl o2 4 (encTs b)→ρ 5= .sl true 4 (encTs acc)→
  Wi (acc ++ Xv a b) bs (R F.tb (.loop F.f183l0) ρ bs (Qi 0 (Qu F.tb F.f183r0 (Qy F.f183 bs)))):=by
 have hend: ∀(a b acc:List Tm) (o1 o2:Bool) (ρ:Nat→AV),(a=[]∨b=[])→acc.length+a.length+b.length < 100000000→ρ 0= .sl o1 4 (encTs a)→ρ 1= .sl o2 4 (encTs b)→ρ 5= .sl true 4 (encTs acc)→
   Wi (acc ++ Xv a b) bs (R F.tb F.f183r0 ρ bs (Qy F.f183 bs)):=by
  intro a b acc o1 o2 ρ hab hl h0 h1 h5;have e:Xv a b=a ++ b:=by
   rcases hab with rfl | rfl
   ·rw[Of];simp
   ·rw[R6];simp
  have hb1: (acc.length+a.length)*56≤140737488355328:=VI (by omega);have hb2: (acc.length+ (a.length+b.length))*56≤140737488355328:=VI (by clear hb1;omega);rw[e];refine⟨true,?_⟩;simp[h0,h1,h5,hb1,hb2,F.f183r0,Yg,Nat.add_assoc]
 intro n
 induction n with
 | zero=>
  intro a b acc o1 o2 ρ hn hl hma hmb h0 h1 h5;have ha:a=[]:=List.eq_nil_of_length_eq_zero (by omega);subst ha;have h2:=fun ρ=>hend [] b acc o1 o2 ρ (.inl rfl) hl;rw[Qd F.f183l0.eq_1];simp[h0,h1,h5,encTs];refine h2 _ ?_ ?_ ?_ <;> simp[h0,h1,h5]
 | succ n IH=>
  intro a b acc o1 o2 ρ hn hl hma hmb h0 h1 h5
  match a,b with
  | [],b=>
   have h2:=fun ρ=>hend [] b acc o1 o2 ρ (.inl rfl) hl;rw[Qd F.f183l0.eq_1];simp[h0,h1,h5,encTs];refine h2 _ ?_ ?_ ?_ <;> simp[h0,h1,h5]
  | x:: a,[]=>
   have h2:=fun ρ=>hend (x:: a) [] acc o1 o2 ρ (.inr rfl) hl;have hp: (0:Int) < (a.length:Int)+1:=by omega
   rw[Qd F.f183l0.eq_1];simp[h0,h1,h5,hp];refine h2 _ ?_ ?_ ?_ <;> simp[h0,h1,h5]
  | x:: a,y:: b=>
   simp only[List.length_cons]at hn hl;have hp: (0:Int) < (a.length:Int)+1:=by omega
   have hp2: (0:Int) < (b.length:Int)+1:=by omega
   have hp3: (1:Int)≤(a.length:Int)+1:=by omega
   have hp4: (1:Int)≤(b.length:Int)+1:=by omega
   have hc:=call_Compare x y bs (hma x (by simp)) (hmb y (by simp));have hb: (acc.length+1)*56≤140737488355328:=VI (by omega);have et: (encTs (x:: a)).take ((encTs (x:: a)).length)=encTs (x:: a):=List.take_length;have i1:=fun ρ=>IH a (y:: b) (acc ++ [x]) false o2 ρ (by simp;omega) (by simp;omega) (fun z hz=>hma z (by simp[hz])) hmb;have i2:=fun ρ=>IH (x:: a) b (acc ++ [y]) o1 false ρ (by simp;omega) (by simp;omega) hma (fun z hz=>hmb z (by simp[hz]));have i3:=fun ρ=>IH a b acc false false ρ (by omega) (by omega) (fun z hz=>hma z (by simp[hz])) (fun z hz=>hmb z (by simp[hz]));rw[Qd F.f183l0.eq_1,R5];clear hn;by_cases h1':Qh x y < 0
   ·simp only[h1',if_true];simp only[List.append_assoc,List.cons_append,List.nil_append]at i1;simp[h0,h1,h5,hp,hp2,hp3,hc,h1',hb,XC,Yg,RN,RO];refine i1 _ ?_ ?_ ?_ <;> simp[h1]
   ·by_cases h2':0 < Qh x y
    ·simp only[h1',h2',if_true,if_false];simp only[List.append_assoc,List.cons_append,List.nil_append]at i2;simp[h0,h1,h5,hp,hp2,hp4,hc,h1',h2',hb,XC,Yg,RN,RO];refine i2 _ ?_ ?_ ?_ <;> simp[h0]
    ·simp only[h1',h2',if_false];simp[h0,h1,h5,hp,hp2,hp3,hp4,hc,h1',h2',RN,RO];refine i3 _ ?_ ?_ ?_ <;> simp[h5]
theorem M7 (a b:List Tm) (o1 o2:Bool) (bs:List (List AV)) (hl:a.length+b.length < 100000000) (hma: ∀x∈a,x.mass < big) (hmb: ∀x∈b,x.mass < big):
  Wi (Xv a b) bs (call F.tb 183 [.sl o1 4 (encTs a),.sl o2 4 (encTs b)] bs):=by
 have h:=fun ρ=>DQ bs _ a b [] false false ρ (Nat.le_refl _) (by simp;omega) hma hmb;simp only[List.nil_append]at h;rw[Qa F.tb_183 _ _ rfl];simp[F.f183C];refine h _ ?_ ?_ ?_ <;> simp[encTs]
theorem Qap (t:Tm) (bs:List (List AV)) (hm:t.mass < 30000000) (ih: ∀x∈t.kids,∀bs,Wi (Zi x) bs (call F.tb 182 [.agg (Qb x)] bs)):
  ∀(post pre acc:List Tm) (o:Bool) (ρ:Nat→AV),t.kids=pre ++ post→acc.length+nodesL post < 30000000→Asc acc→(∀x∈acc,x.mass < big)→ρ 3= .sl o 4 (encTs acc)→ρ 31= .sl false 4 (encTs t.kids)→ρ 32= .int .i64 t.kids.length→ρ 33= .int .i64 pre.length→
  R F.tb (.loop F.f182l0) ρ bs (Qi 1 (Qu F.tb F.f182r0 (Qi 0 (Qu F.tb F.f182r1 (Qy F.f182 bs)))))=some (.sl false 4 (encTs (sumL acc post)),bs):=by
 have hmk:=Qr t;intro post
 induction post with
 | nil=>
  intro pre acc o ρ hk ha has hma h3 h31 h32 h33;simp only[List.append_nil]at hk;rw[← hk]at h33;rw[Qd F.f182l0.eq_1];simp[h3,h31,h32,h33,F.f182r0,sumL]
 | cons x post IH=>
  intro pre acc o ρ hk ha has hma h3 h31 h32 h33;have hg:=QB hk;have hll:=QM hk;have hw1:=wr1 pre.length (by omega);have hlt:=QO hk;have hxk:x∈t.kids:=by rw[hk];simp
  have hxm:=QN hxk;have hxn:=YA x;have hsl:=Sq x;simp only[nodesL]at ha;obtain⟨o1,hc1⟩:=ih x hxk bs;have hsm: ∀y∈Zi x,y.mass < big:=fun y hy=>by have:=V0 x y (Pc x y hy);unfold big;omega
  obtain⟨o2,hc2⟩:=M7 acc (Zi x) false false bs (by omega) hma hsm;rw[JS has (UI x)]at hc2;have hpl:=SM (Zi x) acc;have hpm: ∀y∈Xw acc (Zi x),y.mass < big:=fun y hy=>by
   rcases Sh (UI x) hy with h | h
   ·exact hma y h
   ·exact hsm y h
  have h2:=fun ρ=>IH (pre ++ [x]) (Xw acc (Zi x)) o2 ρ (by rw[hk];simp) (by omega) (Tp _ _ has) hpm;rw[Qd F.f182l0.eq_1];simp[h3,h31,h32,h33,hg,hlt,hw1,Qj,hc1,hc2,sumL];refine h2 _ ?_ ?_ ?_ ?_ <;> simp[h31,h32]
theorem VF: ∀(t:Tm) (bs:List (List AV)),t.mass < 30000000→Wi (Zi t) bs (call F.tb 182 [.agg (Qb t)] bs):=by
 refine ZU ?_;intro k n s ks ih bs hm;have hmk:=Qr (.mk k n s ks);have hnm:=nodesL_le_mass ks;simp only[QX,Zk]at hmk;have hl:=fun ρ=>Qap (.mk k n s ks) bs hm (fun x hx bs=>ih x hx bs (by have:=QN hx;simp at this;omega)) ks [] [] true ρ rfl (by simp;omega) Asc.nil (by simp);simp only[QX]at hl;rw[Qa F.tb_182 _ _ rfl];by_cases hk:k=3
 ·by_cases hz:n=Xr
  ·cases ks with
   | nil=>
    refine⟨true,?_⟩;simp[F.f182C,Qb,encTs,Zi,hk,hz,Xr]
   | cons x xs=>
    refine⟨true,?_⟩;simp only[Xr]at hz;have: ¬((xs.length:Int)+1=0):=by omega
    simp[F.f182C,Qb,Zi,hk,hz,Xr,XOR,this,encTs,F.f182r1]
  ·by_cases hx:n=XOR
   ·refine⟨false,?_⟩;have e:Zi (.mk k n s ks)=sumL [] ks:=by simp[Zi,hk,hx,Xr,XOR]
    rw[e];simp only[XOR]at hx;simp[F.f182C,Qb,hk,hx];refine hl _ ?_ ?_ ?_ ?_ <;> simp[encTs]
   ·refine⟨true,?_⟩;have e:Zi (.mk k n s ks)=[.mk k n s ks]:=by simp[Zi,hk,hx,hz]
    rw[e];have hb1: (n == [122,101,114,111])=false:=by simpa[Xr]using hz
    have hb2: (n == [120,111,114])=false:=by simpa[XOR]using hx
    simp[F.f182C,Qb,hk,hb1,hb2,encTs,F.f182r1]
 ·refine⟨true,?_⟩;have e:Zi (.mk k n s ks)=[.mk k n s ks]:=by simp[Zi,hk]
  rw[e];simp[F.f182C,Qb,hk,encTs,F.f182r1]
theorem Ph (t u:Tm) (o:Bool) (bs:List (List AV)) (ht:t.mass < big) (hu:u.mass < big):call F.tb 185 [.agg (Qb t),.sl o 1 [],.agg (Qb u)] bs=some (.tup [.agg (Qb u),.int .i64 0],bs):=by
 have h1:=fun bs=>TK t bs ht;have h2:=fun bs=>TK u bs hu;rw[Qa F.tb_185 _ _ rfl];have e1: ∀x y:List AV,(bs ++ [x]).set bs.length y=bs ++ [y]:=fun x y=>by rw[List.set_append];simp
 simp[F.f185C,h1,Qj,e1,put];rw[Qd F.f185l0.eq_1];simp[F.f185r0,h2,Qj,e1,put]
def VG (ls:List (List Tm)):List (List AV):=ls.map fun l=>[AV.sl false 4 (encTs l)]
theorem Ld {ls pre post:List (List Tm)} {x:List Tm} (h:ls=pre ++ x:: post): (VG ls)[pre.length]? =some [AV.sl false 4 (encTs x)]:=by subst h;simp[VG]
theorem Lf (ls:List (List Tm)): (VG ls).length=ls.length:=by simp[VG]
theorem Eu (n:Nat) (bs:List (List AV)) (hn:n < 100000000):call F.tb 181 [.gs 0 0 0 0,.int .i64 n] bs=some (.sl true 4 [],bs):=by
 rw[ZA F.tb_181];simp only[Ow];rw[if_pos];refine⟨by omega,?_,by omega⟩;simp;exact VI (by omega)
theorem F7 (ls:List (List Tm)) (bs:List (List AV)) (hl:ls.length < 1000) (hf:ls.flatten.length < 100000000):
  ∀(post pre:List (List Tm)) (ρ:Nat→AV),ls=pre ++ post→ρ 6= .sl true 4 (encTs pre.flatten)→ρ 25= .sl false 1 (VG ls)→ρ 26= .int .i64 ls.length→ρ 27= .int .i64 pre.length→
  R F.tb (.loop F.f180l1) ρ bs (Qi 2 (Qu F.tb F.f180r0 (Qy F.f180 bs)))=some (.sl false 4 (encTs ls.flatten),bs):=by
 intro post
 induction post with
 | nil=>
  intro pre ρ hk h6 h25 h26 h27;simp only[List.append_nil]at hk;rw[← hk]at h27 h6;rw[Qd F.f180l1.eq_1];simp[h6,h25,h26,h27,F.f180r0]
 | cons x post IH=>
  intro pre ρ hk h6 h25 h26 h27;have hg:=Ld hk;have hll:=QM hk;have hw1:=wr1 pre.length (by omega);have hlt:=QO hk;have hfl:ls.flatten.length=pre.flatten.length+ (x.length+post.flatten.length):=by rw[hk];simp
  have hb: (pre.flatten.length+x.length)*56≤140737488355328:=VI (by omega);have h2:=IH (pre ++ [x]);have e: (pre ++ [x]).flatten=pre.flatten ++ x:=by simp
  rw[e]at h2;generalize pre.flatten=pf at *;rw[Qd F.f180l1.eq_1];simp[h6,h25,h26,h27,hg,hlt,hw1,hb,Yg];rw[h2] <;> simp[h25,h26,hk]
theorem F6 (ls:List (List Tm)) (bs:List (List AV)) (hl:ls.length < 1000) (hf:ls.flatten.length < 100000000):
  ∀(post pre:List (List Tm)) (ρ:Nat→AV),ls=pre ++ post→ρ 0= .sl false 1 (VG ls)→ρ 3= .int .i64 pre.flatten.length→ρ 9= .sl false 1 (VG ls)→ρ 10= .int .i64 ls.length→ρ 11= .int .i64 pre.length→
  R F.tb (.loop F.f180l0) ρ bs (Qi 0 (Qu F.tb F.f180r1 (Qy F.f180 bs)))=some (.sl false 4 (encTs ls.flatten),bs):=by
 intro post
 induction post with
 | nil=>
  intro pre ρ hk h0 h3 h9 h10 h11;simp only[List.append_nil]at hk;rw[← hk]at h11 h3;have hc:=Eu ls.flatten.length bs hf;have h1:=fun ρ=>F7 ls bs hl hf ls [] ρ rfl;generalize ls.flatten=lf at *;rw[Qd F.f180l0.eq_1];simp[h0,h3,h9,h10,h11,F.f180r1,hc];refine h1 _ ?_ ?_ ?_ ?_ <;> simp[h0,encTs,Lf]
 | cons x post IH=>
  intro pre ρ hk h0 h3 h9 h10 h11;have hg:=Ld hk;have hll:=QM hk;have hw1:=wr1 pre.length (by omega);have hlt:=QO hk;have hfl:ls.flatten.length=pre.flatten.length+ (x.length+post.flatten.length):=by rw[hk];simp
  have hw2:IntKind.i64.wrap ((pre.flatten.length:Int)+ (x.length:Int))=(pre.flatten.length:Int)+ (x.length:Int):=Qq (by omega) (by omega);have hnn: ¬((pre.flatten.length:Int)+ (x.length:Int) < 0):=by omega
  have h2:=IH (pre ++ [x]);have e: ((pre ++ [x]).flatten.length:Int)=(pre.flatten.length:Int)+ (x.length:Int):=by simp
  rw[e]at h2;generalize (pre.flatten.length:Int)=pf at *;rw[Qd F.f180l0.eq_1];simp[h0,h3,h9,h10,h11,hg,hlt,hw1,hw2,hnn];rw[h2] <;> simp[h0,h9,h10,hk]
theorem U5 (ls:List (List Tm)) (o:Bool) (bs:List (List AV)) (hl:ls.length < 1000) (hf:ls.flatten.length < 100000000):
  call F.tb 180 [.sl o 1 (VG ls)] bs=some (.sl false 4 (encTs ls.flatten),bs):=by
 have h:=fun ρ=>F6 ls bs hl hf ls [] ρ rfl;rw[Qa F.tb_180 _ _ rfl];simp[F.f180C];refine h _ ?_ ?_ ?_ ?_ ?_ <;> simp[Lf]
def Up:List Tm→Int
 | []=>0
 | t:: ts=>if QD t≠0 then QD t else Up ts
theorem Mj (l:List Tm) (bs:List (List AV)) (hl:l.length < 100000000) (hm: ∀x∈l,x.mass < big): ∀(post pre:List Tm) (ρ:Nat→AV),l=pre ++ post→ρ 14= .sl false 4 (encTs l)→ρ 15= .int .i64 l.length→ρ 16= .int .i64 pre.length→
  R F.tb (.loop F.f179l0) ρ bs (Qi 0 (Qu F.tb F.f179r0 (Qy F.f179 bs)))=some (.int .i64 (Up post),bs):=by
 intro post
 induction post with
 | nil=>
  intro pre ρ hk h14 h15 h16;simp only[List.append_nil]at hk;rw[← hk]at h16;rw[Qd F.f179l0.eq_1];simp[h14,h15,h16,F.f179r0,Up]
 | cons x post IH=>
  intro pre ρ hk h14 h15 h16;have hg:=QB hk;have hll:=QM hk;have hw1:=wr1 pre.length (by omega);have hlt:=QO hk;have hc:=XZ x bs (hm x (by rw[hk];simp));rw[Qd F.f179l0.eq_1];by_cases hv:QD x=0
  ·simp[h14,h15,h16,hg,hlt,hw1,Qj,hc,hv,Up];rw[IH (pre ++ [x])] <;> simp[h14,h15,hk]
  ·simp[h14,h15,h16,hg,hlt,hw1,Qj,hc,hv,Up]
def Tw (l:List Tm):Int:=if 200 < l.length then 3 else Up l
theorem GI (l:List Tm) (o o2:Bool) (bs:List (List AV)) (hl:l.length < 100000000) (hm: ∀x∈l,x.mass < big):call F.tb 179 [.sl o 4 (encTs l),.sl o2 4 []] bs=some (.int .i64 (Tw l),bs):=by
 have h:=fun ρ=>Mj l bs hl hm l [] ρ rfl;have hc:=U5 [l,[]] false bs (by simp) (by simpa using hl);simp only[VG,List.map_cons,List.map_nil,List.flatten_cons,List.flatten_nil,List.append_nil,encTs]at hc;rw[Qa F.tb_179 _ _ rfl];by_cases h2:200 < l.length
 ·have h2': (200:Int) < (l.length:Int):=by omega
  simp[F.f179C,h2',h2,Tw]
 ·have h2': ¬(200:Int) < (l.length:Int):=by omega
  simp[F.f179C,h2',h2,Tw,hc];refine h _ ?_ ?_ ?_ <;> simp
theorem H3 {c:List AV} {n p:Nat} {pre:List Tm} {x:Tm} {v:AV} (hc:c.length=n*4) (hp:p=pre.length) (hlt:p < n) (ht: (c.map AV.strip).take (p*4)=Qf pre) (hv:v.strip= .sl false 4 (encTs x.kids)):
  ((c.take (p*4)++ (Qb x ++ c.drop (p*4+4))).set (p*4+3) v).length=n*4∧
  ((((c.take (p*4)++ (Qb x ++ c.drop (p*4+4))).set (p*4+3) v).map AV.strip).take ((p+1)*4))=Qf (pre ++ [x]):=by
 have h1: (c.take (p*4)).length=p*4:=by rw[List.length_take];omega
 have h2:=Qm x;refine⟨by simp[h1,h2,hc];omega,?_⟩;have e: (c.take (p*4)++ (Qb x ++ c.drop (p*4+4))).set (p*4+3) v=c.take (p*4)++ ([.int .i64 x.kind,.str x.name,.int .i64 x.sort,v]++ c.drop (p*4+4)):=by
  rw[List.set_append,if_neg (by omega),h1,show p*4+3 - p*4=3 by omega,Qz];simp
 rw[e,List.map_append,List.map_append,List.map_take,ht];have h3: [AV.int .i64 x.kind,.str x.name,.int .i64 x.sort,v].map AV.strip=Qb x:=by rw[Qz];simp[hv]
 have hr: (Qf pre).length=p*4:=by rw[Za Qm,hp]
 rw[h3,← List.append_assoc,List.take_append_of_le_length (by simp[hr,h2];omega),List.take_of_length_le (by simp[hr,h2];omega)];simp[Qf,XH,T1]
theorem JO {c:List AV} {n p:Nat} {pre:List Tm} {x:Tm} (hc:c.length=n*4) (hp:p=pre.length) (hlt:p < n) (ht: (c.map AV.strip).take ((p+1)*4)=Qf (pre ++ [x])) (hx:x.kids=[]):
  (c.take (p*4+3)++ ([AV.sl false 4 []]++ c.drop (p*4+3+1))).length=n*4∧
  ((c.take (p*4+3)++ ([AV.sl false 4 []]++ c.drop (p*4+3+1))).map AV.strip).take ((p+1)*4)=Qf (pre ++ [x]):=by
 have h1: (c.take (p*4+3)).length=p*4+3:=by rw[List.length_take];omega
 refine⟨by simp[h1,hc];omega,?_⟩;have hr:Qf (pre ++ [x])=Qf pre ++ [.int .i64 x.kind,.str x.name,.int .i64 x.sort]++ [.sl false 4 []]:=by
  simp[Qf,XH,T1,Qz,hx,encTs]
 have hl0: (Qf pre).length=p*4:=by rw[Za Qm,hp]
 have e1: (c.take (p*4+3)).map AV.strip=Qf pre ++ [.int .i64 x.kind,.str x.name,.int .i64 x.sort]:=by
  have h2: ((c.map AV.strip).take ((p+1)*4)).take (p*4+3)=(c.map AV.strip).take (p*4+3):=by rw[List.take_take];congr 1;omega
  rw[List.map_take,← h2,ht,hr,List.take_append_of_le_length (by simp[hl0]),List.take_of_length_le (by simp[hl0])]
 rw[List.map_append,List.map_append,e1,← List.append_assoc,List.take_append_of_le_length (by simp[hl0];omega),List.take_of_length_le (by simp[hl0];omega),hr];simp
theorem Aw (l:List Tm) (B:List (List AV)) (hl:l.length < 100000000) (hne:l≠[]) (hm: ∀x∈l,x.mass < big) (ih: ∀x∈l,∀bs,Wi x.kids bs (call F.tb 184 [.sl false 4 (encTs x.kids)] bs)):
  ∀(post pre:List Tm) (c:List AV) (ρ:Nat→AV),l=pre ++ post→c.length=l.length*4→(c.map AV.strip).take (pre.length*4)=Qf pre→ρ 3= .gs B.length 0 4 l.length→ρ 9= .sl false 4 (encTs l)→ρ 10= .int .i64 l.length→ρ 11= .int .i64 pre.length→
  Wi l B (R F.tb (.loop F.f184l0) ρ (B ++ [c]) (Qi 0 (Qu F.tb F.f184r0 (Qy F.f184 B)))):=by
 have es: ∀x y:List AV,(B ++ [x]).set B.length y=B ++ [y]:=fun x y=>by rw[List.set_append];simp
 have eg: ∀x:List AV,(B ++ [x])[B.length]? =some x:=fun x=>List.getElem?_concat_length;intro post
 induction post with
 | nil=>
  intro pre c ρ hk hc ht h3 h9 h10 h11;simp only[List.append_nil]at hk;rw[← hk]at h11 ht;have hz: ¬l.length=0:=fun e=>hne (List.eq_nil_of_length_eq_zero e);have hch:QY c 0 4 l.length=encTs l:=by
   have e1:c.map AV.strip=Qf l:=by rw[← ht,List.take_of_length_le (by simp[hc])]
   have e2:QY c 0 4 l.length=QY (c.map AV.strip) 0 4 l.length:=by
    unfold QY;apply List.map_congr_left;intro k _;rw[← List.map_drop,← List.map_take,List.map_map];apply List.map_congr_left;intro v _;exact(Tk v).symm
   rw[e2,e1];have:=YS (f:=Qb) (k:=4) Qm QJ l [];rw[Vf,List.append_nil]at this;exact this
  have hg:gpfreeE (encTs l)=true:=encTs_gp l;have hle:l.length*4≤c.length:=by omega
  refine⟨true,?_⟩;rw[Qd F.f184l0.eq_1];simp[h3,h9,h10,h11,F.f184r0,Zb,hz,hne,hle,es,hch]
 | cons x post IH=>
  intro pre c ρ hk hc ht h3 h9 h10 h11;have hg:=QB hk;have hll:=QM hk;have hw1:=wr1 pre.length (by omega);have hlt:=QO hk;have hlt':pre.length < l.length:=by omega
  have hx:=hm x (by rw[hk];simp);have hc1:=fun bs=>Ph x x true bs hx hx;obtain⟨o,hc2⟩:=ih x (by rw[hk];simp) (B ++ [c.take (pre.length*4)++ (Qb x ++ c.drop (pre.length*4+4))]);have hle:pre.length*4+4≤c.length:=by omega
  obtain⟨p1,p2⟩:=H3 (v:= .sl o 4 (encTs x.kids)) hc rfl hlt' ht rfl;have hle2:pre.length*4+3 < (c.take (pre.length*4)++ (Qb x ++ c.drop (pre.length*4+4))).length:=by simp[Qm];omega
  generalize hcc:c.take (pre.length*4)++ (Qb x ++ c.drop (pre.length*4+4))=cc at *;have hgl: ∀h:pre.length < (encTs l).length,(encTs l)[pre.length]=Qb x:=fun h=>by
   have:=List.getElem?_eq_getElem h;rw[Wt,hg]at this;injection this with this;exact this.symm
  rw[Qd F.f184l0.eq_1];by_cases hkz:x.kids=[]
  ·obtain⟨p3,p4⟩:=JO p1 rfl hlt' p2 hkz;have hle3:pre.length*4+3+1≤(cc.set (pre.length*4+3) (.sl o 4 (encTs x.kids))).length:=by rw[p1];omega
   have i1:=fun ρ=>IH (pre ++ [x]) _ ρ (by rw[hk];simp) p3 (by simpa using p4);rw[hkz]at hc2 hle3 i1;have hle3':pre.length*4+3+1≤cc.length:=by simpa using hle3
   simp only[encTs,List.cons_append,List.nil_append]at hc2 hle3 i1;simp[h3,h9,h10,h11,hg,hgl,hlt,hlt',hw1,Qj,hc1,eg,es,hle,hcc,hc2,hle2,hkz,encTs,hle3',Qm];refine i1 _ ?_ ?_ ?_ ?_ <;> simp[h3,h9,h10]
  ·have hkl: ¬(x.kids.length:Int)=0:=by
    intro e;exact hkz (List.eq_nil_of_length_eq_zero (by omega))
   have i1:=fun ρ=>IH (pre ++ [x]) _ ρ (by rw[hk];simp) p1 (by simpa using p2);simp[h3,h9,h10,h11,hg,hgl,hlt,hlt',hw1,Qj,hc1,eg,es,hle,hcc,hc2,hle2,hkz,hkl,Qm];refine i1 _ ?_ ?_ ?_ ?_ <;> simp[h3,h9,h10]
theorem DL (l:List Tm) (o:Bool) (bs:List (List AV)) (hl:l.length < 100000000) (hm: ∀x∈l,x.mass < big) (ih: ∀x∈l,∀bs,Wi x.kids bs (call F.tb 184 [.sl false 4 (encTs x.kids)] bs)):
  Wi l bs (call F.tb 184 [.sl o 4 (encTs l)] bs):=by
 have hb:l.length*56≤140737488355328:=VI (by omega);have hb2: (l.length:Int)≤4611686018427387904:=by omega
 rw[Qa F.tb_184 _ _ rfl];by_cases hne:l=[]
 ·subst hne;refine⟨false,?_⟩;simp[F.f184C,encTs];rw[Qd F.f184l0.eq_1];simp[F.f184r0,Zb]
 ·have h:=fun c hc ρ=>Aw l bs hl hne hm ih l [] c ρ rfl hc (by simp[Zs]);have hlen: (List.replicate l.length [AV.int .i64 0,.str [],.int .i64 0,.sl true 4 []]).flatten.length=l.length*4:=by simp
  have h2:=h _ hlen;simp[F.f184C,hb,hb2];refine h2 _ ?_ ?_ ?_ ?_ <;> simp
theorem JN: ∀(t:Tm) (bs:List (List AV)),t.mass < 100000000→Wi t.kids bs (call F.tb 184 [.sl false 4 (encTs t.kids)] bs):=by
 refine ZU ?_;intro k n s ks ih bs hm;have hmk:=Qr (.mk k n s ks);simp only[QX,Zk]at hmk ⊢;exact DL ks false bs (by omega) (fun x hx=>by have:=QN hx;unfold big;omega) fun x hx bs=>ih x hx bs (by have:=QN hx;omega)
theorem Bt (l:List Tm) (o:Bool) (bs:List (List AV)) (hl:l.length < 100000000) (hm: ∀x∈l,x.mass < 100000000):Wi l bs (call F.tb 184 [.sl o 4 (encTs l)] bs):=
 DL l o bs hl (fun x hx=>by have:=hm x hx;unfold big;omega) fun x hx bs=>JN x bs (hm x hx)
def Qs:Tm:= .mk 0 [] 0 []
theorem Zf:Qb Qs=[.int .i64 0,.str [],.int .i64 0,.sl false 4 []]:=by simp[Qs,Qb,encTs]
def tmX:List Tm→Tm
 | []=> .mk 3 Xr 0 []
 | [p]=>p
 | p:: q:: r=> .mk 3 XOR 0 (p:: q:: r)
def U4 (l:List Tm):Tm×Int:=if Tw l≠0 then(Qs,Tw l)else if QD (tmX (sumL [] l))≠0 then(Qs,3)else(tmX (sumL [] l),0)
def ZO (r:Tm×Int):AV:= .tup [.agg (Qb r.1),.int .i64 r.2]
theorem N9 (t:Tm): ∀l:List Tm,massL (Zu t l)≤massL l+t.mass
 | []=>by simp[Zu,massL]
 | x:: xs=>by
  have:=N9 t xs;simp only[Zu];split
  ·simp only[massL];omega
  ·split
   ·simp only[massL];omega
   ·simp only[massL];omega
theorem Fi (l:List Tm) (t:Tm):massL (TG l t)≤massL l+t.mass:=by
 unfold TG;split
 ·have: ∀(l:List Tm) (p:Tm→Bool),massL (l.filter p)≤massL l:=by
   intro l p
   induction l with
   | nil=>simp
   | cons x xs ih=>
    rw[List.filter_cons];split <;> simp only[massL] <;> omega
  have:=this l (fun x=> !decide (Qh x t=0));omega
 ·exact N9 t l
theorem OU: ∀(b a:List Tm),massL (Xw a b)≤massL a+massL b
 | [],a=>by simp[Xw,massL]
 | x:: b,a=>by
  have h1:=OU b (TG a x);have h2:=Fi a x;simp only[Xw,List.foldl_cons,massL]at *;omega
mutual
theorem Fh: ∀t:Tm,massL (Zi t)≤t.mass
 | .mk k n s ks=>by
  simp only[Zi];split
  ·simp[massL]
  ·split
   ·have:=massL_sumL ks [];simp only[massL,Tm.mass]at *;omega
   ·simp[massL]
theorem massL_sumL: ∀(ts acc:List Tm),massL (sumL acc ts)≤massL acc+massL ts
 | [],acc=>by simp[sumL,massL]
 | t:: ts,acc=>by
  have h1:=massL_sumL ts (Xw acc (Zi t));have h2:=OU (Zi t) acc;have h3:=Fh t;simp only[sumL,massL]at *;omega
end
theorem Qav (l:List Tm): (tmX l).mass≤10+l.length+massL l:=by
 unfold tmX;split
 ·simp[Tm.mass,massL,Xr]
 ·simp[massL]
 ·simp[Tm.mass,massL,XOR]
theorem CP (l:List Tm) (bs:List (List AV)) (hm:massL l < 20000000) (hl:l.length < 20000000) (k:Kn)
  (hk0: ∀(o:Bool) (ρ:Nat→AV),ρ 2= .bx [.int .i64 0,.str [],.int .i64 0,.sl true 4 []]→ρ 5= .sl o 4 (encTs (sumL [] l))→R F.tb F.f178r0 ρ bs (Qy F.f178 bs)=some (ZO (U4 l),bs)):
  ∀(post pre acc:List Tm) (o:Bool) (ρ:Nat→AV),l=pre ++ post→sumL acc post=sumL [] l→acc.length+nodesL post < 25000000→Asc acc→(∀x∈acc,x.mass < big)→ρ 2= .bx [.int .i64 0,.str [],.int .i64 0,.sl true 4 []]→ρ 5= .sl o 4 (encTs acc)→ρ 15= .sl false 4 (encTs l)→ρ 16= .int .i64 l.length→ρ 17= .int .i64 pre.length→
  R F.tb (.loop F.f178l0) ρ bs (Qi 0 (Qu F.tb F.f178r0 (Qy F.f178 bs)))=some (ZO (U4 l),bs):=by
 intro post
 induction post with
 | nil=>
  intro pre acc o ρ hk he ha has hma h2 h5 h15 h16 h17;simp only[List.append_nil]at hk;rw[← hk]at h17;simp only[sumL]at he;subst he;rw[Qd F.f178l0.eq_1];simp[h5,h15,h16,h17];refine hk0 o _ ?_ ?_ <;> simp[h2,h5]
 | cons x post IH=>
  intro pre acc o ρ hk he ha has hma h2 h5 h15 h16 h17;have hg:=QB hk;have hll:=QM hk;have hw1:=wr1 pre.length (by omega);have hlt:=QO hk;have hxl:x∈l:=by rw[hk];simp
  have hxm:=QN hxl;have hxn:=YA x;have hsl:=Sq x;simp only[nodesL]at ha;obtain⟨o1,hc1⟩:=VF x bs (by omega);have hsm: ∀y∈Zi x,y.mass < big:=fun y hy=>by have:=V0 x y (Pc x y hy);unfold big;omega
  obtain⟨o2,hc2⟩:=M7 acc (Zi x) false false bs (by omega) hma hsm;rw[JS has (UI x)]at hc2;have hpl:=SM (Zi x) acc;have hpm: ∀y∈Xw acc (Zi x),y.mass < big:=fun y hy=>by
   rcases Sh (UI x) hy with h | h
   ·exact hma y h
   ·exact hsm y h
  have i2:=fun ρ=>IH (pre ++ [x]) (Xw acc (Zi x)) o2 ρ (by rw[hk];simp) he (by omega) (Tp _ _ has) hpm;rw[Qd F.f178l0.eq_1];simp[h5,h15,h16,h17,hg,hlt,hw1,Qj,hc1,hc2];refine i2 _ ?_ ?_ ?_ ?_ ?_ <;> simp[h2,h15,h16]
theorem Br (l:List Tm) (o:Bool) (bs:List (List AV)) (hm:massL l < 20000000) (hl:l.length < 20000000):call F.tb 178 [.sl o 4 (encTs l)] bs=some (ZO (U4 l),bs):=by
 have hr:=GI l false true bs (by omega) (fun x hx=>by have:=QN hx;unfold big;omega);have hn:=nodesL_le_mass l;have hk0:Tw l=0→∀(o:Bool) (ρ:Nat→AV),ρ 2= .bx [.int .i64 0,.str [],.int .i64 0,.sl true 4 []]→ρ 5= .sl o 4 (encTs (sumL [] l))→R F.tb F.f178r0 ρ bs (Qy F.f178 bs)=some (ZO (U4 l),bs):=by
  intro hr0 o ρ h2 h5;have h1:=sumL_len l [];have h3:=massL_sumL l [];have h4:=Qav (sumL [] l);simp only[massL,List.length_nil,Nat.zero_add]at h1 h3;obtain⟨o3,ho⟩:=Bt (sumL [] l) false bs (by omega) (fun x hx=>by have:=QN hx;omega);have hv:=XZ (tmX (sumL [] l)) bs (by unfold big;omega);have es:U4 l=if QD (tmX (sumL [] l))≠0 then(Qs,3)else(tmX (sumL [] l),0):=by simp[U4,hr0]
  rw[es];generalize sumL [] l=ps at *
  match ps with
  | []=>
   have e1:Qb (tmX [])=[.int .i64 3,.str Xr,.int .i64 0,.sl false 4 []]:=by simp[tmX,Qb,encTs]
   rw[e1]at hv;simp only[Xr]at hv e1;simp only[encTs]at ho h5;by_cases h:QD (tmX [])=0
   ·simp[F.f178r0,h5,ho,h2,hv,h,ZO,e1]
   ·simp[F.f178r0,h5,ho,h2,hv,h,ZO,Zf]
  | [p]=>
   simp only[tmX]at hv ⊢;by_cases h:QD p=0
   ·simp[F.f178r0,h5,ho,h2,hv,h,ZO,Qj]
   ·simp[F.f178r0,h5,ho,h2,hv,h,ZO,Zf,Qj]
  | p:: q:: r=>
   have e1:Qb (tmX (p:: q:: r))=[.int .i64 3,.str XOR,.int .i64 0,.sl false 4 (encTs (p:: q:: r))]:=by simp[tmX,Qb]
   rw[e1]at hv;simp only[XOR]at hv e1;have n1: ¬((r.length:Int)+1+1=0):=by omega
   have n2: ¬((r.length:Int)+1+1=1):=by omega
   by_cases h:QD (tmX (p:: q:: r))=0
   ·simp[F.f178r0,h5,ho,h2,hv,h,n1,n2,ZO,e1]
   ·simp[F.f178r0,h5,ho,h2,hv,h,n1,n2,ZO,Zf]
 rw[Qa F.tb_178 _ _ rfl];by_cases h0:Tw l=0
 ·have h:=fun ρ=>CP l bs hm hl (Qy F.f178 bs) (hk0 h0) l [] [] true ρ rfl rfl (by simp;omega) Asc.nil (by simp);simp[F.f178C,hr,h0];refine h _ ?_ ?_ ?_ ?_ ?_ <;> simp[encTs]
 ·have hb: (Tw l != 0)=true:=by simp[h0]
  simp[F.f178C,hr,h0,hb,U4,ZO,Zf]
theorem Hj (t:Tm) (hm:t.mass < big) (hne:t.kids≠[]) (ih: ∀x∈t.kids,∀bs,call F.tb 192 [.agg (Qb x)] bs=some (.agg (Qb x),bs)) (B:List (List AV)):
  ∀(post pre:List Tm) (ρ:Nat→AV),t.kids=pre ++ post→ρ 1= .bx [.int .i64 t.kind,.str t.name,.int .i64 t.sort,.gs B.length 0 4 t.kids.length]→ρ 2= .bx [.int .i64 0,.str [],.int .i64 0,.sl true 4 []]→
   ρ 10= .gs B.length 0 4 t.kids.length→ρ 11= .int .i64 t.kids.length→ρ 12= .int .i64 pre.length→
  R F.tb (.loop F.f192l0) ρ (B ++ [Qf t.kids]) (Qi 0 (Qu F.tb F.f192r0 (Qy F.f192 B)))=some (.agg (Qb t),B):=by
 have hm2:=Qr t;unfold big at hm;have es: ∀x y:List AV,(B ++ [x]).set B.length y=B ++ [y]:=fun x y=>by rw[List.set_append];simp
 have eg: ∀x:List AV,(B ++ [x])[B.length]? =some x:=fun x=>List.getElem?_concat_length;have hlen: (Qf t.kids).length=t.kids.length*4:=Za Qm _;have hst: (Qf t.kids).map AV.strip=Qf t.kids:=Zr QJ _;intro post
 induction post with
 | nil=>
  intro pre ρ hk h1 h2 h10 h11 h12;simp only[List.append_nil]at hk;rw[← hk]at h12;have hch:QY (Qf t.kids) 0 4 t.kids.length=encTs t.kids:=by
   have:=YS (f:=Qb) (k:=4) Qm QJ t.kids [];rw[Vf,List.append_nil]at this;exact this
  have hz: ¬t.kids.length=0:=fun e=>hne (List.eq_nil_of_length_eq_zero e);rw[Qd F.f192l0.eq_1];simp[h1,h2,h10,h11,h12,F.f192r0,hz,hne,hlen,hch,es,eg,V3,Tm.eta]
 | cons x post IH=>
  intro pre ρ hk h1 h2 h10 h11 h12;have hl:=QM hk;have hw1:=wr1 pre.length (by omega);have hlt:=QO hk;have hlt':pre.length < t.kids.length:=by omega
  have r1: ((Qf t.kids).drop (pre.length*4)).take 4=Qb x:=by
   have:=Xf (f:=Qb) (k:=4) Qm hk [];simpa using this
  have hput: (Qf t.kids).take (pre.length*4)++ (Qb x ++ (Qf t.kids).drop (pre.length*4+4))=Qf t.kids:=by
   have:=T2 (f:=Qb) (k:=4) Qm x hk [];rw[← hk]at this;simpa using this
  have hle:pre.length*4+4≤t.kids.length*4:=by omega
  have hc:=ih x (by rw[hk];simp);have h2':=IH (pre ++ [x]);rw[Qd F.f192l0.eq_1];generalize Qf t.kids=c at *;simp[h1,h2,h10,h11,h12,hw1,hlt,hlt',eg,es,hlen,hle,hst,r1,hc,hput];refine h2' _ (by rw[hk];simp) ?_ ?_ ?_ ?_ ?_ <;> simp[h1,h2,h10,h11]
theorem U7: ∀(t:Tm) (bs:List (List AV)),t.mass < big→call F.tb 192 [.agg (Qb t)] bs=some (.agg (Qb t),bs):=by
 refine ZU ?_;intro k n s ks ih bs hm;have hme:=Qr (.mk k n s ks);simp only[QX,Zk]at hme;have hb:ks.length*56≤140737488355328:=by unfold big at hm;omega
 rw[Qa F.tb_192 _ _ rfl];have ho:call F.tb 193 [.sl false 4 (encTs ks)] bs=if ks.length=0 then some (.gs 0 0 0 0,bs)else some (.gs bs.length 0 4 ks.length,bs ++ [Qf ks]):=by
  have hst: (Qf ks).map AV.strip=Qf ks:=Zr QJ _;rw[ZA F.tb_193];simp only[Zx,if_true,XL,YO,hb,encTs_gp,NP,hst]
 by_cases hk:ks=[]
 ·subst hk;simp[F.f192C,Qz,encTs]at ho ⊢;simp[ho];rw[Qd F.f192l0.eq_1];simp[F.f192r0]
 ·have hz: ¬ks.length=0:=fun e=>hk (List.eq_nil_of_length_eq_zero e);rw[if_neg hz]at ho;have hl:=fun ρ=>Hj (.mk k n s ks) hm hk (fun x hx bs=>ih x hx bs (by have:=QN (show x∈ks from hx);omega)) bs ks [] ρ rfl;simp only[Xm,Zk,Vl,QX]at hl;simp[F.f192C];simp[Qz,ho];have e:AV.agg [.int .i64 k,.str n,.int .i64 s,.sl false 4 (encTs ks)]= .agg (Qb (.mk k n s ks)):=by rw[Qz];rfl
  rw[e];refine hl _ ?_ ?_ ?_ ?_ ?_ <;> simp
abbrev Pw:=Tm×Int
def Qw (p:Pw):List AV:=Qb p.1 ++ [.int .i64 p.2]
def QU (l:List Pw):List (List AV):=l.map Qw
abbrev QF (l:List Pw):List AV:=Zs Qw l
theorem HL (p:Pw):Qw p=[.int .i64 p.1.kind,.str p.1.name,.int .i64 p.1.sort,.sl false 4 (encTs p.1.kids),.int .i64 p.2]:=by simp[Qw,Qz]
@[simp] theorem ZX (p:Pw): (Qw p).length=5:=by simp[Qw]
@[simp] theorem Yx (p:Pw): (Qw p).map AV.strip=Qw p:=by simp[Qw]
@[simp] theorem Qfl (p:Pw): (Qw p).take 4=Qb p.1:=by simp[Qw]
@[simp] theorem Qfm (p:Pw): (Qw p).take 5=Qw p:=List.take_of_length_le (by simp)
@[simp] theorem QgK (p:Pw): (Qw p)[4]? =some (.int .i64 p.2):=by simp[Qw]
@[simp] theorem Qgz (p:Pw) (h:4 < (Qw p).length): (Qw p)[4]= .int .i64 p.2:=by simp[Qw]
@[simp] theorem Qfk (p:Pw): (Qw p).drop 5=[]:=by simp[Qw,List.drop_append]
@[simp] theorem HM (p:Pw):gpfreeL (Qw p)=true:=by simp[Qw,Ta]
@[simp] theorem QfN (l:List Pw): (QU l).length=l.length:=by simp[QU]
@[simp] theorem QfM (l:List Pw) (i:Nat): (QU l)[i]? =(l[i]?).map Qw:=by simp[QU]
@[simp] theorem RL: ∀l:List Pw,gpfreeE (QU l)=true
 | []=>rfl
 | p:: l=>by
  have:=RL l;simp only[QU]at this ⊢;simp[gpfreeE,this]
theorem YR (l:List Pw): (QF l).length=l.length*5:=Za ZX l
theorem Hr (p:Pw) (t:Tm) (B:List (List AV)) (hp:p.1.mass < big) (ht:t.mass < big):call F.tb 190 [.agg (Qw p),.agg (Qb t)] B=some (.int .i64 (Qh p.1 t),B):=by
 have h:=call_Compare p.1 t B hp ht;rw[Qa F.tb_190 _ _ rfl];simp[F.f190,F.f190C,h]
def ZS (l:List Pw):List Tm:=l.map (·.1)
def PAt (l:List Pw) (t:Tm) (k:Nat):Prop:=k≤l.length∧(∀(i:Nat) (p:Pw),l[i]? =some p→i < k→Qh p.1 t < 0)∧(∀(i:Nat) (p:Pw),l[i]? =some p→k≤i→¬Qh p.1 t < 0)
def hit (l:List Pw) (t:Tm) (k:Nat):Bool:=match l[k]? with
 | some p=>decide (Qh p.1 t=0)
 | none=>false
def QdB (l:List Pw) (t:Tm) (B:List (List AV)) (r:Out):Prop:=∃k,PAt l t k∧r=some (.tup [.int .i64 k,.bool (hit l t k)],B)
theorem MU {l:List Pw} {i:Nat} {p:Pw} {c:List AV} (h: (c.drop (i*5)).take 5=Qw p): ((c.map AV.strip).drop (i*5)).take 5=Qw p:=by
 rw[← List.map_drop,← List.map_take,h,Yx]
theorem Og {l:List Pw} {i:Nat} {p:Pw} (h:l[i]? =some p) (c:List AV): ((QF l ++ c).drop (i*5)).take 5=Qw p:=by
 obtain⟨hi,rfl⟩:=List.getElem?_eq_some_iff.1 h;have hl:l=l.take i ++ l[i]:: l.drop (i+1):=by rw[List.getElem_cons_drop,List.take_append_drop]
 have:=Xf (f:=Qw) (k:=5) ZX hl c;rw[List.length_take,Nat.min_eq_left (by omega)]at this;exact this
theorem NY {i j:Nat} (h:i+j < 9223372036854775808):IntKind.i64.wrap (IntKind.u64.wrap (IntKind.i64.wrap ((i:Int)+ (j:Int))) / 2 ^ min 1 IntKind.u64.bits)=(((i+j) / 2:Nat):Int):=by
 rw[Qq (n:=(i:Int)+j) (by omega) (by omega)];have h1:IntKind.u64.wrap ((i:Int)+j)=(i:Int)+j:=by
  simp[IntKind.wrap,IntKind.bits,IntKind.signed];omega
 have h2: (2:Int) ^ min 1 IntKind.u64.bits=2:=by decide
 rw[h1,h2,Qq (by omega) (by omega)];omega
theorem Ax {l:List Pw} {t:Tm} {B:List (List AV)} {id sz:Nat} {c:List AV} (hl:l.length < 100000000) (hb:l≠[]→sz=5∧B[id]? =some (QF l ++ c)) (hm: ∀p∈l,p.1.mass < big) (ht:t.mass < big) (ha:Asc (ZS l)):
  ∀(d i j:Nat) (ρ:Nat→AV),j - i≤d→i≤j→j≤l.length→(∀(k:Nat) (p:Pw),l[k]? =some p→k < i→Qh p.1 t < 0)→(∀(k:Nat) (p:Pw),l[k]? =some p→j≤k→¬Qh p.1 t < 0)→
  ρ 0= .gs id 0 sz l.length→ρ 4= .bx (Qb t)→ρ 2= .fn 190 []→ρ 8= .int .i64 l.length→ρ 9= .int .i64 i→ρ 10= .int .i64 j→
  QdB l t B (R F.tb (.loop F.f191l0) ρ B (Qi 0 (Qu F.tb F.f191r0 (Qy F.f191 B)))):=by
 have mono: ∀(i j:Nat) (p q:Pw),l[i]? =some p→l[j]? =some q→i≤j→Qh q.1 t < 0→Qh p.1 t < 0:=by
  intro i j p q hp hq hij h;rcases Nat.lt_or_ge i j with hlt | hge
  ·obtain⟨h1,rfl⟩:=List.getElem?_eq_some_iff.1 hp;obtain⟨h2,rfl⟩:=List.getElem?_eq_some_iff.1 hq;have:=List.pairwise_iff_getElem.1 ha i j (by simpa[ZS]using h1) (by simpa[ZS]using h2) hlt;simp only[ZS,List.getElem_map]at this;exact Z4 this h
  ·have:i=j:=by omega
   subst this;rw[hp]at hq;injection hq with hq;subst hq;exact h
 intro d
 induction d with
 | zero=>
  intro i j ρ hd hij hj hlo hhi h0 h4 h2 h8 h9 h10;have:i=j:=by omega
  subst this;refine⟨i,⟨hj,hlo,hhi⟩,?_⟩;rw[Qd F.f191l0.eq_1];by_cases c1:i < l.length
  ·have hp:=List.getElem?_eq_getElem c1;obtain⟨rfl,hbx⟩:=hb (by intro e;subst e;simp at c1);have r1:=MU (l:=l) (Og hp c);have hmp:=hm _ (List.getElem_mem c1);have hle:i*5+5≤(QF l ++ c).length:=by rw[List.length_append,YR];omega
   have c1': (i:Int) < (l.length:Int):=by omega
   have hh:hit l t i=decide (Qh l[i].1 t=0):=by simp[hit,hp]
   rw[hh];generalize l[i]=p at *;have h3:=Hr p t B hmp ht;generalize QF l ++ c=cc at *;simp[F.f191r0,h0,h2,h4,h8,h9,h10,c1,c1',hbx,hle,r1,h3]
  ·have hh:hit l t i=false:=by simp[hit,List.getElem?_eq_none (Nat.le_of_not_lt c1)]
   have c1': ¬(i:Int) < (l.length:Int):=by omega
   simp[F.f191r0,h0,h2,h4,h8,h9,h10,c1,c1',hh]
 | succ d IH=>
  intro i j ρ hd hij hj hlo hhi h0 h4 h2 h8 h9 h10;by_cases hlt:i < j
  ·have hmn: (i+j) / 2 < l.length:=by omega
   have hw:=NY (i:=i) (j:=j) (by omega);have hp:=List.getElem?_eq_getElem hmn;obtain⟨rfl,hbx⟩:=hb (by intro e;subst e;simp at hmn);have r1:=MU (l:=l) (Og hp c);have hmp:=hm _ (List.getElem_mem hmn);have hle: (i+j) / 2*5+5≤(QF l ++ c).length:=by rw[List.length_append,YR];omega
   have hltI: (i:Int) < (j:Int):=by omega
   have hb1:i≤(i+j) / 2:=by omega
   have hb2: (i+j) / 2 < j:=by omega
   generalize l[(i+j) / 2]=p at *;generalize hmm: (i+j) / 2=m at *;have h3:=Hr p t B hmp ht;have hw1:IntKind.i64.wrap ((m:Int)+1)=((m+1:Nat):Int):=by rw[Qq (by omega) (by omega)];omega
   have c1': (m:Int) < (l.length:Int):=by omega
   generalize hcc:QF l ++ c=cc at *;rw[Qd F.f191l0.eq_1];by_cases cc1:Qh p.1 t < 0
   ·have ih:=fun ρ=>IH (m+1) j ρ (by omega) (by omega) hj (fun k q hq hk=>mono k m q p hq hp (by omega) cc1) hhi;simp[-getElem?_pos,h0,h2,h4,h8,h9,h10,hltI,hw,hw1,c1',hmn,hbx,hle,r1,h3,cc1];refine ih _ ?_ ?_ ?_ ?_ ?_ ?_ <;> simp[h0,h2,h4,h8,h10]
   ·have ih:=fun ρ=>IH i m ρ (by omega) (by omega) (by omega) hlo (fun k q hq hk h=>cc1 (mono m k p q hp hq hk h));simp[-getElem?_pos,h0,h2,h4,h8,h9,h10,hltI,hw,hw1,c1',hmn,hbx,hle,r1,h3,cc1];refine ih _ ?_ ?_ ?_ ?_ ?_ ?_ <;> simp[h0,h2,h4,h8,h9]
  ·exact IH i j ρ (by omega) hij hj hlo hhi h0 h4 h2 h8 h9 h10
theorem Qbg {l:List Pw} {t:Tm} {B:List (List AV)} {id sz:Nat} {c:List AV} (hl:l.length < 100000000) (hb:l≠[]→sz=5∧B[id]? =some (QF l ++ c)) (hm: ∀p∈l,p.1.mass < big) (ht:t.mass < big) (ha:Asc (ZS l)):
  QdB l t B (call F.tb 191 [.gs id 0 sz l.length,.agg (Qb t),.fn 190 []] B):=by
 have h:=fun ρ=>Ax hl hb hm ht ha l.length 0 l.length ρ (by omega) (by omega) (by omega) (fun k p _ hk=>by omega) (fun k p hp hk=>by rw[List.getElem?_eq_none hk]at hp;cases hp);rw[Qa F.tb_191 _ _ rfl];simp[F.f191C];refine h _ ?_ ?_ ?_ ?_ ?_ ?_ <;> simp
end Go.Am
