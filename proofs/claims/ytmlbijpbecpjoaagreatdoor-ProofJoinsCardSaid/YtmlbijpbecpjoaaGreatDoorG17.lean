/-
  Rc8, Rc9, Rc10, Rc11, Rc12, Rc13.
-/
import Derived.Test.YtmlbijpbecpjoaaGreatDoorG16
set_option linter.all false
open Go.Am.F
namespace Go.Am
set_option maxRecDepth 20000
def Rz (l:Qe) (t:Tm):Bool:=l.any fun x=>decide (Qp x t=0)
def E3 {l:Qe} {t:Tm}:Rz l t=true↔t∈l:=by
 simp only[Rz,Rn,Qv];constructor
 ·rintro⟨x,hx,h⟩;rw[<- Y7 _ _ h];exact hx
 ·intro h;exact⟨t,h,Vg t⟩
def V2 (l:Qe) (t:Tm):Qe:=if Rz l t then l.filter (fun x=> !decide (Qp x t=0))else Xn t l
def Xb (a b:Qe):Qe:=b.foldl V2 a
def Ap {l:Qe} (p:Tm->Bool) (h:Asc l):Asc (l.filter p):=KP _ h
def QeA {l:Qe} (t:Tm) (h:Asc l):Asc (V2 l t):=by
 unfold V2;split
 ·exact Ap _ h
 ·exact LZ h
def De {l:Qe} {t y:Tm}:y∈V2 l t↔(y∈l/\y≠t)\/(y=t/\t ∉ l):=by
 unfold V2;split
 ·rename_i h;rw[E3]at h;simp only[Mo,Us,U9,XR];constructor
  ·rintro⟨h1,h2⟩;exact .inl ⟨h1,h2⟩
  ·rintro(⟨h1,h2⟩ | ⟨rfl,h2⟩)
   ·exact⟨h1,h2⟩
   ·exact absurd h h2
 ·rename_i h;rw[E3]at h;rw[SZ];constructor
  ·rintro(rfl | h1)
   ·exact .inr ⟨rfl,h⟩
   ·refine .inl ⟨h1,fun e=> ?_⟩;subst e;exact h h1
  ·rintro(⟨h1,h2⟩ | ⟨h1,h2⟩)
   ·exact .inr h1
   ·exact .inl h1
def Rq: ∀(b a:Qe),Asc a->Asc (Xb a b)
 | [],_,h=>h
 | x:: b,a,h=>Rq b _ (QeA x h)
def M6 {y:Tm}: ∀{b a:Qe},Asc b->(y∈Xb a b↔(y∈a/\y ∉ b)\/(y ∉ a/\y∈b))
 | [],a,_=>by simp[Xb]
 | x:: b,a,h=>by
  rw[We]at h;have ih:=M6 (y:=y) (b:=b) (a:=V2 a x) h.2;have hxb:x ∉ b:=fun hm=>V8 x (h.1 x hm);simp only[Xb,OJ]at ih ⊢;rw[ih,De];simp only[ZS];by_cases e:y=x
  ·subst e;by_cases hy:y∈a <;> simp[hy,hxb]
  ·by_cases hy:y∈a <;> by_cases hb:y∈b <;> simp[hy,hb,e]
def U3: ∀(b a:Qe),(Xb a b).length<=a.length+b.length
 | [],a=>by simp[Xb]
 | x:: b,a=>by
  have ih:=U3 b (V2 a x);have: (V2 a x).length<=a.length+1:=by
   unfold V2;split
   ·have:=Pe (fun y=> !decide (Qp y x=0)) a;omega
   ·exact Pt x a
  simp only[Xb,OJ,ZL]at ih ⊢;omega
def Ve:List Tm->List Tm->List Tm
 | [],b=>b
 | a,[]=>a
 | x:: a,y:: b=>if Qp x y < 0 then x:: Ve a (y:: b)else if 0 < Qp x y then y:: Ve (x:: a) b else Ve a b
termination_by a b=>a.length+b.length
def La (b:Qe):Ve [] b=b:=by rw[Ve]
def NI (a:Qe):Ve a []=a:=by cases a <;> rw[Ve];simp
def NH (x y:Tm) (a b:Qe):Ve (x:: a) (y:: b)=if Qp x y < 0 then x:: Ve a (y:: b)else if 0 < Qp x y then y:: Ve (x:: a) b else Ve a b:=by rw[Ve]
def T1 {y:Tm}: ∀(n:Nat) (a b:Qe),a.length+b.length<=n->Asc a->Asc b->(y∈Ve a b↔(y∈a/\y ∉ b)\/(y ∉ a/\y∈b))
 | _,[],b,_,_,_=>by rw[La];simp
 | _,x:: a,[],_,_,_=>by rw[NI];simp
 | 0,x:: a,z:: b,h,_,_=>by simp at h
 | n+1,x:: a,z:: b,h,ha,hb=>by
  have ha0:=ha;have hb0:=hb;rw[We]at ha hb;simp only[ZL]at h;rw[NH];split
  ·rename_i h1;rw[ZS,T1 n a (z:: b) (by simp;omega) ha.2 hb0];have hxb:x ∉ z:: b:=fun hm=>by
    rcases ZS.1 hm with e | e
    ·subst e;exact V8 x h1
    ·exact V8 x (Xw h1 (hb.1 x e))
   have hxa:x ∉ a:=fun hm=>V8 x (ha.1 x hm);by_cases e:y=x
   ·subst e;simp[hxb]
   ·simp[e]
  ·rename_i h1;split
   ·rename_i h2;have h2':=Jo.1 h2;rw[ZS,T1 n (x:: a) b (by simp;omega) ha0 hb.2];have hza:z ∉ x:: a:=fun hm=>by
     rcases ZS.1 hm with e | e
     ·subst e;exact V8 z h2'
     ·exact V8 z (Xw h2' (ha.1 z e))
    have hzb:z ∉ b:=fun hm=>V8 z (hb.1 z hm);by_cases e:y=z
    ·subst e;simp[hza]
    ·simp[e]
   ·rename_i h2;have e0:=Y7 x z (by omega);subst e0;rw[T1 n a b (by omega) ha.2 hb.2];have hxa:x ∉ a:=fun hm=>V8 x (ha.1 x hm);have hxb:x ∉ b:=fun hm=>V8 x (hb.1 x hm);by_cases e:y=x
    ·subst e;simp[hxa,hxb]
    ·simp[e]
def PZ: ∀(n:Nat) (a b:Qe),a.length+b.length<=n->Asc a->Asc b->Asc (Ve a b)
 | _,[],b,_,_,hb=>by rw[La];exact hb
 | _,x:: a,[],_,ha,_=>by rw[NI];exact ha
 | 0,x:: a,z:: b,h,_,_=>by simp at h
 | n+1,x:: a,z:: b,h,ha,hb=>by
  have ha0:=ha;have hb0:=hb;rw[We]at ha hb;simp only[ZL]at h;rw[NH];split
  ·rename_i h1;rw[We];refine⟨fun y hy=> ?_,PZ n a (z:: b) (by simp;omega) ha.2 hb0⟩;rw[T1 n a (z:: b) (by simp;omega) ha.2 hb0]at hy;rcases hy with⟨hy,_⟩ | ⟨_,hy⟩
   ·exact ha.1 y hy
   ·rcases ZS.1 hy with e | e
    ·subst e;exact h1
    ·exact Xw h1 (hb.1 y e)
  ·rename_i h1;split
   ·rename_i h2;have h2':=Jo.1 h2;rw[We];refine⟨fun y hy=> ?_,PZ n (x:: a) b (by simp;omega) ha0 hb.2⟩;rw[T1 n (x:: a) b (by simp;omega) ha0 hb.2]at hy;rcases hy with⟨hy,_⟩ | ⟨_,hy⟩
    ·rcases ZS.1 hy with e | e
     ·subst e;exact h2'
     ·exact Xw h2' (ha.1 y e)
    ·exact hb.1 y hy
   ·exact PZ n a b (by omega) ha.2 hb.2
def Do {a b:Qe} (ha:Asc a) (hb:Asc b):Ve a b=Xb a b:=
 JY (PZ _ a b (ZJ _) ha hb) (Rq b a ha) fun x=>by rw[T1 _ a b (ZJ _) ha hb,M6 hb]
def Yh:Qu:=[122,101,114,111]
def XOR:Qu:=[120,111,114]
mutual
def ZP:Tm->List Tm
 | .mk k n s ks=>if k=3/\n=Yh/\ks=[]then []else if k=3/\n=XOR then Yw [] ks else [.mk k n s ks]
def Yw (acc:List Tm):List Tm->List Tm
 | []=>acc
 | t:: ts=>Yw (Xb acc (ZP t)) ts
end
mutual
theorem TJ: ∀t:Tm,Asc (ZP t)
 | .mk k n s ks=>by
  simp only[ZP];split
  ·exact Asc.nil
  ·split
   ·exact F5 ks [] Asc.nil
   ·exact JZ _
theorem F5: ∀(ts acc:List Tm),Asc acc->Asc (Yw acc ts)
 | [],_,h=>h
 | t:: ts,acc,h=>F5 ts _ (Rq _ _ h)
end
def U0 {y:Tm} {b a:Qe} (hb:Asc b) (h:y∈Xb a b):y∈a\/y∈b:=by
 rw[M6 hb]at h;rcases h with h | h
 ·exact .inl h.1
 ·exact .inr h.2
mutual
theorem PV: ∀(t y:Tm),y∈ZP t->y∈YH t
 | .mk k n s ks,y,h=>by
  simp only[ZP]at h;simp only[YH,ZS];split at h
  ·simp at h
  ·split at h
   ·rcases Ku ks [] y h with h | h
    ·simp at h
    ·exact .inr h
   ·simp at h;exact .inl h
theorem Ku: ∀(ts acc:List Tm) (y:Tm),y∈Yw acc ts->y∈acc\/y∈XA ts
 | [],acc,y,h=> .inl h
 | t:: ts,acc,y,h=>by
  simp only[XA,Wc];rcases Ku ts _ y h with h | h
  ·rcases U0 (TJ t) h with h | h
   ·exact .inl h
   ·exact .inr (.inl (PV t y h))
  ·exact .inr (.inr h)
end
mutual
theorem PU: ∀t:Tm,(ZP t).length<=t.nodes
 | .mk k n s ks=>by
  simp only[ZP,Tm.nodes];split
  ·simp
  ·split
   ·have:=NP ks [];simp at this;omega
   ·simp
theorem NP: ∀(ts acc:List Tm),(Yw acc ts).length<=acc.length+QB ts
 | [],acc=>by simp[Yw,QB]
 | t:: ts,acc=>by
  have h1:=NP ts (Xb acc (ZP t));have h2:=U3 (ZP t) acc;have h3:=PU t;simp only[Yw,QB]at *;omega
end
def Ho (l:Qe) (t:Tm) (bs:Qa) (hl:l.length < 100000000) (hm: ∀x∈l,x.mass < big) (ht:t.mass < big):
  ∀(post pre:Qe) (ρ:Ql),l=pre ++ post->ρ 0= .sl false 4 (Qb l)->ρ 3= .bx (Qf t)->ρ 5= .int .i64 pre.length->
  R tb (.loop f250l0) ρ bs (Qq 0 (QH tb f250r0 (QP f250 bs)))=some (.bool (Rz post t),bs):=by
 intro post
 induction post with
 | nil=>
  intro pre ρ hk h0 h3 h5;simp only[QN]at hk;rw[<- hk]at h5;rw[Qg f250l0.eq_1];simp[h0,h3,h5,f250r0,Rz]
 | cons x post IH=>
  intro pre ρ hk h0 h3 h5;have hg:=Qx hk;have hll:=QL hk;have hw1:=wr1 pre.length (by omega);have hlt:=QO hk;have hc:=Y3 x t bs (hm x (by rw[hk];simp)) ht;rw[Qg f250l0.eq_1];by_cases he:Qp x t=0
  ·simp[h0,h3,h5,hg,hlt,hw1,hc,he,Qk,Rz]
  ·have e:Rz (x:: post) t=Rz post t:=by simp[Rz,he]
   rw[e];simp[h0,h3,h5,hg,hlt,hw1,hc,he,Qk];rw[IH (pre ++ [x])] <;> simp[h0,h3,hk]
def QeI (l:Qe) (t:Tm) (o:Bool) (bs:Qa) (hl:l.length < 100000000) (hm: ∀x∈l,x.mass < big) (ht:t.mass < big):
  call tb 250 [.sl o 4 (Qb l),.agg (Qf t)] bs=some (.bool (Rz l t),bs):=by
 have h:=fun ρ=>Ho l t bs hl hm ht l [] ρ rfl;rw[zcc 250 rfl rfl];simp[f250C];refine h _ ?_ ?_ ?_ <;> simp
def Qgd (l:Qe) (t:Tm) (bs:Qa) (hl:l.length < 100000000) (hm: ∀x∈l,x.mass < big) (ht:t.mass < big):
  ∀(post pre:Qe) (ρ:Ql),l=pre ++ post->ρ 0= .sl false 4 (Qb l)->ρ 3= .bx (Qf t)->ρ 5= .sl true 4 (Qb (pre.filter (fun x=> !decide (Qp x t=0))))->ρ 6= .int .i64 pre.length->
  R tb (.loop f249l0) ρ bs (Qq 0 (QH tb f249r0 (QP f249 bs)))=some (.sl false 4 (Qb (l.filter (fun x=> !decide (Qp x t=0)))),bs):=by
 intro post
 induction post with
 | nil=>
  intro pre ρ hk h0 h3 h5 h6;simp only[QN]at hk;rw[<- hk]at h5 h6;rw[Qg f249l0.eq_1];simp[h0,h3,h5,h6,f249r0]
 | cons x post IH=>
  intro pre ρ hk h0 h3 h5 h6;have hg:=Qx hk;have hll:=QL hk;have hw1:=wr1 pre.length (by omega);have hlt:=QO hk;have hfl:=Pe (fun x=> !decide (Qp x t=0)) pre;have hb: ((pre.filter (fun x=> !decide (Qp x t=0))).length+1)*56<=140737488355328:=WI (by omega);have hc:=Y3 x t bs (hm x (by rw[hk];simp)) ht;have h2:=IH (pre ++ [x]);rw[Qg f249l0.eq_1];by_cases he:Qp x t=0
  ·have hf: (pre ++ [x]).filter (fun x=> !decide (Qp x t=0))=pre.filter (fun x=> !decide (Qp x t=0)):=by simp[OH,he]
   rw[hf]at h2;generalize pre.filter (fun x=> !decide (Qp x t=0))=pf at *;generalize l.filter (fun x=> !decide (Qp x t=0))=lf at *;simp[h0,h3,h5,h6,hg,hlt,hw1,hc,he,Qk];rw[h2] <;> simp[h0,h3,h5,hk]
  ·have hf: (pre ++ [x]).filter (fun x=> !decide (Qp x t=0))=pre.filter (fun x=> !decide (Qp x t=0))++ [x]:=by simp[OH,he]
   rw[hf]at h2;generalize pre.filter (fun x=> !decide (Qp x t=0))=pf at *;generalize l.filter (fun x=> !decide (Qp x t=0))=lf at *;simp[h0,h3,h5,h6,hg,hlt,hw1,hc,he,hb,Qk,ZV,ZB];rw[h2] <;> simp[h0,h3,hk]
def Ce (l:Qe) (t:Tm) (o:Bool) (bs:Qa) (hl:l.length < 100000000) (hm: ∀x∈l,x.mass < big) (ht:t.mass < big):
  call tb 249 [.sl o 4 (Qb l),.agg (Qf t)] bs=some (.sl false 4 (Qb (V2 l t)),bs):=by
 have h:=fun ρ=>Qgd l t bs hl hm ht l [] ρ rfl;have hh:=QeI l t false bs hl hm ht;have ha:=L5 l t false bs hl hm ht;rw[zcc 249 rfl rfl];cases hb:Rz l t
 ·have e:V2 l t=Xn t l:=by simp[V2,hb]
  rw[e];simp[f249C,Qk,hh,hb,ha]
 ·have e:V2 l t=l.filter (fun x=> !decide (Qp x t=0)):=by simp[V2,hb]
  rw[e];generalize l.filter (fun x=> !decide (Qp x t=0))=lf at *;simp[f249C,Qk,hh,hb];refine h _ ?_ ?_ ?_ ?_ <;> simp[Qb]
def Af (b:Qe) (bs:Qa) (hl:b.length < 40000000) (hm: ∀x∈b,x.mass < big):
  ∀(post pre acc:Qe) (o:Bool) (ρ:Ql),b=pre ++ post->acc.length+post.length < 90000000->(∀x∈acc,x.mass < big)->ρ 1= .sl false 4 (Qb b)->ρ 5= .sl o 4 (Qb acc)->ρ 6= .int .i64 pre.length->
  R tb (.loop f248l0) ρ bs (Qq 0 (QH tb f248r0 (QP f248 bs)))=some (.sl false 4 (Qb (Xb acc post)),bs):=by
 intro post
 induction post with
 | nil=>
  intro pre acc o ρ hk ha hma h1 h5 h6;simp only[QN]at hk;rw[<- hk]at h6;rw[Qg f248l0.eq_1];simp[h1,h5,h6,f248r0,Xb]
 | cons x post IH=>
  intro pre acc o ρ hk ha hma h1 h5 h6;have hg:=Qx hk;have hll:=QL hk;have hw1:=wr1 pre.length (by omega);have hlt:=QO hk;have hx:=hm x (by rw[hk];simp);have hal:acc.length+ (post.length+1) < 90000000:=by simpa using ha
  have hc:=Ce acc x false bs (by omega) hma hx;have htl: (V2 acc x).length<=acc.length+1:=by
   have:=U3 [x] acc;simpa[Xb]using this
  have htm: ∀y∈V2 acc x,y.mass < big:=fun y hy=>by
   rcases De.1 hy with h | h
   ·exact hma y h.1
   ·rw[h.1];exact hx
  have h2:=fun ρ=>IH (pre ++ [x]) (V2 acc x) false ρ (by rw[hk];simp) (by omega) htm;rw[Qg f248l0.eq_1];simp[h1,h5,h6,hg,hlt,hw1,hc];rw[show Xb acc (x:: post)=Xb (V2 acc x) post from rfl];refine h2 _ ?_ ?_ ?_ <;> simp[h1]
def K9 (a b:Qe) (o o2:Bool) (bs:Qa) (ha:a.length < 40000000) (hb:b.length < 40000000) (hma: ∀x∈a,x.mass < big) (hmb: ∀x∈b,x.mass < big):
  call tb 248 [.sl o 4 (Qb a),.sl o2 4 (Qb b)] bs=some (.sl false 4 (Qb (Xb a b)),bs):=by
 have h:=fun o ρ=>Af b bs hb hmb b [] a o ρ rfl (by omega) hma;have hlim:a.length*56<=140737488355328:=WI (by omega);rw[zcc 248 rfl rfl];simp[f248C,hlim];refine h true _ ?_ ?_ ?_ <;> simp
def Qct (t:Tm) (bs:Qa) (hm:t.mass < 30000000) (ih: ∀x∈t.kids,∀bs,∃o,call tb 247 [.agg (Qf x)] bs=some (.sl o 4 (Qb (ZP x)),bs)):
  ∀(post pre acc:Qe) (o:Bool) (ρ:Ql),t.kids=pre ++ post->acc.length+QB post < 30000000->(∀x∈acc,x.mass < big)->ρ 1= .bx (Qf t)->ρ 3= .sl o 4 (Qb acc)->ρ 4= .int .i64 pre.length->
  R tb (.loop f247l0) ρ bs (Qq 0 (QH tb f247r0 (QP f247 bs)))=some (.sl false 4 (Qb (Yw acc post)),bs):=by
 have hmk:=QF t;intro post
 induction post with
 | nil=>
  intro pre acc o ρ hk ha hma h1 h3 h4;simp only[QN]at hk;rw[<- hk]at h4;rw[Qg f247l0.eq_1];simp[h1,h3,h4,f247r0,Yw]
 | cons x post IH=>
  intro pre acc o ρ hk ha hma h1 h3 h4;have hg:=Qx hk;have hll:=QL hk;have hgl:t.kids[pre.length]'(by omega)=x:=by
   have:=Zv (l:=t.kids) (i:=pre.length) (by omega);rw[hg]at this;injection this with this;exact this.symm
  have hw1:=wr1 pre.length (by omega);have hlt:=QO hk;have hxk:x∈t.kids:=by rw[hk];simp
  have hxm:=Q4 hxk;have hxn:=Yx x;have hsl:=PU x;simp only[QB]at ha;obtain⟨o1,hc1⟩:=ih x hxk bs;have hsm: ∀y∈ZP x,y.mass < big:=fun y hy=>by have:=UR x y (PV x y hy);unfold big;omega
  have hc2:=K9 acc (ZP x) false false bs (by omega) (by omega) hma hsm;have hpl:=U3 (ZP x) acc;have hpm: ∀y∈Xb acc (ZP x),y.mass < big:=fun y hy=>by
   rcases U0 (TJ x) hy with h | h
   ·exact hma y h
   ·exact hsm y h
  have h2:=fun ρ=>IH (pre ++ [x]) (Xb acc (ZP x)) false ρ (by rw[hk];simp) (by omega) hpm;rw[Qg f247l0.eq_1];simp[h1,h3,h4,hg,hgl,hlt,hw1,hc1,hc2,Yw];refine h2 _ ?_ ?_ ?_ <;> simp[h1]
def J9: ∀(t:Tm) (bs:Qa),t.mass < 30000000->∃o,call tb 247 [.agg (Qf t)] bs=some (.sl o 4 (Qb (ZP t)),bs):=by
 refine Yn ?_;intro k n s ks ih bs hm;have hmk:=QF (.mk k n s ks);have hnm:=YP ks;simp only[Zx,Z7]at hmk;have hl:=fun ρ=>Qct (.mk k n s ks) bs hm (fun x hx bs=>ih x hx bs (by have:=Q4 hx;simp at this;omega)) ks [] [] true ρ rfl (by simp;omega) (by simp);rw[zcc 247 rfl rfl];by_cases hk:k=3
 ·by_cases hz:n=Yh
  ·cases ks with
   | nil=>
    refine⟨true,?_⟩;simp[f247C,Qf,Qb,ZP,hk,hz,Yh]
   | cons x xs=>
    refine⟨true,?_⟩;simp only[Yh]at hz;have: ¬((xs.length:Int)+1=0):=by omega
    simp[f247C,Qf,ZP,hk,hz,Yh,XOR,this,Qb]
  ·by_cases hx:n=XOR
   ·refine⟨false,?_⟩;have e:ZP (.mk k n s ks)=Yw [] ks:=by simp[ZP,hk,hx,Yh,XOR]
    rw[e];have hb1: (n == [122,101,114,111])=false:=by simpa[Yh]using hz
    simp only[XOR]at hx;simp[f247C,Qf,hk,hx];refine hl _ ?_ ?_ ?_ <;> simp[Qf,Qb,hk,hx]
   ·refine⟨true,?_⟩;have e:ZP (.mk k n s ks)=[.mk k n s ks]:=by simp[ZP,hk,hx,hz]
    rw[e];have hb1: (n == [122,101,114,111])=false:=by simpa[Yh]using hz
    have hb2: (n == [120,111,114])=false:=by simpa[XOR]using hx
    have hb3: (n != [120,111,114])=true:=by simpa[XOR]using hx
    simp[f247C,Qf,hk,hb1,hb2,hb3,Qb]
 ·refine⟨true,?_⟩;have e:ZP (.mk k n s ks)=[.mk k n s ks]:=by simp[ZP,hk]
  rw[e];have hb: (k != 3)=true:=by simp[hk]
  simp[f247C,Qf,hk,hb,Qb]
@[simp] def QpX (x:Tm) (a:Qe) (h:0 < (Qb (x:: a)).length): (Qb (x:: a))[0]=Qf x:=by simp[Qb]
def UN (l:Qe) (bs:Qa) (r:Option (AV×Qa)):Prop:=∃o,r=some (.sl o 4 (Qb l),bs)
def Qdu (bs:Qa): ∀(n:Nat) (a b acc:Qe) (o1 o2:Bool) (ρ:Ql),a.length+b.length<=n->acc.length+a.length+b.length < 100000000->(∀x∈a,x.mass < big)->(∀x∈b,x.mass < big)->
   ρ 0= .sl o1 4 (Qb a)->ρ 1= .sl o2 4 (Qb b)->ρ 5= .sl true 4 (Qb acc)->
  UN (acc ++ Ve a b) bs (R tb (.loop f183l0) ρ bs (Qq 0 (QH tb f183r0 (QP f183 bs)))):=by
 have hend: ∀(a b acc:Qe) (o1 o2:Bool) (ρ:Ql),(a=[]\/b=[])->acc.length+a.length+b.length < 100000000->ρ 0= .sl o1 4 (Qb a)->ρ 1= .sl o2 4 (Qb b)->ρ 5= .sl true 4 (Qb acc)->
   UN (acc ++ Ve a b) bs (R tb f183r0 ρ bs (QP f183 bs)):=by
  intro a b acc o1 o2 ρ hab hl h0 h1 h5;have e:Ve a b=a ++ b:=by
   rcases hab with rfl | rfl
   ·rw[La];simp
   ·rw[NI];simp
  have hb1: (acc.length+a.length)*56<=140737488355328:=WI (by omega);have hb2: (acc.length+ (a.length+b.length))*56<=140737488355328:=WI (by clear hb1;omega);rw[e];refine⟨true,?_⟩;simp[h0,h1,h5,hb1,hb2,f183r0,ZB,V6]
 intro n
 induction n with
 | zero=>
  intro a b acc o1 o2 ρ hn hl hma hmb h0 h1 h5;have ha:a=[]:=YE (by omega);subst ha;have h2:=fun ρ=>hend [] b acc o1 o2 ρ (.inl rfl) hl;rw[Qg f183l0.eq_1];simp[h0,h1,h5,Qb];refine h2 _ ?_ ?_ ?_ <;> simp[h0,h1,h5]
 | succ n IH=>
  intro a b acc o1 o2 ρ hn hl hma hmb h0 h1 h5
  match a,b with
  | [],b=>
   have h2:=fun ρ=>hend [] b acc o1 o2 ρ (.inl rfl) hl;rw[Qg f183l0.eq_1];simp[h0,h1,h5,Qb];refine h2 _ ?_ ?_ ?_ <;> simp[h0,h1,h5]
  | x:: a,[]=>
   have h2:=fun ρ=>hend (x:: a) [] acc o1 o2 ρ (.inr rfl) hl;have hp: (0:Int) < (a.length:Int)+1:=by omega
   rw[Qg f183l0.eq_1];simp[h0,h1,h5,hp];refine h2 _ ?_ ?_ ?_ <;> simp[h0,h1,h5]
  | x:: a,y:: b=>
   simp only[ZL]at hn hl;have hp: (0:Int) < (a.length:Int)+1:=by omega
   have hp2: (0:Int) < (b.length:Int)+1:=by omega
   have hp3: (1:Int)<=(a.length:Int)+1:=by omega
   have hp4: (1:Int)<=(b.length:Int)+1:=by omega
   have hc:=call_Compare x y bs (hma x (by simp)) (hmb y (by simp));have hb: (acc.length+1)*56<=140737488355328:=WI (by omega);have et: (Qb (x:: a)).take ((Qb (x:: a)).length)=Qb (x:: a):=List.take_length;have i1:=fun ρ=>IH a (y:: b) (acc ++ [x]) false o2 ρ (by simp;omega) (by simp;omega) (fun z hz=>hma z (by simp[hz])) hmb;have i2:=fun ρ=>IH (x:: a) b (acc ++ [y]) o1 false ρ (by simp;omega) (by simp;omega) hma (fun z hz=>hmb z (by simp[hz]));have i3:=fun ρ=>IH a b acc false false ρ (by omega) (by omega) (fun z hz=>hma z (by simp[hz])) (fun z hz=>hmb z (by simp[hz]));rw[Qg f183l0.eq_1,NH];clear hn;by_cases h1':Qp x y < 0
   ·simp only[h1',Zl];simp only[ZR,WV,X3]at i1;simp[h0,h1,h5,hp,hp2,hp3,hc,h1',hb,ZV,ZB,Nn,Np];refine i1 _ ?_ ?_ ?_ <;> simp[h1]
   ·by_cases h2':0 < Qp x y
    ·simp only[h1',h2',Zl,Zd];simp only[ZR,WV,X3]at i2;simp[h0,h1,h5,hp,hp2,hp4,hc,h1',h2',hb,ZV,ZB,Nn,Np];refine i2 _ ?_ ?_ ?_ <;> simp[h0]
    ·simp only[h1',h2',Zd];simp[h0,h1,h5,hp,hp2,hp3,hp4,hc,h1',h2',Nn,Np];refine i3 _ ?_ ?_ ?_ <;> simp[h5]
def IB (a b:Qe) (o1 o2:Bool) (bs:Qa) (hl:a.length+b.length < 100000000) (hma: ∀x∈a,x.mass < big) (hmb: ∀x∈b,x.mass < big):
  UN (Ve a b) bs (call tb 183 [.sl o1 4 (Qb a),.sl o2 4 (Qb b)] bs):=by
 have h:=fun ρ=>Qdu bs _ a b [] false false ρ (ZJ _) (by simp;omega) hma hmb;simp only[X3]at h;rw[zcc 183 rfl rfl];simp[f183C];refine h _ ?_ ?_ ?_ <;> simp[Qb]
def Qga (t:Tm) (bs:Qa) (hm:t.mass < 30000000) (ih: ∀x∈t.kids,∀bs,UN (ZP x) bs (call tb 182 [.agg (Qf x)] bs)):
  ∀(post pre acc:Qe) (o:Bool) (ρ:Ql),t.kids=pre ++ post->acc.length+QB post < 30000000->Asc acc->(∀x∈acc,x.mass < big)->ρ 3= .sl o 4 (Qb acc)->ρ 31= .sl false 4 (Qb t.kids)->ρ 32= .int .i64 t.kids.length->ρ 33= .int .i64 pre.length->
  R tb (.loop f182l0) ρ bs (Qq 1 (QH tb f182r0 (Qq 0 (QH tb f182r1 (QP f182 bs)))))=some (.sl false 4 (Qb (Yw acc post)),bs):=by
 have hmk:=QF t;intro post
 induction post with
 | nil=>
  intro pre acc o ρ hk ha has hma h3 h31 h32 h33;simp only[QN]at hk;rw[<- hk]at h33;rw[Qg f182l0.eq_1];simp[h3,h31,h32,h33,f182r0,Yw]
 | cons x post IH=>
  intro pre acc o ρ hk ha has hma h3 h31 h32 h33;have hg:=Qx hk;have hll:=QL hk;have hw1:=wr1 pre.length (by omega);have hlt:=QO hk;have hxk:x∈t.kids:=by rw[hk];simp
  have hxm:=Q4 hxk;have hxn:=Yx x;have hsl:=PU x;simp only[QB]at ha;obtain⟨o1,hc1⟩:=ih x hxk bs;have hsm: ∀y∈ZP x,y.mass < big:=fun y hy=>by have:=UR x y (PV x y hy);unfold big;omega
  obtain⟨o2,hc2⟩:=IB acc (ZP x) false false bs (by omega) hma hsm;rw[Do has (TJ x)]at hc2;have hpl:=U3 (ZP x) acc;have hpm: ∀y∈Xb acc (ZP x),y.mass < big:=fun y hy=>by
   rcases U0 (TJ x) hy with h | h
   ·exact hma y h
   ·exact hsm y h
  have h2:=fun ρ=>IH (pre ++ [x]) (Xb acc (ZP x)) o2 ρ (by rw[hk];simp) (by omega) (Rq _ _ has) hpm;rw[Qg f182l0.eq_1];simp[h3,h31,h32,h33,hg,hlt,hw1,Qk,hc1,hc2,Yw];refine h2 _ ?_ ?_ ?_ ?_ <;> simp[h31,h32]
def Hs: ∀(t:Tm) (bs:Qa),t.mass < 30000000->UN (ZP t) bs (call tb 182 [.agg (Qf t)] bs):=by
 refine Yn ?_;intro k n s ks ih bs hm;have hmk:=QF (.mk k n s ks);have hnm:=YP ks;simp only[Zx,Z7]at hmk;have hl:=fun ρ=>Qga (.mk k n s ks) bs hm (fun x hx bs=>ih x hx bs (by have:=Q4 hx;simp at this;omega)) ks [] [] true ρ rfl (by simp;omega) Asc.nil (by simp);simp only[Zx]at hl;rw[zcc 182 rfl rfl];by_cases hk:k=3
 ·by_cases hz:n=Yh
  ·cases ks with
   | nil=>
    refine⟨true,?_⟩;simp[f182C,Qf,Qb,ZP,hk,hz,Yh]
   | cons x xs=>
    refine⟨true,?_⟩;simp only[Yh]at hz;have: ¬((xs.length:Int)+1=0):=by omega
    simp[f182C,Qf,ZP,hk,hz,Yh,XOR,this,Qb,f182r1]
  ·by_cases hx:n=XOR
   ·refine⟨false,?_⟩;have e:ZP (.mk k n s ks)=Yw [] ks:=by simp[ZP,hk,hx,Yh,XOR]
    rw[e];simp only[XOR]at hx;simp[f182C,Qf,hk,hx];refine hl _ ?_ ?_ ?_ ?_ <;> simp[Qb]
   ·refine⟨true,?_⟩;have e:ZP (.mk k n s ks)=[.mk k n s ks]:=by simp[ZP,hk,hx,hz]
    rw[e];have hb1: (n == [122,101,114,111])=false:=by simpa[Yh]using hz
    have hb2: (n == [120,111,114])=false:=by simpa[XOR]using hx
    simp[f182C,Qf,hk,hb1,hb2,Qb,f182r1]
 ·refine⟨true,?_⟩;have e:ZP (.mk k n s ks)=[.mk k n s ks]:=by simp[ZP,hk]
  rw[e];simp[f182C,Qf,hk,Qb,f182r1]
def Hp (t u:Tm) (o:Bool) (bs:Qa) (ht:t.mass < big) (hu:u.mass < big):call tb 185 [.agg (Qf t),.sl o 1 [],.agg (Qf u)] bs=some (.tup [.agg (Qf u),.int .i64 0],bs):=by
 have h1:=fun bs=>Nb t bs ht;have h2:=fun bs=>Nb u bs hu;rw[zcc 185 rfl rfl];have e1: ∀x y:Qh,(bs ++ [x]).set bs.length y=bs ++ [y]:=fun x y=>by rw[Pp];simp
 simp[f185C,h1,Qk,e1,put];rw[Qg f185l0.eq_1];simp[f185r0,h2,Qk,e1,put]
abbrev My:=List (List Tm)
def Ra (ls:My):Qa:=ls.map fun l=>[AV.sl false 4 (Qb l)]
def IQ {ls pre post:My} {x:Qe} (h:ls=pre ++ x:: post): (Ra ls)[pre.length]? =some [AV.sl false 4 (Qb x)]:=by subst h;simp[Ra]
def IR (ls:My): (Ra ls).length=ls.length:=by simp[Ra]
def QcJ (n:Nat) (bs:Qa) (hn:n < 100000000):call tb 181 [.gs 0 0 0 0,.int .i64 n] bs=some (.sl true 4 [],bs):=by
 rw[Wx tb_181];simp only[Lt];rw[Qn];refine⟨by omega,?_,by omega⟩;simp;exact WI (by omega)
def QaP (ls:My) (bs:Qa) (hl:ls.length < 1000) (hf:ls.flatten.length < 100000000):
  ∀(post pre:My) (ρ:Ql),ls=pre ++ post->ρ 6= .sl true 4 (Qb pre.flatten)->ρ 25= .sl false 1 (Ra ls)->ρ 26= .int .i64 ls.length->ρ 27= .int .i64 pre.length->
  R tb (.loop f180l1) ρ bs (Qq 2 (QH tb f180r0 (QP f180 bs)))=some (.sl false 4 (Qb ls.flatten),bs):=by
 intro post
 induction post with
 | nil=>
  intro pre ρ hk h6 h25 h26 h27;simp only[QN]at hk;rw[<- hk]at h27 h6;rw[Qg f180l1.eq_1];simp[h6,h25,h26,h27,f180r0]
 | cons x post IH=>
  intro pre ρ hk h6 h25 h26 h27;have hg:=IQ hk;have hll:=QL hk;have hw1:=wr1 pre.length (by omega);have hlt:=QO hk;have hfl:ls.flatten.length=pre.flatten.length+ (x.length+post.flatten.length):=by rw[hk];simp
  have hb: (pre.flatten.length+x.length)*56<=140737488355328:=WI (by omega);have h2:=IH (pre ++ [x]);have e: (pre ++ [x]).flatten=pre.flatten ++ x:=by simp
  rw[e]at h2;generalize pre.flatten=pf at *;rw[Qg f180l1.eq_1];simp[h6,h25,h26,h27,hg,hlt,hw1,hb,ZB];rw[h2] <;> simp[h25,h26,hk]
def QaO (ls:My) (bs:Qa) (hl:ls.length < 1000) (hf:ls.flatten.length < 100000000):
  ∀(post pre:My) (ρ:Ql),ls=pre ++ post->ρ 0= .sl false 1 (Ra ls)->ρ 3= .int .i64 pre.flatten.length->ρ 9= .sl false 1 (Ra ls)->ρ 10= .int .i64 ls.length->ρ 11= .int .i64 pre.length->
  R tb (.loop f180l0) ρ bs (Qq 0 (QH tb f180r1 (QP f180 bs)))=some (.sl false 4 (Qb ls.flatten),bs):=by
 intro post
 induction post with
 | nil=>
  intro pre ρ hk h0 h3 h9 h10 h11;simp only[QN]at hk;rw[<- hk]at h11 h3;have hc:=QcJ ls.flatten.length bs hf;have h1:=fun ρ=>QaP ls bs hl hf ls [] ρ rfl;generalize ls.flatten=lf at *;rw[Qg f180l0.eq_1];simp[h0,h3,h9,h10,h11,f180r1,hc];refine h1 _ ?_ ?_ ?_ ?_ <;> simp[h0,Qb,IR]
 | cons x post IH=>
  intro pre ρ hk h0 h3 h9 h10 h11;have hg:=IQ hk;have hll:=QL hk;have hw1:=wr1 pre.length (by omega);have hlt:=QO hk;have hfl:ls.flatten.length=pre.flatten.length+ (x.length+post.flatten.length):=by rw[hk];simp
  have hw2:IntKind.i64.wrap ((pre.flatten.length:Int)+ (x.length:Int))=(pre.flatten.length:Int)+ (x.length:Int):=Zb (by omega) (by omega);have hnn: ¬((pre.flatten.length:Int)+ (x.length:Int) < 0):=by omega
  have h2:=IH (pre ++ [x]);have e: ((pre ++ [x]).flatten.length:Int)=(pre.flatten.length:Int)+ (x.length:Int):=by simp
  rw[e]at h2;generalize (pre.flatten.length:Int)=pf at *;rw[Qg f180l0.eq_1];simp[h0,h3,h9,h10,h11,hg,hlt,hw1,hw2,hnn];rw[h2] <;> simp[h0,h9,h10,hk]
def LC (ls:My) (o:Bool) (bs:Qa) (hl:ls.length < 1000) (hf:ls.flatten.length < 100000000):
  call tb 180 [.sl o 1 (Ra ls)] bs=some (.sl false 4 (Qb ls.flatten),bs):=by
 have h:=fun ρ=>QaO ls bs hl hf ls [] ρ rfl;rw[zcc 180 rfl rfl];simp[f180C];refine h _ ?_ ?_ ?_ ?_ ?_ <;> simp[IR]
def VP:Qe->Int
 | []=>0
 | t:: ts=>if Zg t≠0 then Zg t else VP ts
def Qas (l:Qe) (bs:Qa) (hl:l.length < 100000000) (hm: ∀x∈l,x.mass < big): ∀(post pre:Qe) (ρ:Ql),l=pre ++ post->ρ 14= .sl false 4 (Qb l)->ρ 15= .int .i64 l.length->ρ 16= .int .i64 pre.length->
  R tb (.loop f179l0) ρ bs (Qq 0 (QH tb f179r0 (QP f179 bs)))=some (.int .i64 (VP post),bs):=by
 intro post
 induction post with
 | nil=>
  intro pre ρ hk h14 h15 h16;simp only[QN]at hk;rw[<- hk]at h16;rw[Qg f179l0.eq_1];simp[h14,h15,h16,f179r0,VP]
 | cons x post IH=>
  intro pre ρ hk h14 h15 h16;have hg:=Qx hk;have hll:=QL hk;have hw1:=wr1 pre.length (by omega);have hlt:=QO hk;have hc:=Ui x bs (hm x (by rw[hk];simp));rw[Qg f179l0.eq_1];by_cases hv:Zg x=0
  ·simp[h14,h15,h16,hg,hlt,hw1,Qk,hc,hv,VP];rw[IH (pre ++ [x])] <;> simp[h14,h15,hk]
  ·simp[h14,h15,h16,hg,hlt,hw1,Qk,hc,hv,VP]
def VT (l:Qe):Int:=if 200 < l.length then 3 else VP l
def AB (l:Qe) (o o2:Bool) (bs:Qa) (hl:l.length < 100000000) (hm: ∀x∈l,x.mass < big):call tb 179 [.sl o 4 (Qb l),.sl o2 4 []] bs=some (.int .i64 (VT l),bs):=by
 have h:=fun ρ=>Qas l bs hl hm l [] ρ rfl;have hc:=LC [l,[]] false bs (by simp) (by simpa using hl);simp only[Ra,Yf,Wr,Tw,List.flatten_nil,QN,Qb]at hc;rw[zcc 179 rfl rfl];by_cases h2:200 < l.length
 ·have h2': (200:Int) < (l.length:Int):=by omega
  simp[f179C,h2',h2,VT]
 ·have h2': ¬(200:Int) < (l.length:Int):=by omega
  simp[f179C,h2',h2,VT,hc];refine h _ ?_ ?_ ?_ <;> simp
def Qjc {c:Qh} {n p:Nat} {pre:Qe} {x:Tm} {v:AV} (hc:c.length=n*4) (hp:p=pre.length) (hlt:p < n) (ht: (c.map AV.strip).take (p*4)=Qy pre) (hv:v.strip= .sl false 4 (Qb x.kids)):
  ((c.take (p*4)++ (Qf x ++ c.drop (p*4+4))).set (p*4+3) v).length=n*4/\
  ((((c.take (p*4)++ (Qf x ++ c.drop (p*4+4))).set (p*4+3) v).map AV.strip).take ((p+1)*4))=Qy (pre ++ [x]):=by
 have h1: (c.take (p*4)).length=p*4:=by rw[Xf];omega
 have h2:=QZ x;refine⟨by simp[h1,h2,hc];omega,?_⟩;have e: (c.take (p*4)++ (Qf x ++ c.drop (p*4+4))).set (p*4+3) v=c.take (p*4)++ ([.int .i64 x.kind,.str x.name,.int .i64 x.sort,v]++ c.drop (p*4+4)):=by
  rw[Pp,Qm (by omega),h1,show p*4+3 - p*4=3 by omega,Zr];simp
 rw[e,UI,UI,Mt,ht];have h3: [AV.int .i64 x.kind,.str x.name,.int .i64 x.sort,v].map AV.strip=Qf x:=by rw[Zr];simp[hv]
 have hr: (Qy pre).length=p*4:=by rw[YR QZ,hp]
 rw[h3,<- ZR,Pb (by simp[hr,h2];omega),Yy (by simp[hr,h2];omega)];simp[Qy,Ua,OZ]
def K0:=@List.take_take
def QfC {c:Qh} {n p:Nat} {pre:Qe} {x:Tm} (hc:c.length=n*4) (hp:p=pre.length) (hlt:p < n) (ht: (c.map AV.strip).take ((p+1)*4)=Qy (pre ++ [x])) (hx:x.kids=[]):
  (c.take (p*4+3)++ ([AV.sl false 4 []]++ c.drop (p*4+3+1))).length=n*4/\
  ((c.take (p*4+3)++ ([AV.sl false 4 []]++ c.drop (p*4+3+1))).map AV.strip).take ((p+1)*4)=Qy (pre ++ [x]):=by
 have h1: (c.take (p*4+3)).length=p*4+3:=by rw[Xf];omega
 refine⟨by simp[h1,hc];omega,?_⟩;have hr:Qy (pre ++ [x])=Qy pre ++ [.int .i64 x.kind,.str x.name,.int .i64 x.sort]++ [.sl false 4 []]:=by
  simp[Qy,Ua,OZ,Zr,hx,Qb]
 have hl0: (Qy pre).length=p*4:=by rw[YR QZ,hp]
 have e1: (c.take (p*4+3)).map AV.strip=Qy pre ++ [.int .i64 x.kind,.str x.name,.int .i64 x.sort]:=by
  have h2: ((c.map AV.strip).take ((p+1)*4)).take (p*4+3)=(c.map AV.strip).take (p*4+3):=by rw[K0];congr 1;omega
  rw[Mt,<- h2,ht,hr,Pb (by simp[hl0]),Yy (by simp[hl0])]
 rw[UI,UI,e1,<- ZR,Pb (by simp[hl0];omega),Yy (by simp[hl0];omega),hr];simp
def QfB (l:Qe) (B:Qa) (hl:l.length < 100000000) (hne:l≠[]) (hm: ∀x∈l,x.mass < big) (ih: ∀x∈l,∀bs,UN x.kids bs (call tb 184 [.sl false 4 (Qb x.kids)] bs)):
  ∀(post pre:Qe) (c:Qh) (ρ:Ql),l=pre ++ post->c.length=l.length*4->(c.map AV.strip).take (pre.length*4)=Qy pre->ρ 3= .gs B.length 0 4 l.length->ρ 9= .sl false 4 (Qb l)->ρ 10= .int .i64 l.length->ρ 11= .int .i64 pre.length->
  UN l B (R tb (.loop f184l0) ρ (B ++ [c]) (Qq 0 (QH tb f184r0 (QP f184 B)))):=by
 have es: ∀x y:Qh,(B ++ [x]).set B.length y=B ++ [y]:=fun x y=>by rw[Pp];simp
 have eg: ∀x:Qh,(B ++ [x])[B.length]? =some x:=fun x=>YZ;intro post
 induction post with
 | nil=>
  intro pre c ρ hk hc ht h3 h9 h10 h11;simp only[QN]at hk;rw[<- hk]at h11 ht;have hz: ¬l.length=0:=fun e=>hne (YE e);have hch:ZX c 0 4 l.length=Qb l:=by
   have e1:c.map AV.strip=Qy l:=by rw[<- ht,Yy (by simp[hc])]
   have e2:ZX c 0 4 l.length=ZX (c.map AV.strip) 0 4 l.length:=by
    unfold ZX;apply Pi;intro k _;rw[<- K5,<- Mt,Mw];apply Pi;intro v _;exact(LV v).symm
   rw[e2,e1];have:=Wh (f:=Qf) (k:=4) QZ Z6 l [];rw[TP,QN]at this;exact this
  have hg:Zw (Qb l)=true:=XT l;have hle:l.length*4<=c.length:=by omega
  refine⟨true,?_⟩;rw[Qg f184l0.eq_1];simp[h3,h9,h10,h11,f184r0,Yk,hz,hne,hle,es,hch]
 | cons x post IH=>
  intro pre c ρ hk hc ht h3 h9 h10 h11;have hg:=Qx hk;have hll:=QL hk;have hw1:=wr1 pre.length (by omega);have hlt:=QO hk;have hlt':pre.length < l.length:=by omega
  have hx:=hm x (by rw[hk];simp);have hc1:=fun bs=>Hp x x true bs hx hx;obtain⟨o,hc2⟩:=ih x (by rw[hk];simp) (B ++ [c.take (pre.length*4)++ (Qf x ++ c.drop (pre.length*4+4))]);have hle:pre.length*4+4<=c.length:=by omega
  obtain⟨p1,p2⟩:=Qjc (v:= .sl o 4 (Qb x.kids)) hc rfl hlt' ht rfl;have hle2:pre.length*4+3 < (c.take (pre.length*4)++ (Qf x ++ c.drop (pre.length*4+4))).length:=by simp[QZ];omega
  generalize hcc:c.take (pre.length*4)++ (Qf x ++ c.drop (pre.length*4+4))=cc at *;have hgl: ∀h:pre.length < (Qb l).length,(Qb l)[pre.length]=Qf x:=fun h=>by
   have:=Zv h;rw[MP,hg]at this;injection this with this;exact this.symm
  rw[Qg f184l0.eq_1];by_cases hkz:x.kids=[]
  ·obtain⟨p3,p4⟩:=QfC p1 rfl hlt' p2 hkz;have hle3:pre.length*4+3+1<=(cc.set (pre.length*4+3) (.sl o 4 (Qb x.kids))).length:=by rw[p1];omega
   have i1:=fun ρ=>IH (pre ++ [x]) _ ρ (by rw[hk];simp) p3 (by simpa using p4);rw[hkz]at hc2 hle3 i1;have hle3':pre.length*4+3+1<=cc.length:=by simpa using hle3
   simp only[Qb,WV,X3]at hc2 hle3 i1;simp[h3,h9,h10,h11,hg,hgl,hlt,hlt',hw1,Qk,hc1,eg,es,hle,hcc,hc2,hle2,hkz,Qb,hle3',QZ];refine i1 _ ?_ ?_ ?_ ?_ <;> simp[h3,h9,h10]
  ·have hkl: ¬(x.kids.length:Int)=0:=by
    intro e;exact hkz (YE (by omega))
   have i1:=fun ρ=>IH (pre ++ [x]) _ ρ (by rw[hk];simp) p1 (by simpa using p2);simp[h3,h9,h10,h11,hg,hgl,hlt,hlt',hw1,Qk,hc1,eg,es,hle,hcc,hc2,hle2,hkz,hkl,QZ];refine i1 _ ?_ ?_ ?_ ?_ <;> simp[h3,h9,h10]
def Qds (l:Qe) (o:Bool) (bs:Qa) (hl:l.length < 100000000) (hm: ∀x∈l,x.mass < big) (ih: ∀x∈l,∀bs,UN x.kids bs (call tb 184 [.sl false 4 (Qb x.kids)] bs)):
  UN l bs (call tb 184 [.sl o 4 (Qb l)] bs):=by
 have hb:l.length*56<=140737488355328:=WI (by omega);have hb2: (l.length:Int)<=4611686018427387904:=by omega
 rw[zcc 184 rfl rfl];by_cases hne:l=[]
 ·subst hne;refine⟨false,?_⟩;simp[f184C,Qb];rw[Qg f184l0.eq_1];simp[f184r0,Yk]
 ·have h:=fun c hc ρ=>QfB l bs hl hne hm ih l [] c ρ rfl hc (by simp[YG]);have hlen: (List.replicate l.length [AV.int .i64 0,.str [],.int .i64 0,.sl true 4 []]).flatten.length=l.length*4:=by simp
  have h2:=h _ hlen;simp[f184C,hb,hb2];refine h2 _ ?_ ?_ ?_ ?_ <;> simp
def QfA: ∀(t:Tm) (bs:Qa),t.mass < 100000000->UN t.kids bs (call tb 184 [.sl false 4 (Qb t.kids)] bs):=by
 refine Yn ?_;intro k n s ks ih bs hm;have hmk:=QF (.mk k n s ks);simp only[Zx,Z7]at hmk ⊢;exact Qds ks false bs (by omega) (fun x hx=>by have:=Q4 hx;unfold big;omega) fun x hx bs=>ih x hx bs (by have:=Q4 hx;omega)
def QeK (l:Qe) (o:Bool) (bs:Qa) (hl:l.length < 100000000) (hm: ∀x∈l,x.mass < 100000000):UN l bs (call tb 184 [.sl o 4 (Qb l)] bs):=
 Qds l o bs hl (fun x hx=>by have:=hm x hx;unfold big;omega) fun x hx bs=>QfA x bs (hm x hx)
def QG:Tm:= .mk 0 [] 0 []
def Q8:Qf QG=[.int .i64 0,.str [],.int .i64 0,.sl false 4 []]:=by simp[QG,Qf,Qb]
def tmX:Qe->Tm
 | []=> .mk 3 Yh 0 []
 | [p]=>p
 | p:: q:: r=> .mk 3 XOR 0 (p:: q:: r)
def WA (l:Qe):Tm×Int:=if VT l≠0 then(QG,VT l)else if Zg (tmX (Yw [] l))≠0 then(QG,3)else(tmX (Yw [] l),0)
def Zm (r:Tm×Int):AV:= .tup [.agg (Qf r.1),.int .i64 r.2]
def Jz (t:Tm): ∀l:Qe,Qt (Xn t l)<=Qt l+t.mass
 | []=>by simp[Xn,Qt]
 | x:: xs=>by
  have:=Jz t xs;simp only[Xn];split
  ·simp only[Qt];omega
  ·split
   ·simp only[Qt];omega
   ·simp only[Qt];omega
def Qaf (l:Qe) (t:Tm):Qt (V2 l t)<=Qt l+t.mass:=by
 unfold V2;split
 ·have: ∀(l:Qe) (p:Tm->Bool),Qt (l.filter p)<=Qt l:=by
   intro l p
   induction l with
   | nil=>simp
   | cons x xs ih=>
    rw[OH];split <;> simp only[Qt] <;> omega
  have:=this l (fun x=> !decide (Qp x t=0));omega
 ·exact Jz t l
def LQ: ∀(b a:Qe),Qt (Xb a b)<=Qt a+Qt b
 | [],a=>by simp[Xb,Qt]
 | x:: b,a=>by
  have h1:=LQ b (V2 a x);have h2:=Qaf a x;simp only[Xb,OJ,Qt]at *;omega
mutual
theorem Qae: ∀t:Tm,Qt (ZP t)<=t.mass
 | .mk k n s ks=>by
  simp only[ZP];split
  ·simp[Qt]
  ·split
   ·have:=RH ks [];simp only[Qt,Tm.mass]at *;omega
   ·simp[Qt]
theorem RH: ∀(ts acc:List Tm),Qt (Yw acc ts)<=Qt acc+Qt ts
 | [],acc=>by simp[Yw,Qt]
 | t:: ts,acc=>by
  have h1:=RH ts (Xb acc (ZP t));have h2:=LQ (ZP t) acc;have h3:=Qae t;simp only[Yw,Qt]at *;omega
end
def DV (l:Qe): (tmX l).mass<=10+l.length+Qt l:=by
 unfold tmX;split
 ·simp[Tm.mass,Qt,Yh]
 ·simp[Qt]
 ·simp[Tm.mass,Qt,XOR]
def Qet (l:Qe) (bs:Qa) (hm:Qt l < 20000000) (hl:l.length < 20000000) (k:Kn)
  (hk0: ∀(o:Bool) (ρ:Ql),ρ 2= .bx [.int .i64 0,.str [],.int .i64 0,.sl true 4 []]->ρ 5= .sl o 4 (Qb (Yw [] l))->R tb f178r0 ρ bs (QP f178 bs)=some (Zm (WA l),bs)):
  ∀(post pre acc:Qe) (o:Bool) (ρ:Ql),l=pre ++ post->Yw acc post=Yw [] l->acc.length+QB post < 25000000->Asc acc->(∀x∈acc,x.mass < big)->ρ 2= .bx [.int .i64 0,.str [],.int .i64 0,.sl true 4 []]->ρ 5= .sl o 4 (Qb acc)->ρ 15= .sl false 4 (Qb l)->ρ 16= .int .i64 l.length->ρ 17= .int .i64 pre.length->
  R tb (.loop f178l0) ρ bs (Qq 0 (QH tb f178r0 (QP f178 bs)))=some (Zm (WA l),bs):=by
 intro post
 induction post with
 | nil=>
  intro pre acc o ρ hk he ha has hma h2 h5 h15 h16 h17;simp only[QN]at hk;rw[<- hk]at h17;simp only[Yw]at he;subst he;rw[Qg f178l0.eq_1];simp[h5,h15,h16,h17];refine hk0 o _ ?_ ?_ <;> simp[h2,h5]
 | cons x post IH=>
  intro pre acc o ρ hk he ha has hma h2 h5 h15 h16 h17;have hg:=Qx hk;have hll:=QL hk;have hw1:=wr1 pre.length (by omega);have hlt:=QO hk;have hxl:x∈l:=by rw[hk];simp
  have hxm:=Q4 hxl;have hxn:=Yx x;have hsl:=PU x;simp only[QB]at ha;obtain⟨o1,hc1⟩:=Hs x bs (by omega);have hsm: ∀y∈ZP x,y.mass < big:=fun y hy=>by have:=UR x y (PV x y hy);unfold big;omega
  obtain⟨o2,hc2⟩:=IB acc (ZP x) false false bs (by omega) hma hsm;rw[Do has (TJ x)]at hc2;have hpl:=U3 (ZP x) acc;have hpm: ∀y∈Xb acc (ZP x),y.mass < big:=fun y hy=>by
   rcases U0 (TJ x) hy with h | h
   ·exact hma y h
   ·exact hsm y h
  have i2:=fun ρ=>IH (pre ++ [x]) (Xb acc (ZP x)) o2 ρ (by rw[hk];simp) he (by omega) (Rq _ _ has) hpm;rw[Qg f178l0.eq_1];simp[h5,h15,h16,h17,hg,hlt,hw1,Qk,hc1,hc2];refine i2 _ ?_ ?_ ?_ ?_ ?_ <;> simp[h2,h15,h16]
def Ed (l:Qe) (o:Bool) (bs:Qa) (hm:Qt l < 20000000) (hl:l.length < 20000000):call tb 178 [.sl o 4 (Qb l)] bs=some (Zm (WA l),bs):=by
 have hr:=AB l false true bs (by omega) (fun x hx=>by have:=Q4 hx;unfold big;omega);have hn:=YP l;have hk0:VT l=0->∀(o:Bool) (ρ:Ql),ρ 2= .bx [.int .i64 0,.str [],.int .i64 0,.sl true 4 []]->ρ 5= .sl o 4 (Qb (Yw [] l))->R tb f178r0 ρ bs (QP f178 bs)=some (Zm (WA l),bs):=by
  intro hr0 o ρ h2 h5;have h1:=NP l [];have h3:=RH l [];have h4:=DV (Yw [] l);simp only[Qt,Yz,Zk]at h1 h3;obtain⟨o3,ho⟩:=QeK (Yw [] l) false bs (by omega) (fun x hx=>by have:=Q4 hx;omega);have hv:=Ui (tmX (Yw [] l)) bs (by unfold big;omega);have es:WA l=if Zg (tmX (Yw [] l))≠0 then(QG,3)else(tmX (Yw [] l),0):=by simp[WA,hr0]
  rw[es];generalize Yw [] l=ps at *
  match ps with
  | []=>
   have e1:Qf (tmX [])=[.int .i64 3,.str Yh,.int .i64 0,.sl false 4 []]:=by simp[tmX,Qf,Qb]
   rw[e1]at hv;simp only[Yh]at hv e1;simp only[Qb]at ho h5;by_cases h:Zg (tmX [])=0
   ·simp[f178r0,h5,ho,h2,hv,h,Zm,e1]
   ·simp[f178r0,h5,ho,h2,hv,h,Zm,Q8]
  | [p]=>
   simp only[tmX]at hv ⊢;by_cases h:Zg p=0
   ·simp[f178r0,h5,ho,h2,hv,h,Zm,Qk]
   ·simp[f178r0,h5,ho,h2,hv,h,Zm,Q8,Qk]
  | p:: q:: r=>
   have e1:Qf (tmX (p:: q:: r))=[.int .i64 3,.str XOR,.int .i64 0,.sl false 4 (Qb (p:: q:: r))]:=by simp[tmX,Qf]
   rw[e1]at hv;simp only[XOR]at hv e1;have n1: ¬((r.length:Int)+1+1=0):=by omega
   have n2: ¬((r.length:Int)+1+1=1):=by omega
   by_cases h:Zg (tmX (p:: q:: r))=0
   ·simp[f178r0,h5,ho,h2,hv,h,n1,n2,Zm,e1]
   ·simp[f178r0,h5,ho,h2,hv,h,n1,n2,Zm,Q8]
 rw[zcc 178 rfl rfl];by_cases h0:VT l=0
 ·have h:=fun ρ=>Qet l bs hm hl (QP f178 bs) (hk0 h0) l [] [] true ρ rfl rfl (by simp;omega) Asc.nil (by simp);simp[f178C,hr,h0];refine h _ ?_ ?_ ?_ ?_ ?_ <;> simp[Qb]
 ·have hb: (VT l != 0)=true:=by simp[h0]
  simp[f178C,hr,h0,hb,WA,Zm,Q8]
def Ay (bs:Qa):call tb 245 [] bs=some (.agg (Qf (.mk 3 Yh 0 [])),bs):=by
 have h:=IA Yh [] true bs (by simp);simp only[Yh,Qb]at h;rw[zcc 245 rfl rfl];simp[f245,f245C,h,Yh,Qk]
def D9 (l:Qe) (o:Bool) (bs:Qa) (hl:l.length < 100000000):call tb 251 [.sl o 4 (Qb l)] bs=some (.agg (Qf (tmX l)),bs):=by
 have h:=IA Yh [] true bs (by simp);simp only[Yh,Qb]at h;rw[zcc 251 rfl rfl]
 match l with
 | []=>simp[f251C,h,Yh,Qk,tmX]
 | [p]=>simp[f251C,Qk,tmX]
 | p:: q:: r=>
  have n1: ¬((r.length:Int)+1+1=0):=by omega
  have n2: ¬((r.length:Int)+1+1=1):=by omega
  have hb: (r.length+1+1)*56<=140737488355328:=WI (by simp at hl;omega);simp[f251C,n1,n2,hb,tmX,Qf,XOR]
def Fy (l:Qe) (t:Tm) (bs:Qa) (hl:l.length < 100000000) (hm: ∀x∈l,x.mass < big) (ht:t.mass < big): ∀(post pre:Qe) (ρ:Ql),l=pre ++ post->ρ 0= .sl false 4 (Qb l)->ρ 3= .bx (Qf t)->ρ 5= .int .i64 pre.length->
  R tb (.loop f246l0) ρ bs (Qq 0 (QH tb f246r0 (QP f246 bs)))=some (.int .i64 (if VP post≠0 then VP post else Zg t),bs):=by
 intro post
 induction post with
 | nil=>
  intro pre ρ hk h0 h3 h5;simp only[QN]at hk;rw[<- hk]at h5;have hc:=WM t bs ht;rw[Qg f246l0.eq_1];simp[h0,h3,h5,f246r0,VP,Qk,hc]
 | cons x post IH=>
  intro pre ρ hk h0 h3 h5;have hg:=Qx hk;have hll:=QL hk;have hw1:=wr1 pre.length (by omega);have hlt:=QO hk;have hc:=WM x bs (hm x (by rw[hk];simp));rw[Qg f246l0.eq_1];by_cases hv:Zg x=0
  ·simp only[VP,hv,ne_eq,KX,Zd];simp[h0,h3,h5,hg,hlt,hw1,Qk,hc,hv];have:=fun ρ=>IH (pre ++ [x]) ρ (by rw[hk];simp);simp only[ne_eq]at this;rw[this] <;> simp[h0,h3]
  ·simp[h0,h3,h5,hg,hlt,hw1,Qk,hc,hv,VP]
def QaN:Zg (.mk 3 Yh 0 [])=0:=by decide
def Ec (l:Qe) (o:Bool) (bs:Qa) (hl:l.length < 100000000) (hm: ∀x∈l,x.mass < big):call tb 246 [.sl o 4 (Qb l),.agg (Qf (.mk 3 Yh 0 []))] bs=some (.int .i64 (VT l),bs):=by
 have h:=fun ρ=>Fy l (.mk 3 Yh 0 []) bs hl hm (by simp[Tm.mass,Qt,Yh,big]) l [] ρ rfl;rw[QaN]at h;have e: (if VP l≠0 then VP l else 0)=VP l:=by split <;> simp_all
 rw[e]at h;rw[zcc 246 rfl rfl];by_cases h2:200 < l.length
 ·have h2': (200:Int) < (l.length:Int):=by omega
  simp[f246C,h2',h2,VT]
 ·have h2': ¬(200:Int) < (l.length:Int):=by omega
  simp[f246C,h2',h2,VT];refine h _ ?_ ?_ ?_ <;> simp
def Ah (l:Qe) (bs:Qa) (hm:Qt l < 20000000) (hl:l.length < 20000000)
  (hk0: ∀(o:Bool) (ρ:Ql),ρ 2= .bx [.int .i64 0,.str [],.int .i64 0,.sl true 4 []]->ρ 5= .sl o 4 (Qb (Yw [] l))->R tb f244r0 ρ bs (QP f244 bs)=some (Zm (WA l),bs)):
  ∀(post pre acc:Qe) (o:Bool) (ρ:Ql),l=pre ++ post->Yw acc post=Yw [] l->acc.length+QB post < 25000000->(∀x∈acc,x.mass < big)->ρ 0= .sl false 4 (Qb l)->ρ 2= .bx [.int .i64 0,.str [],.int .i64 0,.sl true 4 []]->ρ 5= .sl o 4 (Qb acc)->ρ 6= .int .i64 pre.length->
  R tb (.loop f244l0) ρ bs (Qq 0 (QH tb f244r0 (QP f244 bs)))=some (Zm (WA l),bs):=by
 intro post
 induction post with
 | nil=>
  intro pre acc o ρ hk he ha hma h0 h2 h5 h6;simp only[QN]at hk;rw[<- hk]at h6;simp only[Yw]at he;subst he;rw[Qg f244l0.eq_1];simp[h0,h5,h6];refine hk0 o _ ?_ ?_ <;> simp[h2,h5]
 | cons x post IH=>
  intro pre acc o ρ hk he ha hma h0 h2 h5 h6;have hg:=Qx hk;have hll:=QL hk;have hw1:=wr1 pre.length (by omega);have hlt:=QO hk;have hxl:x∈l:=by rw[hk];simp
  have hxm:=Q4 hxl;have hxn:=Yx x;have hsl:=PU x;simp only[QB]at ha;obtain⟨o1,hc1⟩:=J9 x bs (by omega);have hsm: ∀y∈ZP x,y.mass < big:=fun y hy=>by have:=UR x y (PV x y hy);unfold big;omega
  have hc2:=K9 acc (ZP x) false false bs (by omega) (by omega) hma hsm;have hpl:=U3 (ZP x) acc;have hpm: ∀y∈Xb acc (ZP x),y.mass < big:=fun y hy=>by
   rcases U0 (TJ x) hy with h | h
   ·exact hma y h
   ·exact hsm y h
  have i2:=fun ρ=>IH (pre ++ [x]) (Xb acc (ZP x)) false ρ (by rw[hk];simp) he (by omega) hpm;rw[Qg f244l0.eq_1];simp[h0,h5,h6,hg,hlt,hw1,Qk,hc1,hc2];refine i2 _ ?_ ?_ ?_ ?_ <;> simp[h0,h2]
def Ja (l:Qe) (o:Bool) (bs:Qa) (hm:Qt l < 20000000) (hl:l.length < 20000000):call tb 244 [.sl o 4 (Qb l)] bs=some (Zm (WA l),bs):=by
 have hr:=Ec l false bs (by omega) (fun x hx=>by have:=Q4 hx;unfold big;omega);have hz:=Ay bs;have hn:=YP l;have hk0:VT l=0->∀(o:Bool) (ρ:Ql),ρ 2= .bx [.int .i64 0,.str [],.int .i64 0,.sl true 4 []]->ρ 5= .sl o 4 (Qb (Yw [] l))->R tb f244r0 ρ bs (QP f244 bs)=some (Zm (WA l),bs):=by
  intro hr0 o ρ h2 h5;have h1:=NP l [];have h3:=RH l [];have h4:=DV (Yw [] l);simp only[Qt,Yz,Zk]at h1 h3;have ht:=D9 (Yw [] l) false bs (by omega);have hv:=WM (tmX (Yw [] l)) bs (by unfold big;omega);have es:WA l=if Zg (tmX (Yw [] l))≠0 then(QG,3)else(tmX (Yw [] l),0):=by simp[WA,hr0]
  rw[es];generalize tmX (Yw [] l)=u at *;generalize Yw [] l=ps at *;by_cases h:Zg u=0
  ·simp[f244r0,h5,ht,h2,hv,h,Zm,Qk]
  ·simp[f244r0,h5,ht,h2,hv,h,Zm,Q8,Qk]
 rw[zcc 244 rfl rfl];by_cases h0:VT l=0
 ·have h:=fun ρ=>Ah l bs hm hl (hk0 h0) l [] [] true ρ rfl rfl (by simp;omega) (by simp);simp[f244C,hz,hr,h0];refine h _ ?_ ?_ ?_ ?_ <;> simp[Qb]
 ·have hb: (VT l != 0)=true:=by simp[h0]
  simp[f244C,hz,hr,h0,hb,WA,Zm,Q8]
def CL (t:Tm) (hm:t.mass < big) (hne:t.kids≠[]) (ih: ∀x∈t.kids,∀bs,call tb 192 [.agg (Qf x)] bs=some (.agg (Qf x),bs)) (B:Qa):
  ∀(post pre:Qe) (ρ:Ql),t.kids=pre ++ post->ρ 1= .bx [.int .i64 t.kind,.str t.name,.int .i64 t.sort,.gs B.length 0 4 t.kids.length]->ρ 2= .bx [.int .i64 0,.str [],.int .i64 0,.sl true 4 []]->
   ρ 10= .gs B.length 0 4 t.kids.length->ρ 11= .int .i64 t.kids.length->ρ 12= .int .i64 pre.length->
  R tb (.loop f192l0) ρ (B ++ [Qy t.kids]) (Qq 0 (QH tb f192r0 (QP f192 B)))=some (.agg (Qf t),B):=by
 have hm2:=QF t;unfold big at hm;have es: ∀x y:Qh,(B ++ [x]).set B.length y=B ++ [y]:=fun x y=>by rw[Pp];simp
 have eg: ∀x:Qh,(B ++ [x])[B.length]? =some x:=fun x=>YZ;have hlen: (Qy t.kids).length=t.kids.length*4:=YR QZ _;have hst: (Qy t.kids).map AV.strip=Qy t.kids:=Xx Z6 _;intro post
 induction post with
 | nil=>
  intro pre ρ hk h1 h2 h10 h11 h12;simp only[QN]at hk;rw[<- hk]at h12;have hch:ZX (Qy t.kids) 0 4 t.kids.length=Qb t.kids:=by
   have:=Wh (f:=Qf) (k:=4) QZ Z6 t.kids [];rw[TP,QN]at this;exact this
  have hz: ¬t.kids.length=0:=fun e=>hne (YE e);rw[Qg f192l0.eq_1];simp[h1,h2,h10,h11,h12,f192r0,hz,hne,hlen,hch,es,eg,UV,Tm.eta]
 | cons x post IH=>
  intro pre ρ hk h1 h2 h10 h11 h12;have hl:=QL hk;have hw1:=wr1 pre.length (by omega);have hlt:=QO hk;have hlt':pre.length < t.kids.length:=by omega
  have r1: ((Qy t.kids).drop (pre.length*4)).take 4=Qf x:=by
   have:=Ux (f:=Qf) (k:=4) QZ hk [];simpa using this
  have hput: (Qy t.kids).take (pre.length*4)++ (Qf x ++ (Qy t.kids).drop (pre.length*4+4))=Qy t.kids:=by
   have:=R0 (f:=Qf) (k:=4) QZ x hk [];rw[<- hk]at this;simpa using this
  have hle:pre.length*4+4<=t.kids.length*4:=by omega
  have hc:=ih x (by rw[hk];simp);have h2':=IH (pre ++ [x]);rw[Qg f192l0.eq_1];generalize Qy t.kids=c at *;simp[h1,h2,h10,h11,h12,hw1,hlt,hlt',eg,es,hlen,hle,hst,r1,hc,hput];refine h2' _ (by rw[hk];simp) ?_ ?_ ?_ ?_ ?_ <;> simp[h1,h2,h10,h11]
def S9: ∀(t:Tm) (bs:Qa),t.mass < big->call tb 192 [.agg (Qf t)] bs=some (.agg (Qf t),bs):=by
 refine Yn ?_;intro k n s ks ih bs hm;have hme:=QF (.mk k n s ks);simp only[Zx,Z7]at hme;have hb:ks.length*56<=140737488355328:=by unfold big at hm;omega
 rw[zcc 192 rfl rfl];have ho:call tb 193 [.sl false 4 (Qb ks)] bs=if ks.length=0 then some (.gs 0 0 0 0,bs)else some (.gs bs.length 0 4 ks.length,bs ++ [Qy ks]):=by
  have hst: (Qy ks).map AV.strip=Qy ks:=Xx Z6 _;rw[Wx tb_193];simp only[XC,Zl,TA,UW,hb,XT,Jj,hst]
 by_cases hk:ks=[]
 ·subst hk;simp[f192C,Zr,Qb]at ho ⊢;simp[ho];rw[Qg f192l0.eq_1];simp[f192r0]
 ·have hz: ¬ks.length=0:=fun e=>hk (YE e);rw[Qm hz]at ho;have hl:=fun ρ=>CL (.mk k n s ks) hm hk (fun x hx bs=>ih x hx bs (by have:=Q4 (show x∈ks from hx);omega)) bs ks [] ρ rfl;simp only[Tg,Z7,S1,Zx]at hl;simp[f192C];simp[Zr,ho];have e:AV.agg [.int .i64 k,.str n,.int .i64 s,.sl false 4 (Qb ks)]= .agg (Qf (.mk k n s ks)):=by rw[Zr];rfl
  rw[e];refine hl _ ?_ ?_ ?_ ?_ ?_ <;> simp
abbrev Pw:=Tm×Int
def Zq (p:Pw):Qh:=Qf p.1 ++ [.int .i64 p.2]
abbrev Qj:=List Pw
def QE (l:Qj):Qa:=l.map Zq
abbrev QW (l:List Pw):List AV:=YG Zq l
def Bm (p:Pw):Zq p=[.int .i64 p.1.kind,.str p.1.name,.int .i64 p.1.sort,.sl false 4 (Qb p.1.kids),.int .i64 p.2]:=by simp[Zq,Zr]
@[simp] def W3 (p:Pw): (Zq p).length=5:=by simp[Zq]
@[simp] def VO (p:Pw): (Zq p).map AV.strip=Zq p:=by simp[Zq]
@[simp] def QoH (p:Pw): (Zq p).take 4=Qf p.1:=by simp[Zq]
@[simp] def QoI (p:Pw): (Zq p).take 5=Zq p:=Yy (by simp)
@[simp] def QqG (p:Pw): (Zq p)[4]? =some (.int .i64 p.2):=by simp[Zq]
@[simp] def Qqt (p:Pw) (h:4 < (Zq p).length): (Zq p)[4]= .int .i64 p.2:=by simp[Zq]
def OI:=@List.drop_append
@[simp] def QoG (p:Pw): (Zq p).drop 5=[]:=by simp[Zq,OI]
@[simp] def Qh6 (p:Pw):QY (Zq p)=true:=by simp[Zq,Oq]
@[simp] def Qpo (l:Qj): (QE l).length=l.length:=by simp[QE]
@[simp] def Qpn (l:Qj) (i:Nat): (QE l)[i]? =(l[i]?).map Zq:=by simp[QE]
def TV (a b:Qj):QE a ++ QE b=QE (a ++ b):=by simp[QE]
def TW (p:Pw): [Zq p]=QE [p]:=rfl
@[simp] def Nm: ∀l:Qj,Zw (QE l)=true
 | []=>rfl
 | p:: l=>by
  have:=Nm l;simp only[QE]at this ⊢;simp[Zw,this]
def Xu (l:Qj): (QW l).length=l.length*5:=YR W3 l
def CS (p:Pw) (t:Tm) (B:Qa) (hp:p.1.mass < big) (ht:t.mass < big):call tb 190 [.agg (Zq p),.agg (Qf t)] B=some (.int .i64 (Qp p.1 t),B):=by
 have h:=call_Compare p.1 t B hp ht;rw[zcc 190 rfl rfl];simp[f190,f190C,h]
def ZU (l:Qj):Qe:=l.map (·.1)
def PAt (l:Qj) (t:Tm) (k:Nat):Prop:=k<=l.length/\(∀(i:Nat) (p:Pw),l[i]? =some p->i < k->Qp p.1 t < 0)/\(∀(i:Nat) (p:Pw),l[i]? =some p->k<=i->¬Qp p.1 t < 0)
def hit (l:Qj) (t:Tm) (k:Nat):Bool:=match l[k]? with
 | some p=>decide (Qp p.1 t=0)
 | none=>false
def QjR (l:Qj) (t:Tm) (B:Qa) (r:Out):Prop:=∃k,PAt l t k/\r=some (.tup [.int .i64 k,.bool (hit l t k)],B)
def Ip {l:Qj} {i:Nat} {p:Pw} {c:Qh} (h: (c.drop (i*5)).take 5=Zq p): ((c.map AV.strip).drop (i*5)).take 5=Zq p:=by
 rw[<- K5,<- Mt,h,VO]
def OY {l:Qj} {i:Nat} {p:Pw} (h:l[i]? =some p) (c:Qh): ((QW l ++ c).drop (i*5)).take 5=Zq p:=by
 obtain⟨hi,rfl⟩:=V4.1 h;have hl:l=l.take i ++ l[i]:: l.drop (i+1):=by rw[List.getElem_cons_drop,KI]
 have:=Ux (f:=Zq) (k:=5) W3 hl c;rw[Xf,FV (by omega)]at this;exact this
def Qdc {i j:Nat} (h:i+j < 9223372036854775808):IntKind.i64.wrap (IntKind.u64.wrap (IntKind.i64.wrap ((i:Int)+ (j:Int))) / 2 ^ min 1 IntKind.u64.bits)=(((i+j) / 2:Nat):Int):=by
 rw[Zb (n:=(i:Int)+j) (by omega) (by omega)];have h1:IntKind.u64.wrap ((i:Int)+j)=(i:Int)+j:=by
  simp[IntKind.wrap,IntKind.bits,IntKind.signed];omega
 have h2: (2:Int) ^ min 1 IntKind.u64.bits=2:=by decide
 rw[h1,h2,Zb (by omega) (by omega)];omega
def KD:=@List.pairwise_iff_getElem
def QfD {l:Qj} {t:Tm} {B:Qa} {id sz:Nat} {c:Qh} (hl:l.length < 100000000) (hb:l≠[]->sz=5/\B[id]? =some (QW l ++ c)) (hm: ∀p∈l,p.1.mass < big) (ht:t.mass < big) (ha:Asc (ZU l)):
  ∀(d i j:Nat) (ρ:Ql),j - i<=d->i<=j->j<=l.length->(∀(k:Nat) (p:Pw),l[k]? =some p->k < i->Qp p.1 t < 0)->(∀(k:Nat) (p:Pw),l[k]? =some p->j<=k->¬Qp p.1 t < 0)->
  ρ 0= .gs id 0 sz l.length->ρ 4= .bx (Qf t)->ρ 2= .fn 190 []->ρ 8= .int .i64 l.length->ρ 9= .int .i64 i->ρ 10= .int .i64 j->
  QjR l t B (R tb (.loop f191l0) ρ B (Qq 0 (QH tb f191r0 (QP f191 B)))):=by
 have mono: ∀(i j:Nat) (p q:Pw),l[i]? =some p->l[j]? =some q->i<=j->Qp q.1 t < 0->Qp p.1 t < 0:=by
  intro i j p q hp hq hij h;rcases QR i j with hlt | hge
  ·obtain⟨h1,rfl⟩:=V4.1 hp;obtain⟨h2,rfl⟩:=V4.1 hq;have:=KD.1 ha i j (by simpa[ZU]using h1) (by simpa[ZU]using h2) hlt;simp only[ZU,List.getElem_map]at this;exact Xw this h
  ·have:i=j:=by omega
   subst this;rw[hp]at hq;injection hq with hq;subst hq;exact h
 intro d
 induction d with
 | zero=>
  intro i j ρ hd hij hj hlo hhi h0 h4 h2 h8 h9 h10;have:i=j:=by omega
  subst this;refine⟨i,⟨hj,hlo,hhi⟩,?_⟩;rw[Qg f191l0.eq_1];by_cases c1:i < l.length
  ·have hp:=Zv c1;obtain⟨rfl,hbx⟩:=hb (by intro e;subst e;simp at c1);have r1:=Ip (l:=l) (OY hp c);have hmp:=hm _ (Pk c1);have hle:i*5+5<=(QW l ++ c).length:=by rw[Zo,Xu];omega
   have c1': (i:Int) < (l.length:Int):=by omega
   have hh:hit l t i=decide (Qp l[i].1 t=0):=by simp[hit,hp]
   rw[hh];generalize l[i]=p at *;have h3:=CS p t B hmp ht;generalize QW l ++ c=cc at *;simp[f191r0,h0,h2,h4,h8,h9,h10,c1,c1',hbx,hle,r1,h3]
  ·have hh:hit l t i=false:=by simp[hit,Q3 (Nat.le_of_not_lt c1)]
   have c1': ¬(i:Int) < (l.length:Int):=by omega
   simp[f191r0,h0,h2,h4,h8,h9,h10,c1,c1',hh]
 | succ d IH=>
  intro i j ρ hd hij hj hlo hhi h0 h4 h2 h8 h9 h10;by_cases hlt:i < j
  ·have hmn: (i+j) / 2 < l.length:=by omega
   have hw:=Qdc (i:=i) (j:=j) (by omega);have hp:=Zv hmn;obtain⟨rfl,hbx⟩:=hb (by intro e;subst e;simp at hmn);have r1:=Ip (l:=l) (OY hp c);have hmp:=hm _ (Pk hmn);have hle: (i+j) / 2*5+5<=(QW l ++ c).length:=by rw[Zo,Xu];omega
   have hltI: (i:Int) < (j:Int):=by omega
   have hb1:i<=(i+j) / 2:=by omega
   have hb2: (i+j) / 2 < j:=by omega
   generalize l[(i+j) / 2]=p at *;generalize hmm: (i+j) / 2=m at *;have h3:=CS p t B hmp ht;have hw1:IntKind.i64.wrap ((m:Int)+1)=((m+1:Nat):Int):=by rw[Zb (by omega) (by omega)];omega
   have c1': (m:Int) < (l.length:Int):=by omega
   generalize hcc:QW l ++ c=cc at *;rw[Qg f191l0.eq_1];by_cases cc1:Qp p.1 t < 0
   ·have ih:=fun ρ=>IH (m+1) j ρ (by omega) (by omega) hj (fun k q hq hk=>mono k m q p hq hp (by omega) cc1) hhi;simp[-getElem?_pos,h0,h2,h4,h8,h9,h10,hltI,hw,hw1,c1',hmn,hbx,hle,r1,h3,cc1];refine ih _ ?_ ?_ ?_ ?_ ?_ ?_ <;> simp[h0,h2,h4,h8,h10]
   ·have ih:=fun ρ=>IH i m ρ (by omega) (by omega) (by omega) hlo (fun k q hq hk h=>cc1 (mono m k p q hp hq hk h));simp[-getElem?_pos,h0,h2,h4,h8,h9,h10,hltI,hw,hw1,c1',hmn,hbx,hle,r1,h3,cc1];refine ih _ ?_ ?_ ?_ ?_ ?_ ?_ <;> simp[h0,h2,h4,h8,h9]
  ·exact IH i j ρ (by omega) hij hj hlo hhi h0 h4 h2 h8 h9 h10
def Qg4 {l:Qj} {t:Tm} {B:Qa} {id sz:Nat} {c:Qh} (hl:l.length < 100000000) (hb:l≠[]->sz=5/\B[id]? =some (QW l ++ c)) (hm: ∀p∈l,p.1.mass < big) (ht:t.mass < big) (ha:Asc (ZU l)):
  QjR l t B (call tb 191 [.gs id 0 sz l.length,.agg (Qf t),.fn 190 []] B):=by
 have h:=fun ρ=>QfD hl hb hm ht ha l.length 0 l.length ρ (by omega) (by omega) (by omega) (fun k p _ hk=>by omega) (fun k p hp hk=>by rw[Q3 hk]at hp;cases hp);rw[zcc 191 rfl rfl];simp[f191C];refine h _ ?_ ?_ ?_ ?_ ?_ ?_ <;> simp
end Go.Am
