/-
  Rc8, Rc9, Rc10, Rc11, Rc12, Rc13.
-/
import Derived.Test.YthagbooipdejlaaGreatDoorG16
set_option linter.all false
open Go.Am.F
namespace Go.Am
set_option maxRecDepth 20000
def Wb (l:Qc) (t:Tm):Bool:=l.any fun x=>decide (Qp x t=0)
def Dl {l:Qc} {t:Tm}:Wb l t=true↔t∈l:=by
 simp only[Wb,UD,Qy];constructor
 ·rintro⟨x,hx,h⟩;rw[<- Y7 _ _ h];exact hx
 ·intro h;exact⟨t,h,Un t⟩
def V9 (l:Qc) (t:Tm):Qc:=if Wb l t then l.filter (fun x=> !decide (Qp x t=0))else ZO t l
def Xd (a b:Qc):Qc:=b.foldl V9 a
def A4 {l:Qc} (p:Tm->Bool) (h:Asc l):Asc (l.filter p):=K2 _ h
def Qfa {l:Qc} (t:Tm) (h:Asc l):Asc (V9 l t):=by
 unfold V9;split
 ·exact A4 _ h
 ·exact Kc h
def DC {l:Qc} {t y:Tm}:y∈V9 l t↔(y∈l/\y≠t)\/(y=t/\t ∉ l):=by
 unfold V9;split
 ·rename_i h;rw[Dl]at h;simp only[Pp,Rw,Sr,Wg];constructor
  ·rintro⟨h1,h2⟩;exact .inl ⟨h1,h2⟩
  ·rintro(⟨h1,h2⟩ | ⟨rfl,h2⟩)
   ·exact⟨h1,h2⟩
   ·exact absurd h h2
 ·rename_i h;rw[Dl]at h;rw[S5];constructor
  ·rintro(rfl | h1)
   ·exact .inr ⟨rfl,h⟩
   ·refine .inl ⟨h1,fun e=> ?_⟩;subst e;exact h h1
  ·rintro(⟨h1,h2⟩ | ⟨h1,h2⟩)
   ·exact .inr h1
   ·exact .inl h1
def Ry: ∀(b a:Qc),Asc a->Asc (Xd a b)
 | [],_,h=>h
 | x:: b,a,h=>Ry b _ (Qfa x h)
def Of {y:Tm}: ∀{b a:Qc},Asc b->(y∈Xd a b↔(y∈a/\y ∉ b)\/(y ∉ a/\y∈b))
 | [],a,_=>by simp[Xd]
 | x:: b,a,h=>by
  rw[XR]at h;have ih:=Of (y:=y) (b:=b) (a:=V9 a x) h.2;have hxb:x ∉ b:=fun hm=>Uf x (h.1 x hm);simp only[Xd,OQ]at ih ⊢;rw[ih,DC];simp only[Zt];by_cases e:y=x
  ·subst e;by_cases hy:y∈a <;> simp[hy,hxb]
  ·by_cases hy:y∈a <;> by_cases hb:y∈b <;> simp[hy,hb,e]
def Ta: ∀(b a:Qc),(Xd a b).length<=a.length+b.length
 | [],a=>by simp[Xd]
 | x:: b,a=>by
  have ih:=Ta b (V9 a x);have: (V9 a x).length<=a.length+1:=by
   unfold V9;split
   ·have:=Sh (fun y=> !decide (Qp y x=0)) a;omega
   ·exact Px x a
  simp only[Xd,OQ,ZM]at ih ⊢;omega
def Vi:List Tm->List Tm->List Tm
 | [],b=>b
 | a,[]=>a
 | x:: a,y:: b=>if Qp x y < 0 then x:: Vi a (y:: b)else if 0 < Qp x y then y:: Vi (x:: a) b else Vi a b
termination_by a b=>a.length+b.length
def Lt (b:Qc):Vi [] b=b:=by rw[Vi]
def NP (a:Qc):Vi a []=a:=by cases a <;> rw[Vi];simp
def NO (x y:Tm) (a b:Qc):Vi (x:: a) (y:: b)=if Qp x y < 0 then x:: Vi a (y:: b)else if 0 < Qp x y then y:: Vi (x:: a) b else Vi a b:=by rw[Vi]
def T3 {y:Tm}: ∀(n:Nat) (a b:Qc),a.length+b.length<=n->Asc a->Asc b->(y∈Vi a b↔(y∈a/\y ∉ b)\/(y ∉ a/\y∈b))
 | _,[],b,_,_,_=>by rw[Lt];simp
 | _,x:: a,[],_,_,_=>by rw[NP];simp
 | 0,x:: a,z:: b,h,_,_=>by simp at h
 | n+1,x:: a,z:: b,h,ha,hb=>by
  have ha0:=ha;have hb0:=hb;rw[XR]at ha hb;simp only[ZM]at h;rw[NO];split
  ·rename_i h1;rw[Zt,T3 n a (z:: b) (by simp;omega) ha.2 hb0];have hxb:x ∉ z:: b:=fun hm=>by
    rcases Zt.1 hm with e | e
    ·subst e;exact Uf x h1
    ·exact Uf x (Xo h1 (hb.1 x e))
   have hxa:x ∉ a:=fun hm=>Uf x (ha.1 x hm);by_cases e:y=x
   ·subst e;simp[hxb]
   ·simp[e]
  ·rename_i h1;split
   ·rename_i h2;have h2':=JG.1 h2;rw[Zt,T3 n (x:: a) b (by simp;omega) ha0 hb.2];have hza:z ∉ x:: a:=fun hm=>by
     rcases Zt.1 hm with e | e
     ·subst e;exact Uf z h2'
     ·exact Uf z (Xo h2' (ha.1 z e))
    have hzb:z ∉ b:=fun hm=>Uf z (hb.1 z hm);by_cases e:y=z
    ·subst e;simp[hza]
    ·simp[e]
   ·rename_i h2;have e0:=Y7 x z (by omega);subst e0;rw[T3 n a b (by omega) ha.2 hb.2];have hxa:x ∉ a:=fun hm=>Uf x (ha.1 x hm);have hxb:x ∉ b:=fun hm=>Uf x (hb.1 x hm);by_cases e:y=x
    ·subst e;simp[hxa,hxb]
    ·simp[e]
def P3: ∀(n:Nat) (a b:Qc),a.length+b.length<=n->Asc a->Asc b->Asc (Vi a b)
 | _,[],b,_,_,hb=>by rw[Lt];exact hb
 | _,x:: a,[],_,ha,_=>by rw[NP];exact ha
 | 0,x:: a,z:: b,h,_,_=>by simp at h
 | n+1,x:: a,z:: b,h,ha,hb=>by
  have ha0:=ha;have hb0:=hb;rw[XR]at ha hb;simp only[ZM]at h;rw[NO];split
  ·rename_i h1;rw[XR];refine⟨fun y hy=> ?_,P3 n a (z:: b) (by simp;omega) ha.2 hb0⟩;rw[T3 n a (z:: b) (by simp;omega) ha.2 hb0]at hy;rcases hy with⟨hy,_⟩ | ⟨_,hy⟩
   ·exact ha.1 y hy
   ·rcases Zt.1 hy with e | e
    ·subst e;exact h1
    ·exact Xo h1 (hb.1 y e)
  ·rename_i h1;split
   ·rename_i h2;have h2':=JG.1 h2;rw[XR];refine⟨fun y hy=> ?_,P3 n (x:: a) b (by simp;omega) ha0 hb.2⟩;rw[T3 n (x:: a) b (by simp;omega) ha0 hb.2]at hy;rcases hy with⟨hy,_⟩ | ⟨_,hy⟩
    ·rcases Zt.1 hy with e | e
     ·subst e;exact h2'
     ·exact Xo h2' (ha.1 y e)
    ·exact hb.1 y hy
   ·exact P3 n a b (by omega) ha.2 hb.2
def DM {a b:Qc} (ha:Asc a) (hb:Asc b):Vi a b=Xd a b:=
 Im (P3 _ a b (Zx _) ha hb) (Ry b a ha) fun x=>by rw[T3 _ a b (Zx _) ha hb,Of hb]
def Ym:Qv:=[122,101,114,111]
def XOR:Qv:=[120,111,114]
mutual
def Zy:Tm->List Tm
 | .mk k n s ks=>if k=3/\n=Ym/\ks=[]then []else if k=3/\n=XOR then Z6 [] ks else [.mk k n s ks]
def Z6 (acc:List Tm):List Tm->List Tm
 | []=>acc
 | t:: ts=>Z6 (Xd acc (Zy t)) ts
end
mutual
theorem Ur: ∀t:Tm,Asc (Zy t)
 | .mk k n s ks=>by
  simp only[Zy];split
  ·exact Asc.nil
  ·split
   ·exact Ke ks [] Asc.nil
   ·exact Io _
theorem Ke: ∀(ts acc:List Tm),Asc acc->Asc (Z6 acc ts)
 | [],_,h=>h
 | t:: ts,acc,h=>Ke ts _ (Ry _ _ h)
end
def Ug {y:Tm} {b a:Qc} (hb:Asc b) (h:y∈Xd a b):y∈a\/y∈b:=by
 rw[Of hb]at h;rcases h with h | h
 ·exact .inl h.1
 ·exact .inr h.2
mutual
theorem PW: ∀(t y:Tm),y∈Zy t->y∈Zn t
 | .mk k n s ks,y,h=>by
  simp only[Zy]at h;simp only[Zn,Zt];split at h
  ·simp at h
  ·split at h
   ·rcases NX ks [] y h with h | h
    ·simp at h
    ·exact .inr h
   ·simp at h;exact .inl h
theorem NX: ∀(ts acc:List Tm) (y:Tm),y∈Z6 acc ts->y∈acc\/y∈Ze ts
 | [],acc,y,h=> .inl h
 | t:: ts,acc,y,h=>by
  simp only[Ze,YU];rcases NX ts _ y h with h | h
  ·rcases Ug (Ur t) h with h | h
   ·exact .inl h
   ·exact .inr (.inl (PW t y h))
  ·exact .inr (.inr h)
end
mutual
theorem PV: ∀t:Tm,(Zy t).length<=t.nodes
 | .mk k n s ks=>by
  simp only[Zy,Tm.nodes];split
  ·simp
  ·split
   ·have:=NW ks [];simp at this;omega
   ·simp
theorem NW: ∀(ts acc:List Tm),(Z6 acc ts).length<=acc.length+Qw ts
 | [],acc=>by simp[Z6,Qw]
 | t:: ts,acc=>by
  have h1:=NW ts (Xd acc (Zy t));have h2:=Ta (Zy t) acc;have h3:=PV t;simp only[Z6,Qw]at *;omega
end
def HQ (l:Qc) (t:Tm) (bs:Qa) (hl:l.length < 100000000) (hm: ∀x∈l,x.mass < big) (ht:t.mass < big):
  ∀(post pre:Qc) (ρ:Ql),l=pre ++ post->ρ 0= .sl false 4 (Qb l)->ρ 3= .bx (Qf t)->ρ 5= .int .i64 pre.length->
  R tb (.loop f250l0) ρ bs (Qq 0 (QI tb f250r0 (QK f250 bs)))=some (.bool (Wb post t),bs):=by
 intro post
 induction post with
 | nil=>
  intro pre ρ hk h0 h3 h5;simp only[QF]at hk;rw[<- hk]at h5;rw[Qe f250l0.eq_1];simp[h0,h3,h5,f250r0,Wb]
 | cons x post IH=>
  intro pre ρ hk h0 h3 h5;have hg:=Qx hk;have hll:=QE hk;have hw1:=wr1 pre.length (by omega);have hlt:=QG hk;have hc:=Xs x t bs (hm x (by rw[hk];simp)) ht;rw[Qe f250l0.eq_1];by_cases he:Qp x t=0
  ·simp[h0,h3,h5,hg,hlt,hw1,hc,he,Qi,Wb]
  ·have e:Wb (x:: post) t=Wb post t:=by simp[Wb,he]
   rw[e];simp[h0,h3,h5,hg,hlt,hw1,hc,he,Qi];rw[IH (pre ++ [x])] <;> simp[h0,h3,hk]
def ED (l:Qc) (t:Tm) (o:Bool) (bs:Qa) (hl:l.length < 100000000) (hm: ∀x∈l,x.mass < big) (ht:t.mass < big):
  call tb 250 [.sl o 4 (Qb l),.agg (Qf t)] bs=some (.bool (Wb l t),bs):=by
 have h:=fun ρ=>HQ l t bs hl hm ht l [] ρ rfl;rw[zcc 250 rfl rfl];simp[f250C];refine h _ ?_ ?_ ?_ <;> simp
def QgU (l:Qc) (t:Tm) (bs:Qa) (hl:l.length < 100000000) (hm: ∀x∈l,x.mass < big) (ht:t.mass < big):
  ∀(post pre:Qc) (ρ:Ql),l=pre ++ post->ρ 0= .sl false 4 (Qb l)->ρ 3= .bx (Qf t)->ρ 5= .sl true 4 (Qb (pre.filter (fun x=> !decide (Qp x t=0))))->ρ 6= .int .i64 pre.length->
  R tb (.loop f249l0) ρ bs (Qq 0 (QI tb f249r0 (QK f249 bs)))=some (.sl false 4 (Qb (l.filter (fun x=> !decide (Qp x t=0)))),bs):=by
 intro post
 induction post with
 | nil=>
  intro pre ρ hk h0 h3 h5 h6;simp only[QF]at hk;rw[<- hk]at h5 h6;rw[Qe f249l0.eq_1];simp[h0,h3,h5,h6,f249r0]
 | cons x post IH=>
  intro pre ρ hk h0 h3 h5 h6;have hg:=Qx hk;have hll:=QE hk;have hw1:=wr1 pre.length (by omega);have hlt:=QG hk;have hfl:=Sh (fun x=> !decide (Qp x t=0)) pre;have hb: ((pre.filter (fun x=> !decide (Qp x t=0))).length+1)*56<=140737488355328:=WM (by omega);have hc:=Xs x t bs (hm x (by rw[hk];simp)) ht;have h2:=IH (pre ++ [x]);rw[Qe f249l0.eq_1];by_cases he:Qp x t=0
  ·have hf: (pre ++ [x]).filter (fun x=> !decide (Qp x t=0))=pre.filter (fun x=> !decide (Qp x t=0)):=by simp[OO,he]
   rw[hf]at h2;generalize pre.filter (fun x=> !decide (Qp x t=0))=pf at *;generalize l.filter (fun x=> !decide (Qp x t=0))=lf at *;simp[h0,h3,h5,h6,hg,hlt,hw1,hc,he,Qi];rw[h2] <;> simp[h0,h3,h5,hk]
  ·have hf: (pre ++ [x]).filter (fun x=> !decide (Qp x t=0))=pre.filter (fun x=> !decide (Qp x t=0))++ [x]:=by simp[OO,he]
   rw[hf]at h2;generalize pre.filter (fun x=> !decide (Qp x t=0))=pf at *;generalize l.filter (fun x=> !decide (Qp x t=0))=lf at *;simp[h0,h3,h5,h6,hg,hlt,hw1,hc,he,hb,Qi,ZX,Zu];rw[h2] <;> simp[h0,h3,hk]
def CD (l:Qc) (t:Tm) (o:Bool) (bs:Qa) (hl:l.length < 100000000) (hm: ∀x∈l,x.mass < big) (ht:t.mass < big):
  call tb 249 [.sl o 4 (Qb l),.agg (Qf t)] bs=some (.sl false 4 (Qb (V9 l t)),bs):=by
 have h:=fun ρ=>QgU l t bs hl hm ht l [] ρ rfl;have hh:=ED l t false bs hl hm ht;have ha:=Nh l t false bs hl hm ht;rw[zcc 249 rfl rfl];cases hb:Wb l t
 ·have e:V9 l t=ZO t l:=by simp[V9,hb]
  rw[e];simp[f249C,Qi,hh,hb,ha]
 ·have e:V9 l t=l.filter (fun x=> !decide (Qp x t=0)):=by simp[V9,hb]
  rw[e];generalize l.filter (fun x=> !decide (Qp x t=0))=lf at *;simp[f249C,Qi,hh,hb];refine h _ ?_ ?_ ?_ ?_ <;> simp[Qb]
def AR (b:Qc) (bs:Qa) (hl:b.length < 40000000) (hm: ∀x∈b,x.mass < big):
  ∀(post pre acc:Qc) (o:Bool) (ρ:Ql),b=pre ++ post->acc.length+post.length < 90000000->(∀x∈acc,x.mass < big)->ρ 1= .sl false 4 (Qb b)->ρ 5= .sl o 4 (Qb acc)->ρ 6= .int .i64 pre.length->
  R tb (.loop f248l0) ρ bs (Qq 0 (QI tb f248r0 (QK f248 bs)))=some (.sl false 4 (Qb (Xd acc post)),bs):=by
 intro post
 induction post with
 | nil=>
  intro pre acc o ρ hk ha hma h1 h5 h6;simp only[QF]at hk;rw[<- hk]at h6;rw[Qe f248l0.eq_1];simp[h1,h5,h6,f248r0,Xd]
 | cons x post IH=>
  intro pre acc o ρ hk ha hma h1 h5 h6;have hg:=Qx hk;have hll:=QE hk;have hw1:=wr1 pre.length (by omega);have hlt:=QG hk;have hx:=hm x (by rw[hk];simp);have hal:acc.length+ (post.length+1) < 90000000:=by simpa using ha
  have hc:=CD acc x false bs (by omega) hma hx;have htl: (V9 acc x).length<=acc.length+1:=by
   have:=Ta [x] acc;simpa[Xd]using this
  have htm: ∀y∈V9 acc x,y.mass < big:=fun y hy=>by
   rcases DC.1 hy with h | h
   ·exact hma y h.1
   ·rw[h.1];exact hx
  have h2:=fun ρ=>IH (pre ++ [x]) (V9 acc x) false ρ (by rw[hk];simp) (by omega) htm;rw[Qe f248l0.eq_1];simp[h1,h5,h6,hg,hlt,hw1,hc];rw[show Xd acc (x:: post)=Xd (V9 acc x) post from rfl];refine h2 _ ?_ ?_ ?_ <;> simp[h1]
def Jq (a b:Qc) (o o2:Bool) (bs:Qa) (ha:a.length < 40000000) (hb:b.length < 40000000) (hma: ∀x∈a,x.mass < big) (hmb: ∀x∈b,x.mass < big):
  call tb 248 [.sl o 4 (Qb a),.sl o2 4 (Qb b)] bs=some (.sl false 4 (Qb (Xd a b)),bs):=by
 have h:=fun o ρ=>AR b bs hb hmb b [] a o ρ rfl (by omega) hma;have hlim:a.length*56<=140737488355328:=WM (by omega);rw[zcc 248 rfl rfl];simp[f248C,hlim];refine h true _ ?_ ?_ ?_ <;> simp
def Qc2 (t:Tm) (bs:Qa) (hm:t.mass < 30000000) (ih: ∀x∈t.kids,∀bs,∃o,call tb 247 [.agg (Qf x)] bs=some (.sl o 4 (Qb (Zy x)),bs)):
  ∀(post pre acc:Qc) (o:Bool) (ρ:Ql),t.kids=pre ++ post->acc.length+Qw post < 30000000->(∀x∈acc,x.mass < big)->ρ 1= .bx (Qf t)->ρ 3= .sl o 4 (Qb acc)->ρ 4= .int .i64 pre.length->
  R tb (.loop f247l0) ρ bs (Qq 0 (QI tb f247r0 (QK f247 bs)))=some (.sl false 4 (Qb (Z6 acc post)),bs):=by
 have hmk:=QH t;intro post
 induction post with
 | nil=>
  intro pre acc o ρ hk ha hma h1 h3 h4;simp only[QF]at hk;rw[<- hk]at h4;rw[Qe f247l0.eq_1];simp[h1,h3,h4,f247r0,Z6]
 | cons x post IH=>
  intro pre acc o ρ hk ha hma h1 h3 h4;have hg:=Qx hk;have hll:=QE hk;have hgl:t.kids[pre.length]'(by omega)=x:=by
   have:=Zw (l:=t.kids) (i:=pre.length) (by omega);rw[hg]at this;injection this with this;exact this.symm
  have hw1:=wr1 pre.length (by omega);have hlt:=QG hk;have hxk:x∈t.kids:=by rw[hk];simp
  have hxm:=QY hxk;have hxn:=YC x;have hsl:=PV x;simp only[Qw]at ha;obtain⟨o1,hc1⟩:=ih x hxk bs;have hsm: ∀y∈Zy x,y.mass < big:=fun y hy=>by have:=Um x y (PW x y hy);unfold big;omega
  have hc2:=Jq acc (Zy x) false false bs (by omega) (by omega) hma hsm;have hpl:=Ta (Zy x) acc;have hpm: ∀y∈Xd acc (Zy x),y.mass < big:=fun y hy=>by
   rcases Ug (Ur x) hy with h | h
   ·exact hma y h
   ·exact hsm y h
  have h2:=fun ρ=>IH (pre ++ [x]) (Xd acc (Zy x)) false ρ (by rw[hk];simp) (by omega) hpm;rw[Qe f247l0.eq_1];simp[h1,h3,h4,hg,hgl,hlt,hw1,hc1,hc2,Z6];refine h2 _ ?_ ?_ ?_ <;> simp[h1]
def Iv: ∀(t:Tm) (bs:Qa),t.mass < 30000000->∃o,call tb 247 [.agg (Qf t)] bs=some (.sl o 4 (Qb (Zy t)),bs):=by
 refine Yj ?_;intro k n s ks ih bs hm;have hmk:=QH (.mk k n s ks);have hnm:=Yn ks;simp only[Zs,Z3]at hmk;have hl:=fun ρ=>Qc2 (.mk k n s ks) bs hm (fun x hx bs=>ih x hx bs (by have:=QY hx;simp at this;omega)) ks [] [] true ρ rfl (by simp;omega) (by simp);rw[zcc 247 rfl rfl];by_cases hk:k=3
 ·by_cases hz:n=Ym
  ·cases ks with
   | nil=>
    refine⟨true,?_⟩;simp[f247C,Qf,Qb,Zy,hk,hz,Ym]
   | cons x xs=>
    refine⟨true,?_⟩;simp only[Ym]at hz;have: ¬((xs.length:Int)+1=0):=by omega
    simp[f247C,Qf,Zy,hk,hz,Ym,XOR,this,Qb]
  ·by_cases hx:n=XOR
   ·refine⟨false,?_⟩;have e:Zy (.mk k n s ks)=Z6 [] ks:=by simp[Zy,hk,hx,Ym,XOR]
    rw[e];have hb1: (n == [122,101,114,111])=false:=by simpa[Ym]using hz
    simp only[XOR]at hx;simp[f247C,Qf,hk,hx];refine hl _ ?_ ?_ ?_ <;> simp[Qf,Qb,hk,hx]
   ·refine⟨true,?_⟩;have e:Zy (.mk k n s ks)=[.mk k n s ks]:=by simp[Zy,hk,hx,hz]
    rw[e];have hb1: (n == [122,101,114,111])=false:=by simpa[Ym]using hz
    have hb2: (n == [120,111,114])=false:=by simpa[XOR]using hx
    have hb3: (n != [120,111,114])=true:=by simpa[XOR]using hx
    simp[f247C,Qf,hk,hb1,hb2,hb3,Qb]
 ·refine⟨true,?_⟩;have e:Zy (.mk k n s ks)=[.mk k n s ks]:=by simp[Zy,hk]
  rw[e];have hb: (k != 3)=true:=by simp[hk]
  simp[f247C,Qf,hk,hb,Qb]
@[simp] def Qq1 (x:Tm) (a:Qc) (h:0 < (Qb (x:: a)).length): (Qb (x:: a))[0]=Qf x:=by simp[Qb]
def UX (l:Qc) (bs:Qa) (r:Option (AV×Qa)):Prop:=∃o,r=some (.sl o 4 (Qb l),bs)
def Qd4 (bs:Qa): ∀(n:Nat) (a b acc:Qc) (o1 o2:Bool) (ρ:Ql),a.length+b.length<=n->acc.length+a.length+b.length < 100000000->(∀x∈a,x.mass < big)->(∀x∈b,x.mass < big)->
   ρ 0= .sl o1 4 (Qb a)->ρ 1= .sl o2 4 (Qb b)->ρ 5= .sl true 4 (Qb acc)->
  UX (acc ++ Vi a b) bs (R tb (.loop f183l0) ρ bs (Qq 0 (QI tb f183r0 (QK f183 bs)))):=by
 have hend: ∀(a b acc:Qc) (o1 o2:Bool) (ρ:Ql),(a=[]\/b=[])->acc.length+a.length+b.length < 100000000->ρ 0= .sl o1 4 (Qb a)->ρ 1= .sl o2 4 (Qb b)->ρ 5= .sl true 4 (Qb acc)->
   UX (acc ++ Vi a b) bs (R tb f183r0 ρ bs (QK f183 bs)):=by
  intro a b acc o1 o2 ρ hab hl h0 h1 h5;have e:Vi a b=a ++ b:=by
   rcases hab with rfl | rfl
   ·rw[Lt];simp
   ·rw[NP];simp
  have hb1: (acc.length+a.length)*56<=140737488355328:=WM (by omega);have hb2: (acc.length+ (a.length+b.length))*56<=140737488355328:=WM (by clear hb1;omega);rw[e];refine⟨true,?_⟩;simp[h0,h1,h5,hb1,hb2,f183r0,Zu,Ub]
 intro n
 induction n with
 | zero=>
  intro a b acc o1 o2 ρ hn hl hma hmb h0 h1 h5;have ha:a=[]:=Y2 (by omega);subst ha;have h2:=fun ρ=>hend [] b acc o1 o2 ρ (.inl rfl) hl;rw[Qe f183l0.eq_1];simp[h0,h1,h5,Qb];refine h2 _ ?_ ?_ ?_ <;> simp[h0,h1,h5]
 | succ n IH=>
  intro a b acc o1 o2 ρ hn hl hma hmb h0 h1 h5
  match a,b with
  | [],b=>
   have h2:=fun ρ=>hend [] b acc o1 o2 ρ (.inl rfl) hl;rw[Qe f183l0.eq_1];simp[h0,h1,h5,Qb];refine h2 _ ?_ ?_ ?_ <;> simp[h0,h1,h5]
  | x:: a,[]=>
   have h2:=fun ρ=>hend (x:: a) [] acc o1 o2 ρ (.inr rfl) hl;have hp: (0:Int) < (a.length:Int)+1:=by omega
   rw[Qe f183l0.eq_1];simp[h0,h1,h5,hp];refine h2 _ ?_ ?_ ?_ <;> simp[h0,h1,h5]
  | x:: a,y:: b=>
   simp only[ZM]at hn hl;have hp: (0:Int) < (a.length:Int)+1:=by omega
   have hp2: (0:Int) < (b.length:Int)+1:=by omega
   have hp3: (1:Int)<=(a.length:Int)+1:=by omega
   have hp4: (1:Int)<=(b.length:Int)+1:=by omega
   have hc:=call_Compare x y bs (hma x (by simp)) (hmb y (by simp));have hb: (acc.length+1)*56<=140737488355328:=WM (by omega);have et: (Qb (x:: a)).take ((Qb (x:: a)).length)=Qb (x:: a):=List.take_length;have i1:=fun ρ=>IH a (y:: b) (acc ++ [x]) false o2 ρ (by simp;omega) (by simp;omega) (fun z hz=>hma z (by simp[hz])) hmb;have i2:=fun ρ=>IH (x:: a) b (acc ++ [y]) o1 false ρ (by simp;omega) (by simp;omega) hma (fun z hz=>hmb z (by simp[hz]));have i3:=fun ρ=>IH a b acc false false ρ (by omega) (by omega) (fun z hz=>hma z (by simp[hz])) (fun z hz=>hmb z (by simp[hz]));rw[Qe f183l0.eq_1,NO];clear hn;by_cases h1':Qp x y < 0
   ·simp only[h1',Zd];simp only[ZW,Ws,XD]at i1;simp[h0,h1,h5,hp,hp2,hp3,hc,h1',hb,ZX,Zu,Nw,Nx];refine i1 _ ?_ ?_ ?_ <;> simp[h1]
   ·by_cases h2':0 < Qp x y
    ·simp only[h1',h2',Zd,Zp];simp only[ZW,Ws,XD]at i2;simp[h0,h1,h5,hp,hp2,hp4,hc,h1',h2',hb,ZX,Zu,Nw,Nx];refine i2 _ ?_ ?_ ?_ <;> simp[h0]
    ·simp only[h1',h2',Zp];simp[h0,h1,h5,hp,hp2,hp3,hp4,hc,h1',h2',Nw,Nx];refine i3 _ ?_ ?_ ?_ <;> simp[h5]
def I3 (a b:Qc) (o1 o2:Bool) (bs:Qa) (hl:a.length+b.length < 100000000) (hma: ∀x∈a,x.mass < big) (hmb: ∀x∈b,x.mass < big):
  UX (Vi a b) bs (call tb 183 [.sl o1 4 (Qb a),.sl o2 4 (Qb b)] bs):=by
 have h:=fun ρ=>Qd4 bs _ a b [] false false ρ (Zx _) (by simp;omega) hma hmb;simp only[XD]at h;rw[zcc 183 rfl rfl];simp[f183C];refine h _ ?_ ?_ ?_ <;> simp[Qb]
def QgQ (t:Tm) (bs:Qa) (hm:t.mass < 30000000) (ih: ∀x∈t.kids,∀bs,UX (Zy x) bs (call tb 182 [.agg (Qf x)] bs)):
  ∀(post pre acc:Qc) (o:Bool) (ρ:Ql),t.kids=pre ++ post->acc.length+Qw post < 30000000->Asc acc->(∀x∈acc,x.mass < big)->ρ 3= .sl o 4 (Qb acc)->ρ 31= .sl false 4 (Qb t.kids)->ρ 32= .int .i64 t.kids.length->ρ 33= .int .i64 pre.length->
  R tb (.loop f182l0) ρ bs (Qq 1 (QI tb f182r0 (Qq 0 (QI tb f182r1 (QK f182 bs)))))=some (.sl false 4 (Qb (Z6 acc post)),bs):=by
 have hmk:=QH t;intro post
 induction post with
 | nil=>
  intro pre acc o ρ hk ha has hma h3 h31 h32 h33;simp only[QF]at hk;rw[<- hk]at h33;rw[Qe f182l0.eq_1];simp[h3,h31,h32,h33,f182r0,Z6]
 | cons x post IH=>
  intro pre acc o ρ hk ha has hma h3 h31 h32 h33;have hg:=Qx hk;have hll:=QE hk;have hw1:=wr1 pre.length (by omega);have hlt:=QG hk;have hxk:x∈t.kids:=by rw[hk];simp
  have hxm:=QY hxk;have hxn:=YC x;have hsl:=PV x;simp only[Qw]at ha;obtain⟨o1,hc1⟩:=ih x hxk bs;have hsm: ∀y∈Zy x,y.mass < big:=fun y hy=>by have:=Um x y (PW x y hy);unfold big;omega
  obtain⟨o2,hc2⟩:=I3 acc (Zy x) false false bs (by omega) hma hsm;rw[DM has (Ur x)]at hc2;have hpl:=Ta (Zy x) acc;have hpm: ∀y∈Xd acc (Zy x),y.mass < big:=fun y hy=>by
   rcases Ug (Ur x) hy with h | h
   ·exact hma y h
   ·exact hsm y h
  have h2:=fun ρ=>IH (pre ++ [x]) (Xd acc (Zy x)) o2 ρ (by rw[hk];simp) (by omega) (Ry _ _ has) hpm;rw[Qe f182l0.eq_1];simp[h3,h31,h32,h33,hg,hlt,hw1,Qi,hc1,hc2,Z6];refine h2 _ ?_ ?_ ?_ ?_ <;> simp[h31,h32]
def HU: ∀(t:Tm) (bs:Qa),t.mass < 30000000->UX (Zy t) bs (call tb 182 [.agg (Qf t)] bs):=by
 refine Yj ?_;intro k n s ks ih bs hm;have hmk:=QH (.mk k n s ks);have hnm:=Yn ks;simp only[Zs,Z3]at hmk;have hl:=fun ρ=>QgQ (.mk k n s ks) bs hm (fun x hx bs=>ih x hx bs (by have:=QY hx;simp at this;omega)) ks [] [] true ρ rfl (by simp;omega) Asc.nil (by simp);simp only[Zs]at hl;rw[zcc 182 rfl rfl];by_cases hk:k=3
 ·by_cases hz:n=Ym
  ·cases ks with
   | nil=>
    refine⟨true,?_⟩;simp[f182C,Qf,Qb,Zy,hk,hz,Ym]
   | cons x xs=>
    refine⟨true,?_⟩;simp only[Ym]at hz;have: ¬((xs.length:Int)+1=0):=by omega
    simp[f182C,Qf,Zy,hk,hz,Ym,XOR,this,Qb,f182r1]
  ·by_cases hx:n=XOR
   ·refine⟨false,?_⟩;have e:Zy (.mk k n s ks)=Z6 [] ks:=by simp[Zy,hk,hx,Ym,XOR]
    rw[e];simp only[XOR]at hx;simp[f182C,Qf,hk,hx];refine hl _ ?_ ?_ ?_ ?_ <;> simp[Qb]
   ·refine⟨true,?_⟩;have e:Zy (.mk k n s ks)=[.mk k n s ks]:=by simp[Zy,hk,hx,hz]
    rw[e];have hb1: (n == [122,101,114,111])=false:=by simpa[Ym]using hz
    have hb2: (n == [120,111,114])=false:=by simpa[XOR]using hx
    simp[f182C,Qf,hk,hb1,hb2,Qb,f182r1]
 ·refine⟨true,?_⟩;have e:Zy (.mk k n s ks)=[.mk k n s ks]:=by simp[Zy,hk]
  rw[e];simp[f182C,Qf,hk,Qb,f182r1]
def HR (t u:Tm) (o:Bool) (bs:Qa) (ht:t.mass < big) (hu:u.mass < big):call tb 185 [.agg (Qf t),.sl o 1 [],.agg (Qf u)] bs=some (.tup [.agg (Qf u),.int .i64 0],bs):=by
 have h1:=fun bs=>Nj t bs ht;have h2:=fun bs=>Nj u bs hu;rw[zcc 185 rfl rfl];have e1: ∀x y:Qh,(bs ++ [x]).set bs.length y=bs ++ [y]:=fun x y=>by rw[Sm];simp
 simp[f185C,h1,Qi,e1,put];rw[Qe f185l0.eq_1];simp[f185r0,h2,Qi,e1,put]
abbrev MN:=List (List Tm)
def Sx (ls:MN):Qa:=ls.map fun l=>[AV.sl false 4 (Qb l)]
def He {ls pre post:MN} {x:Qc} (h:ls=pre ++ x:: post): (Sx ls)[pre.length]? =some [AV.sl false 4 (Qb x)]:=by subst h;simp[Sx]
def Hf (ls:MN): (Sx ls).length=ls.length:=by simp[Sx]
def Qdh (n:Nat) (bs:Qa) (hn:n < 100000000):call tb 181 [.gs 0 0 0 0,.int .i64 n] bs=some (.sl true 4 [],bs):=by
 rw[Wy tb_181];simp only[LK];rw[Qn];refine⟨by omega,?_,by omega⟩;simp;exact WM (by omega)
def Qbo (ls:MN) (bs:Qa) (hl:ls.length < 1000) (hf:ls.flatten.length < 100000000):
  ∀(post pre:MN) (ρ:Ql),ls=pre ++ post->ρ 6= .sl true 4 (Qb pre.flatten)->ρ 25= .sl false 1 (Sx ls)->ρ 26= .int .i64 ls.length->ρ 27= .int .i64 pre.length->
  R tb (.loop f180l1) ρ bs (Qq 2 (QI tb f180r0 (QK f180 bs)))=some (.sl false 4 (Qb ls.flatten),bs):=by
 intro post
 induction post with
 | nil=>
  intro pre ρ hk h6 h25 h26 h27;simp only[QF]at hk;rw[<- hk]at h27 h6;rw[Qe f180l1.eq_1];simp[h6,h25,h26,h27,f180r0]
 | cons x post IH=>
  intro pre ρ hk h6 h25 h26 h27;have hg:=He hk;have hll:=QE hk;have hw1:=wr1 pre.length (by omega);have hlt:=QG hk;have hfl:ls.flatten.length=pre.flatten.length+ (x.length+post.flatten.length):=by rw[hk];simp
  have hb: (pre.flatten.length+x.length)*56<=140737488355328:=WM (by omega);have h2:=IH (pre ++ [x]);have e: (pre ++ [x]).flatten=pre.flatten ++ x:=by simp
  rw[e]at h2;generalize pre.flatten=pf at *;rw[Qe f180l1.eq_1];simp[h6,h25,h26,h27,hg,hlt,hw1,hb,Zu];rw[h2] <;> simp[h25,h26,hk]
def Qbn (ls:MN) (bs:Qa) (hl:ls.length < 1000) (hf:ls.flatten.length < 100000000):
  ∀(post pre:MN) (ρ:Ql),ls=pre ++ post->ρ 0= .sl false 1 (Sx ls)->ρ 3= .int .i64 pre.flatten.length->ρ 9= .sl false 1 (Sx ls)->ρ 10= .int .i64 ls.length->ρ 11= .int .i64 pre.length->
  R tb (.loop f180l0) ρ bs (Qq 0 (QI tb f180r1 (QK f180 bs)))=some (.sl false 4 (Qb ls.flatten),bs):=by
 intro post
 induction post with
 | nil=>
  intro pre ρ hk h0 h3 h9 h10 h11;simp only[QF]at hk;rw[<- hk]at h11 h3;have hc:=Qdh ls.flatten.length bs hf;have h1:=fun ρ=>Qbo ls bs hl hf ls [] ρ rfl;generalize ls.flatten=lf at *;rw[Qe f180l0.eq_1];simp[h0,h3,h9,h10,h11,f180r1,hc];refine h1 _ ?_ ?_ ?_ ?_ <;> simp[h0,Qb,Hf]
 | cons x post IH=>
  intro pre ρ hk h0 h3 h9 h10 h11;have hg:=He hk;have hll:=QE hk;have hw1:=wr1 pre.length (by omega);have hlt:=QG hk;have hfl:ls.flatten.length=pre.flatten.length+ (x.length+post.flatten.length):=by rw[hk];simp
  have hw2:IntKind.i64.wrap ((pre.flatten.length:Int)+ (x.length:Int))=(pre.flatten.length:Int)+ (x.length:Int):=Zg (by omega) (by omega);have hnn: ¬((pre.flatten.length:Int)+ (x.length:Int) < 0):=by omega
  have h2:=IH (pre ++ [x]);have e: ((pre ++ [x]).flatten.length:Int)=(pre.flatten.length:Int)+ (x.length:Int):=by simp
  rw[e]at h2;generalize (pre.flatten.length:Int)=pf at *;rw[Qe f180l0.eq_1];simp[h0,h3,h9,h10,h11,hg,hlt,hw1,hw2,hnn];rw[h2] <;> simp[h0,h9,h10,hk]
def Oo (ls:MN) (o:Bool) (bs:Qa) (hl:ls.length < 1000) (hf:ls.flatten.length < 100000000):
  call tb 180 [.sl o 1 (Sx ls)] bs=some (.sl false 4 (Qb ls.flatten),bs):=by
 have h:=fun ρ=>Qbn ls bs hl hf ls [] ρ rfl;rw[zcc 180 rfl rfl];simp[f180C];refine h _ ?_ ?_ ?_ ?_ ?_ <;> simp[Hf]
def VU:Qc->Int
 | []=>0
 | t:: ts=>if Q1 t≠0 then Q1 t else VU ts
def QaZ (l:Qc) (bs:Qa) (hl:l.length < 100000000) (hm: ∀x∈l,x.mass < big): ∀(post pre:Qc) (ρ:Ql),l=pre ++ post->ρ 14= .sl false 4 (Qb l)->ρ 15= .int .i64 l.length->ρ 16= .int .i64 pre.length->
  R tb (.loop f179l0) ρ bs (Qq 0 (QI tb f179r0 (QK f179 bs)))=some (.int .i64 (VU post),bs):=by
 intro post
 induction post with
 | nil=>
  intro pre ρ hk h14 h15 h16;simp only[QF]at hk;rw[<- hk]at h16;rw[Qe f179l0.eq_1];simp[h14,h15,h16,f179r0,VU]
 | cons x post IH=>
  intro pre ρ hk h14 h15 h16;have hg:=Qx hk;have hll:=QE hk;have hw1:=wr1 pre.length (by omega);have hlt:=QG hk;have hc:=Us x bs (hm x (by rw[hk];simp));rw[Qe f179l0.eq_1];by_cases hv:Q1 x=0
  ·simp[h14,h15,h16,hg,hlt,hw1,Qi,hc,hv,VU];rw[IH (pre ++ [x])] <;> simp[h14,h15,hk]
  ·simp[h14,h15,h16,hg,hlt,hw1,Qi,hc,hv,VU]
def VX (l:Qc):Int:=if 200 < l.length then 3 else VU l
def Qaf (l:Qc) (o o2:Bool) (bs:Qa) (hl:l.length < 100000000) (hm: ∀x∈l,x.mass < big):call tb 179 [.sl o 4 (Qb l),.sl o2 4 []] bs=some (.int .i64 (VX l),bs):=by
 have h:=fun ρ=>QaZ l bs hl hm l [] ρ rfl;have hc:=Oo [l,[]] false bs (by simp) (by simpa using hl);simp only[Sx,Ya,X4,U0,List.flatten_nil,QF,Qb]at hc;rw[zcc 179 rfl rfl];by_cases h2:200 < l.length
 ·have h2': (200:Int) < (l.length:Int):=by omega
  simp[f179C,h2',h2,VX]
 ·have h2': ¬(200:Int) < (l.length:Int):=by omega
  simp[f179C,h2',h2,VX,hc];refine h _ ?_ ?_ ?_ <;> simp
def Qj0 {c:Qh} {n p:Nat} {pre:Qc} {x:Tm} {v:AV} (hc:c.length=n*4) (hp:p=pre.length) (hlt:p < n) (ht: (c.map AV.strip).take (p*4)=Qr pre) (hv:v.strip= .sl false 4 (Qb x.kids)):
  ((c.take (p*4)++ (Qf x ++ c.drop (p*4+4))).set (p*4+3) v).length=n*4/\
  ((((c.take (p*4)++ (Qf x ++ c.drop (p*4+4))).set (p*4+3) v).map AV.strip).take ((p+1)*4))=Qr (pre ++ [x]):=by
 have h1: (c.take (p*4)).length=p*4:=by rw[Xi];omega
 have h2:=QN x;refine⟨by simp[h1,h2,hc];omega,?_⟩;have e: (c.take (p*4)++ (Qf x ++ c.drop (p*4+4))).set (p*4+3) v=c.take (p*4)++ ([.int .i64 x.kind,.str x.name,.int .i64 x.sort,v]++ c.drop (p*4+4)):=by
  rw[Sm,Qm (by omega),h1,show p*4+3 - p*4=3 by omega,Zj];simp
 rw[e,Ti,Ti,MI,ht];have h3: [AV.int .i64 x.kind,.str x.name,.int .i64 x.sort,v].map AV.strip=Qf x:=by rw[Zj];simp[hv]
 have hr: (Qr pre).length=p*4:=by rw[Yx QN,hp]
 rw[h3,<- ZW,OD (by simp[hr,h2];omega),YD (by simp[hr,h2];omega)];simp[Qr,Vn,R9]
def Jh:=@List.take_take
def Qgj {c:Qh} {n p:Nat} {pre:Qc} {x:Tm} (hc:c.length=n*4) (hp:p=pre.length) (hlt:p < n) (ht: (c.map AV.strip).take ((p+1)*4)=Qr (pre ++ [x])) (hx:x.kids=[]):
  (c.take (p*4+3)++ ([AV.sl false 4 []]++ c.drop (p*4+3+1))).length=n*4/\
  ((c.take (p*4+3)++ ([AV.sl false 4 []]++ c.drop (p*4+3+1))).map AV.strip).take ((p+1)*4)=Qr (pre ++ [x]):=by
 have h1: (c.take (p*4+3)).length=p*4+3:=by rw[Xi];omega
 refine⟨by simp[h1,hc];omega,?_⟩;have hr:Qr (pre ++ [x])=Qr pre ++ [.int .i64 x.kind,.str x.name,.int .i64 x.sort]++ [.sl false 4 []]:=by
  simp[Qr,Vn,R9,Zj,hx,Qb]
 have hl0: (Qr pre).length=p*4:=by rw[Yx QN,hp]
 have e1: (c.take (p*4+3)).map AV.strip=Qr pre ++ [.int .i64 x.kind,.str x.name,.int .i64 x.sort]:=by
  have h2: ((c.map AV.strip).take ((p+1)*4)).take (p*4+3)=(c.map AV.strip).take (p*4+3):=by rw[Jh];congr 1;omega
  rw[MI,<- h2,ht,hr,OD (by simp[hl0]),YD (by simp[hl0])]
 rw[Ti,Ti,e1,<- ZW,OD (by simp[hl0];omega),YD (by simp[hl0];omega),hr];simp
def Qgi (l:Qc) (B:Qa) (hl:l.length < 100000000) (hne:l≠[]) (hm: ∀x∈l,x.mass < big) (ih: ∀x∈l,∀bs,UX x.kids bs (call tb 184 [.sl false 4 (Qb x.kids)] bs)):
  ∀(post pre:Qc) (c:Qh) (ρ:Ql),l=pre ++ post->c.length=l.length*4->(c.map AV.strip).take (pre.length*4)=Qr pre->ρ 3= .gs B.length 0 4 l.length->ρ 9= .sl false 4 (Qb l)->ρ 10= .int .i64 l.length->ρ 11= .int .i64 pre.length->
  UX l B (R tb (.loop f184l0) ρ (B ++ [c]) (Qq 0 (QI tb f184r0 (QK f184 B)))):=by
 have es: ∀x y:Qh,(B ++ [x]).set B.length y=B ++ [y]:=fun x y=>by rw[Sm];simp
 have eg: ∀x:Qh,(B ++ [x])[B.length]? =some x:=fun x=>Yu;intro post
 induction post with
 | nil=>
  intro pre c ρ hk hc ht h3 h9 h10 h11;simp only[QF]at hk;rw[<- hk]at h11 ht;have hz: ¬l.length=0:=fun e=>hne (Y2 e);have hch:Yb c 0 4 l.length=Qb l:=by
   have e1:c.map AV.strip=Qr l:=by rw[<- ht,YD (by simp[hc])]
   have e2:Yb c 0 4 l.length=Yb (c.map AV.strip) 0 4 l.length:=by
    unfold Yb;apply OM;intro k _;rw[<- Jl,<- MI,ML];apply OM;intro v _;exact(L9 v).symm
   rw[e2,e1];have:=XP (f:=Qf) (k:=4) QN ZA l [];rw[TP,QF]at this;exact this
  have hg:ZU (Qb l)=true:=Y8 l;have hle:l.length*4<=c.length:=by omega
  refine⟨true,?_⟩;rw[Qe f184l0.eq_1];simp[h3,h9,h10,h11,f184r0,Yk,hz,hne,hle,es,hch]
 | cons x post IH=>
  intro pre c ρ hk hc ht h3 h9 h10 h11;have hg:=Qx hk;have hll:=QE hk;have hw1:=wr1 pre.length (by omega);have hlt:=QG hk;have hlt':pre.length < l.length:=by omega
  have hx:=hm x (by rw[hk];simp);have hc1:=fun bs=>HR x x true bs hx hx;obtain⟨o,hc2⟩:=ih x (by rw[hk];simp) (B ++ [c.take (pre.length*4)++ (Qf x ++ c.drop (pre.length*4+4))]);have hle:pre.length*4+4<=c.length:=by omega
  obtain⟨p1,p2⟩:=Qj0 (v:= .sl o 4 (Qb x.kids)) hc rfl hlt' ht rfl;have hle2:pre.length*4+3 < (c.take (pre.length*4)++ (Qf x ++ c.drop (pre.length*4+4))).length:=by simp[QN];omega
  generalize hcc:c.take (pre.length*4)++ (Qf x ++ c.drop (pre.length*4+4))=cc at *;have hgl: ∀h:pre.length < (Qb l).length,(Qb l)[pre.length]=Qf x:=fun h=>by
   have:=Zw h;rw[M9,hg]at this;injection this with this;exact this.symm
  rw[Qe f184l0.eq_1];by_cases hkz:x.kids=[]
  ·obtain⟨p3,p4⟩:=Qgj p1 rfl hlt' p2 hkz;have hle3:pre.length*4+3+1<=(cc.set (pre.length*4+3) (.sl o 4 (Qb x.kids))).length:=by rw[p1];omega
   have i1:=fun ρ=>IH (pre ++ [x]) _ ρ (by rw[hk];simp) p3 (by simpa using p4);rw[hkz]at hc2 hle3 i1;have hle3':pre.length*4+3+1<=cc.length:=by simpa using hle3
   simp only[Qb,Ws,XD]at hc2 hle3 i1;simp[h3,h9,h10,h11,hg,hgl,hlt,hlt',hw1,Qi,hc1,eg,es,hle,hcc,hc2,hle2,hkz,Qb,hle3',QN];refine i1 _ ?_ ?_ ?_ ?_ <;> simp[h3,h9,h10]
  ·have hkl: ¬(x.kids.length:Int)=0:=by
    intro e;exact hkz (Y2 (by omega))
   have i1:=fun ρ=>IH (pre ++ [x]) _ ρ (by rw[hk];simp) p1 (by simpa using p2);simp[h3,h9,h10,h11,hg,hgl,hlt,hlt',hw1,Qi,hc1,eg,es,hle,hcc,hc2,hle2,hkz,hkl,QN];refine i1 _ ?_ ?_ ?_ ?_ <;> simp[h3,h9,h10]
def Qd2 (l:Qc) (o:Bool) (bs:Qa) (hl:l.length < 100000000) (hm: ∀x∈l,x.mass < big) (ih: ∀x∈l,∀bs,UX x.kids bs (call tb 184 [.sl false 4 (Qb x.kids)] bs)):
  UX l bs (call tb 184 [.sl o 4 (Qb l)] bs):=by
 have hb:l.length*56<=140737488355328:=WM (by omega);have hb2: (l.length:Int)<=4611686018427387904:=by omega
 rw[zcc 184 rfl rfl];by_cases hne:l=[]
 ·subst hne;refine⟨false,?_⟩;simp[f184C,Qb];rw[Qe f184l0.eq_1];simp[f184r0,Yk]
 ·have h:=fun c hc ρ=>Qgi l bs hl hne hm ih l [] c ρ rfl hc (by simp[YB]);have hlen: (List.replicate l.length [AV.int .i64 0,.str [],.int .i64 0,.sl true 4 []]).flatten.length=l.length*4:=by simp
  have h2:=h _ hlen;simp[f184C,hb,hb2];refine h2 _ ?_ ?_ ?_ ?_ <;> simp
def Qgh: ∀(t:Tm) (bs:Qa),t.mass < 100000000->UX t.kids bs (call tb 184 [.sl false 4 (Qb t.kids)] bs):=by
 refine Yj ?_;intro k n s ks ih bs hm;have hmk:=QH (.mk k n s ks);simp only[Zs,Z3]at hmk ⊢;exact Qd2 ks false bs (by omega) (fun x hx=>by have:=QY hx;unfold big;omega) fun x hx bs=>ih x hx bs (by have:=QY hx;omega)
def Qfj (l:Qc) (o:Bool) (bs:Qa) (hl:l.length < 100000000) (hm: ∀x∈l,x.mass < 100000000):UX l bs (call tb 184 [.sl o 4 (Qb l)] bs):=
 Qd2 l o bs hl (fun x hx=>by have:=hm x hx;unfold big;omega) fun x hx bs=>Qgh x bs (hm x hx)
def QJ:Tm:= .mk 0 [] 0 []
def Q5:Qf QJ=[.int .i64 0,.str [],.int .i64 0,.sl false 4 []]:=by simp[QJ,Qf,Qb]
def tmX:Qc->Tm
 | []=> .mk 3 Ym 0 []
 | [p]=>p
 | p:: q:: r=> .mk 3 XOR 0 (p:: q:: r)
def Wk (l:Qc):Tm×Int:=if VX l≠0 then(QJ,VX l)else if Q1 (tmX (Z6 [] l))≠0 then(QJ,3)else(tmX (Z6 [] l),0)
def Zk (r:Tm×Int):AV:= .tup [.agg (Qf r.1),.int .i64 r.2]
def JT (t:Tm): ∀l:Qc,Qu (ZO t l)<=Qu l+t.mass
 | []=>by simp[ZO,Qu]
 | x:: xs=>by
  have:=JT t xs;simp only[ZO];split
  ·simp only[Qu];omega
  ·split
   ·simp only[Qu];omega
   ·simp only[Qu];omega
def QaM (l:Qc) (t:Tm):Qu (V9 l t)<=Qu l+t.mass:=by
 unfold V9;split
 ·have: ∀(l:Qc) (p:Tm->Bool),Qu (l.filter p)<=Qu l:=by
   intro l p
   induction l with
   | nil=>simp
   | cons x xs ih=>
    rw[OO];split <;> simp only[Qu] <;> omega
  have:=this l (fun x=> !decide (Qp x t=0));omega
 ·exact JT t l
def L5: ∀(b a:Qc),Qu (Xd a b)<=Qu a+Qu b
 | [],a=>by simp[Xd,Qu]
 | x:: b,a=>by
  have h1:=L5 b (V9 a x);have h2:=QaM a x;simp only[Xd,OQ,Qu]at *;omega
mutual
theorem QaL: ∀t:Tm,Qu (Zy t)<=t.mass
 | .mk k n s ks=>by
  simp only[Zy];split
  ·simp[Qu]
  ·split
   ·have:=RP ks [];simp only[Qu,Tm.mass]at *;omega
   ·simp[Qu]
theorem RP: ∀(ts acc:List Tm),Qu (Z6 acc ts)<=Qu acc+Qu ts
 | [],acc=>by simp[Z6,Qu]
 | t:: ts,acc=>by
  have h1:=RP ts (Xd acc (Zy t));have h2:=L5 (Zy t) acc;have h3:=QaL t;simp only[Z6,Qu]at *;omega
end
def Ck (l:Qc): (tmX l).mass<=10+l.length+Qu l:=by
 unfold tmX;split
 ·simp[Tm.mass,Qu,Ym]
 ·simp[Qu]
 ·simp[Tm.mass,Qu,XOR]
def Qe3 (l:Qc) (bs:Qa) (hm:Qu l < 20000000) (hl:l.length < 20000000) (k:Kn)
  (hk0: ∀(o:Bool) (ρ:Ql),ρ 2= .bx [.int .i64 0,.str [],.int .i64 0,.sl true 4 []]->ρ 5= .sl o 4 (Qb (Z6 [] l))->R tb f178r0 ρ bs (QK f178 bs)=some (Zk (Wk l),bs)):
  ∀(post pre acc:Qc) (o:Bool) (ρ:Ql),l=pre ++ post->Z6 acc post=Z6 [] l->acc.length+Qw post < 25000000->Asc acc->(∀x∈acc,x.mass < big)->ρ 2= .bx [.int .i64 0,.str [],.int .i64 0,.sl true 4 []]->ρ 5= .sl o 4 (Qb acc)->ρ 15= .sl false 4 (Qb l)->ρ 16= .int .i64 l.length->ρ 17= .int .i64 pre.length->
  R tb (.loop f178l0) ρ bs (Qq 0 (QI tb f178r0 (QK f178 bs)))=some (Zk (Wk l),bs):=by
 intro post
 induction post with
 | nil=>
  intro pre acc o ρ hk he ha has hma h2 h5 h15 h16 h17;simp only[QF]at hk;rw[<- hk]at h17;simp only[Z6]at he;subst he;rw[Qe f178l0.eq_1];simp[h5,h15,h16,h17];refine hk0 o _ ?_ ?_ <;> simp[h2,h5]
 | cons x post IH=>
  intro pre acc o ρ hk he ha has hma h2 h5 h15 h16 h17;have hg:=Qx hk;have hll:=QE hk;have hw1:=wr1 pre.length (by omega);have hlt:=QG hk;have hxl:x∈l:=by rw[hk];simp
  have hxm:=QY hxl;have hxn:=YC x;have hsl:=PV x;simp only[Qw]at ha;obtain⟨o1,hc1⟩:=HU x bs (by omega);have hsm: ∀y∈Zy x,y.mass < big:=fun y hy=>by have:=Um x y (PW x y hy);unfold big;omega
  obtain⟨o2,hc2⟩:=I3 acc (Zy x) false false bs (by omega) hma hsm;rw[DM has (Ur x)]at hc2;have hpl:=Ta (Zy x) acc;have hpm: ∀y∈Xd acc (Zy x),y.mass < big:=fun y hy=>by
   rcases Ug (Ur x) hy with h | h
   ·exact hma y h
   ·exact hsm y h
  have i2:=fun ρ=>IH (pre ++ [x]) (Xd acc (Zy x)) o2 ρ (by rw[hk];simp) he (by omega) (Ry _ _ has) hpm;rw[Qe f178l0.eq_1];simp[h5,h15,h16,h17,hg,hlt,hw1,Qi,hc1,hc2];refine i2 _ ?_ ?_ ?_ ?_ ?_ <;> simp[h2,h15,h16]
def EK (l:Qc) (o:Bool) (bs:Qa) (hm:Qu l < 20000000) (hl:l.length < 20000000):call tb 178 [.sl o 4 (Qb l)] bs=some (Zk (Wk l),bs):=by
 have hr:=Qaf l false true bs (by omega) (fun x hx=>by have:=QY hx;unfold big;omega);have hn:=Yn l;have hk0:VX l=0->∀(o:Bool) (ρ:Ql),ρ 2= .bx [.int .i64 0,.str [],.int .i64 0,.sl true 4 []]->ρ 5= .sl o 4 (Qb (Z6 [] l))->R tb f178r0 ρ bs (QK f178 bs)=some (Zk (Wk l),bs):=by
  intro hr0 o ρ h2 h5;have h1:=NW l [];have h3:=RP l [];have h4:=Ck (Z6 [] l);simp only[Qu,Y5,Zm]at h1 h3;obtain⟨o3,ho⟩:=Qfj (Z6 [] l) false bs (by omega) (fun x hx=>by have:=QY hx;omega);have hv:=Us (tmX (Z6 [] l)) bs (by unfold big;omega);have es:Wk l=if Q1 (tmX (Z6 [] l))≠0 then(QJ,3)else(tmX (Z6 [] l),0):=by simp[Wk,hr0]
  rw[es];generalize Z6 [] l=ps at *
  match ps with
  | []=>
   have e1:Qf (tmX [])=[.int .i64 3,.str Ym,.int .i64 0,.sl false 4 []]:=by simp[tmX,Qf,Qb]
   rw[e1]at hv;simp only[Ym]at hv e1;simp only[Qb]at ho h5;by_cases h:Q1 (tmX [])=0
   ·simp[f178r0,h5,ho,h2,hv,h,Zk,e1]
   ·simp[f178r0,h5,ho,h2,hv,h,Zk,Q5]
  | [p]=>
   simp only[tmX]at hv ⊢;by_cases h:Q1 p=0
   ·simp[f178r0,h5,ho,h2,hv,h,Zk,Qi]
   ·simp[f178r0,h5,ho,h2,hv,h,Zk,Q5,Qi]
  | p:: q:: r=>
   have e1:Qf (tmX (p:: q:: r))=[.int .i64 3,.str XOR,.int .i64 0,.sl false 4 (Qb (p:: q:: r))]:=by simp[tmX,Qf]
   rw[e1]at hv;simp only[XOR]at hv e1;have n1: ¬((r.length:Int)+1+1=0):=by omega
   have n2: ¬((r.length:Int)+1+1=1):=by omega
   by_cases h:Q1 (tmX (p:: q:: r))=0
   ·simp[f178r0,h5,ho,h2,hv,h,n1,n2,Zk,e1]
   ·simp[f178r0,h5,ho,h2,hv,h,n1,n2,Zk,Q5]
 rw[zcc 178 rfl rfl];by_cases h0:VX l=0
 ·have h:=fun ρ=>Qe3 l bs hm hl (QK f178 bs) (hk0 h0) l [] [] true ρ rfl rfl (by simp;omega) Asc.nil (by simp);simp[f178C,hr,h0];refine h _ ?_ ?_ ?_ ?_ ?_ <;> simp[Qb]
 ·have hb: (VX l != 0)=true:=by simp[h0]
  simp[f178C,hr,h0,hb,Wk,Zk,Q5]
def Qac (bs:Qa):call tb 245 [] bs=some (.agg (Qf (.mk 3 Ym 0 [])),bs):=by
 have h:=I1 Ym [] true bs (by simp);simp only[Ym,Qb]at h;rw[zcc 245 rfl rfl];simp[f245,f245C,h,Ym,Qi]
def Cx (l:Qc) (o:Bool) (bs:Qa) (hl:l.length < 100000000):call tb 251 [.sl o 4 (Qb l)] bs=some (.agg (Qf (tmX l)),bs):=by
 have h:=I1 Ym [] true bs (by simp);simp only[Ym,Qb]at h;rw[zcc 251 rfl rfl]
 match l with
 | []=>simp[f251C,h,Ym,Qi,tmX]
 | [p]=>simp[f251C,Qi,tmX]
 | p:: q:: r=>
  have n1: ¬((r.length:Int)+1+1=0):=by omega
  have n2: ¬((r.length:Int)+1+1=1):=by omega
  have hb: (r.length+1+1)*56<=140737488355328:=WM (by simp at hl;omega);simp[f251C,n1,n2,hb,tmX,Qf,XOR]
def F1 (l:Qc) (t:Tm) (bs:Qa) (hl:l.length < 100000000) (hm: ∀x∈l,x.mass < big) (ht:t.mass < big): ∀(post pre:Qc) (ρ:Ql),l=pre ++ post->ρ 0= .sl false 4 (Qb l)->ρ 3= .bx (Qf t)->ρ 5= .int .i64 pre.length->
  R tb (.loop f246l0) ρ bs (Qq 0 (QI tb f246r0 (QK f246 bs)))=some (.int .i64 (if VU post≠0 then VU post else Q1 t),bs):=by
 intro post
 induction post with
 | nil=>
  intro pre ρ hk h0 h3 h5;simp only[QF]at hk;rw[<- hk]at h5;have hc:=WR t bs ht;rw[Qe f246l0.eq_1];simp[h0,h3,h5,f246r0,VU,Qi,hc]
 | cons x post IH=>
  intro pre ρ hk h0 h3 h5;have hg:=Qx hk;have hll:=QE hk;have hw1:=wr1 pre.length (by omega);have hlt:=QG hk;have hc:=WR x bs (hm x (by rw[hk];simp));rw[Qe f246l0.eq_1];by_cases hv:Q1 x=0
  ·simp only[VU,hv,ne_eq,Jc,Zp];simp[h0,h3,h5,hg,hlt,hw1,Qi,hc,hv];have:=fun ρ=>IH (pre ++ [x]) ρ (by rw[hk];simp);simp only[ne_eq]at this;rw[this] <;> simp[h0,h3]
  ·simp[h0,h3,h5,hg,hlt,hw1,Qi,hc,hv,VU]
def Qbm:Q1 (.mk 3 Ym 0 [])=0:=by decide
def EH (l:Qc) (o:Bool) (bs:Qa) (hl:l.length < 100000000) (hm: ∀x∈l,x.mass < big):call tb 246 [.sl o 4 (Qb l),.agg (Qf (.mk 3 Ym 0 []))] bs=some (.int .i64 (VX l),bs):=by
 have h:=fun ρ=>F1 l (.mk 3 Ym 0 []) bs hl hm (by simp[Tm.mass,Qu,Ym,big]) l [] ρ rfl;rw[Qbm]at h;have e: (if VU l≠0 then VU l else 0)=VU l:=by split <;> simp_all
 rw[e]at h;rw[zcc 246 rfl rfl];by_cases h2:200 < l.length
 ·have h2': (200:Int) < (l.length:Int):=by omega
  simp[f246C,h2',h2,VX]
 ·have h2': ¬(200:Int) < (l.length:Int):=by omega
  simp[f246C,h2',h2,VX];refine h _ ?_ ?_ ?_ <;> simp
def AW (l:Qc) (bs:Qa) (hm:Qu l < 20000000) (hl:l.length < 20000000)
  (hk0: ∀(o:Bool) (ρ:Ql),ρ 2= .bx [.int .i64 0,.str [],.int .i64 0,.sl true 4 []]->ρ 5= .sl o 4 (Qb (Z6 [] l))->R tb f244r0 ρ bs (QK f244 bs)=some (Zk (Wk l),bs)):
  ∀(post pre acc:Qc) (o:Bool) (ρ:Ql),l=pre ++ post->Z6 acc post=Z6 [] l->acc.length+Qw post < 25000000->(∀x∈acc,x.mass < big)->ρ 0= .sl false 4 (Qb l)->ρ 2= .bx [.int .i64 0,.str [],.int .i64 0,.sl true 4 []]->ρ 5= .sl o 4 (Qb acc)->ρ 6= .int .i64 pre.length->
  R tb (.loop f244l0) ρ bs (Qq 0 (QI tb f244r0 (QK f244 bs)))=some (Zk (Wk l),bs):=by
 intro post
 induction post with
 | nil=>
  intro pre acc o ρ hk he ha hma h0 h2 h5 h6;simp only[QF]at hk;rw[<- hk]at h6;simp only[Z6]at he;subst he;rw[Qe f244l0.eq_1];simp[h0,h5,h6];refine hk0 o _ ?_ ?_ <;> simp[h2,h5]
 | cons x post IH=>
  intro pre acc o ρ hk he ha hma h0 h2 h5 h6;have hg:=Qx hk;have hll:=QE hk;have hw1:=wr1 pre.length (by omega);have hlt:=QG hk;have hxl:x∈l:=by rw[hk];simp
  have hxm:=QY hxl;have hxn:=YC x;have hsl:=PV x;simp only[Qw]at ha;obtain⟨o1,hc1⟩:=Iv x bs (by omega);have hsm: ∀y∈Zy x,y.mass < big:=fun y hy=>by have:=Um x y (PW x y hy);unfold big;omega
  have hc2:=Jq acc (Zy x) false false bs (by omega) (by omega) hma hsm;have hpl:=Ta (Zy x) acc;have hpm: ∀y∈Xd acc (Zy x),y.mass < big:=fun y hy=>by
   rcases Ug (Ur x) hy with h | h
   ·exact hma y h
   ·exact hsm y h
  have i2:=fun ρ=>IH (pre ++ [x]) (Xd acc (Zy x)) false ρ (by rw[hk];simp) he (by omega) hpm;rw[Qe f244l0.eq_1];simp[h0,h5,h6,hg,hlt,hw1,Qi,hc1,hc2];refine i2 _ ?_ ?_ ?_ ?_ <;> simp[h0,h2]
def Jr (l:Qc) (o:Bool) (bs:Qa) (hm:Qu l < 20000000) (hl:l.length < 20000000):call tb 244 [.sl o 4 (Qb l)] bs=some (Zk (Wk l),bs):=by
 have hr:=EH l false bs (by omega) (fun x hx=>by have:=QY hx;unfold big;omega);have hz:=Qac bs;have hn:=Yn l;have hk0:VX l=0->∀(o:Bool) (ρ:Ql),ρ 2= .bx [.int .i64 0,.str [],.int .i64 0,.sl true 4 []]->ρ 5= .sl o 4 (Qb (Z6 [] l))->R tb f244r0 ρ bs (QK f244 bs)=some (Zk (Wk l),bs):=by
  intro hr0 o ρ h2 h5;have h1:=NW l [];have h3:=RP l [];have h4:=Ck (Z6 [] l);simp only[Qu,Y5,Zm]at h1 h3;have ht:=Cx (Z6 [] l) false bs (by omega);have hv:=WR (tmX (Z6 [] l)) bs (by unfold big;omega);have es:Wk l=if Q1 (tmX (Z6 [] l))≠0 then(QJ,3)else(tmX (Z6 [] l),0):=by simp[Wk,hr0]
  rw[es];generalize tmX (Z6 [] l)=u at *;generalize Z6 [] l=ps at *;by_cases h:Q1 u=0
  ·simp[f244r0,h5,ht,h2,hv,h,Zk,Qi]
  ·simp[f244r0,h5,ht,h2,hv,h,Zk,Q5,Qi]
 rw[zcc 244 rfl rfl];by_cases h0:VX l=0
 ·have h:=fun ρ=>AW l bs hm hl (hk0 h0) l [] [] true ρ rfl rfl (by simp;omega) (by simp);simp[f244C,hz,hr,h0];refine h _ ?_ ?_ ?_ ?_ <;> simp[Qb]
 ·have hb: (VX l != 0)=true:=by simp[h0]
  simp[f244C,hz,hr,h0,hb,Wk,Zk,Q5]
def Bb (t:Tm) (hm:t.mass < big) (hne:t.kids≠[]) (ih: ∀x∈t.kids,∀bs,call tb 192 [.agg (Qf x)] bs=some (.agg (Qf x),bs)) (B:Qa):
  ∀(post pre:Qc) (ρ:Ql),t.kids=pre ++ post->ρ 1= .bx [.int .i64 t.kind,.str t.name,.int .i64 t.sort,.gs B.length 0 4 t.kids.length]->ρ 2= .bx [.int .i64 0,.str [],.int .i64 0,.sl true 4 []]->
   ρ 10= .gs B.length 0 4 t.kids.length->ρ 11= .int .i64 t.kids.length->ρ 12= .int .i64 pre.length->
  R tb (.loop f192l0) ρ (B ++ [Qr t.kids]) (Qq 0 (QI tb f192r0 (QK f192 B)))=some (.agg (Qf t),B):=by
 have hm2:=QH t;unfold big at hm;have es: ∀x y:Qh,(B ++ [x]).set B.length y=B ++ [y]:=fun x y=>by rw[Sm];simp
 have eg: ∀x:Qh,(B ++ [x])[B.length]? =some x:=fun x=>Yu;have hlen: (Qr t.kids).length=t.kids.length*4:=Yx QN _;have hst: (Qr t.kids).map AV.strip=Qr t.kids:=YM ZA _;intro post
 induction post with
 | nil=>
  intro pre ρ hk h1 h2 h10 h11 h12;simp only[QF]at hk;rw[<- hk]at h12;have hch:Yb (Qr t.kids) 0 4 t.kids.length=Qb t.kids:=by
   have:=XP (f:=Qf) (k:=4) QN ZA t.kids [];rw[TP,QF]at this;exact this
  have hz: ¬t.kids.length=0:=fun e=>hne (Y2 e);rw[Qe f192l0.eq_1];simp[h1,h2,h10,h11,h12,f192r0,hz,hne,hlen,hch,es,eg,U5,Tm.eta]
 | cons x post IH=>
  intro pre ρ hk h1 h2 h10 h11 h12;have hl:=QE hk;have hw1:=wr1 pre.length (by omega);have hlt:=QG hk;have hlt':pre.length < t.kids.length:=by omega
  have r1: ((Qr t.kids).drop (pre.length*4)).take 4=Qf x:=by
   have:=UG (f:=Qf) (k:=4) QN hk [];simpa using this
  have hput: (Qr t.kids).take (pre.length*4)++ (Qf x ++ (Qr t.kids).drop (pre.length*4+4))=Qr t.kids:=by
   have:=Pa (f:=Qf) (k:=4) QN x hk [];rw[<- hk]at this;simpa using this
  have hle:pre.length*4+4<=t.kids.length*4:=by omega
  have hc:=ih x (by rw[hk];simp);have h2':=IH (pre ++ [x]);rw[Qe f192l0.eq_1];generalize Qr t.kids=c at *;simp[h1,h2,h10,h11,h12,hw1,hlt,hlt',eg,es,hlen,hle,hst,r1,hc,hput];refine h2' _ (by rw[hk];simp) ?_ ?_ ?_ ?_ ?_ <;> simp[h1,h2,h10,h11]
def Rh: ∀(t:Tm) (bs:Qa),t.mass < big->call tb 192 [.agg (Qf t)] bs=some (.agg (Qf t),bs):=by
 refine Yj ?_;intro k n s ks ih bs hm;have hme:=QH (.mk k n s ks);simp only[Zs,Z3]at hme;have hb:ks.length*56<=140737488355328:=by unfold big at hm;omega
 rw[zcc 192 rfl rfl];have ho:call tb 193 [.sl false 4 (Qb ks)] bs=if ks.length=0 then some (.gs 0 0 0 0,bs)else some (.gs bs.length 0 4 ks.length,bs ++ [Qr ks]):=by
  have hst: (Qr ks).map AV.strip=Qr ks:=YM ZA _;rw[Wy tb_193];simp only[Vc,Zd,Sw,Wh,hb,Y8,JB,hst]
 by_cases hk:ks=[]
 ·subst hk;simp[f192C,Zj,Qb]at ho ⊢;simp[ho];rw[Qe f192l0.eq_1];simp[f192r0]
 ·have hz: ¬ks.length=0:=fun e=>hk (Y2 e);rw[Qm hz]at ho;have hl:=fun ρ=>Bb (.mk k n s ks) hm hk (fun x hx bs=>ih x hx bs (by have:=QY (show x∈ks from hx);omega)) bs ks [] ρ rfl;simp only[UM,Z3,S7,Zs]at hl;simp[f192C];simp[Zj,ho];have e:AV.agg [.int .i64 k,.str n,.int .i64 s,.sl false 4 (Qb ks)]= .agg (Qf (.mk k n s ks)):=by rw[Zj];rfl
  rw[e];refine hl _ ?_ ?_ ?_ ?_ ?_ <;> simp
abbrev Pw:=Tm×Int
def Zq (p:Pw):Qh:=Qf p.1 ++ [.int .i64 p.2]
abbrev Qk:=List Pw
def QC (l:Qk):Qa:=l.map Zq
abbrev QR (l:List Pw):List AV:=YB Zq l
def BQ (p:Pw):Zq p=[.int .i64 p.1.kind,.str p.1.name,.int .i64 p.1.sort,.sl false 4 (Qb p.1.kids),.int .i64 p.2]:=by simp[Zq,Zj]
@[simp] def W7 (p:Pw): (Zq p).length=5:=by simp[Zq]
@[simp] def VT (p:Pw): (Zq p).map AV.strip=Zq p:=by simp[Zq]
@[simp] def QpI (p:Pw): (Zq p).take 4=Qf p.1:=by simp[Zq]
@[simp] def QpJ (p:Pw): (Zq p).take 5=Zq p:=YD (by simp)
@[simp] def QrN (p:Pw): (Zq p)[4]? =some (.int .i64 p.2):=by simp[Zq]
@[simp] def QrA (p:Pw) (h:4 < (Zq p).length): (Zq p)[4]= .int .i64 p.2:=by simp[Zq]
def OP:=@List.drop_append
@[simp] def QpH (p:Pw): (Zq p).drop 5=[]:=by simp[Zq,OP]
@[simp] def QiY (p:Pw):QV (Zq p)=true:=by simp[Zq,Ov]
@[simp] def Qqp (l:Qk): (QC l).length=l.length:=by simp[QC]
@[simp] def Qqo (l:Qk) (i:Nat): (QC l)[i]? =(l[i]?).map Zq:=by simp[QC]
def TX (a b:Qk):QC a ++ QC b=QC (a ++ b):=by simp[QC]
def TY (p:Pw): [Zq p]=QC [p]:=rfl
@[simp] def Nv: ∀l:Qk,ZU (QC l)=true
 | []=>rfl
 | p:: l=>by
  have:=Nv l;simp only[QC]at this ⊢;simp[ZU,this]
def XB (l:Qk): (QR l).length=l.length*5:=Yx W7 l
def Bm (p:Pw) (t:Tm) (B:Qa) (hp:p.1.mass < big) (ht:t.mass < big):call tb 190 [.agg (Zq p),.agg (Qf t)] B=some (.int .i64 (Qp p.1 t),B):=by
 have h:=call_Compare p.1 t B hp ht;rw[zcc 190 rfl rfl];simp[f190,f190C,h]
def QZ (l:Qk):Qc:=l.map (·.1)
def PAt (l:Qk) (t:Tm) (k:Nat):Prop:=k<=l.length/\(∀(i:Nat) (p:Pw),l[i]? =some p->i < k->Qp p.1 t < 0)/\(∀(i:Nat) (p:Pw),l[i]? =some p->k<=i->¬Qp p.1 t < 0)
def hit (l:Qk) (t:Tm) (k:Nat):Bool:=match l[k]? with
 | some p=>decide (Qp p.1 t=0)
 | none=>false
def QkJ (l:Qk) (t:Tm) (B:Qa) (r:Out):Prop:=∃k,PAt l t k/\r=some (.tup [.int .i64 k,.bool (hit l t k)],B)
def IK {l:Qk} {i:Nat} {p:Pw} {c:Qh} (h: (c.drop (i*5)).take 5=Zq p): ((c.map AV.strip).drop (i*5)).take 5=Zq p:=by
 rw[<- Jl,<- MI,h,VT]
def O6 {l:Qk} {i:Nat} {p:Pw} (h:l[i]? =some p) (c:Qh): ((QR l ++ c).drop (i*5)).take 5=Zq p:=by
 obtain⟨hi,rfl⟩:=WD.1 h;have hl:l=l.take i ++ l[i]:: l.drop (i+1):=by rw[List.getElem_cons_drop,Mt]
 have:=UG (f:=Zq) (k:=5) W7 hl c;rw[Xi,Ek (by omega)]at this;exact this
def Dk {i j:Nat} (h:i+j < 9223372036854775808):IntKind.i64.wrap (IntKind.u64.wrap (IntKind.i64.wrap ((i:Int)+ (j:Int))) / 2 ^ min 1 IntKind.u64.bits)=(((i+j) / 2:Nat):Int):=by
 rw[Zg (n:=(i:Int)+j) (by omega) (by omega)];have h1:IntKind.u64.wrap ((i:Int)+j)=(i:Int)+j:=by
  simp[IntKind.wrap,IntKind.bits,IntKind.signed];omega
 have h2: (2:Int) ^ min 1 IntKind.u64.bits=2:=by decide
 rw[h1,h2,Zg (by omega) (by omega)];omega
def Pi:=@List.pairwise_iff_getElem
def Qgk {l:Qk} {t:Tm} {B:Qa} {id sz:Nat} {c:Qh} (hl:l.length < 100000000) (hb:l≠[]->sz=5/\B[id]? =some (QR l ++ c)) (hm: ∀p∈l,p.1.mass < big) (ht:t.mass < big) (ha:Asc (QZ l)):
  ∀(d i j:Nat) (ρ:Ql),j - i<=d->i<=j->j<=l.length->(∀(k:Nat) (p:Pw),l[k]? =some p->k < i->Qp p.1 t < 0)->(∀(k:Nat) (p:Pw),l[k]? =some p->j<=k->¬Qp p.1 t < 0)->
  ρ 0= .gs id 0 sz l.length->ρ 4= .bx (Qf t)->ρ 2= .fn 190 []->ρ 8= .int .i64 l.length->ρ 9= .int .i64 i->ρ 10= .int .i64 j->
  QkJ l t B (R tb (.loop f191l0) ρ B (Qq 0 (QI tb f191r0 (QK f191 B)))):=by
 have mono: ∀(i j:Nat) (p q:Pw),l[i]? =some p->l[j]? =some q->i<=j->Qp q.1 t < 0->Qp p.1 t < 0:=by
  intro i j p q hp hq hij h;rcases QT i j with hlt | hge
  ·obtain⟨h1,rfl⟩:=WD.1 hp;obtain⟨h2,rfl⟩:=WD.1 hq;have:=Pi.1 ha i j (by simpa[QZ]using h1) (by simpa[QZ]using h2) hlt;simp only[QZ,List.getElem_map]at this;exact Xo this h
  ·have:i=j:=by omega
   subst this;rw[hp]at hq;injection hq with hq;subst hq;exact h
 intro d
 induction d with
 | zero=>
  intro i j ρ hd hij hj hlo hhi h0 h4 h2 h8 h9 h10;have:i=j:=by omega
  subst this;refine⟨i,⟨hj,hlo,hhi⟩,?_⟩;rw[Qe f191l0.eq_1];by_cases c1:i < l.length
  ·have hp:=Zw c1;obtain⟨rfl,hbx⟩:=hb (by intro e;subst e;simp at c1);have r1:=IK (l:=l) (O6 hp c);have hmp:=hm _ (Sj c1);have hle:i*5+5<=(QR l ++ c).length:=by rw[Zc,XB];omega
   have c1': (i:Int) < (l.length:Int):=by omega
   have hh:hit l t i=decide (Qp l[i].1 t=0):=by simp[hit,hp]
   rw[hh];generalize l[i]=p at *;have h3:=Bm p t B hmp ht;generalize QR l ++ c=cc at *;simp[f191r0,h0,h2,h4,h8,h9,h10,c1,c1',hbx,hle,r1,h3]
  ·have hh:hit l t i=false:=by simp[hit,Q0 (Nat.le_of_not_lt c1)]
   have c1': ¬(i:Int) < (l.length:Int):=by omega
   simp[f191r0,h0,h2,h4,h8,h9,h10,c1,c1',hh]
 | succ d IH=>
  intro i j ρ hd hij hj hlo hhi h0 h4 h2 h8 h9 h10;by_cases hlt:i < j
  ·have hmn: (i+j) / 2 < l.length:=by omega
   have hw:=Dk (i:=i) (j:=j) (by omega);have hp:=Zw hmn;obtain⟨rfl,hbx⟩:=hb (by intro e;subst e;simp at hmn);have r1:=IK (l:=l) (O6 hp c);have hmp:=hm _ (Sj hmn);have hle: (i+j) / 2*5+5<=(QR l ++ c).length:=by rw[Zc,XB];omega
   have hltI: (i:Int) < (j:Int):=by omega
   have hb1:i<=(i+j) / 2:=by omega
   have hb2: (i+j) / 2 < j:=by omega
   generalize l[(i+j) / 2]=p at *;generalize hmm: (i+j) / 2=m at *;have h3:=Bm p t B hmp ht;have hw1:IntKind.i64.wrap ((m:Int)+1)=((m+1:Nat):Int):=by rw[Zg (by omega) (by omega)];omega
   have c1': (m:Int) < (l.length:Int):=by omega
   generalize hcc:QR l ++ c=cc at *;rw[Qe f191l0.eq_1];by_cases cc1:Qp p.1 t < 0
   ·have ih:=fun ρ=>IH (m+1) j ρ (by omega) (by omega) hj (fun k q hq hk=>mono k m q p hq hp (by omega) cc1) hhi;simp[-getElem?_pos,h0,h2,h4,h8,h9,h10,hltI,hw,hw1,c1',hmn,hbx,hle,r1,h3,cc1];refine ih _ ?_ ?_ ?_ ?_ ?_ ?_ <;> simp[h0,h2,h4,h8,h10]
   ·have ih:=fun ρ=>IH i m ρ (by omega) (by omega) (by omega) hlo (fun k q hq hk h=>cc1 (mono m k p q hp hq hk h));simp[-getElem?_pos,h0,h2,h4,h8,h9,h10,hltI,hw,hw1,c1',hmn,hbx,hle,r1,h3,cc1];refine ih _ ?_ ?_ ?_ ?_ ?_ ?_ <;> simp[h0,h2,h4,h8,h9]
  ·exact IH i j ρ (by omega) hij hj hlo hhi h0 h4 h2 h8 h9 h10
def QhK {l:Qk} {t:Tm} {B:Qa} {id sz:Nat} {c:Qh} (hl:l.length < 100000000) (hb:l≠[]->sz=5/\B[id]? =some (QR l ++ c)) (hm: ∀p∈l,p.1.mass < big) (ht:t.mass < big) (ha:Asc (QZ l)):
  QkJ l t B (call tb 191 [.gs id 0 sz l.length,.agg (Qf t),.fn 190 []] B):=by
 have h:=fun ρ=>Qgk hl hb hm ht ha l.length 0 l.length ρ (by omega) (by omega) (by omega) (fun k p _ hk=>by omega) (fun k p hp hk=>by rw[Q0 hk]at hp;cases hp);rw[zcc 191 rfl rfl];simp[f191C];refine h _ ?_ ?_ ?_ ?_ ?_ ?_ <;> simp
end Go.Am
