/-
  Rc8, Rc9, Rc10, Rc11, Rc12, Rc13.
-/
import Derived.Test.YtjkjecpalfmohaaGreatDoorG16
set_option linter.all false
open Go.Am.F
namespace Go.Am
set_option maxRecDepth 20000
def WK (l:Qc) (t:Tm):Bool:=l.any fun x=>decide (Qq x t=0)
def D0 {l:Qc} {t:Tm}:WK l t=true↔t∈l:=by
 simp only[WK,UX,Qy];constructor
 ·rintro⟨x,hx,h⟩;rw[<- Xg _ _ h];exact hx
 ·intro h;exact⟨t,h,V2 t⟩
def Uj (l:Qc) (t:Tm):Qc:=if WK l t then l.filter (fun x=> !decide (Qq x t=0))else ZZ t l
def Xl (a b:Qc):Qc:=b.foldl Uj a
def QaJ {l:Qc} (p:Tm->Bool) (h:Asc l):Asc (l.filter p):=JB _ h
def Qf1 {l:Qc} (t:Tm) (h:Asc l):Asc (Uj l t):=by
 unfold Uj;split
 ·exact QaJ _ h
 ·exact KQ h
def Cj {l:Qc} {t y:Tm}:y∈Uj l t↔(y∈l/\y≠t)\/(y=t/\t ∉ l):=by
 unfold Uj;split
 ·rename_i h;rw[D0]at h;simp only[PV,UV,TC,Wt];constructor
  ·rintro⟨h1,h2⟩;exact .inl ⟨h1,h2⟩
  ·rintro(⟨h1,h2⟩ | ⟨rfl,h2⟩)
   ·exact⟨h1,h2⟩
   ·exact absurd h h2
 ·rename_i h;rw[D0]at h;rw[Ro];constructor
  ·rintro(rfl | h1)
   ·exact .inr ⟨rfl,h⟩
   ·refine .inl ⟨h1,fun e=> ?_⟩;subst e;exact h h1
  ·rintro(⟨h1,h2⟩ | ⟨h1,h2⟩)
   ·exact .inr h1
   ·exact .inl h1
def RV: ∀(b a:Qc),Asc a->Asc (Xl a b)
 | [],_,h=>h
 | x:: b,a,h=>RV b _ (Qf1 x h)
def ON {y:Tm}: ∀{b a:Qc},Asc b->(y∈Xl a b↔(y∈a/\y ∉ b)\/(y ∉ a/\y∈b))
 | [],a,_=>by simp[Xl]
 | x:: b,a,h=>by
  rw[X1]at h;have ih:=ON (y:=y) (b:=b) (a:=Uj a x) h.2;have hxb:x ∉ b:=fun hm=>Ut x (h.1 x hm);simp only[Xl,Nr]at ih ⊢;rw[ih,Cj];simp only[ZE];by_cases e:y=x
  ·subst e;by_cases hy:y∈a <;> simp[hy,hxb]
  ·by_cases hy:y∈a <;> by_cases hb:y∈b <;> simp[hy,hb,e]
def Tu: ∀(b a:Qc),(Xl a b).length<=a.length+b.length
 | [],a=>by simp[Xl]
 | x:: b,a=>by
  have ih:=Tu b (Uj a x);have: (Uj a x).length<=a.length+1:=by
   unfold Uj;split
   ·have:=RO (fun y=> !decide (Qq y x=0)) a;omega
   ·exact P3 x a
  simp only[Xl,Nr,ZQ]at ih ⊢;omega
def Vt:List Tm->List Tm->List Tm
 | [],b=>b
 | a,[]=>a
 | x:: a,y:: b=>if Qq x y < 0 then x:: Vt a (y:: b)else if 0 < Qq x y then y:: Vt (x:: a) b else Vt a b
termination_by a b=>a.length+b.length
def LY (b:Qc):Vt [] b=b:=by rw[Vt]
def Mn (a:Qc):Vt a []=a:=by cases a <;> rw[Vt];simp
def Mm (x y:Tm) (a b:Qc):Vt (x:: a) (y:: b)=if Qq x y < 0 then x:: Vt a (y:: b)else if 0 < Qq x y then y:: Vt (x:: a) b else Vt a b:=by rw[Vt]
def Sq {y:Tm}: ∀(n:Nat) (a b:Qc),a.length+b.length<=n->Asc a->Asc b->(y∈Vt a b↔(y∈a/\y ∉ b)\/(y ∉ a/\y∈b))
 | _,[],b,_,_,_=>by rw[LY];simp
 | _,x:: a,[],_,_,_=>by rw[Mn];simp
 | 0,x:: a,z:: b,h,_,_=>by simp at h
 | n+1,x:: a,z:: b,h,ha,hb=>by
  have ha0:=ha;have hb0:=hb;rw[X1]at ha hb;simp only[ZQ]at h;rw[Mm];split
  ·rename_i h1;rw[ZE,Sq n a (z:: b) (by simp;omega) ha.2 hb0];have hxb:x ∉ z:: b:=fun hm=>by
    rcases ZE.1 hm with e | e
    ·subst e;exact Ut x h1
    ·exact Ut x (Xy h1 (hb.1 x e))
   have hxa:x ∉ a:=fun hm=>Ut x (ha.1 x hm);by_cases e:y=x
   ·subst e;simp[hxb]
   ·simp[e]
  ·rename_i h1;split
   ·rename_i h2;have h2':=Ig.1 h2;rw[ZE,Sq n (x:: a) b (by simp;omega) ha0 hb.2];have hza:z ∉ x:: a:=fun hm=>by
     rcases ZE.1 hm with e | e
     ·subst e;exact Ut z h2'
     ·exact Ut z (Xy h2' (ha.1 z e))
    have hzb:z ∉ b:=fun hm=>Ut z (hb.1 z hm);by_cases e:y=z
    ·subst e;simp[hza]
    ·simp[e]
   ·rename_i h2;have e0:=Xg x z (by omega);subst e0;rw[Sq n a b (by omega) ha.2 hb.2];have hxa:x ∉ a:=fun hm=>Ut x (ha.1 x hm);have hxb:x ∉ b:=fun hm=>Ut x (hb.1 x hm);by_cases e:y=x
    ·subst e;simp[hxa,hxb]
    ·simp[e]
def OA: ∀(n:Nat) (a b:Qc),a.length+b.length<=n->Asc a->Asc b->Asc (Vt a b)
 | _,[],b,_,_,hb=>by rw[LY];exact hb
 | _,x:: a,[],_,ha,_=>by rw[Mn];exact ha
 | 0,x:: a,z:: b,h,_,_=>by simp at h
 | n+1,x:: a,z:: b,h,ha,hb=>by
  have ha0:=ha;have hb0:=hb;rw[X1]at ha hb;simp only[ZQ]at h;rw[Mm];split
  ·rename_i h1;rw[X1];refine⟨fun y hy=> ?_,OA n a (z:: b) (by simp;omega) ha.2 hb0⟩;rw[Sq n a (z:: b) (by simp;omega) ha.2 hb0]at hy;rcases hy with⟨hy,_⟩ | ⟨_,hy⟩
   ·exact ha.1 y hy
   ·rcases ZE.1 hy with e | e
    ·subst e;exact h1
    ·exact Xy h1 (hb.1 y e)
  ·rename_i h1;split
   ·rename_i h2;have h2':=Ig.1 h2;rw[X1];refine⟨fun y hy=> ?_,OA n (x:: a) b (by simp;omega) ha0 hb.2⟩;rw[Sq n (x:: a) b (by simp;omega) ha0 hb.2]at hy;rcases hy with⟨hy,_⟩ | ⟨_,hy⟩
    ·rcases ZE.1 hy with e | e
     ·subst e;exact h2'
     ·exact Xy h2' (ha.1 y e)
    ·exact hb.1 y hy
   ·exact OA n a b (by omega) ha.2 hb.2
def Ct {a b:Qc} (ha:Asc a) (hb:Asc b):Vt a b=Xl a b:=
 I0 (OA _ a b (Zm _) ha hb) (RV b a ha) fun x=>by rw[Sq _ a b (Zm _) ha hb,ON hb]
def Yt:Qu:=[122,101,114,111]
def XOR:Qu:=[120,111,114]
mutual
def ZG:Tm->List Tm
 | .mk k n s ks=>if k=3/\n=Yt/\ks=[]then []else if k=3/\n=XOR then Yd [] ks else [.mk k n s ks]
def Yd (acc:List Tm):List Tm->List Tm
 | []=>acc
 | t:: ts=>Yd (Xl acc (ZG t)) ts
end
mutual
theorem UI: ∀t:Tm,Asc (ZG t)
 | .mk k n s ks=>by
  simp only[ZG];split
  ·exact Asc.nil
  ·split
   ·exact KS ks [] Asc.nil
   ·exact I1 _
theorem KS: ∀(ts acc:List Tm),Asc acc->Asc (Yd acc ts)
 | [],_,h=>h
 | t:: ts,acc,h=>KS ts _ (RV _ _ h)
end
def Uu {y:Tm} {b a:Qc} (hb:Asc b) (h:y∈Xl a b):y∈a\/y∈b:=by
 rw[ON hb]at h;rcases h with h | h
 ·exact .inl h.1
 ·exact .inr h.2
mutual
theorem Ov: ∀(t y:Tm),y∈ZG t->y∈ZB t
 | .mk k n s ks,y,h=>by
  simp only[ZG]at h;simp only[ZB,ZE];split at h
  ·simp at h
  ·split at h
   ·rcases My ks [] y h with h | h
    ·simp at h
    ·exact .inr h
   ·simp at h;exact .inl h
theorem My: ∀(ts acc:List Tm) (y:Tm),y∈Yd acc ts->y∈acc\/y∈ZA ts
 | [],acc,y,h=> .inl h
 | t:: ts,acc,y,h=>by
  simp only[ZA,Xe];rcases My ts _ y h with h | h
  ·rcases Uu (UI t) h with h | h
   ·exact .inl h
   ·exact .inr (.inl (Ov t y h))
  ·exact .inr (.inr h)
end
mutual
theorem Ou: ∀t:Tm,(ZG t).length<=t.nodes
 | .mk k n s ks=>by
  simp only[ZG,Tm.nodes];split
  ·simp
  ·split
   ·have:=Mx ks [];simp at this;omega
   ·simp
theorem Mx: ∀(ts acc:List Tm),(Yd acc ts).length<=acc.length+Qx ts
 | [],acc=>by simp[Yd,Qx]
 | t:: ts,acc=>by
  have h1:=Mx ts (Xl acc (ZG t));have h2:=Tu (ZG t) acc;have h3:=Ou t;simp only[Yd,Qx]at *;omega
end
def Gr (l:Qc) (t:Tm) (bs:Qa) (hl:l.length < 100000000) (hm: ∀x∈l,x.mass < big) (ht:t.mass < big):
  ∀(post pre:Qc) (ρ:Ql),l=pre ++ post->ρ 0= .sl false 4 (Qb l)->ρ 3= .bx (Qf t)->ρ 5= .int .i64 pre.length->
  R tb (.loop f250l0) ρ bs (Qo 0 (QB tb f250r0 (QN f250 bs)))=some (.bool (WK post t),bs):=by
 intro post
 induction post with
 | nil=>
  intro pre ρ hk h0 h3 h5;simp only[QH]at hk;rw[<- hk]at h5;rw[Qe f250l0.eq_1];simp[h0,h3,h5,f250r0,WK]
 | cons x post IH=>
  intro pre ρ hk h0 h3 h5;have hg:=Qw hk;have hll:=QE hk;have hw1:=wr1 pre.length (by omega);have hlt:=QI hk;have hc:=Xs x t bs (hm x (by rw[hk];simp)) ht;rw[Qe f250l0.eq_1];by_cases he:Qq x t=0
  ·simp[h0,h3,h5,hg,hlt,hw1,hc,he,Qk,WK]
  ·have e:WK (x:: post) t=WK post t:=by simp[WK,he]
   rw[e];simp[h0,h3,h5,hg,hlt,hw1,hc,he,Qk];rw[IH (pre ++ [x])] <;> simp[h0,h3,hk]
def Qgb (l:Qc) (t:Tm) (o:Bool) (bs:Qa) (hl:l.length < 100000000) (hm: ∀x∈l,x.mass < big) (ht:t.mass < big):
  call tb 250 [.sl o 4 (Qb l),.agg (Qf t)] bs=some (.bool (WK l t),bs):=by
 have h:=fun ρ=>Gr l t bs hl hm ht l [] ρ rfl;rw[zcc 250 rfl rfl];simp[f250C];refine h _ ?_ ?_ ?_ <;> simp
def QhP (l:Qc) (t:Tm) (bs:Qa) (hl:l.length < 100000000) (hm: ∀x∈l,x.mass < big) (ht:t.mass < big):
  ∀(post pre:Qc) (ρ:Ql),l=pre ++ post->ρ 0= .sl false 4 (Qb l)->ρ 3= .bx (Qf t)->ρ 5= .sl true 4 (Qb (pre.filter (fun x=> !decide (Qq x t=0))))->ρ 6= .int .i64 pre.length->
  R tb (.loop f249l0) ρ bs (Qo 0 (QB tb f249r0 (QN f249 bs)))=some (.sl false 4 (Qb (l.filter (fun x=> !decide (Qq x t=0)))),bs):=by
 intro post
 induction post with
 | nil=>
  intro pre ρ hk h0 h3 h5 h6;simp only[QH]at hk;rw[<- hk]at h5 h6;rw[Qe f249l0.eq_1];simp[h0,h3,h5,h6,f249r0]
 | cons x post IH=>
  intro pre ρ hk h0 h3 h5 h6;have hg:=Qw hk;have hll:=QE hk;have hw1:=wr1 pre.length (by omega);have hlt:=QI hk;have hfl:=RO (fun x=> !decide (Qq x t=0)) pre;have hb: ((pre.filter (fun x=> !decide (Qq x t=0))).length+1)*56<=140737488355328:=WV (by omega);have hc:=Xs x t bs (hm x (by rw[hk];simp)) ht;have h2:=IH (pre ++ [x]);rw[Qe f249l0.eq_1];by_cases he:Qq x t=0
  ·have hf: (pre ++ [x]).filter (fun x=> !decide (Qq x t=0))=pre.filter (fun x=> !decide (Qq x t=0)):=by simp[Np,he]
   rw[hf]at h2;generalize pre.filter (fun x=> !decide (Qq x t=0))=pf at *;generalize l.filter (fun x=> !decide (Qq x t=0))=lf at *;simp[h0,h3,h5,h6,hg,hlt,hw1,hc,he,Qk];rw[h2] <;> simp[h0,h3,h5,hk]
  ·have hf: (pre ++ [x]).filter (fun x=> !decide (Qq x t=0))=pre.filter (fun x=> !decide (Qq x t=0))++ [x]:=by simp[Np,he]
   rw[hf]at h2;generalize pre.filter (fun x=> !decide (Qq x t=0))=pf at *;generalize l.filter (fun x=> !decide (Qq x t=0))=lf at *;simp[h0,h3,h5,h6,hg,hlt,hw1,hc,he,hb,Qk,Z4,ZL];rw[h2] <;> simp[h0,h3,hk]
def Bh (l:Qc) (t:Tm) (o:Bool) (bs:Qa) (hl:l.length < 100000000) (hm: ∀x∈l,x.mass < big) (ht:t.mass < big):
  call tb 249 [.sl o 4 (Qb l),.agg (Qf t)] bs=some (.sl false 4 (Qb (Uj l t)),bs):=by
 have h:=fun ρ=>QhP l t bs hl hm ht l [] ρ rfl;have hh:=Qgb l t false bs hl hm ht;have ha:=KW l t false bs hl hm ht;rw[zcc 249 rfl rfl];cases hb:WK l t
 ·have e:Uj l t=ZZ t l:=by simp[Uj,hb]
  rw[e];simp[f249C,Qk,hh,hb,ha]
 ·have e:Uj l t=l.filter (fun x=> !decide (Qq x t=0)):=by simp[Uj,hb]
  rw[e];generalize l.filter (fun x=> !decide (Qq x t=0))=lf at *;simp[f249C,Qk,hh,hb];refine h _ ?_ ?_ ?_ ?_ <;> simp[Qb]
def QaC (b:Qc) (bs:Qa) (hl:b.length < 40000000) (hm: ∀x∈b,x.mass < big):
  ∀(post pre acc:Qc) (o:Bool) (ρ:Ql),b=pre ++ post->acc.length+post.length < 90000000->(∀x∈acc,x.mass < big)->ρ 1= .sl false 4 (Qb b)->ρ 5= .sl o 4 (Qb acc)->ρ 6= .int .i64 pre.length->
  R tb (.loop f248l0) ρ bs (Qo 0 (QB tb f248r0 (QN f248 bs)))=some (.sl false 4 (Qb (Xl acc post)),bs):=by
 intro post
 induction post with
 | nil=>
  intro pre acc o ρ hk ha hma h1 h5 h6;simp only[QH]at hk;rw[<- hk]at h6;rw[Qe f248l0.eq_1];simp[h1,h5,h6,f248r0,Xl]
 | cons x post IH=>
  intro pre acc o ρ hk ha hma h1 h5 h6;have hg:=Qw hk;have hll:=QE hk;have hw1:=wr1 pre.length (by omega);have hlt:=QI hk;have hx:=hm x (by rw[hk];simp);have hal:acc.length+ (post.length+1) < 90000000:=by simpa using ha
  have hc:=Bh acc x false bs (by omega) hma hx;have htl: (Uj acc x).length<=acc.length+1:=by
   have:=Tu [x] acc;simpa[Xl]using this
  have htm: ∀y∈Uj acc x,y.mass < big:=fun y hy=>by
   rcases Cj.1 hy with h | h
   ·exact hma y h.1
   ·rw[h.1];exact hx
  have h2:=fun ρ=>IH (pre ++ [x]) (Uj acc x) false ρ (by rw[hk];simp) (by omega) htm;rw[Qe f248l0.eq_1];simp[h1,h5,h6,hg,hlt,hw1,hc];rw[show Xl acc (x:: post)=Xl (Uj acc x) post from rfl];refine h2 _ ?_ ?_ ?_ <;> simp[h1]
def JY (a b:Qc) (o o2:Bool) (bs:Qa) (ha:a.length < 40000000) (hb:b.length < 40000000) (hma: ∀x∈a,x.mass < big) (hmb: ∀x∈b,x.mass < big):
  call tb 248 [.sl o 4 (Qb a),.sl o2 4 (Qb b)] bs=some (.sl false 4 (Qb (Xl a b)),bs):=by
 have h:=fun o ρ=>QaC b bs hb hmb b [] a o ρ rfl (by omega) hma;have hlim:a.length*56<=140737488355328:=WV (by omega);rw[zcc 248 rfl rfl];simp[f248C,hlim];refine h true _ ?_ ?_ ?_ <;> simp
def QdJ (t:Tm) (bs:Qa) (hm:t.mass < 30000000) (ih: ∀x∈t.kids,∀bs,∃o,call tb 247 [.agg (Qf x)] bs=some (.sl o 4 (Qb (ZG x)),bs)):
  ∀(post pre acc:Qc) (o:Bool) (ρ:Ql),t.kids=pre ++ post->acc.length+Qx post < 30000000->(∀x∈acc,x.mass < big)->ρ 1= .bx (Qf t)->ρ 3= .sl o 4 (Qb acc)->ρ 4= .int .i64 pre.length->
  R tb (.loop f247l0) ρ bs (Qo 0 (QB tb f247r0 (QN f247 bs)))=some (.sl false 4 (Qb (Yd acc post)),bs):=by
 have hmk:=QK t;intro post
 induction post with
 | nil=>
  intro pre acc o ρ hk ha hma h1 h3 h4;simp only[QH]at hk;rw[<- hk]at h4;rw[Qe f247l0.eq_1];simp[h1,h3,h4,f247r0,Yd]
 | cons x post IH=>
  intro pre acc o ρ hk ha hma h1 h3 h4;have hg:=Qw hk;have hll:=QE hk;have hgl:t.kids[pre.length]'(by omega)=x:=by
   have:=Zq (l:=t.kids) (i:=pre.length) (by omega);rw[hg]at this;injection this with this;exact this.symm
  have hw1:=wr1 pre.length (by omega);have hlt:=QI hk;have hxk:x∈t.kids:=by rw[hk];simp
  have hxm:=Q3 hxk;have hxn:=YK x;have hsl:=Ou x;simp only[Qx]at ha;obtain⟨o1,hc1⟩:=ih x hxk bs;have hsm: ∀y∈ZG x,y.mass < big:=fun y hy=>by have:=UB x y (Ov x y hy);unfold big;omega
  have hc2:=JY acc (ZG x) false false bs (by omega) (by omega) hma hsm;have hpl:=Tu (ZG x) acc;have hpm: ∀y∈Xl acc (ZG x),y.mass < big:=fun y hy=>by
   rcases Uu (UI x) hy with h | h
   ·exact hma y h
   ·exact hsm y h
  have h2:=fun ρ=>IH (pre ++ [x]) (Xl acc (ZG x)) false ρ (by rw[hk];simp) (by omega) hpm;rw[Qe f247l0.eq_1];simp[h1,h3,h4,hg,hgl,hlt,hw1,hc1,hc2,Yd];refine h2 _ ?_ ?_ ?_ <;> simp[h1]
def I9: ∀(t:Tm) (bs:Qa),t.mass < 30000000->∃o,call tb 247 [.agg (Qf t)] bs=some (.sl o 4 (Qb (ZG t)),bs):=by
 refine Yq ?_;intro k n s ks ih bs hm;have hmk:=QK (.mk k n s ks);have hnm:=YJ ks;simp only[Zz,Ya]at hmk;have hl:=fun ρ=>QdJ (.mk k n s ks) bs hm (fun x hx bs=>ih x hx bs (by have:=Q3 hx;simp at this;omega)) ks [] [] true ρ rfl (by simp;omega) (by simp);rw[zcc 247 rfl rfl];by_cases hk:k=3
 ·by_cases hz:n=Yt
  ·cases ks with
   | nil=>
    refine⟨true,?_⟩;simp[f247C,Qf,Qb,ZG,hk,hz,Yt]
   | cons x xs=>
    refine⟨true,?_⟩;simp only[Yt]at hz;have: ¬((xs.length:Int)+1=0):=by omega
    simp[f247C,Qf,ZG,hk,hz,Yt,XOR,this,Qb]
  ·by_cases hx:n=XOR
   ·refine⟨false,?_⟩;have e:ZG (.mk k n s ks)=Yd [] ks:=by simp[ZG,hk,hx,Yt,XOR]
    rw[e];have hb1: (n == [122,101,114,111])=false:=by simpa[Yt]using hz
    simp only[XOR]at hx;simp[f247C,Qf,hk,hx];refine hl _ ?_ ?_ ?_ <;> simp[Qf,Qb,hk,hx]
   ·refine⟨true,?_⟩;have e:ZG (.mk k n s ks)=[.mk k n s ks]:=by simp[ZG,hk,hx,hz]
    rw[e];have hb1: (n == [122,101,114,111])=false:=by simpa[Yt]using hz
    have hb2: (n == [120,111,114])=false:=by simpa[XOR]using hx
    have hb3: (n != [120,111,114])=true:=by simpa[XOR]using hx
    simp[f247C,Qf,hk,hb1,hb2,hb3,Qb]
 ·refine⟨true,?_⟩;have e:ZG (.mk k n s ks)=[.mk k n s ks]:=by simp[ZG,hk]
  rw[e];have hb: (k != 3)=true:=by simp[hk]
  simp[f247C,Qf,hk,hb,Qb]
@[simp] def Qsd (x:Tm) (a:Qc) (h:0 < (Qb (x:: a)).length): (Qb (x:: a))[0]=Qf x:=by simp[Qb]
def Tg (l:Qc) (bs:Qa) (r:Option (AV×Qa)):Prop:=∃o,r=some (.sl o 4 (Qb l),bs)
def QeQ (bs:Qa): ∀(n:Nat) (a b acc:Qc) (o1 o2:Bool) (ρ:Ql),a.length+b.length<=n->acc.length+a.length+b.length < 100000000->(∀x∈a,x.mass < big)->(∀x∈b,x.mass < big)->
   ρ 0= .sl o1 4 (Qb a)->ρ 1= .sl o2 4 (Qb b)->ρ 5= .sl true 4 (Qb acc)->
  Tg (acc ++ Vt a b) bs (R tb (.loop f183l0) ρ bs (Qo 0 (QB tb f183r0 (QN f183 bs)))):=by
 have hend: ∀(a b acc:Qc) (o1 o2:Bool) (ρ:Ql),(a=[]\/b=[])->acc.length+a.length+b.length < 100000000->ρ 0= .sl o1 4 (Qb a)->ρ 1= .sl o2 4 (Qb b)->ρ 5= .sl true 4 (Qb acc)->
   Tg (acc ++ Vt a b) bs (R tb f183r0 ρ bs (QN f183 bs)):=by
  intro a b acc o1 o2 ρ hab hl h0 h1 h5;have e:Vt a b=a ++ b:=by
   rcases hab with rfl | rfl
   ·rw[LY];simp
   ·rw[Mn];simp
  have hb1: (acc.length+a.length)*56<=140737488355328:=WV (by omega);have hb2: (acc.length+ (a.length+b.length))*56<=140737488355328:=WV (by clear hb1;omega);rw[e];refine⟨true,?_⟩;simp[h0,h1,h5,hb1,hb2,f183r0,ZL,Uo]
 intro n
 induction n with
 | zero=>
  intro a b acc o1 o2 ρ hn hl hma hmb h0 h1 h5;have ha:a=[]:=YX (by omega);subst ha;have h2:=fun ρ=>hend [] b acc o1 o2 ρ (.inl rfl) hl;rw[Qe f183l0.eq_1];simp[h0,h1,h5,Qb];refine h2 _ ?_ ?_ ?_ <;> simp[h0,h1,h5]
 | succ n IH=>
  intro a b acc o1 o2 ρ hn hl hma hmb h0 h1 h5
  match a,b with
  | [],b=>
   have h2:=fun ρ=>hend [] b acc o1 o2 ρ (.inl rfl) hl;rw[Qe f183l0.eq_1];simp[h0,h1,h5,Qb];refine h2 _ ?_ ?_ ?_ <;> simp[h0,h1,h5]
  | x:: a,[]=>
   have h2:=fun ρ=>hend (x:: a) [] acc o1 o2 ρ (.inr rfl) hl;have hp: (0:Int) < (a.length:Int)+1:=by omega
   rw[Qe f183l0.eq_1];simp[h0,h1,h5,hp];refine h2 _ ?_ ?_ ?_ <;> simp[h0,h1,h5]
  | x:: a,y:: b=>
   simp only[ZQ]at hn hl;have hp: (0:Int) < (a.length:Int)+1:=by omega
   have hp2: (0:Int) < (b.length:Int)+1:=by omega
   have hp3: (1:Int)<=(a.length:Int)+1:=by omega
   have hp4: (1:Int)<=(b.length:Int)+1:=by omega
   have hc:=call_Compare x y bs (hma x (by simp)) (hmb y (by simp));have hb: (acc.length+1)*56<=140737488355328:=WV (by omega);have et: (Qb (x:: a)).take ((Qb (x:: a)).length)=Qb (x:: a):=List.take_length;have i1:=fun ρ=>IH a (y:: b) (acc ++ [x]) false o2 ρ (by simp;omega) (by simp;omega) (fun z hz=>hma z (by simp[hz])) hmb;have i2:=fun ρ=>IH (x:: a) b (acc ++ [y]) o1 false ρ (by simp;omega) (by simp;omega) hma (fun z hz=>hmb z (by simp[hz]));have i3:=fun ρ=>IH a b acc false false ρ (by omega) (by omega) (fun z hz=>hma z (by simp[hz])) (fun z hz=>hmb z (by simp[hz]));rw[Qe f183l0.eq_1,Mm];clear hn;by_cases h1':Qq x y < 0
   ·simp only[h1',Zj];simp only[ZY,WC,XP]at i1;simp[h0,h1,h5,hp,hp2,hp3,hc,h1',hb,Z4,ZL,N6,N7];refine i1 _ ?_ ?_ ?_ <;> simp[h1]
   ·by_cases h2':0 < Qq x y
    ·simp only[h1',h2',Zj,Zi];simp only[ZY,WC,XP]at i2;simp[h0,h1,h5,hp,hp2,hp4,hc,h1',h2',hb,Z4,ZL,N6,N7];refine i2 _ ?_ ?_ ?_ <;> simp[h0]
    ·simp only[h1',h2',Zi];simp[h0,h1,h5,hp,hp2,hp3,hp4,hc,h1',h2',N6,N7];refine i3 _ ?_ ?_ ?_ <;> simp[h5]
def HE (a b:Qc) (o1 o2:Bool) (bs:Qa) (hl:a.length+b.length < 100000000) (hma: ∀x∈a,x.mass < big) (hmb: ∀x∈b,x.mass < big):
  Tg (Vt a b) bs (call tb 183 [.sl o1 4 (Qb a),.sl o2 4 (Qb b)] bs):=by
 have h:=fun ρ=>QeQ bs _ a b [] false false ρ (Zm _) (by simp;omega) hma hmb;simp only[XP]at h;rw[zcc 183 rfl rfl];simp[f183C];refine h _ ?_ ?_ ?_ <;> simp[Qb]
def QhL (t:Tm) (bs:Qa) (hm:t.mass < 30000000) (ih: ∀x∈t.kids,∀bs,Tg (ZG x) bs (call tb 182 [.agg (Qf x)] bs)):
  ∀(post pre acc:Qc) (o:Bool) (ρ:Ql),t.kids=pre ++ post->acc.length+Qx post < 30000000->Asc acc->(∀x∈acc,x.mass < big)->ρ 3= .sl o 4 (Qb acc)->ρ 31= .sl false 4 (Qb t.kids)->ρ 32= .int .i64 t.kids.length->ρ 33= .int .i64 pre.length->
  R tb (.loop f182l0) ρ bs (Qo 1 (QB tb f182r0 (Qo 0 (QB tb f182r1 (QN f182 bs)))))=some (.sl false 4 (Qb (Yd acc post)),bs):=by
 have hmk:=QK t;intro post
 induction post with
 | nil=>
  intro pre acc o ρ hk ha has hma h3 h31 h32 h33;simp only[QH]at hk;rw[<- hk]at h33;rw[Qe f182l0.eq_1];simp[h3,h31,h32,h33,f182r0,Yd]
 | cons x post IH=>
  intro pre acc o ρ hk ha has hma h3 h31 h32 h33;have hg:=Qw hk;have hll:=QE hk;have hw1:=wr1 pre.length (by omega);have hlt:=QI hk;have hxk:x∈t.kids:=by rw[hk];simp
  have hxm:=Q3 hxk;have hxn:=YK x;have hsl:=Ou x;simp only[Qx]at ha;obtain⟨o1,hc1⟩:=ih x hxk bs;have hsm: ∀y∈ZG x,y.mass < big:=fun y hy=>by have:=UB x y (Ov x y hy);unfold big;omega
  obtain⟨o2,hc2⟩:=HE acc (ZG x) false false bs (by omega) hma hsm;rw[Ct has (UI x)]at hc2;have hpl:=Tu (ZG x) acc;have hpm: ∀y∈Xl acc (ZG x),y.mass < big:=fun y hy=>by
   rcases Uu (UI x) hy with h | h
   ·exact hma y h
   ·exact hsm y h
  have h2:=fun ρ=>IH (pre ++ [x]) (Xl acc (ZG x)) o2 ρ (by rw[hk];simp) (by omega) (RV _ _ has) hpm;rw[Qe f182l0.eq_1];simp[h3,h31,h32,h33,hg,hlt,hw1,Qk,hc1,hc2,Yd];refine h2 _ ?_ ?_ ?_ ?_ <;> simp[h31,h32]
def Gu: ∀(t:Tm) (bs:Qa),t.mass < 30000000->Tg (ZG t) bs (call tb 182 [.agg (Qf t)] bs):=by
 refine Yq ?_;intro k n s ks ih bs hm;have hmk:=QK (.mk k n s ks);have hnm:=YJ ks;simp only[Zz,Ya]at hmk;have hl:=fun ρ=>QhL (.mk k n s ks) bs hm (fun x hx bs=>ih x hx bs (by have:=Q3 hx;simp at this;omega)) ks [] [] true ρ rfl (by simp;omega) Asc.nil (by simp);simp only[Zz]at hl;rw[zcc 182 rfl rfl];by_cases hk:k=3
 ·by_cases hz:n=Yt
  ·cases ks with
   | nil=>
    refine⟨true,?_⟩;simp[f182C,Qf,Qb,ZG,hk,hz,Yt]
   | cons x xs=>
    refine⟨true,?_⟩;simp only[Yt]at hz;have: ¬((xs.length:Int)+1=0):=by omega
    simp[f182C,Qf,ZG,hk,hz,Yt,XOR,this,Qb,f182r1]
  ·by_cases hx:n=XOR
   ·refine⟨false,?_⟩;have e:ZG (.mk k n s ks)=Yd [] ks:=by simp[ZG,hk,hx,Yt,XOR]
    rw[e];simp only[XOR]at hx;simp[f182C,Qf,hk,hx];refine hl _ ?_ ?_ ?_ ?_ <;> simp[Qb]
   ·refine⟨true,?_⟩;have e:ZG (.mk k n s ks)=[.mk k n s ks]:=by simp[ZG,hk,hx,hz]
    rw[e];have hb1: (n == [122,101,114,111])=false:=by simpa[Yt]using hz
    have hb2: (n == [120,111,114])=false:=by simpa[XOR]using hx
    simp[f182C,Qf,hk,hb1,hb2,Qb,f182r1]
 ·refine⟨true,?_⟩;have e:ZG (.mk k n s ks)=[.mk k n s ks]:=by simp[ZG,hk]
  rw[e];simp[f182C,Qf,hk,Qb,f182r1]
def Gs (t u:Tm) (o:Bool) (bs:Qa) (ht:t.mass < big) (hu:u.mass < big):call tb 185 [.agg (Qf t),.sl o 1 [],.agg (Qf u)] bs=some (.tup [.agg (Qf u),.int .i64 0],bs):=by
 have h1:=fun bs=>NU t bs ht;have h2:=fun bs=>NU u bs hu;rw[zcc 185 rfl rfl];have e1: ∀x y:Qh,(bs ++ [x]).set bs.length y=bs ++ [y]:=fun x y=>by rw[SK];simp
 simp[f185C,h1,Qk,e1,put];rw[Qe f185l0.eq_1];simp[f185r0,h2,Qk,e1,put]
abbrev Ll:=List (List Tm)
def SS (ls:Ll):Qa:=ls.map fun l=>[AV.sl false 4 (Qb l)]
def HR {ls pre post:Ll} {x:Qc} (h:ls=pre ++ x:: post): (SS ls)[pre.length]? =some [AV.sl false 4 (Qb x)]:=by subst h;simp[SS]
def HS (ls:Ll): (SS ls).length=ls.length:=by simp[SS]
def Qd0 (n:Nat) (bs:Qa) (hn:n < 100000000):call tb 181 [.gs 0 0 0 0,.int .i64 n] bs=some (.sl true 4 [],bs):=by
 rw[Ws tb_181];simp only[Kh];rw[Qn];refine⟨by omega,?_,by omega⟩;simp;exact WV (by omega)
def Qb5 (ls:Ll) (bs:Qa) (hl:ls.length < 1000) (hf:ls.flatten.length < 100000000):
  ∀(post pre:Ll) (ρ:Ql),ls=pre ++ post->ρ 6= .sl true 4 (Qb pre.flatten)->ρ 25= .sl false 1 (SS ls)->ρ 26= .int .i64 ls.length->ρ 27= .int .i64 pre.length->
  R tb (.loop f180l1) ρ bs (Qo 2 (QB tb f180r0 (QN f180 bs)))=some (.sl false 4 (Qb ls.flatten),bs):=by
 intro post
 induction post with
 | nil=>
  intro pre ρ hk h6 h25 h26 h27;simp only[QH]at hk;rw[<- hk]at h27 h6;rw[Qe f180l1.eq_1];simp[h6,h25,h26,h27,f180r0]
 | cons x post IH=>
  intro pre ρ hk h6 h25 h26 h27;have hg:=HR hk;have hll:=QE hk;have hw1:=wr1 pre.length (by omega);have hlt:=QI hk;have hfl:ls.flatten.length=pre.flatten.length+ (x.length+post.flatten.length):=by rw[hk];simp
  have hb: (pre.flatten.length+x.length)*56<=140737488355328:=WV (by omega);have h2:=IH (pre ++ [x]);have e: (pre ++ [x]).flatten=pre.flatten ++ x:=by simp
  rw[e]at h2;generalize pre.flatten=pf at *;rw[Qe f180l1.eq_1];simp[h6,h25,h26,h27,hg,hlt,hw1,hb,ZL];rw[h2] <;> simp[h25,h26,hk]
def Qb4 (ls:Ll) (bs:Qa) (hl:ls.length < 1000) (hf:ls.flatten.length < 100000000):
  ∀(post pre:Ll) (ρ:Ql),ls=pre ++ post->ρ 0= .sl false 1 (SS ls)->ρ 3= .int .i64 pre.flatten.length->ρ 9= .sl false 1 (SS ls)->ρ 10= .int .i64 ls.length->ρ 11= .int .i64 pre.length->
  R tb (.loop f180l0) ρ bs (Qo 0 (QB tb f180r1 (QN f180 bs)))=some (.sl false 4 (Qb ls.flatten),bs):=by
 intro post
 induction post with
 | nil=>
  intro pre ρ hk h0 h3 h9 h10 h11;simp only[QH]at hk;rw[<- hk]at h11 h3;have hc:=Qd0 ls.flatten.length bs hf;have h1:=fun ρ=>Qb5 ls bs hl hf ls [] ρ rfl;generalize ls.flatten=lf at *;rw[Qe f180l0.eq_1];simp[h0,h3,h9,h10,h11,f180r1,hc];refine h1 _ ?_ ?_ ?_ ?_ <;> simp[h0,Qb,HS]
 | cons x post IH=>
  intro pre ρ hk h0 h3 h9 h10 h11;have hg:=HR hk;have hll:=QE hk;have hw1:=wr1 pre.length (by omega);have hlt:=QI hk;have hfl:ls.flatten.length=pre.flatten.length+ (x.length+post.flatten.length):=by rw[hk];simp
  have hw2:IntKind.i64.wrap ((pre.flatten.length:Int)+ (x.length:Int))=(pre.flatten.length:Int)+ (x.length:Int):=Zf (by omega) (by omega);have hnn: ¬((pre.flatten.length:Int)+ (x.length:Int) < 0):=by omega
  have h2:=IH (pre ++ [x]);have e: ((pre ++ [x]).flatten.length:Int)=(pre.flatten.length:Int)+ (x.length:Int):=by simp
  rw[e]at h2;generalize (pre.flatten.length:Int)=pf at *;rw[Qe f180l0.eq_1];simp[h0,h3,h9,h10,h11,hg,hlt,hw1,hw2,hnn];rw[h2] <;> simp[h0,h9,h10,hk]
def OX (ls:Ll) (o:Bool) (bs:Qa) (hl:ls.length < 1000) (hf:ls.flatten.length < 100000000):
  call tb 180 [.sl o 1 (SS ls)] bs=some (.sl false 4 (Qb ls.flatten),bs):=by
 have h:=fun ρ=>Qb4 ls bs hl hf ls [] ρ rfl;rw[zcc 180 rfl rfl];simp[f180C];refine h _ ?_ ?_ ?_ ?_ ?_ <;> simp[HS]
def V5:Qc->Int
 | []=>0
 | t:: ts=>if Q4 t≠0 then Q4 t else V5 ts
def QbF (l:Qc) (bs:Qa) (hl:l.length < 100000000) (hm: ∀x∈l,x.mass < big): ∀(post pre:Qc) (ρ:Ql),l=pre ++ post->ρ 14= .sl false 4 (Qb l)->ρ 15= .int .i64 l.length->ρ 16= .int .i64 pre.length->
  R tb (.loop f179l0) ρ bs (Qo 0 (QB tb f179r0 (QN f179 bs)))=some (.int .i64 (V5 post),bs):=by
 intro post
 induction post with
 | nil=>
  intro pre ρ hk h14 h15 h16;simp only[QH]at hk;rw[<- hk]at h16;rw[Qe f179l0.eq_1];simp[h14,h15,h16,f179r0,V5]
 | cons x post IH=>
  intro pre ρ hk h14 h15 h16;have hg:=Qw hk;have hll:=QE hk;have hw1:=wr1 pre.length (by omega);have hlt:=QI hk;have hc:=UJ x bs (hm x (by rw[hk];simp));rw[Qe f179l0.eq_1];by_cases hv:Q4 x=0
  ·simp[h14,h15,h16,hg,hlt,hw1,Qk,hc,hv,V5];rw[IH (pre ++ [x])] <;> simp[h14,h15,hk]
  ·simp[h14,h15,h16,hg,hlt,hw1,Qk,hc,hv,V5]
def V9 (l:Qc):Int:=if 200 < l.length then 3 else V5 l
def QaU (l:Qc) (o o2:Bool) (bs:Qa) (hl:l.length < 100000000) (hm: ∀x∈l,x.mass < big):call tb 179 [.sl o 4 (Qb l),.sl o2 4 []] bs=some (.int .i64 (V9 l),bs):=by
 have h:=fun ρ=>QbF l bs hl hm l [] ρ rfl;have hc:=OX [l,[]] false bs (by simp) (by simpa using hl);simp only[SS,Ym,We,Tn,List.flatten_nil,QH,Qb]at hc;rw[zcc 179 rfl rfl];by_cases h2:200 < l.length
 ·have h2': (200:Int) < (l.length:Int):=by omega
  simp[f179C,h2',h2,V9]
 ·have h2': ¬(200:Int) < (l.length:Int):=by omega
  simp[f179C,h2',h2,V9,hc];refine h _ ?_ ?_ ?_ <;> simp
def Qk1 {c:Qh} {n p:Nat} {pre:Qc} {x:Tm} {v:AV} (hc:c.length=n*4) (hp:p=pre.length) (hlt:p < n) (ht: (c.map AV.strip).take (p*4)=Qr pre) (hv:v.strip= .sl false 4 (Qb x.kids)):
  ((c.take (p*4)++ (Qf x ++ c.drop (p*4+4))).set (p*4+3) v).length=n*4/\
  ((((c.take (p*4)++ (Qf x ++ c.drop (p*4+4))).set (p*4+3) v).map AV.strip).take ((p+1)*4))=Qr (pre ++ [x]):=by
 have h1: (c.take (p*4)).length=p*4:=by rw[Xr];omega
 have h2:=QR x;refine⟨by simp[h1,h2,hc];omega,?_⟩;have e: (c.take (p*4)++ (Qf x ++ c.drop (p*4+4))).set (p*4+3) v=c.take (p*4)++ ([.int .i64 x.kind,.str x.name,.int .i64 x.sort,v]++ c.drop (p*4+4)):=by
  rw[SK,Qm (by omega),h1,show p*4+3 - p*4=3 by omega,Zt];simp
 rw[e,Uk,Uk,Ns,ht];have h3: [AV.int .i64 x.kind,.str x.name,.int .i64 x.sort,v].map AV.strip=Qf x:=by rw[Zt];simp[hv]
 have hr: (Qr pre).length=p*4:=by rw[YC QR,hp]
 rw[h3,<- ZY,PL (by simp[hr,h2];omega),YH (by simp[hr,h2];omega)];simp[Qr,Vx,PB]
def JR:=@List.take_take
def Qhc {c:Qh} {n p:Nat} {pre:Qc} {x:Tm} (hc:c.length=n*4) (hp:p=pre.length) (hlt:p < n) (ht: (c.map AV.strip).take ((p+1)*4)=Qr (pre ++ [x])) (hx:x.kids=[]):
  (c.take (p*4+3)++ ([AV.sl false 4 []]++ c.drop (p*4+3+1))).length=n*4/\
  ((c.take (p*4+3)++ ([AV.sl false 4 []]++ c.drop (p*4+3+1))).map AV.strip).take ((p+1)*4)=Qr (pre ++ [x]):=by
 have h1: (c.take (p*4+3)).length=p*4+3:=by rw[Xr];omega
 refine⟨by simp[h1,hc];omega,?_⟩;have hr:Qr (pre ++ [x])=Qr pre ++ [.int .i64 x.kind,.str x.name,.int .i64 x.sort]++ [.sl false 4 []]:=by
  simp[Qr,Vx,PB,Zt,hx,Qb]
 have hl0: (Qr pre).length=p*4:=by rw[YC QR,hp]
 have e1: (c.take (p*4+3)).map AV.strip=Qr pre ++ [.int .i64 x.kind,.str x.name,.int .i64 x.sort]:=by
  have h2: ((c.map AV.strip).take ((p+1)*4)).take (p*4+3)=(c.map AV.strip).take (p*4+3):=by rw[JR];congr 1;omega
  rw[Ns,<- h2,ht,hr,PL (by simp[hl0]),YH (by simp[hl0])]
 rw[Uk,Uk,e1,<- ZY,PL (by simp[hl0];omega),YH (by simp[hl0];omega),hr];simp
def Qhb (l:Qc) (B:Qa) (hl:l.length < 100000000) (hne:l≠[]) (hm: ∀x∈l,x.mass < big) (ih: ∀x∈l,∀bs,Tg x.kids bs (call tb 184 [.sl false 4 (Qb x.kids)] bs)):
  ∀(post pre:Qc) (c:Qh) (ρ:Ql),l=pre ++ post->c.length=l.length*4->(c.map AV.strip).take (pre.length*4)=Qr pre->ρ 3= .gs B.length 0 4 l.length->ρ 9= .sl false 4 (Qb l)->ρ 10= .int .i64 l.length->ρ 11= .int .i64 pre.length->
  Tg l B (R tb (.loop f184l0) ρ (B ++ [c]) (Qo 0 (QB tb f184r0 (QN f184 B)))):=by
 have es: ∀x y:Qh,(B ++ [x]).set B.length y=B ++ [y]:=fun x y=>by rw[SK];simp
 have eg: ∀x:Qh,(B ++ [x])[B.length]? =some x:=fun x=>Ye;intro post
 induction post with
 | nil=>
  intro pre c ρ hk hc ht h3 h9 h10 h11;simp only[QH]at hk;rw[<- hk]at h11 ht;have hz: ¬l.length=0:=fun e=>hne (YX e);have hch:Z3 c 0 4 l.length=Qb l:=by
   have e1:c.map AV.strip=Qr l:=by rw[<- ht,YH (by simp[hc])]
   have e2:Z3 c 0 4 l.length=Z3 (c.map AV.strip) 0 4 l.length:=by
    unfold Z3;apply PR;intro k _;rw[<- Lg,<- Ns,Lj];apply PR;intro v _;exact(KL v).symm
   rw[e2,e1];have:=XZ (f:=Qf) (k:=4) QR ZI l [];rw[Sd,QH]at this;exact this
  have hg:ZV (Qb l)=true:=Xh l;have hle:l.length*4<=c.length:=by omega
  refine⟨true,?_⟩;rw[Qe f184l0.eq_1];simp[h3,h9,h10,h11,f184r0,Yr,hz,hne,hle,es,hch]
 | cons x post IH=>
  intro pre c ρ hk hc ht h3 h9 h10 h11;have hg:=Qw hk;have hll:=QE hk;have hw1:=wr1 pre.length (by omega);have hlt:=QI hk;have hlt':pre.length < l.length:=by omega
  have hx:=hm x (by rw[hk];simp);have hc1:=fun bs=>Gs x x true bs hx hx;obtain⟨o,hc2⟩:=ih x (by rw[hk];simp) (B ++ [c.take (pre.length*4)++ (Qf x ++ c.drop (pre.length*4+4))]);have hle:pre.length*4+4<=c.length:=by omega
  obtain⟨p1,p2⟩:=Qk1 (v:= .sl o 4 (Qb x.kids)) hc rfl hlt' ht rfl;have hle2:pre.length*4+3 < (c.take (pre.length*4)++ (Qf x ++ c.drop (pre.length*4+4))).length:=by simp[QR];omega
  generalize hcc:c.take (pre.length*4)++ (Qf x ++ c.drop (pre.length*4+4))=cc at *;have hgl: ∀h:pre.length < (Qb l).length,(Qb l)[pre.length]=Qf x:=fun h=>by
   have:=Zq h;rw[LC,hg]at this;injection this with this;exact this.symm
  rw[Qe f184l0.eq_1];by_cases hkz:x.kids=[]
  ·obtain⟨p3,p4⟩:=Qhc p1 rfl hlt' p2 hkz;have hle3:pre.length*4+3+1<=(cc.set (pre.length*4+3) (.sl o 4 (Qb x.kids))).length:=by rw[p1];omega
   have i1:=fun ρ=>IH (pre ++ [x]) _ ρ (by rw[hk];simp) p3 (by simpa using p4);rw[hkz]at hc2 hle3 i1;have hle3':pre.length*4+3+1<=cc.length:=by simpa using hle3
   simp only[Qb,WC,XP]at hc2 hle3 i1;simp[h3,h9,h10,h11,hg,hgl,hlt,hlt',hw1,Qk,hc1,eg,es,hle,hcc,hc2,hle2,hkz,Qb,hle3',QR];refine i1 _ ?_ ?_ ?_ ?_ <;> simp[h3,h9,h10]
  ·have hkl: ¬(x.kids.length:Int)=0:=by
    intro e;exact hkz (YX (by omega))
   have i1:=fun ρ=>IH (pre ++ [x]) _ ρ (by rw[hk];simp) p1 (by simpa using p2);simp[h3,h9,h10,h11,hg,hgl,hlt,hlt',hw1,Qk,hc1,eg,es,hle,hcc,hc2,hle2,hkz,hkl,QR];refine i1 _ ?_ ?_ ?_ ?_ <;> simp[h3,h9,h10]
def QeO (l:Qc) (o:Bool) (bs:Qa) (hl:l.length < 100000000) (hm: ∀x∈l,x.mass < big) (ih: ∀x∈l,∀bs,Tg x.kids bs (call tb 184 [.sl false 4 (Qb x.kids)] bs)):
  Tg l bs (call tb 184 [.sl o 4 (Qb l)] bs):=by
 have hb:l.length*56<=140737488355328:=WV (by omega);have hb2: (l.length:Int)<=4611686018427387904:=by omega
 rw[zcc 184 rfl rfl];by_cases hne:l=[]
 ·subst hne;refine⟨false,?_⟩;simp[f184C,Qb];rw[Qe f184l0.eq_1];simp[f184r0,Yr]
 ·have h:=fun c hc ρ=>Qhb l bs hl hne hm ih l [] c ρ rfl hc (by simp[YI]);have hlen: (List.replicate l.length [AV.int .i64 0,.str [],.int .i64 0,.sl true 4 []]).flatten.length=l.length*4:=by simp
  have h2:=h _ hlen;simp[f184C,hb,hb2];refine h2 _ ?_ ?_ ?_ ?_ <;> simp
def Qha: ∀(t:Tm) (bs:Qa),t.mass < 100000000->Tg t.kids bs (call tb 184 [.sl false 4 (Qb t.kids)] bs):=by
 refine Yq ?_;intro k n s ks ih bs hm;have hmk:=QK (.mk k n s ks);simp only[Zz,Ya]at hmk ⊢;exact QeO ks false bs (by omega) (fun x hx=>by have:=Q3 hx;unfold big;omega) fun x hx bs=>ih x hx bs (by have:=Q3 hx;omega)
def Qgd (l:Qc) (o:Bool) (bs:Qa) (hl:l.length < 100000000) (hm: ∀x∈l,x.mass < 100000000):Tg l bs (call tb 184 [.sl o 4 (Qb l)] bs):=
 QeO l o bs hl (fun x hx=>by have:=hm x hx;unfold big;omega) fun x hx bs=>Qha x bs (hm x hx)
def QM:Tm:= .mk 0 [] 0 []
def Q7:Qf QM=[.int .i64 0,.str [],.int .i64 0,.sl false 4 []]:=by simp[QM,Qf,Qb]
def tmX:Qc->Tm
 | []=> .mk 3 Yt 0 []
 | [p]=>p
 | p:: q:: r=> .mk 3 XOR 0 (p:: q:: r)
def Ww (l:Qc):Tm×Int:=if V9 l≠0 then(QM,V9 l)else if Q4 (tmX (Yd [] l))≠0 then(QM,3)else(tmX (Yd [] l),0)
def Zs (r:Tm×Int):AV:= .tup [.agg (Qf r.1),.int .i64 r.2]
def It (t:Tm): ∀l:Qc,Qv (ZZ t l)<=Qv l+t.mass
 | []=>by simp[ZZ,Qv]
 | x:: xs=>by
  have:=It t xs;simp only[ZZ];split
  ·simp only[Qv];omega
  ·split
   ·simp only[Qv];omega
   ·simp only[Qv];omega
def Qbr (l:Qc) (t:Tm):Qv (Uj l t)<=Qv l+t.mass:=by
 unfold Uj;split
 ·have: ∀(l:Qc) (p:Tm->Bool),Qv (l.filter p)<=Qv l:=by
   intro l p
   induction l with
   | nil=>simp
   | cons x xs ih=>
    rw[Np];split <;> simp only[Qv] <;> omega
  have:=this l (fun x=> !decide (Qq x t=0));omega
 ·exact It t l
def KE: ∀(b a:Qc),Qv (Xl a b)<=Qv a+Qv b
 | [],a=>by simp[Xl,Qv]
 | x:: b,a=>by
  have h1:=KE b (Uj a x);have h2:=Qbr a x;simp only[Xl,Nr,Qv]at *;omega
mutual
theorem Qbq: ∀t:Tm,Qv (ZG t)<=t.mass
 | .mk k n s ks=>by
  simp only[ZG];split
  ·simp[Qv]
  ·split
   ·have:=Pi ks [];simp only[Qv,Tm.mass]at *;omega
   ·simp[Qv]
theorem Pi: ∀(ts acc:List Tm),Qv (Yd acc ts)<=Qv acc+Qv ts
 | [],acc=>by simp[Yd,Qv]
 | t:: ts,acc=>by
  have h1:=Pi ts (Xl acc (ZG t));have h2:=KE (ZG t) acc;have h3:=Qbq t;simp only[Yd,Qv]at *;omega
end
def CX (l:Qc): (tmX l).mass<=10+l.length+Qv l:=by
 unfold tmX;split
 ·simp[Tm.mass,Qv,Yt]
 ·simp[Qv]
 ·simp[Tm.mass,Qv,XOR]
def QfS (l:Qc) (bs:Qa) (hm:Qv l < 20000000) (hl:l.length < 20000000) (k:Kn)
  (hk0: ∀(o:Bool) (ρ:Ql),ρ 2= .bx [.int .i64 0,.str [],.int .i64 0,.sl true 4 []]->ρ 5= .sl o 4 (Qb (Yd [] l))->R tb f178r0 ρ bs (QN f178 bs)=some (Zs (Ww l),bs)):
  ∀(post pre acc:Qc) (o:Bool) (ρ:Ql),l=pre ++ post->Yd acc post=Yd [] l->acc.length+Qx post < 25000000->Asc acc->(∀x∈acc,x.mass < big)->ρ 2= .bx [.int .i64 0,.str [],.int .i64 0,.sl true 4 []]->ρ 5= .sl o 4 (Qb acc)->ρ 15= .sl false 4 (Qb l)->ρ 16= .int .i64 l.length->ρ 17= .int .i64 pre.length->
  R tb (.loop f178l0) ρ bs (Qo 0 (QB tb f178r0 (QN f178 bs)))=some (Zs (Ww l),bs):=by
 intro post
 induction post with
 | nil=>
  intro pre acc o ρ hk he ha has hma h2 h5 h15 h16 h17;simp only[QH]at hk;rw[<- hk]at h17;simp only[Yd]at he;subst he;rw[Qe f178l0.eq_1];simp[h5,h15,h16,h17];refine hk0 o _ ?_ ?_ <;> simp[h2,h5]
 | cons x post IH=>
  intro pre acc o ρ hk he ha has hma h2 h5 h15 h16 h17;have hg:=Qw hk;have hll:=QE hk;have hw1:=wr1 pre.length (by omega);have hlt:=QI hk;have hxl:x∈l:=by rw[hk];simp
  have hxm:=Q3 hxl;have hxn:=YK x;have hsl:=Ou x;simp only[Qx]at ha;obtain⟨o1,hc1⟩:=Gu x bs (by omega);have hsm: ∀y∈ZG x,y.mass < big:=fun y hy=>by have:=UB x y (Ov x y hy);unfold big;omega
  obtain⟨o2,hc2⟩:=HE acc (ZG x) false false bs (by omega) hma hsm;rw[Ct has (UI x)]at hc2;have hpl:=Tu (ZG x) acc;have hpm: ∀y∈Xl acc (ZG x),y.mass < big:=fun y hy=>by
   rcases Uu (UI x) hy with h | h
   ·exact hma y h
   ·exact hsm y h
  have i2:=fun ρ=>IH (pre ++ [x]) (Xl acc (ZG x)) o2 ρ (by rw[hk];simp) he (by omega) (RV _ _ has) hpm;rw[Qe f178l0.eq_1];simp[h5,h15,h16,h17,hg,hlt,hw1,Qk,hc1,hc2];refine i2 _ ?_ ?_ ?_ ?_ ?_ <;> simp[h2,h15,h16]
def Dm (l:Qc) (o:Bool) (bs:Qa) (hm:Qv l < 20000000) (hl:l.length < 20000000):call tb 178 [.sl o 4 (Qb l)] bs=some (Zs (Ww l),bs):=by
 have hr:=QaU l false true bs (by omega) (fun x hx=>by have:=Q3 hx;unfold big;omega);have hn:=YJ l;have hk0:V9 l=0->∀(o:Bool) (ρ:Ql),ρ 2= .bx [.int .i64 0,.str [],.int .i64 0,.sl true 4 []]->ρ 5= .sl o 4 (Qb (Yd [] l))->R tb f178r0 ρ bs (QN f178 bs)=some (Zs (Ww l),bs):=by
  intro hr0 o ρ h2 h5;have h1:=Mx l [];have h3:=Pi l [];have h4:=CX (Yd [] l);simp only[Qv,Xd,Zl]at h1 h3;obtain⟨o3,ho⟩:=Qgd (Yd [] l) false bs (by omega) (fun x hx=>by have:=Q3 hx;omega);have hv:=UJ (tmX (Yd [] l)) bs (by unfold big;omega);have es:Ww l=if Q4 (tmX (Yd [] l))≠0 then(QM,3)else(tmX (Yd [] l),0):=by simp[Ww,hr0]
  rw[es];generalize Yd [] l=ps at *
  match ps with
  | []=>
   have e1:Qf (tmX [])=[.int .i64 3,.str Yt,.int .i64 0,.sl false 4 []]:=by simp[tmX,Qf,Qb]
   rw[e1]at hv;simp only[Yt]at hv e1;simp only[Qb]at ho h5;by_cases h:Q4 (tmX [])=0
   ·simp[f178r0,h5,ho,h2,hv,h,Zs,e1]
   ·simp[f178r0,h5,ho,h2,hv,h,Zs,Q7]
  | [p]=>
   simp only[tmX]at hv ⊢;by_cases h:Q4 p=0
   ·simp[f178r0,h5,ho,h2,hv,h,Zs,Qk]
   ·simp[f178r0,h5,ho,h2,hv,h,Zs,Q7,Qk]
  | p:: q:: r=>
   have e1:Qf (tmX (p:: q:: r))=[.int .i64 3,.str XOR,.int .i64 0,.sl false 4 (Qb (p:: q:: r))]:=by simp[tmX,Qf]
   rw[e1]at hv;simp only[XOR]at hv e1;have n1: ¬((r.length:Int)+1+1=0):=by omega
   have n2: ¬((r.length:Int)+1+1=1):=by omega
   by_cases h:Q4 (tmX (p:: q:: r))=0
   ·simp[f178r0,h5,ho,h2,hv,h,n1,n2,Zs,e1]
   ·simp[f178r0,h5,ho,h2,hv,h,n1,n2,Zs,Q7]
 rw[zcc 178 rfl rfl];by_cases h0:V9 l=0
 ·have h:=fun ρ=>QfS l bs hm hl (QN f178 bs) (hk0 h0) l [] [] true ρ rfl rfl (by simp;omega) Asc.nil (by simp);simp[f178C,hr,h0];refine h _ ?_ ?_ ?_ ?_ ?_ <;> simp[Qb]
 ·have hb: (V9 l != 0)=true:=by simp[h0]
  simp[f178C,hr,h0,hb,Ww,Zs,Q7]
def QaR (bs:Qa):call tb 245 [] bs=some (.agg (Qf (.mk 3 Yt 0 [])),bs):=by
 have h:=HC Yt [] true bs (by simp);simp only[Yt,Qb]at h;rw[zcc 245 rfl rfl];simp[f245,f245C,h,Yt,Qk]
def Bc (l:Qc) (o:Bool) (bs:Qa) (hl:l.length < 100000000):call tb 251 [.sl o 4 (Qb l)] bs=some (.agg (Qf (tmX l)),bs):=by
 have h:=HC Yt [] true bs (by simp);simp only[Yt,Qb]at h;rw[zcc 251 rfl rfl]
 match l with
 | []=>simp[f251C,h,Yt,Qk,tmX]
 | [p]=>simp[f251C,Qk,tmX]
 | p:: q:: r=>
  have n1: ¬((r.length:Int)+1+1=0):=by omega
  have n2: ¬((r.length:Int)+1+1=1):=by omega
  have hb: (r.length+1+1)*56<=140737488355328:=WV (by simp at hl;omega);simp[f251C,n1,n2,hb,tmX,Qf,XOR]
def EH (l:Qc) (t:Tm) (bs:Qa) (hl:l.length < 100000000) (hm: ∀x∈l,x.mass < big) (ht:t.mass < big): ∀(post pre:Qc) (ρ:Ql),l=pre ++ post->ρ 0= .sl false 4 (Qb l)->ρ 3= .bx (Qf t)->ρ 5= .int .i64 pre.length->
  R tb (.loop f246l0) ρ bs (Qo 0 (QB tb f246r0 (QN f246 bs)))=some (.int .i64 (if V5 post≠0 then V5 post else Q4 t),bs):=by
 intro post
 induction post with
 | nil=>
  intro pre ρ hk h0 h3 h5;simp only[QH]at hk;rw[<- hk]at h5;have hc:=W2 t bs ht;rw[Qe f246l0.eq_1];simp[h0,h3,h5,f246r0,V5,Qk,hc]
 | cons x post IH=>
  intro pre ρ hk h0 h3 h5;have hg:=Qw hk;have hll:=QE hk;have hw1:=wr1 pre.length (by omega);have hlt:=QI hk;have hc:=W2 x bs (hm x (by rw[hk];simp));rw[Qe f246l0.eq_1];by_cases hv:Q4 x=0
  ·simp only[V5,hv,ne_eq,JL,Zi];simp[h0,h3,h5,hg,hlt,hw1,Qk,hc,hv];have:=fun ρ=>IH (pre ++ [x]) ρ (by rw[hk];simp);simp only[ne_eq]at this;rw[this] <;> simp[h0,h3]
  ·simp[h0,h3,h5,hg,hlt,hw1,Qk,hc,hv,V5]
def Qb3:Q4 (.mk 3 Yt 0 [])=0:=by decide
def Dl (l:Qc) (o:Bool) (bs:Qa) (hl:l.length < 100000000) (hm: ∀x∈l,x.mass < big):call tb 246 [.sl o 4 (Qb l),.agg (Qf (.mk 3 Yt 0 []))] bs=some (.int .i64 (V9 l),bs):=by
 have h:=fun ρ=>EH l (.mk 3 Yt 0 []) bs hl hm (by simp[Tm.mass,Qv,Yt,big]) l [] ρ rfl;rw[Qb3]at h;have e: (if V5 l≠0 then V5 l else 0)=V5 l:=by split <;> simp_all
 rw[e]at h;rw[zcc 246 rfl rfl];by_cases h2:200 < l.length
 ·have h2': (200:Int) < (l.length:Int):=by omega
  simp[f246C,h2',h2,V9]
 ·have h2': ¬(200:Int) < (l.length:Int):=by omega
  simp[f246C,h2',h2,V9];refine h _ ?_ ?_ ?_ <;> simp
def QaE (l:Qc) (bs:Qa) (hm:Qv l < 20000000) (hl:l.length < 20000000)
  (hk0: ∀(o:Bool) (ρ:Ql),ρ 2= .bx [.int .i64 0,.str [],.int .i64 0,.sl true 4 []]->ρ 5= .sl o 4 (Qb (Yd [] l))->R tb f244r0 ρ bs (QN f244 bs)=some (Zs (Ww l),bs)):
  ∀(post pre acc:Qc) (o:Bool) (ρ:Ql),l=pre ++ post->Yd acc post=Yd [] l->acc.length+Qx post < 25000000->(∀x∈acc,x.mass < big)->ρ 0= .sl false 4 (Qb l)->ρ 2= .bx [.int .i64 0,.str [],.int .i64 0,.sl true 4 []]->ρ 5= .sl o 4 (Qb acc)->ρ 6= .int .i64 pre.length->
  R tb (.loop f244l0) ρ bs (Qo 0 (QB tb f244r0 (QN f244 bs)))=some (Zs (Ww l),bs):=by
 intro post
 induction post with
 | nil=>
  intro pre acc o ρ hk he ha hma h0 h2 h5 h6;simp only[QH]at hk;rw[<- hk]at h6;simp only[Yd]at he;subst he;rw[Qe f244l0.eq_1];simp[h0,h5,h6];refine hk0 o _ ?_ ?_ <;> simp[h2,h5]
 | cons x post IH=>
  intro pre acc o ρ hk he ha hma h0 h2 h5 h6;have hg:=Qw hk;have hll:=QE hk;have hw1:=wr1 pre.length (by omega);have hlt:=QI hk;have hxl:x∈l:=by rw[hk];simp
  have hxm:=Q3 hxl;have hxn:=YK x;have hsl:=Ou x;simp only[Qx]at ha;obtain⟨o1,hc1⟩:=I9 x bs (by omega);have hsm: ∀y∈ZG x,y.mass < big:=fun y hy=>by have:=UB x y (Ov x y hy);unfold big;omega
  have hc2:=JY acc (ZG x) false false bs (by omega) (by omega) hma hsm;have hpl:=Tu (ZG x) acc;have hpm: ∀y∈Xl acc (ZG x),y.mass < big:=fun y hy=>by
   rcases Uu (UI x) hy with h | h
   ·exact hma y h
   ·exact hsm y h
  have i2:=fun ρ=>IH (pre ++ [x]) (Xl acc (ZG x)) false ρ (by rw[hk];simp) he (by omega) hpm;rw[Qe f244l0.eq_1];simp[h0,h5,h6,hg,hlt,hw1,Qk,hc1,hc2];refine i2 _ ?_ ?_ ?_ ?_ <;> simp[h0,h2]
def JZ (l:Qc) (o:Bool) (bs:Qa) (hm:Qv l < 20000000) (hl:l.length < 20000000):call tb 244 [.sl o 4 (Qb l)] bs=some (Zs (Ww l),bs):=by
 have hr:=Dl l false bs (by omega) (fun x hx=>by have:=Q3 hx;unfold big;omega);have hz:=QaR bs;have hn:=YJ l;have hk0:V9 l=0->∀(o:Bool) (ρ:Ql),ρ 2= .bx [.int .i64 0,.str [],.int .i64 0,.sl true 4 []]->ρ 5= .sl o 4 (Qb (Yd [] l))->R tb f244r0 ρ bs (QN f244 bs)=some (Zs (Ww l),bs):=by
  intro hr0 o ρ h2 h5;have h1:=Mx l [];have h3:=Pi l [];have h4:=CX (Yd [] l);simp only[Qv,Xd,Zl]at h1 h3;have ht:=Bc (Yd [] l) false bs (by omega);have hv:=W2 (tmX (Yd [] l)) bs (by unfold big;omega);have es:Ww l=if Q4 (tmX (Yd [] l))≠0 then(QM,3)else(tmX (Yd [] l),0):=by simp[Ww,hr0]
  rw[es];generalize tmX (Yd [] l)=u at *;generalize Yd [] l=ps at *;by_cases h:Q4 u=0
  ·simp[f244r0,h5,ht,h2,hv,h,Zs,Qk]
  ·simp[f244r0,h5,ht,h2,hv,h,Zs,Q7,Qk]
 rw[zcc 244 rfl rfl];by_cases h0:V9 l=0
 ·have h:=fun ρ=>QaE l bs hm hl (hk0 h0) l [] [] true ρ rfl rfl (by simp;omega) (by simp);simp[f244C,hz,hr,h0];refine h _ ?_ ?_ ?_ ?_ <;> simp[Qb]
 ·have hb: (V9 l != 0)=true:=by simp[h0]
  simp[f244C,hz,hr,h0,hb,Ww,Zs,Q7]
def BQ (t:Tm) (hm:t.mass < big) (hne:t.kids≠[]) (ih: ∀x∈t.kids,∀bs,call tb 192 [.agg (Qf x)] bs=some (.agg (Qf x),bs)) (B:Qa):
  ∀(post pre:Qc) (ρ:Ql),t.kids=pre ++ post->ρ 1= .bx [.int .i64 t.kind,.str t.name,.int .i64 t.sort,.gs B.length 0 4 t.kids.length]->ρ 2= .bx [.int .i64 0,.str [],.int .i64 0,.sl true 4 []]->
   ρ 10= .gs B.length 0 4 t.kids.length->ρ 11= .int .i64 t.kids.length->ρ 12= .int .i64 pre.length->
  R tb (.loop f192l0) ρ (B ++ [Qr t.kids]) (Qo 0 (QB tb f192r0 (QN f192 B)))=some (.agg (Qf t),B):=by
 have hm2:=QK t;unfold big at hm;have es: ∀x y:Qh,(B ++ [x]).set B.length y=B ++ [y]:=fun x y=>by rw[SK];simp
 have eg: ∀x:Qh,(B ++ [x])[B.length]? =some x:=fun x=>Ye;have hlen: (Qr t.kids).length=t.kids.length*4:=YC QR _;have hst: (Qr t.kids).map AV.strip=Qr t.kids:=YV ZI _;intro post
 induction post with
 | nil=>
  intro pre ρ hk h1 h2 h10 h11 h12;simp only[QH]at hk;rw[<- hk]at h12;have hch:Z3 (Qr t.kids) 0 4 t.kids.length=Qb t.kids:=by
   have:=XZ (f:=Qf) (k:=4) QR ZI t.kids [];rw[Sd,QH]at this;exact this
  have hz: ¬t.kids.length=0:=fun e=>hne (YX e);rw[Qe f192l0.eq_1];simp[h1,h2,h10,h11,h12,f192r0,hz,hne,hlen,hch,es,eg,Tq,Tm.eta]
 | cons x post IH=>
  intro pre ρ hk h1 h2 h10 h11 h12;have hl:=QE hk;have hw1:=wr1 pre.length (by omega);have hlt:=QI hk;have hlt':pre.length < t.kids.length:=by omega
  have r1: ((Qr t.kids).drop (pre.length*4)).take 4=Qf x:=by
   have:=U0 (f:=Qf) (k:=4) QR hk [];simpa using this
  have hput: (Qr t.kids).take (pre.length*4)++ (Qf x ++ (Qr t.kids).drop (pre.length*4+4))=Qr t.kids:=by
   have:=PC (f:=Qf) (k:=4) QR x hk [];rw[<- hk]at this;simpa using this
  have hle:pre.length*4+4<=t.kids.length*4:=by omega
  have hc:=ih x (by rw[hk];simp);have h2':=IH (pre ++ [x]);rw[Qe f192l0.eq_1];generalize Qr t.kids=c at *;simp[h1,h2,h10,h11,h12,hw1,hlt,hlt',eg,es,hlen,hle,hst,r1,hc,hput];refine h2' _ (by rw[hk];simp) ?_ ?_ ?_ ?_ ?_ <;> simp[h1,h2,h10,h11]
def RB: ∀(t:Tm) (bs:Qa),t.mass < big->call tb 192 [.agg (Qf t)] bs=some (.agg (Qf t),bs):=by
 refine Yq ?_;intro k n s ks ih bs hm;have hme:=QK (.mk k n s ks);simp only[Zz,Ya]at hme;have hb:ks.length*56<=140737488355328:=by unfold big at hm;omega
 rw[zcc 192 rfl rfl];have ho:call tb 193 [.sl false 4 (Qb ks)] bs=if ks.length=0 then some (.gs 0 0 0 0,bs)else some (.gs bs.length 0 4 ks.length,bs ++ [Qr ks]):=by
  have hst: (Qr ks).map AV.strip=Qr ks:=YV ZI _;rw[Ws tb_193];simp only[W3,Zj,TZ,Ur,hb,Xh,J9,hst]
 by_cases hk:ks=[]
 ·subst hk;simp[f192C,Zt,Qb]at ho ⊢;simp[ho];rw[Qe f192l0.eq_1];simp[f192r0]
 ·have hz: ¬ks.length=0:=fun e=>hk (YX e);rw[Qm hz]at ho;have hl:=fun ρ=>BQ (.mk k n s ks) hm hk (fun x hx bs=>ih x hx bs (by have:=Q3 (show x∈ks from hx);omega)) bs ks [] ρ rfl;simp only[U6,Ya,Rq,Zz]at hl;simp[f192C];simp[Zt,ho];have e:AV.agg [.int .i64 k,.str n,.int .i64 s,.sl false 4 (Qb ks)]= .agg (Qf (.mk k n s ks)):=by rw[Zt];rfl
  rw[e];refine hl _ ?_ ?_ ?_ ?_ ?_ <;> simp
abbrev Pw:=Tm×Int
def Zx (p:Pw):Qh:=Qf p.1 ++ [.int .i64 p.2]
abbrev Qj:=List Pw
def QF (l:Qj):Qa:=l.map Zx
abbrev QX (l:List Pw):List AV:=YI Zx l
def Az (p:Pw):Zx p=[.int .i64 p.1.kind,.str p.1.name,.int .i64 p.1.sort,.sl false 4 (Qb p.1.kids),.int .i64 p.2]:=by simp[Zx,Zt]
@[simp] def Vh (p:Pw): (Zx p).length=5:=by simp[Zx]
@[simp] def V4 (p:Pw): (Zx p).map AV.strip=Zx p:=by simp[Zx]
@[simp] def QqK (p:Pw): (Zx p).take 4=Qf p.1:=by simp[Zx]
@[simp] def QqL (p:Pw): (Zx p).take 5=Zx p:=YH (by simp)
@[simp] def QsW (p:Pw): (Zx p)[4]? =some (.int .i64 p.2):=by simp[Zx]
@[simp] def QsJ (p:Pw) (h:4 < (Zx p).length): (Zx p)[4]= .int .i64 p.2:=by simp[Zx]
def Nq:=@List.drop_append
@[simp] def QqJ (p:Pw): (Zx p).drop 5=[]:=by simp[Zx,Nq]
@[simp] def QjW (p:Pw):QY (Zx p)=true:=by simp[Zx,O1]
@[simp] def QrC (l:Qj): (QF l).length=l.length:=by simp[QF]
@[simp] def QrB (l:Qj) (i:Nat): (QF l)[i]? =(l[i]?).map Zx:=by simp[QF]
def Sk (a b:Qj):QF a ++ QF b=QF (a ++ b):=by simp[QF]
def Sl (p:Pw): [Zx p]=QF [p]:=rfl
@[simp] def N5: ∀l:Qj,ZV (QF l)=true
 | []=>rfl
 | p:: l=>by
  have:=N5 l;simp only[QF]at this ⊢;simp[ZV,this]
def XK (l:Qj): (QX l).length=l.length*5:=YC Vh l
def B6 (p:Pw) (t:Tm) (B:Qa) (hp:p.1.mass < big) (ht:t.mass < big):call tb 190 [.agg (Zx p),.agg (Qf t)] B=some (.int .i64 (Qq p.1 t),B):=by
 have h:=call_Compare p.1 t B hp ht;rw[zcc 190 rfl rfl];simp[f190,f190C,h]
def Zn (l:Qj):Qc:=l.map (·.1)
def PAt (l:Qj) (t:Tm) (k:Nat):Prop:=k<=l.length/\(∀(i:Nat) (p:Pw),l[i]? =some p->i < k->Qq p.1 t < 0)/\(∀(i:Nat) (p:Pw),l[i]? =some p->k<=i->¬Qq p.1 t < 0)
def hit (l:Qj) (t:Tm) (k:Nat):Bool:=match l[k]? with
 | some p=>decide (Qq p.1 t=0)
 | none=>false
def QlJ (l:Qj) (t:Tm) (B:Qa) (r:Out):Prop:=∃k,PAt l t k/\r=some (.tup [.int .i64 k,.bool (hit l t k)],B)
def Hp {l:Qj} {i:Nat} {p:Pw} {c:Qh} (h: (c.drop (i*5)).take 5=Zx p): ((c.map AV.strip).drop (i*5)).take 5=Zx p:=by
 rw[<- Lg,<- Ns,h,V4]
def NH {l:Qj} {i:Nat} {p:Pw} (h:l[i]? =some p) (c:Qh): ((QX l ++ c).drop (i*5)).take 5=Zx p:=by
 obtain⟨hi,rfl⟩:=WN.1 h;have hl:l=l.take i ++ l[i]:: l.drop (i+1):=by rw[List.getElem_cons_drop,M3]
 have:=U0 (f:=Zx) (k:=5) Vh hl c;rw[Xr,E4 (by omega)]at this;exact this
def DZ {i j:Nat} (h:i+j < 9223372036854775808):IntKind.i64.wrap (IntKind.u64.wrap (IntKind.i64.wrap ((i:Int)+ (j:Int))) / 2 ^ min 1 IntKind.u64.bits)=(((i+j) / 2:Nat):Int):=by
 rw[Zf (n:=(i:Int)+j) (by omega) (by omega)];have h1:IntKind.u64.wrap ((i:Int)+j)=(i:Int)+j:=by
  simp[IntKind.wrap,IntKind.bits,IntKind.signed];omega
 have h2: (2:Int) ^ min 1 IntKind.u64.bits=2:=by decide
 rw[h1,h2,Zf (by omega) (by omega)];omega
def Nb:=@List.pairwise_iff_getElem
def Qhd {l:Qj} {t:Tm} {B:Qa} {id sz:Nat} {c:Qh} (hl:l.length < 100000000) (hb:l≠[]->sz=5/\B[id]? =some (QX l ++ c)) (hm: ∀p∈l,p.1.mass < big) (ht:t.mass < big) (ha:Asc (Zn l)):
  ∀(d i j:Nat) (ρ:Ql),j - i<=d->i<=j->j<=l.length->(∀(k:Nat) (p:Pw),l[k]? =some p->k < i->Qq p.1 t < 0)->(∀(k:Nat) (p:Pw),l[k]? =some p->j<=k->¬Qq p.1 t < 0)->
  ρ 0= .gs id 0 sz l.length->ρ 4= .bx (Qf t)->ρ 2= .fn 190 []->ρ 8= .int .i64 l.length->ρ 9= .int .i64 i->ρ 10= .int .i64 j->
  QlJ l t B (R tb (.loop f191l0) ρ B (Qo 0 (QB tb f191r0 (QN f191 B)))):=by
 have mono: ∀(i j:Nat) (p q:Pw),l[i]? =some p->l[j]? =some q->i<=j->Qq q.1 t < 0->Qq p.1 t < 0:=by
  intro i j p q hp hq hij h;rcases QT i j with hlt | hge
  ·obtain⟨h1,rfl⟩:=WN.1 hp;obtain⟨h2,rfl⟩:=WN.1 hq;have:=Nb.1 ha i j (by simpa[Zn]using h1) (by simpa[Zn]using h2) hlt;simp only[Zn,List.getElem_map]at this;exact Xy this h
  ·have:i=j:=by omega
   subst this;rw[hp]at hq;injection hq with hq;subst hq;exact h
 intro d
 induction d with
 | zero=>
  intro i j ρ hd hij hj hlo hhi h0 h4 h2 h8 h9 h10;have:i=j:=by omega
  subst this;refine⟨i,⟨hj,hlo,hhi⟩,?_⟩;rw[Qe f191l0.eq_1];by_cases c1:i < l.length
  ·have hp:=Zq c1;obtain⟨rfl,hbx⟩:=hb (by intro e;subst e;simp at c1);have r1:=Hp (l:=l) (NH hp c);have hmp:=hm _ (SI c1);have hle:i*5+5<=(QX l ++ c).length:=by rw[Zk,XK];omega
   have c1': (i:Int) < (l.length:Int):=by omega
   have hh:hit l t i=decide (Qq l[i].1 t=0):=by simp[hit,hp]
   rw[hh];generalize l[i]=p at *;have h3:=B6 p t B hmp ht;generalize QX l ++ c=cc at *;simp[f191r0,h0,h2,h4,h8,h9,h10,c1,c1',hbx,hle,r1,h3]
  ·have hh:hit l t i=false:=by simp[hit,Q2 (Nat.le_of_not_lt c1)]
   have c1': ¬(i:Int) < (l.length:Int):=by omega
   simp[f191r0,h0,h2,h4,h8,h9,h10,c1,c1',hh]
 | succ d IH=>
  intro i j ρ hd hij hj hlo hhi h0 h4 h2 h8 h9 h10;by_cases hlt:i < j
  ·have hmn: (i+j) / 2 < l.length:=by omega
   have hw:=DZ (i:=i) (j:=j) (by omega);have hp:=Zq hmn;obtain⟨rfl,hbx⟩:=hb (by intro e;subst e;simp at hmn);have r1:=Hp (l:=l) (NH hp c);have hmp:=hm _ (SI hmn);have hle: (i+j) / 2*5+5<=(QX l ++ c).length:=by rw[Zk,XK];omega
   have hltI: (i:Int) < (j:Int):=by omega
   have hb1:i<=(i+j) / 2:=by omega
   have hb2: (i+j) / 2 < j:=by omega
   generalize l[(i+j) / 2]=p at *;generalize hmm: (i+j) / 2=m at *;have h3:=B6 p t B hmp ht;have hw1:IntKind.i64.wrap ((m:Int)+1)=((m+1:Nat):Int):=by rw[Zf (by omega) (by omega)];omega
   have c1': (m:Int) < (l.length:Int):=by omega
   generalize hcc:QX l ++ c=cc at *;rw[Qe f191l0.eq_1];by_cases cc1:Qq p.1 t < 0
   ·have ih:=fun ρ=>IH (m+1) j ρ (by omega) (by omega) hj (fun k q hq hk=>mono k m q p hq hp (by omega) cc1) hhi;simp[-getElem?_pos,h0,h2,h4,h8,h9,h10,hltI,hw,hw1,c1',hmn,hbx,hle,r1,h3,cc1];refine ih _ ?_ ?_ ?_ ?_ ?_ ?_ <;> simp[h0,h2,h4,h8,h10]
   ·have ih:=fun ρ=>IH i m ρ (by omega) (by omega) (by omega) hlo (fun k q hq hk h=>cc1 (mono m k p q hp hq hk h));simp[-getElem?_pos,h0,h2,h4,h8,h9,h10,hltI,hw,hw1,c1',hmn,hbx,hle,r1,h3,cc1];refine ih _ ?_ ?_ ?_ ?_ ?_ ?_ <;> simp[h0,h2,h4,h8,h9]
  ·exact IH i j ρ (by omega) hij hj hlo hhi h0 h4 h2 h8 h9 h10
def QiF {l:Qj} {t:Tm} {B:Qa} {id sz:Nat} {c:Qh} (hl:l.length < 100000000) (hb:l≠[]->sz=5/\B[id]? =some (QX l ++ c)) (hm: ∀p∈l,p.1.mass < big) (ht:t.mass < big) (ha:Asc (Zn l)):
  QlJ l t B (call tb 191 [.gs id 0 sz l.length,.agg (Qf t),.fn 190 []] B):=by
 have h:=fun ρ=>Qhd hl hb hm ht ha l.length 0 l.length ρ (by omega) (by omega) (by omega) (fun k p _ hk=>by omega) (fun k p hp hk=>by rw[Q2 hk]at hp;cases hp);rw[zcc 191 rfl rfl];simp[f191C];refine h _ ?_ ?_ ?_ ?_ ?_ ?_ <;> simp
end Go.Am
