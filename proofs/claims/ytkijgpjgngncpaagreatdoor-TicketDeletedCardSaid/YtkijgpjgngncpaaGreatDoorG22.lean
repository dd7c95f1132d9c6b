/-
  Kn8, Kn10, Kn11, Kn12, Kn13, Kn14, Kn15, Kp2, Kn22, Kn23, Kn24, Kn16, Kn17, Kn18, Kn20, Kn25, Kn26, Kn27, Kn28, Kn29, Kn30, Kn31, Kn32, Kn33, Kn34, Kn35, Kn50, Kn51, Kn52, Kn53, Kn54, Kn55, Kn56, Kn57, Kn58, Kn59, Kn60, Kn19, Kn21, Kn61, Kn62, Kn63, Kn64, Kn65, Kn66, Rc43, Rc44, Rc45, Kn67, Kn68, Kn40, Kn41, Kn42, Kn43, Kn44.
-/
import Derived.Test.YtkijgpjgngncpaaGreatDoorG21
import Derived.Test.YtkijgpjgngncpaaGreatDoorG19
set_option linter.all false
namespace Go.Am
set_option maxRecDepth 8000
theorem CH (f:Nat) (hf:EqF f) (B:List (List AV)) (id n k0:Nat) (hB:id < B.length) (hn:n < 100000000): ∀(post D mid:List Tm) (prev:Tm) (k2:Nat) (ρ:Nat→AV),D.length+mid.length+1+post.length=n→k0+k2=D.length+mid.length+1→0 < k2→
   (∀x∈prev:: post,x.mass < big)→ρ 0= .gs id 0 4 n→ρ 1= .fn f []→ρ 5= .int .i64 D.length→ρ 6= .gs id (k0*4) 4 (n - k0)→ρ 7= .int .i64 k2→
  Rb (D ++ QW prev post) B id (R F.tb (.loop F.f172l0) ρ (B.set id (Qf (D ++ mid ++ prev:: post)))
   (Qi 2 (Qu F.tb F.f172r0 (Qi 1 (Qu F.tb F.f172r1 (Qu F.tb (.loop F.f172l1) (Qi 0 (Qu F.tb F.f172r2 (Qy F.f172 B))))))))):=by
 intro post
 induction post with
 | nil=>
  intro D mid prev k2 ρ hl hk hk2 hm h0 h1 h5 h6 h7;have hlen: (Qf (D ++ mid ++ [prev])).length=n*4:=by rw[Za Qm];simp at hl ⊢;omega
  have ht: (Qf (D ++ mid ++ [prev])).take (D.length*4)=Qf D:=by
   have:=VV (f:=Qb) (k:=4) Qm (l:=D ++ mid ++ [prev]) (pre:=D) (post:=mid ++ [prev]) (by simp) [];simpa using this
  have hr:=fun ρ a b=>Hk B id n D (Qf (D ++ mid ++ [prev])) hB hlen (by omega) hn ht ρ a b;have hl':D.length+mid.length+1=n:=by simpa using hl
  have hnl: ¬((k2:Int) < ((n - k0:Nat):Int)):=by omega
  have hnl2: ¬(k2 < n - k0):=by omega
  rw[Qd F.f172l0.eq_1];simp only[QW,List.append_nil];refine⟨List.replicate ((n - D.length)*4) .undef,?_⟩;simp[h0,h1,h5,h6,h7,hnl,hnl2];simp only[List.append_assoc]at hr;refine hr _ ?_ ?_ <;> simp[h0,h5]
 | cons x post IH=>
  intro D mid prev k2 ρ hl hk hk2 hm h0 h1 h5 h6 h7;have hlen: (Qf (D ++ mid ++ prev:: x:: post)).length=n*4:=by rw[Za Qm];simp at hl ⊢;omega
  have hst: (Qf (D ++ mid ++ prev:: x:: post)).map AV.strip=Qf (D ++ mid ++ prev:: x:: post):=Zr QJ _;have r1: ((Qf (D ++ mid ++ prev:: x:: post)).drop (k0*4+k2*4)).take 4=Qb x:=by
   have:=Xf (f:=Qb) (k:=4) Qm (l:=D ++ mid ++ prev:: x:: post) (pre:=D ++ mid ++ [prev]) (post:=post) (x:=x) (by simp) [];rw[← Nat.add_mul,hk];simpa[Nat.add_assoc]using this
  have r2: ((Qf (D ++ mid ++ prev:: x:: post)).drop (k0*4+ (k2 - 1)*4)).take 4=Qb prev:=by
   have:=Xf (f:=Qb) (k:=4) Qm (l:=D ++ mid ++ prev:: x:: post) (pre:=D ++ mid) (post:=x:: post) (x:=prev) (by simp) [];rw[← Nat.add_mul,show k0+ (k2 - 1)=D.length+mid.length by omega];simpa[Nat.add_assoc]using this
  have hput: (Qf (D ++ mid ++ prev:: x:: post)).take (D.length*4)++ (Qb x ++ (Qf (D ++ mid ++ prev:: x:: post)).drop (D.length*4+4))=Qf ((D ++ [x])++ (mid ++ [prev]).tail ++ x:: post):=by
   obtain⟨y,m2,hy⟩: ∃y m2,mid ++ [prev]=y:: m2:=by cases mid <;> simp
   have:=T2 (f:=Qb) (k:=4) Qm (l:=D ++ mid ++ prev:: x:: post) (pre:=D) (post:=m2 ++ x:: post) (x:=y) x (by
    have:D ++ mid ++ prev:: x:: post=D ++ (mid ++ [prev])++ x:: post:=by simp
    rw[this,hy];simp) []
   rw[hy];simpa using this
  have hw1:IntKind.i64.wrap ((k2:Int) - 1)=((k2 - 1:Nat):Int):=by rw[Qq (by omega) (by omega)];omega
  have hw2:IntKind.i64.wrap ((k2:Int)+1)=((k2+1:Nat):Int):=by rw[Qq (by simp at hl;omega) (by simp at hl;omega)];omega
  have hw3:IntKind.i64.wrap ((D.length:Int)+1)=((D.length+1:Nat):Int):=by rw[Qq (by simp at hl;omega) (by simp at hl;omega)];omega
  have hlt: (k2:Int) < ((n - k0:Nat):Int):=by simp at hl;omega
  have hlt1:k2 < n - k0:=by simp at hl;omega
  have hlt2: ((k2 - 1:Nat):Int) < ((n - k0:Nat):Int):=by simp at hl;omega
  have hlt2':k2 - 1 < n - k0:=by simp at hl;omega
  have hlt3: (D.length:Int) < (n:Int):=by simp at hl;omega
  have hlt3':D.length < n:=by simp at hl;omega
  have hb1:k0*4+k2*4+4≤n*4:=by simp at hl;omega
  have hb2:k0*4+ (k2 - 1)*4+4≤n*4:=by simp at hl;omega
  have hb3:D.length*4+4≤n*4:=by simp at hl;omega
  have hnn: (0:Int)≤((k2 - 1:Nat):Int):=by omega
  have hc:=fun bs=>hf x prev bs (hm x (by simp)) (hm prev (by simp));have hcast: ((k2 - 1:Nat):Int).toNat=k2 - 1:=by omega
  have ih1:=IH D (mid ++ [prev]) x (k2+1);have ih2:=IH (D ++ [x]) (mid ++ [prev]).tail x (k2+1);have htl: ((mid ++ [prev]).tail).length=mid.length:=by simp
  rw[show D ++ (mid ++ [prev])++ x:: post=D ++ mid ++ prev:: x:: post by simp]at ih1;rw[Qd F.f172l0.eq_1];generalize Qf (D ++ mid ++ prev:: x:: post)=c at *;generalize hkm:k2 - 1=km at *;generalize n - k0=nk at *;by_cases he:Qh x prev=0
  ·have e:QW prev (x:: post)=QW x post:=by simp[QW,he]
   rw[e];simp[h0,h1,h5,h6,h7,hlt,hlt1,hlt2,hlt2',hnn,hw1,hw2,hb1,hb2,hB,hlen,hst,r1,r2,hc,he,hcast];refine ih1 _ (by simp at hl ⊢;omega) (by simp;omega) (by omega) (fun y hy=>hm y (by simp at hy ⊢;rcases hy with h | h <;> simp[h])) ?_ ?_ ?_ ?_ ?_ <;> simp[h0,h1,h5,h6]
  ·have e:D ++ QW prev (x:: post)=D ++ x:: QW x post:=by simp[QW,he]
   rw[e];simp only[List.append_assoc,List.cons_append,List.nil_append]at ih2;simp[h0,h1,h5,h6,h7,hlt,hlt1,hlt2,hlt2',hlt3,hlt3',hnn,hw1,hw2,hw3,hb1,hb2,hb3,hB,hlen,hst,r1,r2,hc,he,hcast,hput];refine ih2 _ (by simp at hl ⊢;omega) (by simp;omega) (by omega) (fun y hy=>hm y (by simp at hy ⊢;rcases hy with h | h <;> simp[h])) ?_ ?_ ?_ ?_ ?_ <;> simp[h0,h1,h5,h6]
theorem CI (f:Nat) (hf:EqF f) (B:List (List AV)) (id n:Nat) (hB:id < B.length) (hn:n < 100000000): ∀(post pre:List Tm) (prev:Tm) (ρ:Nat→AV),pre.length+1+post.length=n→
   (∀x∈prev:: post,x.mass < big)→ρ 0= .gs id 0 4 n→ρ 1= .fn f []→ρ 5= .int .i64 (pre.length+1:Nat)→
  Rb (pre ++ prev:: QW prev post) B id (R F.tb (.loop F.f172l1) ρ (B.set id (Qf (pre ++ prev:: post)))
   (Qi 0 (Qu F.tb F.f172r2 (Qy F.f172 B)))):=by
 intro post
 induction post with
 | nil=>
  intro pre prev ρ hl hm h0 h1 h5;have hl':pre.length+1=n:=by simpa using hl
  have hnl: ¬((pre.length:Int)+1 < (n:Int)):=by omega
  rw[Qd F.f172l1.eq_1];refine⟨[],?_⟩;simp[h0,h1,h5,hnl,QW,F.f172r2,hl']
 | cons x post IH=>
  intro pre prev ρ hl hm h0 h1 h5;have hl':pre.length+1+ (post.length+1)=n:=by simpa using hl
  have hlen: (Qf (pre ++ prev:: x:: post)).length=n*4:=by rw[Za Qm];simp;omega
  have hst: (Qf (pre ++ prev:: x:: post)).map AV.strip=Qf (pre ++ prev:: x:: post):=Zr QJ _;have r1: ((Qf (pre ++ prev:: x:: post)).drop ((pre.length+1)*4)).take 4=Qb x:=by
   have:=Xf (f:=Qb) (k:=4) Qm (l:=pre ++ prev:: x:: post) (pre:=pre ++ [prev]) (post:=post) (x:=x) (by simp) [];simpa using this
  have r2: ((Qf (pre ++ prev:: x:: post)).drop (pre.length*4)).take 4=Qb prev:=by
   have:=Xf (f:=Qb) (k:=4) Qm (l:=pre ++ prev:: x:: post) (pre:=pre) (post:=x:: post) (x:=prev) (by simp) [];simpa using this
  have hw1:IntKind.i64.wrap (pre.length:Int)=(pre.length:Int):=Qq (by omega) (by omega);have hw2:IntKind.i64.wrap ((pre.length:Int)+1+1)=(pre.length:Int)+1+1:=Qq (by omega) (by omega);have hlt: (pre.length:Int)+1 < (n:Int):=by omega
  have hlt2: (pre.length:Int) < (n:Int):=by omega
  have hb1: (pre.length+1)*4+4≤n*4:=by omega
  have hb2:pre.length*4+4≤n*4:=by omega
  have hnn: (0:Int)≤(pre.length:Int)+1:=by omega
  have hle: (pre.length:Int)+1≤(n:Int):=by omega
  have hcast: ((pre.length:Int)+1).toNat=pre.length+1:=by omega
  have hc:=fun bs=>hf x prev bs (hm x (by simp)) (hm prev (by simp));have ih1:=IH (pre ++ [prev]) x;have ih2:=CH f hf B id n (pre.length+1) hB hn post (pre ++ [prev]) [] x 1;simp only[List.append_assoc,List.cons_append,List.nil_append]at ih1 ih2;rw[Qd F.f172l1.eq_1];generalize Qf (pre ++ prev:: x:: post)=c at *;by_cases he:Qh x prev=0
  ·have e:QW prev (x:: post)=QW x post:=by simp[QW,he]
   rw[e];simp[h0,h1,h5,hlt,hlt2,hnn,hle,hw1,hw2,hb1,hb2,hB,hlen,hst,r1,r2,hc,he,hcast];refine ih2 _ (by simp;omega) (by simp) (by omega) (fun y hy=>hm y (by simp at hy ⊢;rcases hy with h | h <;> simp[h])) ?_ ?_ ?_ ?_ ?_ <;> simp[h0,h1,h5]
  ·have e:pre ++ prev:: QW prev (x:: post)=pre ++ prev:: x:: QW x post:=by simp[QW,he]
   rw[e];simp[h0,h1,h5,hlt,hlt2,hnn,hle,hw1,hw2,hb1,hb2,hB,hlen,hst,r1,r2,hc,he,hcast,F.f172r1];refine ih1 _ (by simp;omega) (fun y hy=>hm y (by simp at hy ⊢;rcases hy with h | h <;> simp[h])) ?_ ?_ ?_ <;> simp[h0,h1,h5]
theorem C4 (f:Nat) (hf:EqF f) (L:List Tm) (B:List (List AV)) (id:Nat) (hid:B[id]? =some (Qf L)) (hn:L.length < 100000000) (hm: ∀x∈L,x.mass < big):
  Rb (Yw L) B id (call F.tb 172 [.gs id 0 4 L.length,.fn f []] B):=by
 have hB:id < B.length:=by
  rcases Nat.lt_or_ge id B.length with h | h
  ·exact h
  ·rw[List.getElem?_eq_none h]at hid;cases hid
 have hset:B.set id (Qf L)=B:=by
  apply List.ext_getElem?;intro i;rw[List.getElem?_set];split
  ·rename_i h;subst h;rw[hid]
  ·rfl
 match L with
 | []=>
  refine⟨[],?_⟩;rw[Qa F.tb_172 _ _ rfl];simp[F.f172C,Yw];simpa using hset.symm
 | [x]=>
  refine⟨[],?_⟩;rw[Qa F.tb_172 _ _ rfl];simp[F.f172C,Yw];simpa using hset.symm
 | x:: y:: r=>
  have h:=CI f hf B id (r.length+2) hB (by simpa using hn) (y:: r) [] x;rw[Qa F.tb_172 _ _ rfl,Ul];simp only[List.nil_append,hset]at h;have hge: ¬((r.length:Int)+1+1 < 2):=by omega
  simp[F.f172C,hge];refine h _ (by simp;omega) (fun z hz=>hm z hz) ?_ ?_ ?_ <;> simp
theorem QbF (x y:Tm) (bs:List (List AV)) (hx:x.mass < big) (hy:y.mass < big):call F.tb 543 [.agg (Qb x),.agg (Qb y)] bs=some (.bool (decide (Qh x y=0)),bs):=by
 have h:=call_Compare x y bs hx hy;rw[Qa F.tb_543 _ _ rfl];simp[F.f543C,h]
theorem QdU:EqF 543:=QbF
def QdM:List Tm→List Tm
 | []=>[]
 | x:: r=>Zi x ++ QdM r
theorem Cu {x y:Tm} (h:y∈Zi x):y.mass≤x.mass:=V0 x y (Pc x y h)
def UF (B0 B:List (List AV)):Prop:=∃M,B=B0 ++ M
theorem UF.app {B0 B:List (List AV)} (h:UF B0 B) (M:List (List AV)):UF B0 (B ++ M):=by
 obtain⟨M0,rfl⟩:=h;exact⟨M0 ++ M,by simp⟩
theorem UF.set {B0 B:List (List AV)} (h:UF B0 B) {i:Nat} (hi:B0.length≤i) (x:List AV):UF B0 (B.set i x):=by
 obtain⟨M0,rfl⟩:=h;exact⟨_,Xo hi x⟩
def Ux (l:List Tm) (t:Tm):Int:=if 200 < l.length then 3 else Up (l ++ [t])
theorem KB (l:List Tm) (t:Tm) (o o2:Bool) (bs:List (List AV)) (hl:l.length < 1000000) (hm: ∀x∈l,x.mass < big) (ht:t.mass < big):call F.tb 179 [.sl o 4 (encTs l),.sl o2 4 [Qb t]] bs=some (.int .i64 (Ux l t),bs):=by
 have h:=fun ρ=>Mj (l ++ [t]) bs (by simp;omega) (fun x hx=>by
  rcases List.mem_append.1 hx with h | h
  ·exact hm x h
  ·simp at h;subst h;exact ht) (l ++ [t]) [] ρ rfl
 have hc:=U5 [l,[t]] false bs (by simp) (by simp;omega);simp only[VG,List.map_cons,List.map_nil,List.flatten_cons,List.flatten_nil,List.append_nil,encTs]at hc;rw[Qa F.tb_179 _ _ rfl];by_cases h2:200 < l.length
 ·have h2': (200:Int) < (l.length:Int):=by omega
  simp[F.f179C,h2',h2,Ux]
 ·have h2': ¬(200:Int) < (l.length:Int):=by omega
  simp[F.f179C,h2',h2,Ux,hc];refine h _ ?_ ?_ ?_ <;> simp
theorem DK (l:List Tm) (B:List (List AV)) (hl:l.length < 100000000) (hne:l≠[]) (hm: ∀x∈l,x.mass < big) (ih: ∀x∈l,∀bs,Wi x.kids bs (call F.tb 184 [.sl false 4 (encTs x.kids)] bs)):
  ∀(post pre:List Tm) (c:List AV) (ρ:Nat→AV),l=pre ++ post→c.length=l.length*4→(c.map AV.strip).take (pre.length*4)=Qf pre→ρ 3= .gs B.length 0 4 l.length→ρ 9= .sl false 4 (encTs l)→ρ 10= .int .i64 l.length→ρ 11= .int .i64 pre.length→
  R F.tb (.loop F.f184l0) ρ (B ++ [c]) (Qi 0 (Qu F.tb F.f184r0 (Qy F.f184 B)))=some (.sl true 4 (encTs l),B):=by
 have es: ∀x y:List AV,(B ++ [x]).set B.length y=B ++ [y]:=fun x y=>by rw[List.set_append];simp
 have eg: ∀x:List AV,(B ++ [x])[B.length]? =some x:=fun x=>List.getElem?_concat_length;intro post
 induction post with
 | nil=>
  intro pre c ρ hk hc ht h3 h9 h10 h11;simp only[List.append_nil]at hk;rw[← hk]at h11 ht;have hz: ¬l.length=0:=fun e=>hne (List.eq_nil_of_length_eq_zero e);have hch:QY c 0 4 l.length=encTs l:=by
   have e1:c.map AV.strip=Qf l:=by rw[← ht,List.take_of_length_le (by simp[hc])]
   have e2:QY c 0 4 l.length=QY (c.map AV.strip) 0 4 l.length:=by
    unfold QY;apply List.map_congr_left;intro k _;rw[← List.map_drop,← List.map_take,List.map_map];apply List.map_congr_left;intro v _;exact(Tk v).symm
   rw[e2,e1];have:=YS (f:=Qb) (k:=4) Qm QJ l [];rw[Vf,List.append_nil]at this;exact this
  have hg:gpfreeE (encTs l)=true:=encTs_gp l;have hle:l.length*4≤c.length:=by omega
  rw[Qd F.f184l0.eq_1];simp[h3,h9,h10,h11,F.f184r0,Zb,hz,hne,hle,es,hch]
 | cons x post IH=>
  intro pre c ρ hk hc ht h3 h9 h10 h11;have hg:=QB hk;have hll:=QM hk;have hw1:=wr1 pre.length (by omega);have hlt:=QO hk;have hlt':pre.length < l.length:=by omega
  have hx:=hm x (by rw[hk];simp);have hc1:=fun bs=>Ph x x true bs hx hx;obtain⟨o,hc2⟩:=ih x (by rw[hk];simp) (B ++ [c.take (pre.length*4)++ (Qb x ++ c.drop (pre.length*4+4))]);have hle:pre.length*4+4≤c.length:=by omega
  obtain⟨p1,p2⟩:=H3 (v:= .sl o 4 (encTs x.kids)) hc rfl hlt' ht rfl;have hle2:pre.length*4+3 < (c.take (pre.length*4)++ (Qb x ++ c.drop (pre.length*4+4))).length:=by simp[Qm];omega
  generalize hcc:c.take (pre.length*4)++ (Qb x ++ c.drop (pre.length*4+4))=cc at *;have hgl: ∀h:pre.length < (encTs l).length,(encTs l)[pre.length]=Qb x:=fun h=>by
   have:=List.getElem?_eq_getElem h;rw[Wt,hg]at this;injection this with this;exact this.symm
  rw[Qd F.f184l0.eq_1];by_cases hkz:x.kids=[]
  ·obtain⟨p3,p4⟩:=JO p1 rfl hlt' p2 hkz;have hle3:pre.length*4+3+1≤(cc.set (pre.length*4+3) (.sl o 4 (encTs x.kids))).length:=by rw[p1];omega
   have i1:=fun ρ=>IH (pre ++ [x]) _ ρ (by rw[hk];simp) p3 (by simpa using p4);rw[hkz]at hc2 hle3 i1;have hle3':pre.length*4+3+1≤cc.length:=by simpa using hle3
   simp only[encTs,List.cons_append,List.nil_append]at hc2 hle3 i1;simp[h3,h9,h10,h11,hg,hgl,hlt,hlt',hw1,Qj,hc1,eg,es,hle,hcc,hc2,hle2,hkz,encTs,hle3',Qm];refine i1 _ ?_ ?_ ?_ ?_ <;> simp[h3,h9,h10]
  ·have hkl: ¬(x.kids.length:Int)=0:=by
    intro e;exact hkz (List.eq_nil_of_length_eq_zero (by omega))
   have i1:=fun ρ=>IH (pre ++ [x]) _ ρ (by rw[hk];simp) p1 (by simpa using p2);simp[h3,h9,h10,h11,hg,hgl,hlt,hlt',hw1,Qj,hc1,eg,es,hle,hcc,hc2,hle2,hkz,hkl,Qm];refine i1 _ ?_ ?_ ?_ ?_ <;> simp[h3,h9,h10]
theorem C5 (l:List Tm) (o:Bool) (bs:List (List AV)) (hl:l.length < 100000000) (hne:l≠[]) (hm: ∀x∈l,x.mass < 1000000):call F.tb 184 [.sl o 4 (encTs l)] bs=some (.sl true 4 (encTs l),bs):=by
 have hb:l.length*56≤140737488355328:=VI (by omega);have hb2: (l.length:Int)≤4611686018427387904:=by omega
 have h:=fun c hc ρ=>DK l bs hl hne (fun x hx=>by have:=hm x hx;unfold big;omega) (fun x hx bs=>JN x bs (by have:=hm x hx;omega)) l [] c ρ rfl hc (by simp[Zs]);have hlen: (List.replicate l.length [AV.int .i64 0,.str [],.int .i64 0,.sl true 4 []]).flatten.length=l.length*4:=by simp
 have h2:=h _ hlen;rw[Qa F.tb_184 _ _ rfl];simp[F.f184C,hb,hb2];refine h2 _ ?_ ?_ ?_ ?_ <;> simp
theorem QbE (t:Tm) (B:List (List AV)) (ht:t.mass < 1000000) (hv:QD t=0) (hn:Zi t≠[]):call F.tb 540 [.agg (Qb t)] B=some (.otup 4 (encTs (Zi t)) [.int .i64 0],B):=by
 have h1:=KB [] t true false B (by simp) (by simp) (by unfold big;omega);have e:Ux [] t=0:=by simp[Ux,Up,hv]
 rw[e]at h1;simp only[encTs]at h1;obtain⟨o,h2⟩:=VF t B (by omega);have h3:=C5 (Zi t) false B (by have:=Sq t;have:=YA t;omega) hn (fun x hx=>by have:=Cu hx;omega);have hg:=encTs_gp (Zi t);rw[Qa F.tb_540 _ _ rfl];simp[F.f540C,h1,h2,h3,Qj,hg]
 done
theorem QeU {v:Nat→Bool} (h:Sp [] v):v=zv0:=by
 cases h with
 | zero=>rfl
 | add ha _=>exact absurd ha (by simp)
theorem Bf (t:Tm) (ht:t.mass < 1000000) (hs:Zi t=[t]) (o:Bool) (B:List (List AV)):
  ∃c,call F.tb 542 [.sl o 4 [],.agg (Qb t)] B=some (.gp (B.length+2) 0,B ++ [[.undef],[.undef],[.gs (B.length+4) 0 4 1,.int .i64 0,.mp B.length,.mp (B.length+1),.gs 0 0 0 0],Qb t,Qb t ++ c]):=by
 have hb:t.mass < big:=by unfold big;omega
 have hrow:Qf [t]=Qb t:=by simp[Qf,Zs]
 have ga: ∀(M:List (List AV)) (k:Nat),(B ++ M)[B.length+k]? =M[k]? :=fun M k=>by rw[List.getElem?_append_right (by omega)];simp
 have gs: ∀(M:List (List AV)) (k:Nat) v,(B ++ M).set (B.length+k) v=B ++ M.set k v:=fun M k v=>by rw[List.set_append_right _ _ (by omega)];simp
 have c193: ∀BB,call F.tb 193 [.sl false 4 []] BB=some (.gs 0 0 0 0,BB):=fun BB=>by
  rw[ZA F.tb_193];simp[Zx,XL]
 have hap: ∀o BB,appM 56 4 (.gs 0 0 0 0) (.sl o 4 [Qb t]) BB=some (.gs BB.length 0 4 1,BB ++ [Qb t]):=fun o BB=>by simp[appM,Xd]
 have c182: ∀BB,Wi (Zi t) BB (call F.tb 182 [.agg (Qb t)] BB):=fun BB=>VF t BB (by omega);have et:encTs [t]=[Qb t]:=by simp[encTs]
 have hsort:Zt [t]=[t]:=List.length_eq_one_iff.1 (XE [t]) |>.elim fun a ha=>by
  have:a∈Zt [t]:=by rw[ha];simp
  have:=Wx.1 this;simp at this;rw[ha,this]
 have c170:=fun(S:List AV)=>Sz [t] (B ++ [[.undef],[.undef],S,Qb t,Qb t]) (B.length+4) (by rw[ga,hrow];rfl) (by simp) (by simpa using hb);have c172:=fun(S:List AV)=>C4 543 QdU [t] (B ++ [[.undef],[.undef],S,Qb t,Qb t]) (B.length+4) (by rw[ga,hrow];rfl) (by simp) (by simpa using hb);have hcomp:Yw [t]=[t]:=by simp[Yw]
 rw[hsort,hrow]at c170;simp only[gs,List.set_cons_succ,List.set_cons_zero,List.length_cons,List.length_nil]at c170;obtain⟨o1,h182⟩:=c182 (B ++ [[.undef],[.undef],[.gs 0 0 0 0,.int .i64 0,.mp B.length,.mp (B.length+1),.gs 0 0 0 0],Qb t]);obtain⟨c,h172⟩:=c172 [.gs (B.length+4) 0 4 1,.int .i64 0,.mp B.length,.mp (B.length+1),.gs 0 0 0 0];rw[hcomp,hrow]at h172;simp only[gs,List.set_cons_succ,List.set_cons_zero,List.length_cons,List.length_nil]at h172;rw[hs,et]at h182;refine⟨c,?_⟩;have hst:=QJ t;have hln:=Qm t;have htk:=Qj t;have w1:IntKind.i64.wrap 1=1:=Qq (by omega) (by omega);rw[Qa F.tb_542 _ _ rfl];simp[-getElem?_pos,QR,List.getElem?_cons_succ,F.f542C,c193,hap,htk,ga,gs,w1];rw[Qd F.f542l0.eq_1];simp[-getElem?_pos,QR,List.getElem?_cons_succ,ga,gs,w1,hln,hst,htk,h182,hap];rw[Qd F.f542l0.eq_1];simp[-getElem?_pos,QR,List.getElem?_cons_succ,F.f542r1,ga,gs,w1,c170,h172];rw[Qd F.f542l1.eq_1];simp[-getElem?_pos,QR,List.getElem?_cons_succ,F.f542r0,ga,gs,w1]
theorem Be (t:Tm) (o:Bool) (B:List (List AV)) (ht:t.mass < 1000000) (hv:QD t=0) (hs:Zi t=[t]):
  ∃e:Int,call F.tb 541 [.sl o 4 [],.agg (Qb t)] B=some (.tup [.sl false 1 [],.int .i64 e],B)∧e≠0:=by
 have hb:t.mass < big:=by unfold big;omega
 have h1:=KB [] t false false B (by simp) (by simp) hb;have e:Ux [] t=0:=by simp[Ux,Up,hv]
 rw[e]at h1;simp only[encTs]at h1;obtain⟨c,h2⟩:=Bf t ht hs false B;have hrow:Qf [t]=Qb t:=by simp[Qf,Zs]
 obtain⟨M,hM⟩: ∃M:List (List AV),M=[[.undef],[.undef],[.gs (B.length+4) 0 4 1,.int .i64 0,.mp B.length,.mp (B.length+1),.gs 0 0 0 0],Qb t,Qb t ++ c]:=⟨_,rfl⟩;rw[← hM]at h2;have ga: ∀(M:List (List AV)) (k:Nat),(B ++ M)[B.length+k]? =M[k]? :=fun M k=>by rw[List.getElem?_append_right (by omega)];simp
 have hS:SY (B ++ M) B.length [t] 0 []:=by
  refine⟨B.length+4,4,c,.gs 0 0 0 0,?_,?_,?_,fun _=>⟨rfl,by omega,?_⟩,.inl rfl⟩
  ·rw[ga,hM];rfl
  ·have:=ga M 0;rw[Nat.add_zero]at this;rw[this,hM];rfl
  ·rw[ga,hM];rfl
  ·rw[ga,hM,hrow];rfl
 have ha:Asc [t]:=by simp[Asc]
 obtain⟨w,hw,c544⟩:Gw [t] (Q2 (Zi t)) (B ++ M) (call F.tb 544 [.gp (B.length+2) 0,.agg (Qb t)] (B ++ M)):=by
  obtain⟨idC,szC,c,vb,s1,s2,s3,s4,s5⟩:=hS;exact QbG s1 ⟨idC,szC,rfl,c,fun hn=>⟨(s4 hn).1,(s4 hn).2.2⟩⟩ (by simp) (by simpa using hb) ha ht (by rw[hs];exact fun y hy=>hy)
 obtain⟨b,q,hbl,hq,hsp,hz,c548⟩:=QbK hS (fun x hx=>absurd hx (by simp)) (by simp) (by omega) w hw.1;obtain⟨f,hf,c551⟩:=QbL b (B ++ M).length 1 (B ++ M ++ [QH b,QH q]) (Ro (B ++ M) _ _) (by simp at *;omega) (by simp);have hb0:Xs b 0=true:=by
  have h3:=congrFun (QeU hsp) 0;have h4:=hw.2 0 t rfl;rw[hs]at h4;simp only[xv,vN,zv0,h4]at h3;have h5:Q2 [t] t=true:=Zo.2 (by simp);simpa[h5]using h3
 obtain⟨idC,szC,cc,vb,s1,s2,s3,s4,s5⟩:=hS.app [QH b,QH q];have htk: (B ++ M ++ [QH b,QH q]).take B.length=B:=by rw[List.append_assoc];simp
 refine⟨4,?_,by decide⟩;cases f with
 | none=>exact absurd (hf 0 (by simp)) (by rw[hb0];simp)
 | some k=>
  have c551:call F.tb 551 [.gs (B ++ M).length 0 1 b.length,.int .i64 1] (B ++ M ++ [QH b,QH q])=some (.int .i64 (k:Int),B ++ M ++ [QH b,QH q]):=c551;have hc0: (0:Int)≤(k:Int):=by omega
  rw[Qa F.tb_541 _ _ rfl];generalize hBM:B ++ M=BM at *;generalize hB3:BM ++ [QH b,QH q]=B3 at *;have s1:B3[B.length+2]? =some [.gs idC 0 szC 1,.int .i64 ((0:Nat):Int),.mp B.length,.mp (B.length+1),vb]:=s1;simp[-getElem?_pos,QR,List.getElem?_cons_succ,F.f541C,h1,h2,c544,c548,c551,s1,hc0,htk,Qj]
def rwE (rs:List (List Int)) (i:Nat):List Int:=rs.getD i []
def ceE (rs:List (List Int)) (i c:Nat):Int:=(rwE rs i).getD c 0
def acE (rs:List (List Int)) (us:List Bool) (c i:Nat):Bool:= !(us.getD i true) && !decide (ceE rs i c=0)
def Qgt (a p:List Int) (q:Int):List Int:=List.zipWith (fun x y=>x - q*y) a p
def okE (a:List Int):Bool:=a.all fun x=>decide (x.natAbs≤1099511627776)
def scE (rs:List (List Int)) (us:List Bool) (c:Nat):Nat→Option Nat×Nat
 | 0=>(none,0)
 | k+1=>if acE rs us c k then(match (scE rs us c k).1 with
   | none=>(some k,(scE rs us c k).2+1)
   | some j=>(if(ceE rs k c).natAbs < (ceE rs j c).natAbs then some k else some j,(scE rs us c k).2+1))else scE rs us c k
def nwE (rs:List (List Int)) (c b k:Nat):List Int:=Qgt (rwE rs k) (rwE rs b) ((ceE rs k c).tdiv (ceE rs b c))
def rnE (rs:List (List Int)) (us:List Bool) (c b:Nat):Nat→List (List Int)
 | 0=>rs
 | k+1=>if !decide (k=b) && acE rs us c k then(rnE rs us c b k).set k (nwE rs c b k)else rnE rs us c b k
def orE (rs:List (List Int)) (us:List Bool) (c b:Nat):Nat→Bool
 | 0=>true
 | k+1=>orE rs us c b k && (!(!decide (k=b) && acE rs us c k) || okE (nwE rs c b k))
def coE (c:Nat):Nat→List (List Int)→List Bool→Option (List (List Int)×List Bool×Int)
 | 0,_,_=>none
 | f+1,rs,us=>match scE rs us c rs.length with
  | (none,_)=>some (rs,us,-1)
  | (some b,n)=>if n=1 then some (rs,us.set b true,(b:Int))else if orE rs us c b rs.length then coE c f (rnE rs us c b rs.length) us else none
def msE (rs:List (List Int)) (us:List Bool) (c:Nat):Nat→Nat
 | 0=>0
 | k+1=>msE rs us c k+if acE rs us c k then(ceE rs k c).natAbs else 0
def elE (rs:List (List Int)):Nat→Option (List (List Int)×List Bool×List Int)
 | 0=>some (rs,List.replicate rs.length false,[])
 | c+1=>(elE rs c).bind fun s=>(coE c (msE s.1 s.2.1 c s.1.length+1) s.1 s.2.1).map fun x=>(x.1,x.2.1,s.2.2 ++ [x.2.2])
theorem Ru (rs:List (List Int)) (us:List Bool) (c b:Nat): ∀k,(rnE rs us c b k).length=rs.length
 | 0=>rfl
 | k+1=>by
  simp only[rnE];split
  ·rw[List.length_set,Ru rs us c b k]
  ·exact Ru rs us c b k
theorem Qc2 (rs:List (List Int)) (k j:Nat) (x:List Int) (hk:k < rs.length):rwE (rs.set k x) j=if j=k then x else rwE rs j:=by
 simp only[rwE,List.getD_eq_getElem?_getD,List.getElem?_set];by_cases h:k=j
 ·subst h;simp[hk]
 ·have: ¬j=k:=fun e=>h e.symm;simp[h,this]
theorem H9 (rs:List (List Int)) (us:List Bool) (c b:Nat): ∀k,k≤rs.length→∀j,rwE (rnE rs us c b k) j=if j < k∧j≠b∧acE rs us c j=true then nwE rs c b j else rwE rs j
 | 0,_,j=>by simp[rnE]
 | k+1,hk,j=>by
  have ih:=H9 rs us c b k (by omega);simp only[rnE];by_cases h: (!decide (k=b) && acE rs us c k)=true
  ·rw[if_pos h,Qc2 _ _ _ _ (by rw[Ru];omega)];simp only[Bool.and_eq_true,Bool.not_eq_true',decide_eq_false_iff_not]at h;by_cases hj:j=k
   ·subst hj;rw[if_pos rfl,if_pos ⟨by omega,h.1,h.2⟩]
   ·rw[if_neg hj,ih j];by_cases h2:j < k
    ·have:j < k+1:=by omega
     simp[h2,this]
    ·have: ¬j < k+1:=by omega
     simp[h2,this]
  ·rw[if_neg h,ih j];simp only[Bool.and_eq_true,Bool.not_eq_true',decide_eq_false_iff_not]at h;by_cases hj:j=k
   ·subst hj;have h2: ¬(j < j+1∧j≠b∧acE rs us c j=true):=fun⟨_,x,y⟩=>h ⟨x,y⟩;rw[if_neg h2,if_neg (by omega)]
   ·by_cases h2:j < k
    ·have:j < k+1:=by omega
     simp[h2,this]
    ·have: ¬j < k+1:=by omega
     simp[h2,this]
structure ScI (rs:List (List Int)) (us:List Bool) (c k:Nat):Prop where
 nn: (scE rs us c k).1=none→(scE rs us c k).2=0∧∀j,j < k→acE rs us c j=false
 sm: ∀b,(scE rs us c k).1=some b→b < k∧acE rs us c b=true∧0 < (scE rs us c k).2∧∀j,j < k→acE rs us c j=true→(ceE rs b c).natAbs≤(ceE rs j c).natAbs
 tw: ∀b,(scE rs us c k).1=some b→2≤(scE rs us c k).2→∃j,j < k∧j≠b∧acE rs us c j=true
 on: ∀b,(scE rs us c k).1=some b→(scE rs us c k).2=1→∀j,j < k→acE rs us c j=true→j=b
theorem scI (rs:List (List Int)) (us:List Bool) (c:Nat): ∀k,ScI rs us c k
 | 0=>⟨fun _=>⟨rfl,fun j hj=>by omega⟩,fun b hb=>by simp[scE]at hb,fun b hb=>by simp[scE]at hb,fun b hb=>by simp[scE]at hb⟩
 | k+1=>by
  have ih:=scI rs us c k;cases ha:acE rs us c k
  ·have e:scE rs us c (k+1)=scE rs us c k:=by simp[scE,ha]
   refine⟨?_,?_,?_,?_⟩ <;> rw[e]
   ·intro h;refine⟨(ih.nn h).1,fun j hj=> ?_⟩;rcases Nat.lt_succ_iff_lt_or_eq.1 hj with h2 | h2
    ·exact(ih.nn h).2 j h2
    ·subst h2;exact ha
   ·intro b hb;obtain⟨h1,h2,h3,h4⟩:=ih.sm b hb;refine⟨by omega,h2,h3,fun j hj haj=> ?_⟩;rcases Nat.lt_succ_iff_lt_or_eq.1 hj with h5 | h5
    ·exact h4 j h5 haj
    ·subst h5;rw[ha]at haj;cases haj
   ·intro b hb hn;obtain⟨j,h1,h2,h3⟩:=ih.tw b hb hn;exact⟨j,by omega,h2,h3⟩
   ·intro b hb hn j hj haj;rcases Nat.lt_succ_iff_lt_or_eq.1 hj with h5 | h5
    ·exact ih.on b hb hn j h5 haj
    ·subst h5;rw[ha]at haj;cases haj
  ·cases hs: (scE rs us c k).1 with
   | none=>
    obtain⟨h0,hno⟩:=ih.nn hs;have e:scE rs us c (k+1)=(.some k,1):=by simp[scE,ha,hs,h0]
    refine⟨?_,?_,?_,?_⟩ <;> rw[e]
    ·intro h;cases h
    ·intro b hb;injection hb with hb
     subst hb;refine⟨by omega,ha,by simp,fun j hj haj=> ?_⟩;rcases Nat.lt_succ_iff_lt_or_eq.1 hj with h5 | h5
     ·rw[hno j h5]at haj;cases haj
     ·subst h5;exact Nat.le_refl _
    ·intro b hb hn;simp at hn
    ·intro b hb hn j hj haj;injection hb with hb
     rcases Nat.lt_succ_iff_lt_or_eq.1 hj with h5 | h5
     ·rw[hno j h5]at haj;cases haj
     ·omega
   | some d=>
    obtain⟨h1,h2,h3,h4⟩:=ih.sm d hs;by_cases hlt: (ceE rs k c).natAbs < (ceE rs d c).natAbs
    ·have e:scE rs us c (k+1)=(.some k,(scE rs us c k).2+1):=by simp[scE,ha,hs,hlt]
     refine⟨?_,?_,?_,?_⟩ <;> rw[e]
     ·intro h;cases h
     ·intro b hb;injection hb with hb
      subst hb;refine⟨by omega,ha,by simp,fun j hj haj=> ?_⟩;rcases Nat.lt_succ_iff_lt_or_eq.1 hj with h5 | h5
      ·have:=h4 j h5 haj;omega
      ·subst h5;exact Nat.le_refl _
     ·intro b hb hn;injection hb with hb
      subst hb;exact⟨d,by omega,by omega,h2⟩
     ·intro b hb hn;simp only at hn;omega
    ·have e:scE rs us c (k+1)=(.some d,(scE rs us c k).2+1):=by simp[scE,ha,hs,hlt]
     refine⟨?_,?_,?_,?_⟩ <;> rw[e]
     ·intro h;cases h
     ·intro b hb;injection hb with hb
      subst hb;refine⟨by omega,h2,by simp,fun j hj haj=> ?_⟩;rcases Nat.lt_succ_iff_lt_or_eq.1 hj with h5 | h5
      ·exact h4 j h5 haj
      ·subst h5;omega
     ·intro b hb hn;injection hb with hb
      subst hb;exact⟨k,by omega,by omega,ha⟩
     ·intro b hb hn;simp only at hn;omega
theorem Kv {N:Nat}: ∀(l:List Int) (a:Int),l.Pairwise (· < ·)→(∀x∈l,a≤x∧x < a+N)→l.length≤N
 | [],_,_,_=>by simp
 | x:: xs,a,h,hb=>by
  obtain⟨h1,h2⟩:=List.pairwise_cons.1 h;obtain⟨b1,b2⟩:=hb x (by simp);have hN: (0:Int) < N:=by omega
  have ih:=Kv (N:=N - 1) xs (a+1) h2 (fun y hy=>by
   have c1:=h1 y hy;have c2:=hb y (by simp[hy]);omega)
  simp only[List.length_cons];omega
def IV (N:Nat) (l:List Int):Prop:=l.Pairwise (· < ·)∧∀x∈l,(0:Int)≤x∧x < N
theorem IV.len {N:Nat} {l:List Int} (h:IV N l):l.length≤N:=Kv l 0 h.1 (by simpa using h.2)
def Qgl (s:List Tm) (u:Tm):List Tm:=Zi u ++ QdM (s.filter fun t=>isB t XOR)
def Qgo (m:List Tm) (t:Tm):Bool:=isB t XOR || Q2 m t
def QeN (s:List Tm) (u:Tm):List Tm:=s.filter (Qgo (Qgl s u))
structure SH (s:List Tm) (u:Tm):Prop where
 len:s.length≤200
 nod:nodesL s+u.nodes < 90000
 mass: ∀x∈s,x.mass < 1000000
 um:u.mass < 1000000
 v: ∀x∈s,QD x=0
 uv:QD u=0
 ne: ∀x∈s,isB x XOR=true→Zi x≠[]
 une:Zi u≠[]
theorem Jl: ∀{l:List Tm},(∀x∈l,QD x=0)→Up l=0
 | [],_=>rfl
 | x:: r,h=>by simp only[Up,h x (by simp),ne_eq,not_true_eq_false,if_false];exact Jl fun y hy=>h y (by simp[hy])
theorem SH.right {s:List Tm} {u:Tm} (h:SH s u):Ux (QeN s u) u=0:=by
 have hl: (QeN s u).length≤s.length:=List.length_filter_le _ _;have:=h.len;rw[Ux,if_neg (by omega)];refine Jl fun x hx=> ?_;rcases List.mem_append.1 hx with hx | hx
 ·exact h.v x (List.mem_filter.1 hx).1
 ·simp at hx;subst hx;exact h.uv
def bs2 (B:List (List AV)) (ia1 ia2 x0:Nat) (c0 c1 c2:AV) (A1 A2:List Int) (lg:Bool):List (List AV):=((B.set ia1 (ZZ A1)).set ia2 (ZZ A2)).set x0 [c0,c1,c2,.bool lg]
structure ES (B:List (List AV)) (x0 n:Nat) (cols:AV) (rs:List (List Int)) (us:List Bool) (piv:List Int) (lg:Bool):Prop where
 x:B[x0]? =some [cols,.gs (if rs.length=0 then 0 else x0+4*rs.length) 0 (if rs.length=0 then 0 else 1) rs.length,.gs (if n=0 then 0 else x0+4*rs.length+n) 0 (if n=0 then 0 else 1) n,.bool lg]
 rl:rs.length≠0→B[x0+4*rs.length]? =some ((List.range rs.length).map fun i=> .gp (x0+4*i+3) 0)
 pl:n≠0→B[x0+4*rs.length+n]? =some (ZZ piv)
 pn:piv.length=n
 row: ∀i,i < rs.length→B[x0+4*i+3]? =some [.gs (x0+4*i+1) 0 1 n,.gs (x0+4*i+2) 0 1 rs.length,.bool (us.getD i true)]∧B[x0+4*i+1]? =some (ZZ ((rwE rs i).take n))∧B[x0+4*i+2]? =some (ZZ ((rwE rs i).drop n))
 ul:us.length=rs.length
 wl: ∀i,i < rs.length→(rwE rs i).length=n+rs.length
 bd:lg=false→∀i,i < rs.length→okE (rwE rs i)=true
theorem Jt {us:List Bool} {b j:Nat} {v:Bool} (hb:b < us.length): (us.set b v).getD j true=if j=b then v else us.getD j true:=by
 simp only[List.getD_eq_getElem?_getD,List.getElem?_set];by_cases h:b=j
 ·subst h;simp[hb]
 ·have: ¬j=b:=fun e=>h e.symm;simp[h,this]
theorem HI (c:Nat): ∀(f:Nat) (rs:List (List Int)) (us:List Bool) (rs':List (List Int)) (us':List Bool) (p:Int),us.length=rs.length→coE c f rs us=some (rs',us',p)→
  rs'.length=rs.length∧us'.length=us.length∧(∀j,us.getD j true=true→rwE rs' j=rwE rs j∧us'.getD j true=true)∧(p= -1∨∃b:Nat,p=(b:Int)∧b < rs.length∧us'.getD b true=true∧ceE rs' b c≠0)
 | 0,_,_,_,_,_,_,h=>by simp[coE]at h
 | f+1,rs,us,rs',us',p,hul,h=>by
  have sc:=scI rs us c rs.length;cases hs: (scE rs us c rs.length).1 with
  | none=>
   have he:scE rs us c rs.length=(none,(scE rs us c rs.length).2):=by rw[← hs]
   rw[coE,he]at h;simp only[Option.some.injEq,Prod.mk.injEq]at h;obtain⟨rfl,rfl,rfl⟩:=h;exact⟨rfl,rfl,fun j hj=>⟨rfl,hj⟩,.inl rfl⟩
  | some b=>
   obtain⟨s1,s2,s3,s4⟩:=sc.sm b hs;have he:scE rs us c rs.length=(some b,(scE rs us c rs.length).2):=by rw[← hs]
   rw[coE,he]at h;simp only at h;have hbn:ceE rs b c≠0:=by
    intro e;simp[acE,e]at s2
   by_cases hone: (scE rs us c rs.length).2=1
   ·rw[if_pos hone]at h;simp only[Option.some.injEq,Prod.mk.injEq]at h;obtain⟨rfl,rfl,rfl⟩:=h;refine⟨rfl,by simp,fun j hj=>⟨rfl,?_⟩,.inr ⟨b,rfl,s1,?_,hbn⟩⟩
    ·rw[Jt (by omega)];split
     ·rfl
     ·exact hj
    ·rw[Jt (by omega),if_pos rfl]
   ·rw[if_neg hone]at h;split at h
    ·obtain⟨i1,i2,i3,i4⟩:=HI c f _ us rs' us' p (by rw[Ru];exact hul) h;rw[Ru]at i1 i4;refine⟨i1,i2,fun j hj=> ?_,i4⟩;obtain⟨k1,k2⟩:=i3 j hj;refine⟨?_,k2⟩;rw[k1];rw[H9 _ _ _ _ _ (Nat.le_refl _)];have:acE rs us c j=false:=by simp only[acE,hj];rfl
     simp[this]
    ·cases h
def PvI (rs:List (List Int)) (us:List Bool) (pv:List Int):Prop:=∀c,c < pv.length→pv.getD c (-1)= -1∨∃b:Nat,pv.getD c (-1)=(b:Int)∧b < rs.length∧us.getD b true=true∧ceE rs b c≠0
theorem HK {rs:List (List Int)}: ∀(c:Nat) (s:List (List Int)×List Bool×List Int),elE rs c=some s→s.1.length=rs.length∧s.2.1.length=rs.length∧s.2.2.length=c∧PvI s.1 s.2.1 s.2.2
 | 0,s,h=>by
  simp only[elE,Option.some.injEq]at h;subst h;exact⟨rfl,by simp,rfl,fun c hc=>by simp at hc⟩
 | c+1,s,h=>by
  simp only[elE]at h;cases hs:elE rs c with
  | none=>rw[hs]at h;simp at h
  | some s0=>
   rw[hs]at h;simp only[Option.bind_some]at h;obtain⟨h1,h2,h3,h4⟩:=HK c s0 hs;cases hc:coE c (msE s0.1 s0.2.1 c s0.1.length+1) s0.1 s0.2.1 with
   | none=>rw[hc]at h;simp at h
   | some x=>
    rw[hc]at h;simp only[Option.map_some,Option.some.injEq]at h;subst h;obtain⟨i1,i2,i3,i4⟩:=HI c _ s0.1 s0.2.1 x.1 x.2.1 x.2.2 (by omega) hc;refine⟨by simp only;omega,by simp only;omega,by simp[h3],?_⟩;intro d hd;simp only[List.length_append,List.length_singleton]at hd;simp only;by_cases hdc:d=c
    ·subst hdc;have e: (s0.2.2 ++ [x.2.2]).getD d (-1)=x.2.2:=by
      rw[List.getD_eq_getElem?_getD,List.getElem?_append_right (by omega),h3];simp
     rw[e];rcases i4 with i4 | ⟨b,b1,b2,b3,b4⟩
     ·exact .inl i4
     ·exact .inr ⟨b,b1,by omega,b3,b4⟩
    ·have e: (s0.2.2 ++ [x.2.2]).getD d (-1)=s0.2.2.getD d (-1):=by
      rw[List.getD_eq_getElem?_getD,List.getD_eq_getElem?_getD,List.getElem?_append_left (by omega)]
     rw[e];rcases h4 d (by omega)with h4 | ⟨b,b1,b2,b3,b4⟩
     ·exact .inl h4
     ·obtain⟨k1,k2⟩:=i3 b b3;refine .inr ⟨b,b1,by omega,k2,?_⟩;unfold ceE at *;rw[k1];exact b4
def Rv (B:List (List AV)) (x0 n:Nat) (cols:AV) (rs:List (List Int)) (c:Nat):Prop:=match elE rs c with
 | some s=>ES B x0 n cols s.1 s.2.1 (s.2.2 ++ List.replicate (n - c) (-1)) false
 | none=>∃rs' us' pv',rs'.length=rs.length∧ES B x0 n cols rs' us' pv' true
theorem ES.app {B:List (List AV)} {x0 n:Nat} {cols:AV} {rs:List (List Int)} {us:List Bool} {piv:List Int} {lg:Bool} (h:ES B x0 n cols rs us piv lg) (M:List (List AV)):ES (B ++ M) x0 n cols rs us piv lg:=
 ⟨Yq h.x M,fun hz=>Yq (h.rl hz) M,fun hz=>Yq (h.pl hz) M,h.pn,fun i hi=>⟨Yq (h.row i hi).1 M,Yq (h.row i hi).2.1 M,Yq (h.row i hi).2.2 M⟩,h.ul,h.wl,h.bd⟩
theorem ES.lt {B:List (List AV)} {x0 n:Nat} {cols:AV} {rs:List (List Int)} {us:List Bool} {piv:List Int} {lg:Bool} (h:ES B x0 n cols rs us piv lg):x0+4*rs.length+n < B.length:=by
 by_cases hn:n=0
 ·by_cases hm:rs.length=0
  ·have:=Zp h.x;omega
  ·have:=Zp (h.rl hm);omega
 ·have:=Zp (h.pl hn);omega
theorem Rv.app {B:List (List AV)} {x0 n:Nat} {cols:AV} {rs:List (List Int)} {c:Nat} (h:Rv B x0 n cols rs c) (M:List (List AV)):Rv (B ++ M) x0 n cols rs c:=by
 unfold Rv at *;cases he:elE rs c with
 | some s=>rw[he]at h;exact ES.app h M
 | none=>
  rw[he]at h;obtain⟨rs',us',pv',e1,e2⟩:=h;exact⟨rs',us',pv',e1,e2.app M⟩
theorem Rv.lt {B:List (List AV)} {x0 n:Nat} {cols:AV} {rs:List (List Int)} {c:Nat} (h:Rv B x0 n cols rs c):x0+4*rs.length+n < B.length:=by
 unfold Rv at h;cases he:elE rs c with
 | some s=>
  rw[he]at h;have:=ES.lt h;rw[(HK c s he).1]at this;exact this
 | none=>
  rw[he]at h;obtain⟨rs',us',pv',e1,e2⟩:=h;have:=e2.lt;rw[e1]at this;exact this
def IS (B0 B:List (List AV)) (v:AV) (xs:List Int):Prop:=UF B0 B∧((xs=[]∧v= .gs 0 0 0 0)∨∃id,v= .gs id 0 1 xs.length∧xs≠[]∧B0.length≤id∧B[id]? =some (ZZ xs))
def QfD (rs:List (List Int)):List AV:=rs.map fun r=>AV.sl false 1 (O9 r)
def usB (us:List Bool):List AV:=us.map AV.bool
structure EJ (B0 B:List (List AV)) (rs:List (List Int)) (us:List Bool) (piv:List Int) (idr idu:Nat) (pv:AV):Prop where
 hr:B[idr]? =some (QfD rs)
 hu:B[idu]? =some (usB us)
 hp:IS B0 B pv piv
 n1:B0.length≤idr
 n2:idr < idu
 n4: ∀id,pv= .gs id 0 1 piv.length→piv≠[]→idu < id
 ul:us.length=rs.length
theorem EJ.app {B0 B:List (List AV)} {rs:List (List Int)} {us:List Bool} {piv:List Int} {idr idu:Nat} {pv:AV} (h:EJ B0 B rs us piv idr idu pv) (x:Int) (o:Bool) (hl:piv.length < 1000000):
  ∃B',appM 8 1 pv (.sl o 1 [[.int .i64 x]]) B=some (.gs B.length 0 1 (piv.length+1),B')∧EJ B0 B' rs us (piv ++ [x]) idr idu (.gs B.length 0 1 (piv.length+1)):=by
 have hrl:=Zp h.hr;have hul:=Zp h.hu;have n2:=h.n2;have n1:=h.n1;obtain⟨hP,h2⟩:=h.hp;have hsr:Xd 1 (.sl o 1 [[AV.int .i64 x]]) B=some (1,[.int .i64 x]):=by simp[Xd]
 rcases h2 with⟨e1,e2⟩ | ⟨id,e1,e2,e3,e4⟩
 ·subst e1;subst e2
  refine⟨B ++ [[.int .i64 x]],?_,⟨Yq h.hr _,Yq h.hu _,⟨hP.app _,.inr ⟨B.length,rfl,by simp,by obtain⟨M,rfl⟩:=hP;simp,Ro _ _ _⟩⟩,n1,n2,fun id hid _=>by injection hid with hid;omega,h.ul⟩⟩;simp[appM,hsr]
 ·subst e1;have hid:=h.n4 id rfl e2;have hidl:=Zp e4;have hne0: ¬piv.length=0:=fun e=>e2 (List.eq_nil_of_length_eq_zero e);have hrl2: (ZZ piv).length=piv.length:=AJ piv;have hne:ZZ piv≠[]:=fun e=>by rw[e]at hrl2;exact hne0 hrl2.symm
  have hst: (ZZ piv).map AV.strip=ZZ piv:=by simp[ZZ,AV.strip]
  refine⟨B.set id []++ [ZZ piv ++ [.int .i64 x]],?_,⟨Yq (by rw[List.getElem?_set,if_neg (by omega)];exact h.hr) _,Yq (by rw[List.getElem?_set,if_neg (by omega)];exact h.hu) _,⟨(hP.set e3 _).app _,.inr ⟨B.length,by simp,by simp,by obtain⟨M,rfl⟩:=hP;simp,?_⟩⟩,n1,n2,fun id2 hid2 _=>by injection hid2 with hid2;omega,h.ul⟩⟩
  ·simp only[appM,hsr,Option.bind_some];rw[if_pos ⟨by omega,by omega⟩,if_neg (by omega),if_neg (by omega),if_pos ⟨trivial,trivial⟩,e4];simp only[Option.bind_some];rw[if_pos ⟨hne,by omega⟩,if_neg (by omega),Nat.mul_one,← hrl2,List.take_of_length_le (Nat.le_refl _),hst]
  ·have e:B.length=(B.set id []).length:=by simp
   rw[e,List.getElem?_concat_length];simp[ZZ]
theorem EJ.used {B0 B:List (List AV)} {rs:List (List Int)} {us:List Bool} {piv:List Int} {idr idu id:Nat} (b:Nat) (h:EJ B0 B rs us (piv ++ [-1]) idr idu (.gs id 0 1 (piv.length+1))):
  EJ B0 ((B.set id (ZZ (piv ++ [(b:Int)]))).set idu (usB (us.set b true))) rs (us.set b true) (piv ++ [(b:Int)]) idr idu (.gs id 0 1 (piv.length+1)):=by
 have hrl:=Zp h.hr;have hul:=Zp h.hu;have n2:=h.n2;have n1:=h.n1;obtain⟨hP,h2⟩:=h.hp;rcases h2 with⟨e1,e2⟩ | ⟨id2,e1,e2,e3,e4⟩
 ·simp at e1
 ·injection e1 with e1
  subst e1;have hid:=h.n4 id (by simp) e2;have hidl:=Zp e4;refine⟨by rw[List.getElem?_set,if_neg (by omega),List.getElem?_set,if_neg (by omega)];exact h.hr,by rw[List.getElem?_set,if_pos rfl,if_pos (by rw[List.length_set];exact hul)],⟨(hP.set e3 _).set (by omega) _,.inr ⟨id,by simp,by simp,e3,?_⟩⟩,n1,n2,fun id2 hid2 _=> ?_,by rw[List.length_set];exact h.ul⟩
  ·rw[List.getElem?_set,if_neg (by omega),List.getElem?_set,if_pos rfl,if_pos hidl]
  ·injection hid2 with hid2;omega
theorem UF.trans {B0 B B':List (List AV)} (h:UF B0 B) (h2:UF B B'):UF B0 B':=by
 obtain⟨M,rfl⟩:=h;obtain⟨M2,rfl⟩:=h2;exact⟨M ++ M2,by simp⟩
theorem UF.len {B0 B:List (List AV)} (h:UF B0 B):B0.length≤B.length:=by
 obtain⟨M,rfl⟩:=h;simp
def RP (t:Tm):Bool:=isB t MUL || isB t INV
def MY (s:List Tm) (l:List Pw):List Pw:=l.filter fun p=> !Q2 s p.1
def kpW (s:List Tm) (p:Pw):Bool:= !Q2 s p.1
def Q7 (ks:List Pw):List AV:=ks.flatMap Qw
theorem B6 (ks:List Pw): (ks.map Qw).flatten.map AV.strip=Q7 ks:=by
 induction ks with
 | nil=>rfl
 | cons k ks ih=>simp only[List.map_cons,List.flatten_cons,List.map_append,ih,Yx,Q7,List.flatMap_cons]
theorem Wu (ks:List Pw): (Q7 ks).length=ks.length*5:=by
 induction ks with
 | nil=>rfl
 | cons k ks ih=>simp only[Q7,List.flatMap_cons,List.length_append,ZX]at *;rw[ih];simp;omega
theorem SF (a b:List Pw):Q7 (a ++ b)=Q7 a ++ Q7 b:=by simp[Q7]
theorem X4 (a:Pw) (b:List Pw):Q7 (a:: b)=Qw a ++ Q7 b:=by simp[Q7]
theorem Jq (ks:List Pw):gpfreeL (Q7 ks)=true:=by
 induction ks with
 | nil=>rfl
 | cons k ks ih=>rw[X4,Ta,ih,HM];rfl
@[simp] theorem Qcy: ∀l:List Pw,gpfreeE (l.map Qw)=true
 | []=>rfl
 | k:: l=>by simp[gpfreeE,Qcy l]
theorem K3 (ks:List Pw): ∀(pre:List AV) (n:Nat),pre.length=n→QY (pre ++ Q7 ks) n 5 ks.length=ks.map Qw:=by
 induction ks with
 | nil=>intro pre n h;rfl
 | cons k ks ih=>
  intro pre n h;have h1:=ih (pre ++ Qw k) (n+5) (by simp[ZX,h]);unfold QY at *;rw[List.length_cons,List.range_succ_eq_map,List.map_cons,List.map_map,List.map_cons,← h1];refine List.cons_eq_cons.2 ⟨?_,List.map_congr_left fun j _=> ?_⟩
  ·rw[X4];simp[← h,Yx,List.take_append,ZX]
  ·simp only[Function.comp_apply,X4,List.append_assoc];rw[show n+5+j*5=n+ (j+1)*5 by omega]
theorem Pj (ks:List Pw):QY (Q7 ks) 0 5 ks.length=ks.map Qw:=K3 ks [] 0 rfl
theorem AF {ks pre post:List Pw} {x:Pw} (h:ks=pre ++ x:: post): ((Q7 ks).drop (pre.length*5)).take 5=Qw x:=by
 subst h;rw[SF,X4,← Wu];simp[List.take_append,ZX]
theorem FX {ks pre post:List Pw} (h:ks=pre ++ post): (Q7 ks).take (pre.length*5)=Q7 pre:=by
 subst h;rw[SF,← Wu];simp
theorem GT {ks pre post:List Pw} (h:ks=pre ++ post): (Q7 ks).drop (pre.length*5)=Q7 post:=by
 subst h;rw[SF,← Wu];simp
theorem S2 (ks:List Pw): (Q7 ks).map AV.strip=Q7 ks:=by
 induction ks with
 | nil=>rfl
 | cons k ks ih=>rw[X4,List.map_append,ih,Yx]
def WE {α:Type} (p:α→Bool) (i:Nat):List α→Int
 | []=> -1
 | x:: xs=>if p x then i else WE p (i+1) xs
theorem Ik (ks:List Pw) (s:List Tm) (id g:Nat) (bs:List (List AV)) (hid:bs[id]? =some (Q7 ks)) (hg:bs[g]? =some [.sl false 4 (encTs s)]) (hF: ∀(x:Pw) (bs:List (List AV)),x∈ks→bs[g]? =some [.sl false 4 (encTs s)]→call F.tb 558 [.agg (Qw x),.gp g 0] bs=some (.bool (!kpW s x),bs)) (hl:ks.length < 1000000):
  ∀(post pre:List Pw) (ρ:Nat→AV),ks=pre ++ post→ρ 0= .gs id 0 5 ks.length→ρ 1= .fn 558 [.gp g 0]→ρ 7= .int .i64 ks.length→ρ 8= .int .i64 pre.length→
  R F.tb (.loop F.f205l0) ρ bs (Qi 0 (Qu F.tb F.f205r0 (Qy F.f205 bs)))=
   some (.int .i64 (WE (fun k=> !kpW s k) pre.length post),bs):=by
 intro post
 induction post with
 | nil=>
  intro pre ρ hk h0 h1 h7 h8;rw[Qd F.f205l0.eq_1];simp only[List.append_nil]at hk;rw[← hk]at h8;simp[h0,h1,h7,h8,F.f205r0,WE]
 | cons x post IH=>
  intro pre ρ hk h0 h1 h7 h8;have hll:=QM hk;have hw1:=wr1 pre.length (by omega);have hlt:=QO hk;have hrd:=AF hk;have hfl:=Wu ks;have hle:pre.length*5+5≤ks.length*5:=by omega
  have hc:=hF x bs (by rw[hk];simp) hg;have hst:=S2 ks;generalize Q7 ks=fl at *;rw[Qd F.f205l0.eq_1];cases hx:kpW s x
  ·simp[h0,h1,h7,h8,hw1,hlt,hid,hrd,hfl,hle,hc,hx,hst,WE]
  ·simp[h0,h1,h7,h8,hw1,hlt,hid,hrd,hfl,hle,hc,hx,hst,WE];rw[IH (pre ++ [x])] <;> simp[h0,h1,h7,hk]
theorem K4 {c:List AV} {sz n:Nat}:QY c 0 sz n=QY ((c.map AV.strip).take (n*sz)) 0 sz n:=by
 unfold QY;refine List.map_congr_left fun j hj=> ?_;have hj:j < n:=List.mem_range.1 hj;have h1:j*sz+sz≤n*sz:=by
  have:=Nat.mul_le_mul_right sz (Nat.succ_le_of_lt hj);rw[Nat.succ_mul]at this;exact this
 simp only[Nat.zero_add];rw[List.drop_take,List.take_take,Nat.min_eq_left (by omega),← List.map_drop,← List.map_take,List.map_map];exact List.map_congr_left fun x _=>(Tk x).symm
theorem PH {c:List AV} {K:List Pw} (h: (c.map AV.strip).take (K.length*5)=Q7 K):QY c 0 5 K.length=K.map Qw:=by
 rw[K4,h,Pj]
theorem QaS (n:Nat) (K:List Pw) (id:Nat) (B:List (List AV)) (c:List AV) (hB:id < B.length) (hc:c.length=n*5) (hK:K.length≤n) (hn:n < 1000000) (ht: (c.map AV.strip).take (K.length*5)=Q7 K)
  (ρ:Nat→AV) (h0:ρ 0= .gs id 0 5 n) (h5:ρ 5= .int .i64 K.length):
  ∃o c',R F.tb F.f559r0 ρ (B.set id c) (Qy F.f559 B)=some (.sl o 5 (K.map Qw),B.set id c'):=by
 have hk1: (K.length:Int)≤(n:Int):=by omega
 by_cases hz:n - K.length=0
 ·by_cases hk0:K.length=0
  ·have:K=[]:=List.eq_nil_of_length_eq_zero hk0;subst this;refine⟨false,c,?_⟩;simp at hz;subst hz;have hc0:c=[]:=List.eq_nil_of_length_eq_zero (by rw[hc]);subst hc0;simp[F.f559r0,h0,h5,Q3,Zb,List.take_of_length_le]
  ·have hch:=PH ht;refine⟨true,[],?_⟩;have hk2:K≠[]:=fun e=>hk0 (by rw[e];rfl);have hle:K.length*5≤n*5:=by omega
   simp[F.f559r0,h0,h5,Q3,hz,hk0,hK,hk2,hle,Zb,List.take_of_length_le,hB,hc,hch]
 ·have hle:K.length*5+ (n - K.length)*5≤n*5:=by omega
  by_cases hk0:K.length=0
  ·have:K=[]:=List.eq_nil_of_length_eq_zero hk0;subst this;refine⟨false,put c 0 (List.replicate (n*5) .undef),?_⟩;simp at hz hle;have hd:c.drop (n*5)=[]:=List.drop_eq_nil_of_le (by omega);simp[F.f559r0,h0,h5,Q3,hz,hle,hc,hB,hd,Zb,List.take_of_length_le]
  ·have hch:QY (put c (K.length*5) (List.replicate ((n - K.length)*5) .undef)) 0 5 K.length=K.map Qw:=by
    apply PH;rw[put,List.append_assoc,List.map_append,List.map_take,List.take_append_of_le_length (by simp;omega),List.take_take,Nat.min_self,ht]
   refine⟨true,[],?_⟩;have hk2:K≠[]:=fun e=>hk0 (by rw[e];rfl);have hle1:K.length*5≤n*5:=by omega
   have hpl: (put c (K.length*5) (List.replicate ((n - K.length)*5) .undef)).length=n*5:=by
    simp[put,hc];omega
   generalize hp:put c (K.length*5) (List.replicate ((n - K.length)*5) .undef)=pc at *;simp[put]at hp;simp[F.f559r0,h0,h5,Q3,hz,hk0,hK,hk2,hle,hle1,hpl,hp,Zb,List.take_of_length_le,hB,hc,hch]
theorem DU {c:List AV} {n kp pl:Nat} {K post:List Pw} {x:Pw} (hc:c.length=n*5) (hkp:kp=K.length) (hle:kp≤pl) (hlt:pl < n)
  (ht: (c.map AV.strip).take (kp*5)=Q7 K) (hd: (c.map AV.strip).drop (pl*5)=Q7 (x:: post)):
  (c.take (kp*5)++ (Qw x ++ c.drop (kp*5+5))).length=n*5∧
  ((c.take (kp*5)++ (Qw x ++ c.drop (kp*5+5))).map AV.strip).take ((kp+1)*5)=Q7 (K ++ [x])∧
  ((c.take (kp*5)++ (Qw x ++ c.drop (kp*5+5))).map AV.strip).drop ((pl+1)*5)=Q7 post:=by
 have h1: (c.take (kp*5)).length=kp*5:=by rw[List.length_take];omega
 have h2:=ZX x;refine⟨by simp[h1,h2,hc];omega,?_,?_⟩
 ·rw[List.map_append,List.map_append,List.map_take,ht,Yx,SF,show Q7 [x]=Qw x by simp[Q7],← List.append_assoc,List.take_append_of_le_length (by simp[Wu,h2,hkp];omega)];exact List.take_of_length_le (by simp[Wu,h2,hkp];omega)
 ·rw[List.map_append,List.map_append,List.drop_append,List.drop_eq_nil_of_le (by simp;omega),List.nil_append,List.drop_append,List.drop_eq_nil_of_le (by simp[h1,h2];omega),List.nil_append,List.map_drop,List.drop_drop];simp only[List.length_map,h1,h2];rw[show kp*5+5+ ((pl+1)*5 - kp*5 - 5)=pl*5+5 by omega,← List.drop_drop,hd,X4];simp[h2]
def F8 (K:List Pw) (B:List (List AV)) (id:Nat) (r:Option (AV×List (List AV))):Prop:=∃o c',r=some (.sl o 5 (K.map Qw),B.set id c')
theorem F9 (ks:List Pw) (s:List Tm) (id g:Nat) (B:List (List AV)) (hB:id < B.length) (hgi:g≠id) (hg:B[g]? =some [.sl false 4 (encTs s)]) (hF: ∀(x:Pw) (bs:List (List AV)),x∈ks→bs[g]? =some [.sl false 4 (encTs s)]→call F.tb 558 [.agg (Qw x),.gp g 0] bs=some (.bool (!kpW s x),bs)) (hl:ks.length < 1000000):
  ∀(post pre:List Pw) (c:List AV) (ρ:Nat→AV),ks=pre ++ post→c.length=ks.length*5→(c.map AV.strip).take ((pre.filter (kpW s)).length*5)=Q7 (pre.filter (kpW s))→
   (c.map AV.strip).drop (pre.length*5)=Q7 post→ρ 0= .gs id 0 5 ks.length→ρ 1= .fn 558 [.gp g 0]→ρ 5= .int .i64 (pre.filter (kpW s)).length→ρ 6= .int .i64 pre.length→
  F8 (ks.filter (kpW s)) B id (R F.tb (.loop F.f559l0) ρ (B.set id c) (Qi 0 (Qu F.tb F.f559r0 (Qy F.f559 B)))):=by
 intro post
 induction post with
 | nil=>
  intro pre c ρ hk hc ht hd h0 h1 h5 h6;simp only[List.append_nil]at hk;subst hk;have h:=fun ρ=>QaS ks.length (ks.filter (kpW s)) id B c hB hc (List.length_filter_le _ _) hl ht ρ;rw[Qd F.f559l0.eq_1];simp[h0,h1,h5,h6];exact h _ (by simp[h0]) (by simp[h5])
 | cons x post IH=>
  intro pre c ρ hk hc ht hd h0 h1 h5 h6;have hll:=QM hk;have hfl:=List.length_filter_le (kpW s) pre;have hw1:=wr1 pre.length (by omega);have hw2:IntKind.i64.wrap (((pre.filter (kpW s)).length:Int)+1)=((pre.filter (kpW s)).length:Int)+1:=Qq (by omega) (by omega);have hlt:=QO hk;have hlt2: ((pre.filter (kpW s)).length:Int) < (ks.length:Int):=by omega
  have hrd:List.take 5 (List.drop (pre.length*5) (c.map AV.strip))=Qw x:=by rw[hd,X4];simp[List.take_append,ZX]
  have hle:pre.length*5+5≤ks.length*5:=by omega
  have hle2: (pre.filter (kpW s)).length*5+5≤ks.length*5:=by omega
  have hg2: (B.set id c)[g]? =some [.sl false 4 (encTs s)]:=by rw[List.getElem?_set_ne (Ne.symm hgi)];exact hg
  have hcc:=hF x (B.set id c) (by rw[hk];simp) hg2;have hes:=Yx x;have htk:List.take 5 (Qw x)=Qw x:=List.take_of_length_le (by rw[ZX];omega);have hel:=ZX x;have heg:gpfreeL (Qw x)=true:=by have:=Jq [x];simpa[Q7]using this
  have e:ks=(pre ++ [x])++ post:=by rw[hk];simp
  rw[Qd F.f559l0.eq_1];cases hx:kpW s x
  ·have hf: (pre ++ [x]).filter (kpW s)=pre.filter (kpW s):=by simp[List.filter_cons,hx]
   have hd2: (c.map AV.strip).drop ((pre ++ [x]).length*5)=Q7 post:=by
    rw[show(pre ++ [x]).length*5=pre.length*5+5 by simp;omega,← List.drop_drop,hd,X4];simp[ZX]
   have hr:=fun ρ=>IH (pre ++ [x]) c ρ e hc (by rw[hf];exact ht) hd2;rw[hf]at hr;simp[h0,h1,h5,h6,hB,hw1,hlt,hrd,hc,hle,hcc,hx,htk,hel,hes];exact hr _ (by simp[h0]) (by simp[h1]) (by simp[h5]) (by simp)
  ·obtain⟨q1,q2,q3⟩:=DU hc rfl hfl (by omega) ht hd;have hf: (pre ++ [x]).filter (kpW s)=pre.filter (kpW s)++ [x]:=by simp[List.filter_cons,hx]
   have hr:=fun ρ=>IH (pre ++ [x]) _ ρ e q1 (by rw[hf,List.length_append];exact q2) (by rw[List.length_append];exact q3);rw[hf]at hr;simp[h0,h1,h5,h6,hB,hw1,hw2,hlt,hlt2,hrd,hc,hle,hle2,hcc,hx,htk,hel,hes,heg];exact hr _ (by simp[h0]) (by simp[h1]) (by simp) (by simp)
theorem N0 {α:Type} (p:α→Bool): ∀(l:List α) (i:Nat),WE p i l= -1→l.any p=false
 | [],_,_=>rfl
 | x:: xs,i,h=>by
  simp only[WE]at h;cases hx:p x
  ·rw[hx]at h;simp only[List.any_cons,hx,Bool.false_or];exact N0 p xs (i+1) (by simpa using h)
  ·rw[hx]at h;simp at h
theorem N1 {α:Type} (p:α→Bool): ∀(l:List α) (i:Nat),WE p i l≠ -1→∃pre post,l=pre ++ post∧pre.any p=false∧WE p i l=(i+pre.length:Nat)∧∃x post',post=x:: post'∧p x=true
 | [],_,h=>by simp[WE]at h
 | x:: xs,i,h=>by
  cases hx:p x
  ·simp only[WE,hx]at h ⊢;obtain⟨pre,post,h1,h2,h3,y,q,h4⟩:=N1 p xs (i+1) (by simpa using h);exact⟨x:: pre,post,by rw[h1];rfl,by simp[hx,h2],by simp[h3];omega,y,q,h4⟩
  ·exact⟨[],x:: xs,rfl,rfl,by simp[WE,hx],x,xs,rfl,hx⟩
theorem It (ks:List Pw) (s:List Tm) (id g:Nat) (bs:List (List AV)) (hid:bs[id]? =some (Q7 ks)) (hg:bs[g]? =some [.sl false 4 (encTs s)]) (hF: ∀(x:Pw) (bs:List (List AV)),x∈ks→bs[g]? =some [.sl false 4 (encTs s)]→call F.tb 558 [.agg (Qw x),.gp g 0] bs=some (.bool (!kpW s x),bs)) (hl:ks.length < 1000000):
  call F.tb 205 [.gs id 0 5 ks.length,.fn 558 [.gp g 0]] bs=some (.int .i64 (WE (fun k=> !kpW s k) 0 ks),bs):=by
 rw[Qa F.tb_205 _ _ rfl];simp[F.f205C];have:=fun ρ=>Ik ks s id g bs hid hg hF hl ks [] ρ rfl;simp only[List.length_nil]at this;rw[this] <;> simp
theorem KF (ks:List Pw) (s:List Tm) (id g:Nat) (B:List (List AV)) (hid:B[id]? =some (Q7 ks)) (hgi:g≠id) (hg:B[g]? =some [.sl false 4 (encTs s)]) (hF: ∀(x:Pw) (bs:List (List AV)),x∈ks→bs[g]? =some [.sl false 4 (encTs s)]→call F.tb 558 [.agg (Qw x),.gp g 0] bs=some (.bool (!kpW s x),bs)) (hl:ks.length < 1000000):
  ∃o c',call F.tb 559 [.gs id 0 5 ks.length,.fn 558 [.gp g 0]] B=some (.sl o 5 ((ks.filter (kpW s)).map Qw),B.set id c'):=by
 have hB:id < B.length:=by
  rcases Nat.lt_or_ge id B.length with h | h
  ·exact h
  ·rw[List.getElem?_eq_none h]at hid;cases hid
 have hset: ∀c,B[id]? =some c→B.set id c=B:=fun c h=>List.ext_getElem? fun j=>by
  rw[List.getElem?_set];split
  ·rename_i e;subst e;exact h.symm
  ·rfl
 have hi:=It ks s id g B hid hg hF hl
 show F8 (ks.filter (kpW s)) B id _;rw[Qa F.tb_559 _ _ rfl];by_cases hx:WE (fun k=> !kpW s k) 0 ks= -1
 ·have ha:=N0 _ ks 0 hx;have hfil:ks.filter (kpW s)=ks:=List.filter_eq_self.2 fun k hk=>by
   have:=List.any_eq_false.1 ha k hk;simpa using this
  have hfl:=Wu ks;have hch:=Pj ks;cases ks with
  | nil=>
   refine⟨false,Q7 [],?_⟩;rw[hset _ hid];simp only[List.length_nil]at hi;rw[hx]at hi;simp[F.f559C,hi,hx,Zb]
  | cons k ks=>
   refine⟨true,[],?_⟩;rw[hfil];have heg:gpfreeL (Qw k)=true:=by have:=Jq [k];simpa[Q7]using this
   simp only[List.length_cons]at *;rw[hx]at hi;simp[F.f559C,hi,hx,Zb,hid,hfl,hch,heg,List.take_of_length_le]
 ·obtain⟨pre,post,h1,h2,h3,x,post',h4,h5⟩:=N1 _ ks 0 hx;have hw1:IntKind.i64.wrap ((pre.length:Int)+1)=(pre.length:Int)+1:=Qq (by omega) (by(have:ks.length=pre.length+post.length:=by rw[h1];simp);omega);have hfp:pre.filter (kpW s)=pre:=List.filter_eq_self.2 fun k hk=>by
   have:=List.any_eq_false.1 h2 k hk;simpa using this
  have hfx: (pre ++ [x]).filter (kpW s)=pre:=by rw[List.filter_append,hfp];simp at h5;simp[List.filter_cons,h5]
  have hr:=fun ρ=>F9 ks s id g B hB hgi hg hF hl post' (pre ++ [x]) (Q7 ks) ρ (by rw[h1,h4];simp) (Wu ks) (by rw[hfx,S2];exact FX h1) (by rw[S2];exact GT (by rw[h1,h4];simp));rw[hfx,hset _ hid]at hr;have h3':WE (fun k=> !kpW s k) 0 ks=(pre.length:Int):=by rw[h3];simp
  rw[h3']at hi;have hne: ¬((pre.length:Int)= -1):=by omega
  simp[F.f559C,hi,hne,hw1];exact hr _ (by simp) (by simp) (by simp) (by simp)
theorem QbN (s:List Tm) (p:Pw) (g:Nat) (bs:List (List AV)) (hl:s.length < 100000000) (hm: ∀x∈s,x.mass < big) (hp:p.1.mass < big) (ha:Asc s) (hg:bs[g]? =some [.sl false 4 (encTs s)]):
  call F.tb 558 [.agg (Qw p),.gp g 0] bs=some (.bool (!kpW s p),bs):=by
 have h:=UL s p.1 false bs hl hm hp ha;rw[Qa F.tb_558 _ _ rfl];simp[F.f558C,hg,h,kpW]
def UnR (s:List Tm) (l:List Pw) (bs:List (List AV)) (r:Out):Prop:=∃o,r=some (.sl o 5 (QU (MY s l)),bs)
theorem Qdo (s:List Tm) (l:List Pw):l.filter (kpW s)=MY s l:=rfl
theorem QbM (s:List Tm) (l:List Pw) (o o1:Bool) (bs:List (List AV)) (hsl:s.length < 100000000) (hs: ∀x∈s,x.mass < big) (ha:Asc s) (hl:SmP l):
  UnR s l bs (call F.tb 556 [.sl o 4 (encTs s),.sl o1 5 (QU l)] bs):=by
 have hg: (bs ++ [[AV.sl false 4 (encTs s)]])[bs.length]? =some [.sl false 4 (encTs s)]:=List.getElem?_concat_length;rw[Qa F.tb_556 _ _ rfl];by_cases c:l=[]
 ·subst c;have h1: ∀B,call F.tb 557 [.sl false 5 []] B=some (.gs 0 0 0 0,B):=fun B=>by rw[ZA F.tb_557];simp[Zx,XL]
  have h2: ∀B,call F.tb 205 [.gs 0 0 0 0,.fn 558 [.gp bs.length 0]] B=some (.int .i64 (-1),B):=fun B=>by
   rw[Qa F.tb_205 _ _ rfl];simp[F.f205C];rw[Qd F.f205l0.eq_1];simp[F.f205r0]
  have h3: ∀B,call F.tb 559 [.gs 0 0 0 0,.fn 558 [.gp bs.length 0]] B=some (.sl true 5 [],B):=fun B=>by
   have:=h2 B;rw[Qa F.tb_559 _ _ rfl];simp[F.f559C,this,Zb]
  refine⟨true,?_⟩;simp[F.f556C,h1,h3,QU,MY]
 ·have hll:=hl.1;have h1:call F.tb 557 [.sl false 5 (QU l)] (bs ++ [[AV.sl false 4 (encTs s)]])=some (.gs (bs.length+1) 0 5 l.length,bs ++ [[AV.sl false 4 (encTs s)]]++ [Q7 l]):=by
   rw[ZA F.tb_557];have e1: (QU l).flatten.map AV.strip=Q7 l:=B6 l;have e2: (QU l).length=l.length:=by simp[QU]
   have e3:=RL l;have e4: ¬QU l=[]:=fun e=>c (by rw[e]at e2;exact List.eq_nil_of_length_eq_zero e2.symm);have q5:l.length*64≤140737488355328:=by omega
   simp[Zx,XL,e1,e2,e3,e4,c,q5]
  have hid: (bs ++ [[AV.sl false 4 (encTs s)]]++ [Q7 l])[bs.length+1]? =some (Q7 l):=by
   have:bs.length+1=(bs ++ [[AV.sl false 4 (encTs s)]]).length:=by simp
   rw[this];exact List.getElem?_concat_length
  obtain⟨o2,c',h2⟩:=KF l s (bs.length+1) bs.length _ hid (by omega) (Yq hg _) (fun x B hx hB=>QbN s x bs.length B hsl hs (hl.big x hx) ha hB) hll;rw[Qdo]at h2;have htk: ((bs ++ [[AV.sl false 4 (encTs s)]]++ [Q7 l]).set (bs.length+1) c').take bs.length=bs:=by
   rw[List.set_append_right _ _ (by simp)];simp
  refine⟨o2,?_⟩;generalize hE:QU l=E at *;generalize hBB: (bs ++ [[AV.sl false 4 (encTs s)]]++ [Q7 l]).set (bs.length+1) c'=BB at *;have h2':call F.tb 559 [.gs (bs.length+1) 0 5 l.length,.fn 558 [.gp bs.length 0]] (bs ++ [[AV.sl false 4 (encTs s)]]++ [Q7 l])=some (.sl o2 5 (QU (MY s l)),BB):=h2;simp[-List.append_assoc,F.f556C,h1,h2',htk]
theorem Ht (t:Tm) (bs:List (List AV)):call F.tb 522 [.agg (Qb t)] bs=some (.bool (RP t),bs):=by
 have h:=O1 t MUL INV true bs;have h':=O1 t MUL INV false bs;unfold MUL INV at h h';rw[Qa F.tb_522 _ _ rfl];unfold RP MUL INV;simp[F.f522C,h,h',Qj]
theorem Hz (t:Tm) (bs:List (List AV)) (hm:t.mass < 1000000) (ha:isB t EXP=true→t.kids.length=2):QfR t bs (call F.tb 553 [.agg (Qb t)] bs):=by
 have h1:=VL t EXP true bs;have h1':=VL t EXP false bs;have e1:=Qz t;rw[Qa F.tb_553 _ _ rfl];cases c:isB t EXP
 ·have eb:Sw t=false:=by simp[Sw,c]
  rw[c]at h1 h1';unfold EXP at h1 h1';refine⟨false,?_⟩;simp[F.f553C,h1,h1',NC,NA,eb,QU,Qj]
 ·have c2:=ha c;have eb:Sw t=true:=by simp[Sw,c,c2]
  rw[c]at h1 h1';unfold EXP at h1 h1';have hk:=Em c2;have km:=VR t 1;have h2:=Rf (kid t 1) bs (by omega);refine⟨false,?_⟩;have e2:encTs t.kids=[Qb (kid t 0),Qb (kid t 1)]:=by rw[hk];simp[encTs]
  rw[e2]at e1;simp only[e1]at h1 h1' ⊢;simp[F.f553C,h1,h1',h2,NC,NA,eb,Qj]
theorem Ks {x:Tm}: ∀{l:List Tm},x∈allL l↔∃t∈l,x∈Q1 t
 | []=>by simp[allL]
 | t:: ts=>by simp[allL,Ks (l:=ts)]
mutual
theorem Mu: ∀(t y z:Tm),y∈Q1 t→z∈Q1 y→z∈Q1 t
 | .mk k n s ks,y,z,hy,hz=>by
  simp only[Q1,List.mem_cons]at hy;rcases hy with rfl | hy
  ·exact hz
  ·simp only[Q1,List.mem_cons];exact .inr (allL_tr ks y z hy hz)
theorem allL_tr: ∀(ts:List Tm) (y z:Tm),y∈allL ts→z∈Q1 y→z∈allL ts
 | [],y,z,hy,_=>by simp[allL]at hy
 | t:: ts,y,z,hy,hz=>by
  simp only[allL,List.mem_append]at hy ⊢;rcases hy with hy | hy
  ·exact .inl (Mu t y z hy hz)
  ·exact .inr (allL_tr ts y z hy hz)
end
theorem Hp {t:Tm}: ∀{ts:List Tm},t∈ts→∀y∈Q1 t,y∈allL ts
 | [],h,_,_=>by simp at h
 | x:: ts,h,y,hy=>by
  simp only[allL,List.mem_append];rcases List.mem_cons.1 h with rfl | h
  ·exact .inl hy
  ·exact .inr (Hp h y hy)
def aE (rs:List (List Int)) (c i:Nat):Nat:=(ceE rs i c).natAbs
structure S4 where
 a0:Nat
 x0:Nat
 a1:Nat
 x1:Nat
 a2:Nat
 x2:Nat
 a3:Nat
 x3:Nat
def S4.a (s:S4):Nat→Nat
 | 0=>s.a0
 | 1=>s.a1
 | 2=>s.a2
 | _=>s.a3
def S4.x (s:S4):Nat→Nat
 | 0=>s.x0
 | 1=>s.x1
 | 2=>s.x2
 | _=>s.x3
def rA (p:Bool) (m a:Nat):Nat:=if p then a else a % m
def rX (p:Bool) (m y a x:Nat):Nat:=if p then x else x+a / m*y
def S4.step (s:S4) (b:Nat):S4:=
 ⟨rA (b == 0) (s.a b) s.a0,rX (b == 0) (s.a b) (s.x b) s.a0 s.x0,rA (b == 1) (s.a b) s.a1,rX (b == 1) (s.a b) (s.x b) s.a1 s.x1,
  rA (b == 2) (s.a b) s.a2,rX (b == 2) (s.a b) (s.x b) s.a2 s.x2,rA (b == 3) (s.a b) s.a3,rX (b == 3) (s.a b) (s.x b) s.a3 s.x3⟩
def S4.min (s:S4) (b:Nat):Bool:=s.a b != 0 && (s.a0 == 0 || Nat.ble (s.a b) s.a0) && (s.a1 == 0 || Nat.ble (s.a b) s.a1) && (s.a2 == 0 || Nat.ble (s.a b) s.a2) && (s.a3 == 0 || Nat.ble (s.a b) s.a3)
def nz1 (n:Nat):Nat:=if n == 0 then 0 else 1
def S4.one (s:S4):Bool:=Nat.ble (nz1 s.a0+nz1 s.a1+nz1 s.a2+nz1 s.a3) 1
end Go.Am
