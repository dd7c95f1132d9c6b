/-
  En1, En2, En3, En4, En5, En6, En7, En8, En9, En10, En11, En12, En13, En14, En15, En16, En17, En18, En19, En20, En21, En22, En23, En24, En25, En26, En30, En31, En32, En33, En34, En35, En36, Kp1, En37, En38, En39, En40, En41, En42, En43, En44, En45, En46, En47, En48, Kn1.
-/
import Derived.Test.YtkijgpjgngncpaaGreatDoorG19
import Derived.Test.YtkijgpjgngncpaaGreatDoorG18
set_option linter.all false
namespace Go.Am
set_option maxRecDepth 8000
def EqF (f:Nat):Prop:=∀(x y:Tm) (bs:List (List AV)),x.mass < big→y.mass < big→call F.tb f [.agg (Qb x),.agg (Qb y)] bs=some (.bool (decide (Qh x y=0)),bs)
def Rw (L:List Tm) (B:List (List AV)) (id:Nat) (r:Option (AV×List (List AV))):Prop:=r=some (.sl true 4 (encTs L),B.set id [])
theorem CL (B:List (List AV)) (id n:Nat) (D:List Tm) (c:List AV) (hB:id < B.length) (hc:c.length=n*4) (hD:D.length≤n) (hn:n < 100000000) (ht:c.take (D.length*4)=Qf D) (hDne:D≠[])
  (ρ:Nat→AV) (h0:ρ 0= .gs id 0 4 n) (h5:ρ 5= .int .i64 D.length):
  R F.tb F.f497r0 ρ (B.set id c) (Qi 1 (Qu F.tb F.f497r1 (Qu F.tb (.loop F.f497l1) (Qi 0 (Qu F.tb F.f497r2 (Qy F.f497 B))))))=
   some (.sl true 4 (encTs D),B.set id []):=by
 have e1: (0:Int)≤(D.length:Int):=by omega
 have e2: (D.length:Int)≤(n:Int):=by omega
 have hl0: ¬D.length=0:=fun e=>hDne (List.eq_nil_of_length_eq_zero e);have hg:=encTs_gp D;have hch: ∀t,QY (Qf D ++ t) 0 4 D.length=encTs D:=fun t=>by
  have:=YS (f:=Qb) (k:=4) Qm QJ D t;rw[Vf]at this;exact this
 have hlen: (Qf D).length=D.length*4:=Za Qm D;have hput:c.take (D.length*4)++ (List.replicate ((n - D.length)*4) AV.undef ++ c.drop (D.length*4+ (n - D.length)*4))=Qf D ++ List.replicate ((n - D.length)*4) .undef:=by
  rw[ht,List.drop_eq_nil_of_le (by rw[hc,← Nat.add_mul];exact Nat.mul_le_mul_right _ (by omega))];simp
 have hle:D.length*4+ (n - D.length)*4≤n*4:=by rw[← Nat.add_mul];exact Nat.mul_le_mul_right _ (by omega)
 by_cases hz:n - D.length=0
 ·have hDn:D.length=n:=by omega
  have hcc:c=Qf D:=by rw[← ht,List.take_of_length_le (by omega)]
  have hch0:=hch [];rw[List.append_nil]at hch0;rw[← hcc]at hch0 hlen;have hlc:D.length*4≤c.length:=by omega
  generalize encTs D=E at *;simp[F.f497r0,h0,h5,e1,e2,hD,hz,hl0,Zb,hB,hlc,hch0,hg,List.take_of_length_le]
 ·have hchr:=hch (List.replicate ((n - D.length)*4) .undef);have hlr:D.length*4≤(Qf D ++ List.replicate ((n - D.length)*4) AV.undef).length:=by rw[List.length_append];omega
  rw[← hput]at hchr hlr;generalize encTs D=E at *;generalize hX:c.take (D.length*4)++ (List.replicate ((n - D.length)*4) AV.undef ++ c.drop (D.length*4+ (n - D.length)*4))=X at *;simp[F.f497r0,h0,h5,e1,e2,hD,hz,hB,hc,hle,hX,hl0,Zb,hlr,hchr,hg,List.take_of_length_le]
theorem CJ (f:Nat) (hf:EqF f) (B:List (List AV)) (id n k0:Nat) (hB:id < B.length) (hn:n < 100000000): ∀(post D mid:List Tm) (prev:Tm) (k2:Nat) (ρ:Nat→AV),D≠[]→D.length+mid.length+1+post.length=n→k0+k2=D.length+mid.length+1→0 < k2→
   (∀x∈prev:: post,x.mass < big)→ρ 0= .gs id 0 4 n→ρ 1= .fn f []→ρ 5= .int .i64 D.length→ρ 6= .gs id (k0*4) 4 (n - k0)→ρ 7= .int .i64 k2→
  Rw (D ++ QW prev post) B id (R F.tb (.loop F.f497l0) ρ (B.set id (Qf (D ++ mid ++ prev:: post)))
   (Qi 2 (Qu F.tb F.f497r0 (Qi 1 (Qu F.tb F.f497r1 (Qu F.tb (.loop F.f497l1) (Qi 0 (Qu F.tb F.f497r2 (Qy F.f497 B))))))))):=by
 intro post
 induction post with
 | nil=>
  intro D mid prev k2 ρ hDne hl hk hk2 hm h0 h1 h5 h6 h7;have hlen: (Qf (D ++ mid ++ [prev])).length=n*4:=by rw[Za Qm];simp at hl ⊢;omega
  have ht: (Qf (D ++ mid ++ [prev])).take (D.length*4)=Qf D:=by
   have:=VV (f:=Qb) (k:=4) Qm (l:=D ++ mid ++ [prev]) (pre:=D) (post:=mid ++ [prev]) (by simp) [];simpa using this
  have hr:=fun ρ a b=>CL B id n D (Qf (D ++ mid ++ [prev])) hB hlen (by omega) hn ht hDne ρ a b;have hl':D.length+mid.length+1=n:=by simpa using hl
  have hnl: ¬((k2:Int) < ((n - k0:Nat):Int)):=by omega
  have hnl2: ¬(k2 < n - k0):=by omega
  rw[Qd F.f497l0.eq_1];simp only[QW,List.append_nil];unfold Rw;simp[h0,h1,h5,h6,h7,hnl,hnl2];simp only[List.append_assoc]at hr;refine hr _ ?_ ?_ <;> simp[h0,h5]
 | cons x post IH=>
  intro D mid prev k2 ρ hDne hl hk hk2 hm h0 h1 h5 h6 h7;have hlen: (Qf (D ++ mid ++ prev:: x:: post)).length=n*4:=by rw[Za Qm];simp at hl ⊢;omega
  have hst: (Qf (D ++ mid ++ prev:: x:: post)).map AV.strip=Qf (D ++ mid ++ prev:: x:: post):=Zr QJ _;have r1: ((Qf (D ++ mid ++ prev:: x:: post)).drop (k0*4+k2*4)).take 4=Qb x:=by
   have:=Xf (f:=Qb) (k:=4) Qm (l:=D ++ mid ++ prev:: x:: post) (pre:=D ++ mid ++ [prev]) (post:=post) (x:=x) (by simp) [];rw[← Nat.add_mul,hk];simpa[Nat.add_assoc]using this
  have r2: ((Qf (D ++ mid ++ prev:: x:: post)).drop (k0*4+ (k2 - 1)*4)).take 4=Qb prev:=by
   have:=Xf (f:=Qb) (k:=4) Qm (l:=D ++ mid ++ prev:: x:: post) (pre:=D ++ mid) (post:=x:: post) (x:=prev) (by simp) [];rw[← Nat.add_mul,show k0+ (k2 - 1)=D.length+mid.length by omega];simpa[Nat.add_assoc]using this
  have hput: (Qf (D ++ mid ++ prev:: x:: post)).take (D.length*4)++ (Qb x ++ (Qf (D ++ mid ++ prev:: x:: post)).drop (D.length*4+4))=Qf ((D ++ [x])++ (mid ++ [prev]).tail ++ x:: post):=by
   obtain⟨y,m2,hy⟩: ∃y m2,mid ++ [prev]=y:: m2:=by cases mid <;> simp
   have:=T2 (f:=Qb) (k:=4) Qm (l:=D ++ mid ++ prev:: x:: post) (pre:=D) (post:=m2 ++ x:: post) (x:=y) x (by
    have:D ++ mid ++ prev:: x:: post=D ++ (mid ++ [prev])++ x:: post:=by simp
    rw[this,hy];simp) []
   rw[hy];simpa using this
  have hw1:IntKind.i64.wrap ((k2:Int) - 1)=((k2 - 1:Nat):Int):=by rw[Qq (by omega) (by omega)];omega
  have hw2:IntKind.i64.wrap ((k2:Int)+1)=((k2+1:Nat):Int):=by rw[Qq (by simp at hl;omega) (by simp at hl;omega)];omega
  have hw3:IntKind.i64.wrap ((D.length:Int)+1)=((D.length+1:Nat):Int):=by rw[Qq (by simp at hl;omega) (by simp at hl;omega)];omega
  have hlt: (k2:Int) < ((n - k0:Nat):Int):=by simp at hl;omega
  have hlt1:k2 < n - k0:=by simp at hl;omega
  have hlt2: ((k2 - 1:Nat):Int) < ((n - k0:Nat):Int):=by simp at hl;omega
  have hlt2':k2 - 1 < n - k0:=by simp at hl;omega
  have hlt3: (D.length:Int) < (n:Int):=by simp at hl;omega
  have hlt3':D.length < n:=by simp at hl;omega
  have hb1:k0*4+k2*4+4≤n*4:=by simp at hl;omega
  have hb2:k0*4+ (k2 - 1)*4+4≤n*4:=by simp at hl;omega
  have hb3:D.length*4+4≤n*4:=by simp at hl;omega
  have hnn: (0:Int)≤((k2 - 1:Nat):Int):=by omega
  have hc:=fun bs=>hf x prev bs (hm x (by simp)) (hm prev (by simp));have hcast: ((k2 - 1:Nat):Int).toNat=k2 - 1:=by omega
  have ih1:=IH D (mid ++ [prev]) x (k2+1);have ih2:=IH (D ++ [x]) (mid ++ [prev]).tail x (k2+1);have htl: ((mid ++ [prev]).tail).length=mid.length:=by simp
  rw[show D ++ (mid ++ [prev])++ x:: post=D ++ mid ++ prev:: x:: post by simp]at ih1;rw[Qd F.f497l0.eq_1];generalize Qf (D ++ mid ++ prev:: x:: post)=c at *;generalize hkm:k2 - 1=km at *;generalize n - k0=nk at *;by_cases he:Qh x prev=0
  ·have e:QW prev (x:: post)=QW x post:=by simp[QW,he]
   rw[e];simp[h0,h1,h5,h6,h7,hlt,hlt1,hlt2,hlt2',hnn,hw1,hw2,hb1,hb2,hB,hlen,hst,r1,r2,hc,he,hcast];refine ih1 _ hDne (by simp at hl ⊢;omega) (by simp;omega) (by omega) (fun y hy=>hm y (by simp at hy ⊢;rcases hy with h | h <;> simp[h])) ?_ ?_ ?_ ?_ ?_ <;> simp[h0,h1,h5,h6]
  ·have e:D ++ QW prev (x:: post)=D ++ x:: QW x post:=by simp[QW,he]
   rw[e];simp only[List.append_assoc,List.cons_append,List.nil_append]at ih2;simp[h0,h1,h5,h6,h7,hlt,hlt1,hlt2,hlt2',hlt3,hlt3',hnn,hw1,hw2,hw3,hb1,hb2,hb3,hB,hlen,hst,r1,r2,hc,he,hcast,hput];refine ih2 _ (by simp) (by simp at hl ⊢;omega) (by simp;omega) (by omega) (fun y hy=>hm y (by simp at hy ⊢;rcases hy with h | h <;> simp[h])) ?_ ?_ ?_ ?_ ?_ <;> simp[h0,h1,h5,h6]
theorem CK (f:Nat) (hf:EqF f) (B:List (List AV)) (id n:Nat) (hB:id < B.length) (hn:n < 100000000): ∀(post pre:List Tm) (prev:Tm) (ρ:Nat→AV),pre.length+1+post.length=n→
   (∀x∈prev:: post,x.mass < big)→ρ 0= .gs id 0 4 n→ρ 1= .fn f []→ρ 5= .int .i64 (pre.length+1:Nat)→
  Rw (pre ++ prev:: QW prev post) B id (R F.tb (.loop F.f497l1) ρ (B.set id (Qf (pre ++ prev:: post)))
   (Qi 0 (Qu F.tb F.f497r2 (Qy F.f497 B)))):=by
 intro post
 induction post with
 | nil=>
  intro pre prev ρ hl hm h0 h1 h5;have hl':pre.length+1=n:=by simpa using hl
  have hnl: ¬((pre.length:Int)+1 < (n:Int)):=by omega
  rw[Qd F.f497l1.eq_1];have hlen: (Qf (pre ++ [prev])).length=n*4:=by rw[Za Qm];simp;omega
  have hn0: ¬n=0:=by omega
  have hch:QY (Qf (pre ++ [prev])) 0 4 n=encTs (pre ++ [prev]):=by
   have:=YS (f:=Qb) (k:=4) Qm QJ (pre ++ [prev]) [];rw[List.append_nil,Vf]at this;rw[← this,← hl'];simp
  have hg:=encTs_gp (pre ++ [prev]);simp only[Rw,QW];generalize Qf (pre ++ [prev])=c at *;generalize encTs (pre ++ [prev])=e at *;simp[h0,h1,h5,hnl,F.f497r2,hl',Zb,hn0,hB,hlen,hch,hg,List.take_of_length_le]
 | cons x post IH=>
  intro pre prev ρ hl hm h0 h1 h5;have hl':pre.length+1+ (post.length+1)=n:=by simpa using hl
  have hlen: (Qf (pre ++ prev:: x:: post)).length=n*4:=by rw[Za Qm];simp;omega
  have hst: (Qf (pre ++ prev:: x:: post)).map AV.strip=Qf (pre ++ prev:: x:: post):=Zr QJ _;have r1: ((Qf (pre ++ prev:: x:: post)).drop ((pre.length+1)*4)).take 4=Qb x:=by
   have:=Xf (f:=Qb) (k:=4) Qm (l:=pre ++ prev:: x:: post) (pre:=pre ++ [prev]) (post:=post) (x:=x) (by simp) [];simpa using this
  have r2: ((Qf (pre ++ prev:: x:: post)).drop (pre.length*4)).take 4=Qb prev:=by
   have:=Xf (f:=Qb) (k:=4) Qm (l:=pre ++ prev:: x:: post) (pre:=pre) (post:=x:: post) (x:=prev) (by simp) [];simpa using this
  have hw1:IntKind.i64.wrap (pre.length:Int)=(pre.length:Int):=Qq (by omega) (by omega);have hw2:IntKind.i64.wrap ((pre.length:Int)+1+1)=(pre.length:Int)+1+1:=Qq (by omega) (by omega);have hlt: (pre.length:Int)+1 < (n:Int):=by omega
  have hlt2: (pre.length:Int) < (n:Int):=by omega
  have hb1: (pre.length+1)*4+4≤n*4:=by omega
  have hb2:pre.length*4+4≤n*4:=by omega
  have hnn: (0:Int)≤(pre.length:Int)+1:=by omega
  have hle: (pre.length:Int)+1≤(n:Int):=by omega
  have hcast: ((pre.length:Int)+1).toNat=pre.length+1:=by omega
  have hc:=fun bs=>hf x prev bs (hm x (by simp)) (hm prev (by simp));have ih1:=IH (pre ++ [prev]) x;have ih2:=CJ f hf B id n (pre.length+1) hB hn post (pre ++ [prev]) [] x 1;simp only[List.append_assoc,List.cons_append,List.nil_append]at ih1 ih2;rw[Qd F.f497l1.eq_1];generalize Qf (pre ++ prev:: x:: post)=c at *;by_cases he:Qh x prev=0
  ·have e:QW prev (x:: post)=QW x post:=by simp[QW,he]
   rw[e];simp[h0,h1,h5,hlt,hlt2,hnn,hle,hw1,hw2,hb1,hb2,hB,hlen,hst,r1,r2,hc,he,hcast];refine ih2 _ (by simp) (by simp;omega) (by simp) (by omega) (fun y hy=>hm y (by simp at hy ⊢;rcases hy with h | h <;> simp[h])) ?_ ?_ ?_ ?_ ?_ <;> simp[h0,h1,h5]
  ·have e:pre ++ prev:: QW prev (x:: post)=pre ++ prev:: x:: QW x post:=by simp[QW,he]
   rw[e];simp[h0,h1,h5,hlt,hlt2,hnn,hle,hw1,hw2,hb1,hb2,hB,hlen,hst,r1,r2,hc,he,hcast,F.f497r1];refine ih1 _ (by simp;omega) (fun y hy=>hm y (by simp at hy ⊢;rcases hy with h | h <;> simp[h])) ?_ ?_ ?_ <;> simp[h0,h1,h5]
theorem Hs (f:Nat) (hf:EqF f) (L:List Tm) (B:List (List AV)) (id:Nat) (hid:B[id]? =some (Qf L)) (hne:L≠[]) (hn:L.length < 100000000) (hm: ∀x∈L,x.mass < big):
  Rw (Yw L) B id (call F.tb 497 [.gs id 0 4 L.length,.fn f []] B):=by
 have hB:=Zp hid;have hset:B.set id (Qf L)=B:=J6 hid
 match L with
 | []=>exact absurd rfl hne
 | [x]=>
  have hch:QY (Qf [x]) 0 4 1=encTs [x]:=by
   have:=YS (f:=Qb) (k:=4) Qm QJ [x] [];rw[List.append_nil,Vf]at this;exact this
  have hlen: (Qf [x]).length=4:=Za Qm [x];have hg:=encTs_gp [x];rw[Qa F.tb_497 _ _ rfl]
  show _=some (_,_);rw[show Yw [x]=[x] by simp[Yw]];generalize encTs [x]=E at *;generalize Qf [x]=c at *;simp[-getElem?_pos,F.f497C,Zb,hid,hlen,hch,hg,hB,List.take_of_length_le]
 | x:: y:: r=>
  have h:=CK f hf B id (r.length+2) hB (by simpa using hn) (y:: r) [] x;rw[Qa F.tb_497 _ _ rfl,Ul];simp only[List.nil_append,hset]at h;have hge: ¬((r.length:Int)+1+1 < 2):=by omega
  simp[F.f497C,hge];refine h _ (by simp;omega) (fun z hz=>hm z hz) ?_ ?_ ?_ <;> simp
theorem KC (f:Nat) (B:List (List AV)):call F.tb 497 [.gs 0 0 0 0,.fn f []] B=some (.sl true 4 [],B):=by
 rw[Qa F.tb_497 _ _ rfl];simp[F.f497C,Zb]
def Ch (B1 B:List (List AV)):Prop:=B1.length≤B.length∧∀(i:Nat) (x y:List AV),B1[i]? =some x→B[i]? =some y→x=y∨gpfreeL y=true
theorem Ch.refl (B:List (List AV)):Ch B B:=⟨Nat.le_refl _,fun i x y h1 h2=> .inl (by rw[h1]at h2;injection h2)⟩
theorem Ch.trans {B1 B2 B3:List (List AV)} (h:Ch B1 B2) (k:Ch B2 B3):Ch B1 B3:=⟨Nat.le_trans h.1 k.1,fun i x z h1 h3=>by
 have hlt:i < B1.length:=by
  rcases Nat.lt_or_ge i B1.length with g | g
  ·exact g
  ·rw[List.getElem?_eq_none g]at h1;cases h1
 have hlt2:i < B2.length:=Nat.lt_of_lt_of_le hlt h.1;obtain⟨y,hy⟩: ∃y,B2[i]? =some y:=⟨_,List.getElem?_eq_getElem hlt2⟩;rcases k.2 i y z hy h3 with e | e
 ·subst e;exact h.2 i x y h1 hy
 ·exact .inr e⟩
theorem Ch.set {B1 B:List (List AV)} (h:Ch B1 B) {c:List AV} (hc:gpfreeL c=true) (id:Nat):Ch B1 (B.set id c):=⟨by rw[List.length_set];exact h.1,fun i x y h1 h2=>by
 rw[List.getElem?_set]at h2;split at h2
 ·split at h2
  ·injection h2 with h2;subst h2;exact .inr hc
  ·cases h2
 ·exact h.2 i x y h1 h2⟩
theorem Ch.app {B1 B:List (List AV)} (h:Ch B1 B) (M:List (List AV)):Ch B1 (B ++ M):=⟨by rw[List.length_append];have:=h.1;omega,fun i x y h1 h2=>by
 have hlt:i < B1.length:=by
  rcases Nat.lt_or_ge i B1.length with g | g
  ·exact g
  ·rw[List.getElem?_eq_none g]at h1;cases h1
 rw[List.getElem?_append_left (Nat.lt_of_lt_of_le hlt h.1)]at h2;exact h.2 i x y h1 h2⟩
theorem Ch.take {B1 B:List (List AV)} (h:Ch B1 B):Z9 B1 (B.take B1.length)=true:=MB (by rw[List.length_take];have:=h.1;omega) fun i x y h1 h2=>by
 have hlt:i < B1.length:=by
  rcases Nat.lt_or_ge i B1.length with g | g
  ·exact g
  ·rw[List.getElem?_eq_none g]at h1;cases h1
 rw[List.getElem?_take_of_lt hlt]at h2;exact h.2 i x y h1 h2
theorem Qdm {B0 B:List (List AV)} {v:AV} {l:List Tm} (x:Tm) (o:Bool) (h:TS B0 B v l) (hl:l.length < 1000000): ∃v' B',appM 56 4 v (.sl o 4 [Qb x]) B=some (v',B')∧TS B0 B' v' (l ++ [x])∧∀B1,Ch B1 B→Ch B1 B':=by
 obtain⟨M,id,sz,rfl,rfl,hc⟩:=h;have hb: (l.length+1)*56≤140737488355328:=VI (by omega);have hs:Xd 4 (.sl o 4 [Qb x]) (B0 ++ M)=some (1,Qb x):=by simp[Xd]
 rcases hc with⟨rfl,rfl,rfl⟩ | ⟨rfl,hid,hne0,hbx⟩
 ·refine⟨.gs (B0 ++ M).length 0 4 1,B0 ++ (M ++ [Qb x]),?_,⟨M ++ [Qb x],(B0 ++ M).length,4,rfl,rfl,.inr ⟨rfl,by simp,by simp,?_⟩⟩,fun B1 hB=>by rw[← List.append_assoc];exact hB.app _⟩
  ·simp[appM,hs]
  ·rw[← List.append_assoc,List.getElem?_concat_length];simp[Qf,Zs]
 ·have hr: (Qf l).length=l.length*4:=Za Qm l;have hrow:Qf (l ++ [x])=Qf l ++ Qb x:=by simp[Qf,XH,T1]
  have hst: (Qf l).map AV.strip=Qf l:=Zr QJ l;have hne:Qf l≠[]:=by
   intro e;rw[e]at hr;simp at hr
   exact hne0 (List.eq_nil_of_length_eq_zero (by omega))
  have hroom: ¬(l.length+1)*4≤(Qf l).length:=by omega
  refine⟨.gs (B0 ++ M).length 0 4 (l.length+1),(B0 ++ M).set id []++ [Qf l ++ Qb x],?_,⟨M.set (id - B0.length) []++ [Qf l ++ Qb x],(B0 ++ M).length,4,?_,by simp,.inr ⟨rfl,by simp,by simp,?_⟩⟩,fun B1 hB=>(hB.set rfl _).app _⟩
  ·simp only[appM,hs,Option.bind_some];rw[if_pos ⟨by omega,hb⟩,if_neg (by omega),if_neg (by omega),if_pos ⟨trivial,trivial⟩,hbx];simp only[Option.bind_some];rw[if_pos ⟨hne,by omega⟩,if_neg hroom,List.take_of_length_le (by omega),hst]
  ·rw[Xo hid,List.append_assoc]
  ·have e: (B0 ++ M).length=((B0 ++ M).set id []).length:=by simp
   rw[hrow,e,List.getElem?_concat_length]
abbrev Nm:=List UInt8
def SE (l:List Nm):List (List AV):=l.map fun s=>[AV.str s]
theorem E0 (l:List Nm): (SE l).length=l.length:=by simp[SE]
theorem EZ {l:List Nm} {i:Nat} {s:Nm} (h:l[i]? =some s): (SE l)[i]? =some [AV.str s]:=by simp[SE,h]
def ixF (l:List Nm) (x:Nm):Int:=if l.contains x then(l.idxOf x:Int)else -1
theorem Dn {x:Nm} {post:List Nm}: ∀{pre:List Nm},x ∉ pre→(pre ++ x:: post).idxOf x=pre.length
 | [],_=>by simp[List.idxOf_cons]
 | a:: pre,h=>by
  have h1: (a == x)=false:=by simpa using fun e=>h (by simp[e])
  have h2:=Dn (x:=x) (post:=post) (pre:=pre) fun e=>h (by simp[e]);rw[List.cons_append,List.idxOf_cons,h1,h2];simp
theorem Qer {l pre post:List Nm} {x:Nm} (h:l=pre ++ x:: post) (hp:pre.contains x=false):ixF l x=pre.length:=by
 have hn:x ∉ pre:=by simpa using hp
 subst h;have: (pre ++ x:: post).contains x=true:=by simp
 rw[ixF,if_pos this,Dn hn]
theorem Qet {l:List Nm} {x:Nm} (hp:l.contains x=false):ixF l x= -1:=by rw[ixF,hp];simp
theorem Qes {l:List Nm} {x:Nm}:decide (0≤ixF l x)=l.contains x:=by
 unfold ixF;cases h:l.contains x <;> simp
theorem QeI {pre:List Nm} {x a:Nm} (hp:pre.contains x=false) (ho: ¬x=a): (pre ++ [a]).contains x=false:=by
 simp only[List.contains_eq_mem,decide_eq_false_iff_not,List.mem_append,List.mem_singleton]at hp ⊢;exact fun h=>h.elim hp ho
theorem G9 (l:List Nm) (x:Nm) (bs:List (List AV)) (hl:l.length < 1000000):
  ∀(post pre:List Nm) (o:Bool) (ρ:Nat→AV),l=pre ++ post→pre.contains x=false→ρ 0= .sl o 1 (SE l)→ρ 1= .str x→ρ 7= .int .i64 l.length→ρ 8= .int .i64 pre.length→
  R F.tb (.loop F.f162l0) ρ bs (Qi 0 (Qu F.tb F.f162r0 (Qy F.f162 bs)))=some (.int .i64 (ixF l x),bs):=by
 intro post
 induction post with
 | nil=>
  intro pre o ρ hk hpp h0 h1 h7 h8;simp only[List.append_nil]at hk;rw[← hk]at h8 hpp;rw[Qd F.f162l0.eq_1,Qet hpp];simp[h0,h1,h7,h8,F.f162r0]
 | cons a post IH=>
  intro pre o ρ hk hpp h0 h1 h7 h8;have hgt:=EZ (QB hk);have hll:=QM hk;have hw1:=wr1 pre.length (by omega);have hlt:=QO hk;have ih:=fun ρ hpp=>IH (pre ++ [a]) o ρ (by rw[hk];simp) hpp;rw[Qd F.f162l0.eq_1];by_cases ho:x=a
  ·rw[Qer (by rw[hk,ho]) hpp];simp[h0,h1,h7,h8,hlt,hgt,← ho]
  ·have hb: (x == a)=false:=by simpa using ho
   have ih2:=fun ρ=>ih ρ (QeI hpp ho);simp[h0,h1,h7,h8,hlt,hgt,hw1,hb,-List.contains_eq_mem];apply ih2 <;> simp[h0,h1,h7]
theorem C3 (l:List Nm) (x:Nm) (o:Bool) (bs:List (List AV)) (hl:l.length < 1000000):call F.tb 162 [.sl o 1 (SE l),.str x] bs=some (.int .i64 (ixF l x),bs):=by
 have h1:=fun ρ=>G9 l x bs hl l [] false ρ rfl rfl;rw[Qa F.tb_162 _ _ rfl];simp[F.f162C,-List.contains_eq_mem];apply h1 <;> simp[E0]
theorem C2 (l:List Nm) (x:Nm) (o:Bool) (bs:List (List AV)) (hl:l.length < 1000000):call F.tb 161 [.sl o 1 (SE l),.str x] bs=some (.bool (l.contains x),bs):=by
 have h:=C3 l x false bs hl;rw[Qa F.tb_161 _ _ rfl];simp[F.f161C,h,Qes,-List.contains_eq_mem]
theorem C7 (l:List Tm) (bs:List (List AV)) (hl:l.length < 1000000):call F.tb 407 [.sl false 4 (encTs l)] bs=some (.sl true 4 (encTs l),bs):=by
 have hb:l.length*56≤140737488355328:=VI (by omega);rw[ZA F.tb_407];simp[Zx,XL,hb]
def Sst (B0:List (List AV)) (acc:List Tm) (bs:List (List AV)):Prop:=
 B0.length+1≤bs.length∧bs.take B0.length=B0∧
  ((acc=[]∧bs[B0.length]? =some [.gs 0 0 0 0])∨(acc≠[]∧∃g,B0.length < g∧bs[B0.length]? =some [.gs g 0 4 acc.length]∧bs[g]? =some (Qf acc)))
theorem ID (B0:List (List AV)) (acc:List Tm) (bs:List (List AV)) (x:Tm) (hw:Sst B0 acc bs) (ha:acc.length < 100000000):
  ∃bs',call F.tb 512 [.agg (Qb x),.gp B0.length 0] bs=some (.tup [],bs')∧Sst B0 (acc ++ [x]) bs':=by
 obtain⟨h1,h2,h4⟩:=hw;have hgx:=Qj x
 ·rcases h4 with⟨rfl,h4⟩ | ⟨hne,g,hg,h4,h5⟩
  ·have hl1: ¬bs.length=B0.length:=by omega
   refine⟨((bs ++ [Qb x]).set B0.length [.gs bs.length 0 4 1]),?_,?_⟩
   ·rw[Qa F.tb_512 _ _ rfl];have e1: (bs ++ [Xx])[bs.length]? =some Xx:=List.getElem?_concat_length;have e2: (bs ++ [Xx]).set bs.length (Qb x)=bs ++ [Qb x]:=by rw[List.set_append];simp
    have e3: (bs ++ [Qb x])[B0.length]? =some [.gs 0 0 0 0]:=by rw[List.getElem?_append_left (by omega)];exact h4
    simp only[Xx]at e1 e2;simp[F.f512,F.f512C,h4,appM,Xd,hl1,e1,e2,e3,Zw]
   ·refine⟨by simp;omega,?_,.inr ⟨by simp,bs.length,by omega,?_,?_⟩⟩
    ·rw[UC (by omega) (by omega)];exact h2
    ·rw[List.getElem?_set_self (by simp;omega)];simp
    ·rw[List.getElem?_set_ne (by omega),List.getElem?_concat_length];simp[Zs]
  ·have hl1: ¬bs.length=B0.length:=by omega
   have hgl:=Zp h5;have hlen: (Qf acc).length=acc.length*4:=Za Qm acc;have hst: (Qf acc).map AV.strip=Qf acc:=Zr QJ acc;have htk: (Qf acc).take (acc.length*4)=Qf acc:=List.take_of_length_le (by omega);have hb: (acc.length+1)*56≤140737488355328:=by omega
   have hn1: ¬(acc.length+1)*4≤acc.length*4:=by omega
   have hput: (Qf acc ++ Xx).take (acc.length*4)++ (Qb x ++ (Qf acc ++ Xx).drop (acc.length*4+4))=Qf (acc ++ [x]):=by
    rw[← hlen,List.take_left,List.drop_eq_nil_of_le (by simp[Xx])];simp[Qf,XH,T1]
   have hzl: (Qf acc ++ Xx).length=acc.length*4+4:=by rw[List.length_append,hlen];rfl
   have hne0:Qf acc≠[]:=fun e=>by rw[e]at hlen;cases acc with
    | nil=>exact hne rfl
    | cons y ys=>simp at hlen
   have hlt: (acc.length:Int) < (acc.length:Int)+1:=by omega
   refine⟨((bs.set g []++ [Qf (acc ++ [x])]).set B0.length [.gs bs.length 0 4 (acc.length+1)]),?_,?_⟩
   ·rw[Qa F.tb_512 _ _ rfl];have e1: (bs.set g []++ [Qf acc ++ Xx])[bs.length]? =some (Qf acc ++ Xx):=by
     have:bs.length=(bs.set g []).length:=by simp
     rw[this];exact List.getElem?_concat_length
    have e2: (bs.set g []++ [Qf acc ++ Xx]).set bs.length (Qf (acc ++ [x]))=bs.set g []++ [Qf (acc ++ [x])]:=by rw[List.set_append];simp
    have e3: (bs.set g []++ [Qf (acc ++ [x])])[B0.length]? =some [.gs g 0 4 acc.length]:=by
     rw[List.getElem?_append_left (by simp;omega),List.getElem?_set_ne (by omega)];exact h4
    have hz:Xx=[.int .i64 0,.str [],.int .i64 0,.sl false 4 []]:=rfl;rw[hz]at e1 e2 hput hzl;generalize Qf (acc ++ [x])=r2 at *;generalize Qf acc=r1 at *;simp[F.f512,F.f512C,h4,h5,appM,Xd,hl1,hb,hne0,hlen,hn1,htk,hst,Zw];generalize r1 ++ [AV.int IntKind.i64 0,AV.str [],AV.int IntKind.i64 0,AV.sl false 4 []]=r3 at *;simp[hlt,e1,e2,e3,hput,hzl,hl1,Zw]
   ·refine⟨by simp;omega,?_,.inr ⟨by simp,bs.length,by omega,?_,?_⟩⟩
    ·rw[UC (by simp;omega) (by omega),List.take_set_of_le (by omega)];exact h2
    ·rw[List.getElem?_set_self (by simp;omega)];simp
    ·rw[List.getElem?_set_ne (by omega)];have:bs.length=(bs.set g []).length:=by simp
     rw[this,List.getElem?_concat_length]
def SOk (B0:List (List AV)) (acc:List Tm) (r:Option (AV×List (List AV))):Prop:=∃bs',r=some (.tup [],bs')∧Sst B0 acc bs'
theorem F1 (B0:List (List AV)) (t:Tm) (B:List (List AV)) (hm:t.mass < 100000000)
  (ih: ∀x∈t.kids,∀acc bs,Sst B0 acc bs→acc.length+x.nodes < 100000000→SOk B0 (acc ++ Q1 x) (call F.tb 168 [.agg (Qb x),.fn 512 [.gp B0.length 0]] bs)):
  ∀(post pre acc:List Tm) (bs:List (List AV)) (ρ:Nat→AV),t.kids=pre ++ post→Sst B0 acc bs→acc.length+nodesL post < 100000000→ρ 1= .fn 512 [.gp B0.length 0]→ρ 10= .sl false 4 (encTs t.kids)→ρ 11= .int .i64 t.kids.length→ρ 12= .int .i64 pre.length→
  SOk B0 (acc ++ allL post) (R F.tb (.loop F.f168l0) ρ bs (Qi 0 (Qy F.f168 B))):=by
 have hmk:=Qr t;intro post
 induction post with
 | nil=>
  intro pre acc bs ρ hk hw ha h1 h10 h11 h12;simp only[List.append_nil]at hk;rw[← hk]at h12;rw[Qd F.f168l0.eq_1];refine⟨bs,?_,by simpa[allL]using hw⟩;simp[h1,h10,h11,h12]
 | cons x post IH=>
  intro pre acc bs ρ hk hw ha h1 h10 h11 h12;have hg:=QB hk;have hl:=QM hk;have hw1:=wr1 pre.length (by omega);have hlt:=QO hk;simp only[nodesL]at ha;obtain⟨bs',hc,hw'⟩:=ih x (by rw[hk];simp) acc bs hw (by omega);have hfl: (Q1 x).length≤x.nodes:=by rw[UH];exact Nat.le_refl _
  have h2:=fun ρ=>IH (pre ++ [x]) _ bs' ρ (by rw[hk];simp) hw' (by rw[List.length_append];omega);rw[List.append_assoc,show Q1 x ++ allL post=allL (x:: post) by simp[allL]]at h2;rw[Qd F.f168l0.eq_1];simp[h1,h10,h11,h12,hg,hlt,hw1,hc];refine h2 _ ?_ ?_ ?_ ?_ <;> simp[h1,h10,h11]
theorem GK (B0:List (List AV)): ∀(t:Tm) (acc:List Tm) (bs:List (List AV)),t.mass < 100000000→Sst B0 acc bs→acc.length+t.nodes < 100000000→
  SOk B0 (acc ++ Q1 t) (call F.tb 168 [.agg (Qb t),.fn 512 [.gp B0.length 0]] bs):=by
 refine ZU ?_;intro kk n s ks ih acc bs hm hw ha;have hmk:=Qr (.mk kk n s ks);have hnk:=ZJ (.mk kk n s ks);simp only[QX,Zk]at hmk hnk;obtain⟨bs1,hc,hw1⟩:=ID B0 acc bs (.mk kk n s ks) hw (by omega);have hl:=fun ρ=>F1 B0 (.mk kk n s ks) bs hm (fun x hx acc bs hw ha=>ih x hx acc bs (by have:=QN hx;simp at this;omega) hw ha) ks [] _ bs1 ρ rfl hw1 (by
  rw[List.length_append];simp;omega)
 have he:acc ++ Q1 (.mk kk n s ks)=(acc ++ [.mk kk n s ks])++ allL ks:=by simp[Q1]
 rw[he,Qa F.tb_168 _ _ rfl];simp[F.f168C,hc];simp only[QX,List.append_assoc,List.cons_append,List.nil_append]at hl;refine hl _ ?_ ?_ ?_ ?_ <;> simp[Qz]
theorem Qc8 (L:List Tm) (B0 B:List (List AV)) (hL:L.length < 1000000) (hm: ∀x∈L,x.mass < 1000000) (X:Out) (K:Kn) (c:AC):
  ∀(post pre acc:List Tm) (bs:List (List AV)) (o:Bool) (ρ:Nat→AV),L=pre ++ post→Sst B0 acc bs→acc.length+nodesL post < 100000000→ρ 3= .gp B0.length 0→ρ 6= .sl o 4 (encTs L)→ρ 7= .int .i64 L.length→ρ 8= .int .i64 pre.length→
   (∀(ρ':Nat→AV) (bs':List (List AV)),Sst B0 (acc ++ allL post) bs'→ρ' 3= .gp B0.length 0→R F.tb c ρ' bs' K=X)→
  R F.tb (.loop F.f511l0) ρ bs (Qi 0 (Qu F.tb c K))=X:=by
 intro post
 induction post with
 | nil=>
  intro pre acc bs o ρ hk hw ha h3 h6 h7 h8 h;simp only[List.append_nil]at hk;rw[← hk]at h8;rw[Qd F.f511l0.eq_1];simp[h6,h7,h8];refine h _ bs (by simpa[allL]using hw) ?_;simp[h3]
 | cons x post IH=>
  intro pre acc bs o ρ hk hw ha h3 h6 h7 h8 h;have hg:=QB hk;have hl:=QM hk;have hw1:=wr1 pre.length (by omega);have hlt:=QO hk;simp only[nodesL]at ha;obtain⟨bs',hc,hw'⟩:=GK B0 x acc bs (by have:=hm x (by rw[hk];simp);omega) hw (by omega);have hfl: (Q1 x).length=x.nodes:=UH x;have ih:=fun ρ a3 a6 a7 a8=>IH (pre ++ [x]) (acc ++ Q1 x) bs' o ρ (by rw[hk];simp) hw' (by rw[List.length_append];omega) a3 a6 a7 a8 fun ρ' bs2 t1 t2=>h ρ' bs2 (by simpa[allL]using t1) t2;rw[Qd F.f511l0.eq_1];simp[h3,h6,h7,h8,hg,hlt,hw1,hc];apply ih <;> simp[h3,h6,h7]
theorem Qbv (L:List Tm) (o:Bool) (B0:List (List AV)) (hL:L.length < 1000000) (hm: ∀x∈L,x.mass < 1000000) (hn:nodesL L < 100000000):
  call F.tb 511 [.sl o 4 (encTs L)] B0=some (.sl true 4 (encTs (Zv (allL L))),B0):=by
 have hw0:Sst B0 [] (B0 ++ [[.gs 0 0 0 0]]):=⟨by simp,by simp,.inl ⟨rfl,List.getElem?_concat_length⟩⟩;have h:=fun ρ=>Qc8 L B0 B0 hL hm (some (.sl true 4 (encTs (Zv (allL L))),B0)) (Qy F.f511 B0) F.f511r0 L [] [] _ false ρ rfl hw0 (by simpa using hn);rw[Qa F.tb_511 _ _ rfl];simp[F.f511C];refine h _ ?_ ?_ ?_ ?_ ?_
 ·simp
 ·simp
 ·simp
 ·simp
 ·intro ρ' bs' hs h3;obtain⟨h1,h2,h4⟩:=hs;rw[List.nil_append]at h4;have hall: ∀x∈allL L,x.mass < big:=fun x hx=>by
   have: ∀(l:List Tm),(∀y∈l,y.mass < 1000000)→∀x∈allL l,x.mass < 1000000:=by
    intro l
    induction l with
    | nil=>intro _ x hx;simp[allL]at hx
    | cons y r ih=>
     intro hy x hx;simp only[allL,List.mem_append]at hx;rcases hx with hx | hx
     ·have:=V0 y x hx;have:=hy y (by simp);omega
     ·exact ih (fun z hz=>hy z (by simp[hz])) x hx
   have:=this L hm x hx;unfold big;omega
  have hlen: (allL L).length < 100000000:=by
   have: (allL L).length=nodesL L:=by
    have: ∀l:List Tm,(allL l).length=nodesL l:=by
     intro l
     induction l with
     | nil=>simp[allL,nodesL]
     | cons y r ih=>simp only[allL,nodesL,List.length_append,UH,ih]
    exact this L
   omega
  generalize allL L=A at *;have hgp:gpfreeE (encTs (Zv A))=true:=encTs_gp _;rcases h4 with⟨h5,h6⟩ | ⟨h5,g,h6,h7,h8⟩
  ·have ho:=Pi bs';subst h5;simp[F.f511r0,h3,h6,ho,h2,Zv,WJ,encTs]
  ·have ho:=Pz A bs' g h8 h5 hlen hall;have ht: (bs'.set g []).take B0.length=B0:=by rw[List.take_set_of_le (by omega)];exact h2
   simp[F.f511r0,h3,h7,ho,ht,hgp]
structure Ded where
 r:Int
 n:Int
 a:List Int
 c:List Int
 t:Tm
def O9 (l:List Int):List (List AV):=l.map fun i=>[AV.int .i64 i]
@[simp] theorem Qgd (l:List Int): (O9 l).length=l.length:=by simp[O9]
@[simp] theorem Qgc (l:List Int) (i:Nat): (O9 l)[i]? =(l[i]?).map fun i=>[AV.int .i64 i]:=by simp[O9]
@[simp] theorem QbU: ∀l:List Int,gpfreeE (O9 l)=true
 | []=>rfl
 | i:: l=>by
  have:=QbU l;simp only[O9]at this ⊢;simp[gpfreeE,gpfreeL,AV.gpfree,this]
def QfE:List (List UInt8×Int):=[([],0),([103,105,118,101,110],0),([112,117,98,108,105,99],0),([112,97,105,114],2),([102,105,114,115,116],1),([115,101,99,111,110,100],1),([101,110,99],2),([100,101,99],2),([97,101,110,99],2),([97,100,101,99],2),([112,107],1),([115,105,103,110],2),([114,101,97,100],1),([104,97,115,104],1),([115,117,109],-1),([112,111,119,101,114],-2),([112,114,111,100,117,99,116],-1)]
def rOk (r:Int):Bool:=decide (1≤r) && decide (r≤16)
def L8 (r:Int):Int:=if rOk r then(QfE[r.toNat]?.getD ([],0)).2 else 0
def Un (l:List (List Pw)):List (List AV):=l.map fun g=>[AV.sl false 5 (QU g)]
@[simp] theorem Qfo (l:List (List Pw)): (Un l).length=l.length:=by simp[Un]
@[simp] theorem Qfn (l:List (List Pw)) (i:Nat): (Un l)[i]? =(l[i]?).map fun g=>[AV.sl false 5 (QU g)]:=by simp[Un]
@[simp] theorem EX: ∀l:List (List Pw),gpfreeE (Un l)=true
 | []=>rfl
 | p:: l=>by
  have:=EX l;simp only[Un]at this ⊢;simp[gpfreeE,gpfreeL,AV.gpfree,this]
def SmP (g:List Pw):Prop:=g.length < 1000000∧∀q∈g,q.1.mass < 1000000
theorem SmP.big {g:List Pw} (h:SmP g): ∀q∈g,q.1.mass < big:=fun q hq=>by have:=h.2 q hq;unfold Go.Am.big;omega
theorem Qat {l:List Tm} {t:Tm} {B:List (List AV)} (hl:l.length < 100000000) (hm: ∀p∈l,p.mass < big) (ht:t.mass < big) (ha:Asc l) {n:Nat} (hn:l[n]? =some t):
  ∀(d i j:Nat) (o:Bool) (ρ:Nat→AV),j - i≤d→i≤n→n≤j→j≤l.length→
  ρ 0= .sl o 4 (encTs l)→ρ 4= .bx (Qb t)→ρ 2= .fn 30 []→ρ 8= .int .i64 l.length→ρ 9= .int .i64 i→ρ 10= .int .i64 j→
  R F.tb (.loop F.f378l0) ρ B (Qi 0 (Qu F.tb F.f378r0 (Qy F.f378 B)))=some (.tup [.int .i64 n,.bool true],B):=by
 have hnl:n < l.length:=(List.getElem?_eq_some_iff.1 hn).1;have ord: ∀(i j:Nat) (p q:Tm),l[i]? =some p→l[j]? =some q→i < j→Qh p q < 0:=by
  intro i j p q hp hq hij;obtain⟨h1,rfl⟩:=List.getElem?_eq_some_iff.1 hp;obtain⟨h2,rfl⟩:=List.getElem?_eq_some_iff.1 hq;exact List.pairwise_iff_getElem.1 ha i j h1 h2 hij
 have base: ∀(o:Bool) (ρ:Nat→AV),ρ 0= .sl o 4 (encTs l)→ρ 4= .bx (Qb t)→ρ 2= .fn 30 []→ρ 8= .int .i64 l.length→ρ 9= .int .i64 n→ρ 10= .int .i64 n→
   R F.tb (.loop F.f378l0) ρ B (Qi 0 (Qu F.tb F.f378r0 (Qy F.f378 B)))=some (.tup [.int .i64 n,.bool true],B):=by
  intro o ρ h0 h4 h2 h8 h9 h10;have c1: (n:Int) < (l.length:Int):=by omega
  have h3:=call_Compare t t B ht ht;have e0:Qh t t=0:=(ZW).2 rfl;rw[e0]at h3;rw[Qd F.f378l0.eq_1];simp[-getElem?_pos,F.f378r0,h0,h2,h4,h8,h9,h10,c1,hn,h3]
 intro d
 induction d with
 | zero=>
  intro i j o ρ hd hin hnj hj h0 h4 h2 h8 h9 h10;have e1:i=n:=by omega
  have e2:j=n:=by omega
  subst e1 e2;exact base o ρ h0 h4 h2 h8 h9 h10
 | succ d IH=>
  intro i j o ρ hd hin hnj hj h0 h4 h2 h8 h9 h10;by_cases hlt:i < j
  ·have hmn: (i+j) / 2 < l.length:=by omega
   have hw:=NY (i:=i) (j:=j) (by omega);have hp:=List.getElem?_eq_getElem hmn;have hmp:=hm _ (List.getElem_mem hmn);have hltI: (i:Int) < (j:Int):=by omega
   have hb1:i≤(i+j) / 2:=by omega
   have hb2: (i+j) / 2 < j:=by omega
   generalize l[(i+j) / 2]=p at *;generalize hmm: (i+j) / 2=m at *;have h3:=call_Compare p t B hmp ht;have hw1:IntKind.i64.wrap ((m:Int)+1)=((m+1:Nat):Int):=by rw[Qq (by omega) (by omega)];omega
   rw[Qd F.f378l0.eq_1];by_cases cc1:Qh p t < 0
   ·have hmn2:m+1≤n:=by
     rcases Nat.lt_trichotomy m n with h | h | h
     ·omega
     ·subst h;rw[hp]at hn;injection hn with hn;subst hn
      have:Qh p p=0:=(ZW).2 rfl;omega
     ·exact absurd (Z4 cc1 (ord n m t p hn hp h)) (by have:Qh p p=0:=(ZW).2 rfl;omega)
    have ih:=fun o ρ=>IH (m+1) j o ρ (by omega) hmn2 hnj hj;simp[-getElem?_pos,h0,h2,h4,h8,h9,h10,hltI,hw,hw1,hp,h3,cc1];refine ih o _ ?_ ?_ ?_ ?_ ?_ ?_ <;> simp[h0,h2,h4,h8,h10]
   ·have hmn2:n≤m:=by
     rcases Nat.lt_or_ge m n with h | h
     ·exact absurd (ord m n p t hp hn h) cc1
     ·exact h
    have ih:=fun o ρ=>IH i m o ρ (by omega) hin hmn2 (by omega);simp[-getElem?_pos,h0,h2,h4,h8,h9,h10,hltI,hw,hw1,hp,h3,cc1];refine ih o _ ?_ ?_ ?_ ?_ ?_ ?_ <;> simp[h0,h2,h4,h8,h9]
  ·have e1:i=n:=by omega
   have e2:j=n:=by omega
   subst e1 e2;exact base o ρ h0 h4 h2 h8 h9 h10
theorem Qbt {l:List Tm} {t:Tm} {B:List (List AV)} (o:Bool) (hl:l.length < 100000000) (hm: ∀p∈l,p.mass < big) (ht:t.mass < big) (ha:Asc l) {n:Nat} (hn:l[n]? =some t):
  call F.tb 378 [.sl o 4 (encTs l),.agg (Qb t),.fn 30 []] B=some (.tup [.int .i64 n,.bool true],B):=by
 have hnl:n < l.length:=(List.getElem?_eq_some_iff.1 hn).1;have h:=fun ρ=>Qat (B:=B) hl hm ht ha hn l.length 0 l.length false ρ (by omega) (by omega) (by omega) (by omega);rw[Qa F.tb_378 _ _ rfl];simp[-getElem?_pos,F.f378C];refine h _ ?_ ?_ ?_ ?_ ?_ ?_ <;> simp
def T8 (l:List (List Pw)):List Tm:=(l.map ZS).flatten
def Kc (l:List (List Pw)):List Tm:=Zv (T8 l)
theorem Ee (g:List Pw) (a:List (List Pw)):T8 (g:: a)=ZS g ++ T8 a:=by simp[T8]
theorem Qbs (x y:Tm) (bs:List (List AV)) (hx:x.mass < big) (hy:y.mass < big):call F.tb 375 [.agg (Qb x),.agg (Qb y)] bs=some (.bool (decide (Qh x y=0)),bs):=by
 have h:=call_Compare x y bs hx hy;rw[Qa F.tb_375 _ _ rfl];simp[F.f375C,h]
theorem QdS:EqF 375:=fun x y bs hx hy=>Qbs x y bs hx hy
theorem Qe9 {B0 B:List (List AV)} {v:AV} {l:List Tm} (h:TS B0 B v l) (hl:l.length < 1000000) (hm: ∀x∈l,x.mass < 1000000) (ρ:Nat→AV) (h3:ρ 3=v):
  R F.tb F.f373r1 ρ B (Qy F.f373 B0)=some (.sl true 4 (encTs (Zv l)),B0):=by
 obtain⟨M,id,sz,rfl,rfl,hc⟩:=h;have hg:=encTs_gp (Zv l);rcases hc with⟨rfl,rfl,rfl⟩ | ⟨rfl,hid,hne,hb⟩
 ·have hs:call F.tb 170 [.gs 0 0 0 0,.fn 30 []] (B0 ++ M)=some (.tup [],B0 ++ M):=by rw[ZA F.tb_170];simp[SQ]
  have hc:=KC 375 (B0 ++ M);have e:Zv []=([]:List Tm):=rfl;simp[F.f373r1,h3,hs,hc,encTs,e,List.take_of_length_le]
 ·have hmb: ∀x∈l,x.mass < big:=fun x hx=>by have:=hm x hx;unfold big;omega
  have hs:=Sz l (B0 ++ M) id hb (by omega) hmb;have hB:=Zp hb;have hS: ((B0 ++ M).set id (Qf (Zt l)))[id]? =some (Qf (Zt l)):=by rw[List.getElem?_set,if_pos rfl,if_pos hB]
  have hsne:Zt l≠[]:=by
   intro e;obtain⟨x,hx⟩:=List.exists_mem_of_ne_nil l hne;have:=(Wx (l:=l)).2 hx;rw[e]at this;simp at this
  have hc:=Hs 375 QdS (Zt l) ((B0 ++ M).set id (Qf (Zt l))) id hS hsne (by rw[XE];omega) fun x hx=>hmb x (Wx.1 hx);rw[S0,XE]at hc;unfold Rw at hc;rw[List.set_set]at hc;simp only[Xo hid]at hs hc;simp[-getElem?_pos,F.f373r1,h3,hs,hc,hg,List.take_of_length_le]
theorem Qe7 (g:List Pw) (B0:List (List AV)) (hg:SmP g) (c:AC) (K:Kn) (X:Out):
  ∀(post pre:List Pw) (acc:List Tm) (B:List (List AV)) (v:AV) (o:Bool) (ρ:Nat→AV),g=pre ++ post→TS B0 B v acc→acc.length+post.length < 500000→
   ρ 3=v→ρ 14= .sl o 5 (QU g)→ρ 15= .int .i64 g.length→ρ 16= .int .i64 pre.length→
   (∀(ρ':Nat→AV) (v':AV) (B':List (List AV)),TS B0 B' v' (acc ++ ZS post)→ρ' 3=v'→ρ' 8=ρ 8→ρ' 9=ρ 9→ρ' 10=ρ 10→R F.tb c ρ' B' K=X)→
  R F.tb (.loop F.f373l0) ρ B (Qi 2 (Qi 1 (Qu F.tb c K)))=X:=by
 intro post
 induction post with
 | nil=>
  intro pre acc B v o ρ hk hts hal h3 h14 h15 h16 H;simp only[List.append_nil]at hk;rw[← hk]at h16;obtain⟨id,sz,rfl⟩:=Ki hts;rw[Qd F.f373l0.eq_1];simp[h3,h14,h15,h16];refine H _ _ _ (by simpa[ZS]using hts) ?_ ?_ ?_ ?_ <;> simp[h3]
 | cons q post IH=>
  intro pre acc B v o ρ hk hts hal h3 h14 h15 h16 H;have hgt:=QB hk;have hll:=QM hk;have hw1:IntKind.i64.wrap ((pre.length:Int)+1)=(pre.length:Int)+1:=Qq (by have:=hg.1;omega) (by have:=hg.1;omega);have hlt:=QO hk;simp only[List.length_cons]at hal;obtain⟨v2,B2,q1,q2,q3⟩:=Qdm q.1 false hts (by omega);have ih:=fun ρ=>IH (pre ++ [q]) (acc ++ [q.1]) B2 v2 o ρ (by rw[hk];simp) q2 (by simp;omega);obtain⟨id,sz,rfl⟩:=Ki hts;obtain⟨id2,sz2,rfl⟩:=Ki q2;rw[Qd F.f373l0.eq_1];simp[-List.append_assoc,h3,h14,h15,h16,hlt,hgt,hw1,q1];refine ih _ ?_ ?_ ?_ ?_ ?_
  ·simp
  ·simp[h14]
  ·simp[h15]
  ·simp
  ·intro ρ' v' B' g1 g3 g8 g9 g10;refine H ρ' v' B' (by simpa[ZS]using g1) g3 ?_ ?_ ?_
   ·rw[g8];simp
   ·rw[g9];simp
   ·rw[g10];simp
theorem Qe8 (l:List (List Pw)) (B0:List (List AV)) (hl:l.length < 1000) (hs: ∀g∈l,SmP g∧g.length≤200):
  ∀(post pre:List (List Pw)) (acc:List Tm) (B:List (List AV)) (v:AV) (o:Bool) (ρ:Nat→AV),l=pre ++ post→TS B0 B v acc→acc.length+200*post.length≤200*l.length→(∀x∈acc,x.mass < 1000000)→
   ρ 3=v→ρ 8= .sl o 1 (Un l)→ρ 9= .int .i64 l.length→ρ 10= .int .i64 pre.length→
  R F.tb (.loop F.f373l1) ρ B (Qi 0 (Qu F.tb F.f373r1 (Qy F.f373 B0)))=some (.sl true 4 (encTs (Zv (acc ++ T8 post))),B0):=by
 intro post
 induction post with
 | nil=>
  intro pre acc B v o ρ hk hts hal ham h3 h8 h9 h10;simp only[List.append_nil]at hk;rw[← hk]at h10;have h:=fun ρ h3=>Qe9 hts (by simp at hal;omega) ham ρ h3;have e:acc ++ T8 []=acc:=by simp[T8]
  rw[Qd F.f373l1.eq_1,e];simp[h3,h8,h9,h10];apply h;simp[h3]
 | cons g post IH=>
  intro pre acc B v o ρ hk hts hal ham h3 h8 h9 h10;have hgt:=QB hk;have hll:=QM hk;have hw1:=wr1 pre.length (by omega);have hlt:=QO hk;obtain⟨hsg,hg2⟩:=hs g (by rw[hk];simp);simp only[List.length_cons]at hal;have hpl: (ZS g).length=g.length:=by simp[ZS]
  have ih:=fun B v ρ hts=>IH (pre ++ [g]) (acc ++ ZS g) B v o ρ (by rw[hk];simp) hts (by rw[List.length_append,hpl];omega) (fun x hx=>by
   rcases List.mem_append.1 hx with hx | hx
   ·exact ham x hx
   ·obtain⟨q,hq,rfl⟩:=List.mem_map.1 hx;exact hsg.2 q hq)
  have e:acc ++ T8 (g:: post)=(acc ++ ZS g)++ T8 post:=by rw[Ee,List.append_assoc]
  have h:=fun o ρ c K X=>Qe7 g B0 hsg c K X g [] acc B v o ρ rfl hts (by omega);rw[e,Qd F.f373l1.eq_1];simp[-List.append_assoc,h3,h8,h9,h10,hlt,hgt];refine h false _ _ _ _ ?_ ?_ ?_ ?_ ?_
  ·simp[h3]
  ·simp
  ·simp
  ·simp
  ·intro ρ' v' B' g1 g3 g8 g9 g10;obtain⟨id2,sz2,rfl⟩:=Ki g1;simp[-List.append_assoc,F.f373r0,g10,h10,hw1];refine ih B' _ _ g1 ?_ ?_ ?_ ?_
   ·simp[g3]
   ·simp[g8,h8]
   ·simp[g9,h9]
   ·simp
theorem Qbr (l:List (List Pw)) (o:Bool) (B0:List (List AV)) (hl:l.length < 1000) (hs: ∀g∈l,SmP g∧g.length≤200):
  call F.tb 373 [.sl o 1 (Un l)] B0=some (.sl true 4 (encTs (Kc l)),B0):=by
 have h:=fun o ρ=>Qe8 l B0 hl hs l [] [] B0 (.gs 0 0 0 0) o ρ rfl (QeX B0) (by simp) (by simp);rw[Qa F.tb_373 _ _ rfl];simp only[List.nil_append]at h;unfold Kc;generalize encTs (Zv (T8 l))=E1 at *;simp[F.f373C];refine h false _ ?_ ?_ ?_ ?_ <;> simp
def pwT:List Pw→Tm→Int
 | [],_=>0
 | q:: g,t=>if Qh q.1 t=0 then q.2 else pwT g t
theorem DW: ∀{g:List Pw} {q:Pw} {t:Tm},Qh q.1 t≠0→pwT (g ++ [q]) t=pwT g t
 | [],q,t,h=>by simp[pwT,h]
 | p:: g,q,t,h=>by simp only[List.cons_append,pwT,DW h]
theorem DV: ∀{g:List Pw} {q:Pw},(∀p∈g,Qh p.1 q.1≠0)→pwT (g ++ [q]) q.1=q.2
 | [],q,_=>by simp[pwT,ZW.2 rfl]
 | p:: g,q,h=>by
  have h1:=h p (by simp);have h2:=DV (g:=g) (q:=q) fun x hx=>h x (by simp[hx]);simp only[List.cons_append,pwT,if_neg h1,h2]
def ZZ (l:List Int):List AV:=l.map fun i=>AV.int .i64 i
@[simp] theorem AJ (l:List Int): (ZZ l).length=l.length:=by simp[ZZ]
@[simp] theorem Qgp (l:List Int) (i:Nat): (ZZ l)[i]? =(l[i]?).map fun i=>AV.int .i64 i:=by simp[ZZ]
@[simp] theorem QfC (l:List Int): (ZZ l).map AV.strip=ZZ l:=by
 simp only[ZZ,List.map_map];exact List.map_congr_left fun i _=>rfl
theorem AK (l:List Int) {n:Nat} (v:Int) (h:n < l.length): (ZZ l).take n ++ AV.int .i64 v:: (ZZ l).drop (n+1)=ZZ (l.set n v):=by
 rw[List.set_eq_take_append_cons_drop,if_pos h];simp[ZZ]
theorem AL (n:Nat) (l:List Tm) (h:l.length=n):List.replicate n (AV.int .i64 0)=ZZ (l.map (pwT [])):=by
 subst h;simp only[ZZ,List.map_map]
 induction l with
 | nil=>rfl
 | cons a l ih=>simp only[List.length_cons,List.replicate_succ,List.map_cons,ih];rfl
theorem QcX {cols:List Tm} {pre:List Pw} {q:Pw} {n:Nat} (ha:Asc cols) (hn:cols[n]? =some q.1) (hp: ∀p∈pre,Qh p.1 q.1≠0):
  (cols.map (pwT pre)).set n q.2=cols.map (pwT (pre ++ [q])):=by
 apply List.ext_getElem?;intro i;rw[List.getElem?_set,List.getElem?_map,List.getElem?_map];have hnl:n < cols.length:=(List.getElem?_eq_some_iff.1 hn).1;by_cases c:n=i
 ·subst c;rw[if_pos rfl,if_pos (by simpa using hnl),hn];simp[DV hp]
 ·rw[if_neg c];cases hi:cols[i]? with
  | none=>rfl
  | some t=>
   have hne:Qh q.1 t≠0:=by
    intro e;have e2:=(ZW).1 e;obtain⟨h1,rfl⟩:=List.getElem?_eq_some_iff.1 hi;obtain⟨h2,e3⟩:=List.getElem?_eq_some_iff.1 hn;rw[← e3]at e2;rcases Nat.lt_or_ge n i with h | h
    ·have:=List.pairwise_iff_getElem.1 ha n i h2 h1 h;rw[e2,ZW.2 rfl]at this;omega
    ·have:=List.pairwise_iff_getElem.1 ha i n h1 h2 (by omega);rw[e2,ZW.2 rfl]at this;omega
   simp[DW hne]
theorem QdI {pre post:List Pw} {q:Pw} (h:Asc (ZS (pre ++ q:: post))): ∀p∈pre,Qh p.1 q.1≠0:=by
 intro p hp;simp only[ZS,List.map_append,List.map_cons]at h;have:=(List.pairwise_append.1 h).2.2 p.1 (List.mem_map.2 ⟨p,hp,rfl⟩) q.1 (by simp);omega
theorem QeH (cols:List Tm) (g:List Pw) (B0:List (List AV)) (hcl:cols.length < 1000000) (hcm: ∀t∈cols,t.mass < 1000000) (ha:Asc cols) (hg:SmP g) (hga:Asc (ZS g)) (hin: ∀q∈g,q.1∈cols):
  ∀(post pre:List Pw) (o o2:Bool) (ρ:Nat→AV),g=pre ++ post→ρ 0= .sl o 4 (encTs cols)→ρ 5= .gs B0.length 0 1 cols.length→ρ 13= .sl o2 5 (QU g)→ρ 14= .int .i64 g.length→ρ 15= .int .i64 pre.length→
  R F.tb (.loop F.f563l0) ρ (B0 ++ [ZZ (cols.map (pwT pre))]) (Qi 0 (Qu F.tb F.f563r0 (Qy F.f563 B0)))=some (.gs B0.length 0 1 cols.length,B0 ++ [ZZ (cols.map (pwT g))]):=by
 intro post
 induction post with
 | nil=>
  intro pre o o2 ρ hk h0 h5 h13 h14 h15;simp only[List.append_nil]at hk;subst hk;rw[Qd F.f563l0.eq_1];simp[h0,h5,h13,h14,h15,F.f563r0]
 | cons q post IH=>
  intro pre o o2 ρ hk h0 h5 h13 h14 h15;have hgt:=QB hk;have hll:=QM hk;have hgl:=hg.1;have hw1:=wr1 pre.length (by omega);have hlt:=QO hk;have hq:q∈g:=by rw[hk];simp
  obtain⟨n,hn⟩:=List.getElem?_of_mem (hin q hq);have hnl:n < cols.length:=(List.getElem?_eq_some_iff.1 hn).1;have hbs:=fun o B=>Qbt (l:=cols) (t:=q.1) (B:=B) o (by omega) (fun p hp=>by have:=hcm p hp;unfold big;omega) (hg.big q hq) ha hn;have hst:=QcX ha hn (QdI (by rw[← hk];exact hga));have hput:=AK (cols.map (pwT pre)) q.2 (n:=n) (by simpa using hnl);rw[hst]at hput;have hB: (B0 ++ [ZZ (cols.map (pwT pre))])[B0.length]? =some (ZZ (cols.map (pwT pre))):=List.getElem?_concat_length;have hrl: (ZZ (cols.map (pwT pre))).length=cols.length:=by simp
  have hset: ∀x,(B0 ++ [ZZ (cols.map (pwT pre))]).set B0.length x=B0 ++ [x]:=fun x=>by rw[List.set_append_right _ _ (Nat.le_refl _)];simp
  have ih:=fun ρ=>IH (pre ++ [q]) o o2 ρ (by rw[hk];simp);generalize ZZ (cols.map (pwT pre))=RR at *;generalize ZZ (cols.map (pwT (pre ++ [q])))=R2 at *;generalize ZZ (cols.map (pwT g))=R3 at *;have hn1:n+1≤cols.length:=hnl;have hnI: (n:Int) < (cols.length:Int):=by omega
  rw[Qd F.f563l0.eq_1];simp[-getElem?_pos,QR,List.getElem?_cons_zero,List.getElem?_cons_succ,h0,h5,h13,h14,h15,hlt,hgt,hw1,hbs,hnl,hn1,hnI,hB,hrl,hput,hset];apply ih <;> simp[h0,h5,h13,h14]
theorem QbO (cols:List Tm) (g:List Pw) (o o2:Bool) (B0:List (List AV)) (hcl:cols.length < 1000000) (hcm: ∀t∈cols,t.mass < 1000000) (ha:Asc cols) (hg:SmP g) (hga:Asc (ZS g)) (hin: ∀q∈g,q.1∈cols):
  call F.tb 563 [.sl o 4 (encTs cols),.sl o2 5 (QU g)] B0=some (.gs B0.length 0 1 cols.length,B0 ++ [ZZ (cols.map (pwT g))]):=by
 have h:=fun ρ=>QeH cols g B0 hcl hcm ha hg hga hin g [] false false ρ rfl;have hr:=AL cols.length cols rfl;have e8:cols.length*8≤140737488355328:=by omega
 have e4: (cols.length:Int)≤4611686018427387904:=by omega
 rw[Qa F.tb_563 _ _ rfl];rw[← hr]at h;generalize ZZ (cols.map (pwT g))=EE at *;simp[F.f563C,e8,e4];apply h <;> simp
def exB (t:Tm) (b0:Nat):List AV:=[.sl false 4 [Qb t],.gs 0 0 0 0,.gs (b0+1) 0 1 1,.bool false]
theorem Bm (t:Tm) (x0:Nat) (B:List (List AV)) (hx:B[x0]? =some (exB t x0)):call F.tb 564 [.gp x0 0,.int .i64 0] B=some (.tup [],B):=by
 have hlt:=Zp hx;unfold exB at hx;rw[Qa F.tb_564 _ _ rfl];simp[F.f564C];rw[Qd F.f564l2.eq_1];simp[-getElem?_pos,QR,List.getElem?_cons_succ,hx];rw[Qd F.f564l0.eq_1];simp[-getElem?_pos,QR,List.getElem?_cons_succ,hx,F.f564r0]
theorem Bn (t:Tm) (x0 xr:Nat) (B:List (List AV)) (hx:B[x0]? =some (exB t x0)) (hp:B[x0+1]? =some [.int .i64 (-1)]) (v1 v2:AV) (ip:Nat) (hr:B[xr]? =some [.gs ip 0 1 1,v1,v2]) (hi:B[ip]? =some [.int .i64 1]):
  call F.tb 567 [.gp x0 0,.gp xr 0] B=some (.int .i64 0,B):=by
 unfold exB at hx;rw[Qa F.tb_567 _ _ rfl];simp[-getElem?_pos,QR,List.getElem?_cons_succ,hx,F.f567C];rw[Qd F.f567l0.eq_1];simp[-getElem?_pos,QR,List.getElem?_cons_succ,hx,hp,hr,hi]
theorem ER (t:Tm):Kc [[(t,1)]]=[t]:=by simp[Kc,T8,ZS,Zv,WJ,Zu]
theorem Bl (t:Tm) (ht:t.mass < 1000000) (hv:ZQ [(t,1)]=0) (o o2:Bool) (B:List (List AV)):
  call F.tb 562 [.sl o 1 [],.sl o2 5 [Qw (t,1)]] B=some (.tup [.gp B.length 0,.gp (B.length+4) 0,.int .i64 0],B ++ [exB t B.length,[.int .i64 (-1)],[.int .i64 1],[],[.gs (B.length+2) 0 1 1,.gs (B.length+3) 0 1 0,.bool false]]):=by
 have hs:SmP [(t,1)]:=⟨by simp,fun q hq=>by simp at hq;subst hq;exact ht⟩;have e1:QU [(t,1)]=[Qw (t,1)]:=rfl;have c197:=fun B=>Rg [(t,1)] false B (by simp) hs.big;have c373:=fun B=>Qbr [[(t,1)]] false B (by simp) fun g hg=>by simp at hg;subst hg;exact⟨hs,by simp⟩
 have c372:call F.tb 372 [.sl false 1 []] B=some (.sl true 1 [],B):=by
  rw[ZA F.tb_372];simp[Zx,XL]
 have c563:=fun B=>QbO [t] [(t,1)] false false B (by simp) (by simpa using ht) (by simp[Asc]) hs (by simp[ZS,Asc]) (by simp);have hpw: [t].map (pwT [(t,1)])=[1]:=by simp[pwT,Z3]
 have hone:Un [[(t,1)]]=[[.sl false 5 [Qw (t,1)]]]:=rfl;have et:encTs [t]=[Qb t]:=by simp[encTs]
 rw[hone,ER,et]at c373;rw[hpw,et,e1]at c563;have c197':=fun B=>(hv▸e1▸c197 B:call F.tb 197 [.sl false 5 [Qw (t,1)]] B=some (.int .i64 0,B));have c564:=Bm t B.length (B ++ [exB t B.length,[.int .i64 (-1)]]) (by simp);have ge: ∀(x:List AV) M,(B ++ x:: M)[B.length]? =some x:=fun x M=>by simp
 have gs: ∀(x y:List AV) M,(B ++ x:: M).set B.length y=B ++ y:: M:=fun x y M=>by simp[List.set_append]
 have w1:IntKind.i64.wrap 1=1:=Qq (by omega) (by omega);have hap: ∀BB,appM 8 1 (.gs 0 0 0 0) (.sl false 1 [[.int .i64 (-1)]]) BB=some (.gs BB.length 0 1 1,BB ++ [[.int .i64 (-1)]]):=fun BB=>by simp[appM,Xd]
 unfold exB at *;generalize Qw (t,1)=EP at *;generalize Qb t=ET at *;rw[Qa F.tb_562 _ _ rfl];simp[F.f562C];rw[Qd F.f562l0.eq_1];simp[-getElem?_pos,QR,ge,gs,w1,F.f562r3,c197',c372,c373];rw[Qd F.f562l1.eq_1];simp[-getElem?_pos,QR,ge,gs,w1,F.f562r2];rw[Qd F.f562l2.eq_1];simp[-getElem?_pos,QR,ge,gs,w1,hap];rw[Qd F.f562l2.eq_1];simp[-getElem?_pos,QR,ge,gs,w1,F.f562r1];rw[Qd F.f562l3.eq_1];simp[-getElem?_pos,QR,ge,gs,w1,c564];rw[Qd F.f562l3.eq_1];simp[-getElem?_pos,QR,ge,gs,w1,F.f562r0,c563,ZZ]
theorem Bk (t:Tm) (ht:t.mass < 1000000) (hv:ZQ [(t,1)]=0) (o o2:Bool) (B:List (List AV)):
  ∃a b M,call F.tb 561 [.sl o 1 [],.sl o2 5 [Qw (t,1)]] B=some (.tup [.gp a 0,.gp b 0,.int .i64 0,.int .i64 0],B ++ M):=by
 have c562:=Bl t ht hv false false B;have c567:=Bn t B.length (B.length+4) (B ++ [exB t B.length,[.int .i64 (-1)],[.int .i64 1],[],[.gs (B.length+2) 0 1 1,.gs (B.length+3) 0 1 0,.bool false]]) (by simp) (by rw[List.getElem?_append_right (by omega)];simp) (.gs (B.length+3) 0 1 0) (.bool false) (B.length+2) (by rw[List.getElem?_append_right (by omega)];simp) (by rw[List.getElem?_append_right (by omega)];simp);refine⟨B.length,B.length+4,[exB t B.length,[.int .i64 (-1)],[.int .i64 1],[],[.gs (B.length+2) 0 1 1,.gs (B.length+3) 0 1 0,.bool false]],?_⟩;have hx: (B ++ [exB t B.length,[.int .i64 (-1)],[.int .i64 1],[],[.gs (B.length+2) 0 1 1,.gs (B.length+3) 0 1 0,.bool false]])[B.length]? =some (exB t B.length):=by simp
 generalize B ++ [exB t B.length,[.int .i64 (-1)],[.int .i64 1],[],[.gs (B.length+2) 0 1 1,.gs (B.length+3) 0 1 0,.bool false]]=BB at *;unfold exB at hx;rw[Qa F.tb_561 _ _ rfl];generalize Qw (t,1)=EP at *;simp[-getElem?_pos,QR,List.getElem?_cons_succ,F.f561C,c562,c567,hx]
theorem Bj (t:Tm) (ht:t.mass < 1000000) (o o2:Bool) (B:List (List AV)): ∃e:Int,call F.tb 560 [.sl o 1 [],.sl o2 5 [Qw (t,1)]] B=some (.tup [.sl false 1 [],.int .i64 e],B)∧e≠0:=by
 by_cases hv:ZQ [(t,1)]=0
 ·obtain⟨a,b,M,h⟩:=Bk t ht hv false false B;refine⟨4,?_,by decide⟩;rw[Qa F.tb_560 _ _ rfl];generalize Qw (t,1)=EP at *;simp[F.f560C,h]
 ·have hs:SmP [(t,1)]:=⟨by simp,fun q hq=>by simp at hq;subst hq;exact ht⟩;have e1:QU [(t,1)]=[Qw (t,1)]:=rfl;have c197:=fun B=>Rg [(t,1)] false B (by simp) hs.big;refine⟨ZQ [(t,1)],?_,hv⟩;rw[e1]at c197;generalize Qw (t,1)=EP at *;have c562:call F.tb 562 [.sl false 1 [],.sl false 5 [EP]] B=some (.tup [.nlp,.nlp,.int .i64 (ZQ [(t,1)])],B):=by
   rw[Qa F.tb_562 _ _ rfl];simp[F.f562C];rw[Qd F.f562l0.eq_1];simp[F.f562r3,c197,hv]
  have c561:call F.tb 561 [.sl false 1 [],.sl false 5 [EP]] B=some (.tup [.nlp,.nlp,.int .i64 0,.int .i64 (ZQ [(t,1)])],B):=by
   rw[Qa F.tb_561 _ _ rfl];simp[F.f561C,c562,hv]
  rw[Qa F.tb_560 _ _ rfl];simp[F.f560C,c561,hv]
def nz (i:Int):Bool:= !decide (i=0)
def okG (g:List Pw):Prop:=ZQ g=0∧SmP g
theorem okG.asc {g:List Pw} (h:okG g):Asc (ZS g):=(TU h.1 h.2.big).1.asc
theorem okG.bd {g:List Pw} (h:okG g): ∀q∈g,-1000≤q.2∧q.2≤1000:=fun q hq=>by
 have h1:=h.1;unfold ZQ at h1;split at h1
 ·cases h1
 ·exact⟨((Mp g none h1).1 q hq).2.2.2.1,((Mp g none h1).1 q hq).2.2.2.2⟩
theorem okG.len {g:List Pw} (h:okG g):g.length≤200:=(TU h.1 h.2.big).2.1
def Sw (t:Tm):Bool:=isB t EXP && decide (t.kids.length=2)
def NC (t:Tm):Tm:=if Sw t then kid t 0 else t
def NA (t:Tm):List Pw:=if Sw t then ofP (kid t 1)else []
theorem Em {t:Tm} (h:t.kids.length=2):t.kids=[kid t 0,kid t 1]:=by
 cases hk:t.kids with
 | nil=>rw[hk]at h;simp at h
 | cons a r=>cases r with
  | nil=>rw[hk]at h;simp at h
  | cons b r2=>cases r2 with
   | nil=>simp[kid,hk]
   | cons c r3=>rw[hk]at h;simp at h
def QfR (t:Tm) (bs:List (List AV)) (r:Out):Prop:=∃o,r=some (.tup [.agg (Qb (NC t)),.sl o 5 (QU (NA t))],bs)
theorem Mi {t:Tm} (h:YY t=0):QI t=true∧t.mass≤13200:=by
 unfold YY at h;by_cases c:thV t=0
 ·obtain⟨_,_,h3,h4,_⟩:=MW c;exact⟨h3,h4⟩
 ·simp[c]at h
theorem Qcq {t:Tm} (hg:QI t=true) (hk:t.kind=3):t.sort=0∧Ye t.name t.kids.length=true:=by
 rw[Nc]at hg;simp[hk]at hg;exact hg.1
def VY (n:List UInt8):Prop:=n=QK∨n=ENC∨n=Zz∨n=ZD∨n=EXP
theorem gd2 {t:Tm} {n:List UInt8} (hg:QI t=true) (h:isB t n=true) (hn:VY n):t.kids.length=2∧t.sort=0:=by
 obtain⟨h1,rfl⟩:=XX.1 h;obtain⟨h2,h3⟩:=Qcq hg h1;refine⟨?_,h2⟩;unfold Ye at h3;rw[if_pos (by unfold VY at hn;rcases hn with h | h | h | h | h <;> simp[h])]at h3;simpa using h3
structure AOk (d:Ded) (a:List Tm):Prop where
 ok:rOk d.r=true
 n0:0≤d.n
 n1:d.n≤1000000
 len:0≤L8 d.r→(a.length:Int)=L8 d.r
 p15:d.r=15→a≠[]
 al:a.length < 10000
 ml:massL a < 20000000
 good: ∀x∈a,YY x=0
 td:YY d.t=0
 cl:d.c.length < 1000000
theorem AOk.gd {d:Ded} {a:List Tm} (h:AOk d a): ∀x∈a,QI x=true∧x.mass < 1000000:=fun x hx=>by
 obtain⟨h1,h2⟩:=Mi (h.good x hx);exact⟨h1,by omega⟩
theorem AOk.tm {d:Ded} {a:List Tm} (h:AOk d a):d.t.mass < 1000000:=by have:=(Mi h.td).2;omega
theorem AOk.one {d:Ded} {a:List Tm} (h:AOk d a) (hr:L8 d.r=1): ∃x,a=[x]:=by
 have:=h.len (by omega);rw[hr]at this;cases a with
 | nil=>simp at this
 | cons x r=>cases r with
  | nil=>exact⟨x,rfl⟩
  | cons y r2=>simp at this;omega
theorem AOk.two {d:Ded} {a:List Tm} (h:AOk d a) (hr:L8 d.r=2): ∃x y,a=[x,y]:=by
 have:=h.len (by omega);rw[hr]at this;cases a with
 | nil=>simp at this
 | cons x r=>cases r with
  | nil=>simp at this
  | cons y r2=>cases r2 with
   | nil=>exact⟨x,y,rfl⟩
   | cons z r3=>simp at this;omega
section
variable {α:Type}
def xv (a b:α→Bool):α→Bool:=fun t=>a t ^^ b t
def zv0:α→Bool:=fun _=>false
theorem Qds (a:α→Bool):xv a zv0=a:=by funext t;simp[xv,zv0]
theorem Gm (a:α→Bool):xv zv0 a=a:=by funext t;simp[xv,zv0]
theorem Gl (a:α→Bool):xv a a=zv0:=by funext t;simp[xv,zv0]
theorem Qdr (a b:α→Bool):xv a b=xv b a:=by funext t;simp[xv,Bool.xor_comm]
theorem Su (a b c:α→Bool):xv (xv a b) c=xv a (xv b c):=by funext t;simp[xv]
theorem CD (a b:α→Bool):xv a (xv a b)=b:=by rw[← Su,Gl,Gm]
inductive Sp (L:List (α→Bool)): (α→Bool)→Prop
 | zero:Sp L zv0
 | add {v w:α→Bool}:v∈L→Sp L w→Sp L (xv v w)
theorem Sp.mem {L:List (α→Bool)} {v:α→Bool} (h:v∈L):Sp L v:=by
 have:=Sp.add h Sp.zero;rwa[Qds]at this
theorem Sp.sum {L:List (α→Bool)} {v w:α→Bool} (h:Sp L v) (h2:Sp L w):Sp L (xv v w):=by
 induction h with
 | zero=>rwa[Gm]
 | add hm _ ih=>rw[Su];exact .add hm ih
theorem Sp.sub {L M:List (α→Bool)} {v:α→Bool} (h: ∀x∈L,Sp M x) (hv:Sp L v):Sp M v:=by
 induction hv with
 | zero=>exact .zero
 | add hm _ ih=>exact(h _ hm).sum ih
theorem Sp.mono {L M:List (α→Bool)} {v:α→Bool} (h: ∀x∈L,x∈M) (hv:Sp L v):Sp M v:=hv.sub fun x hx=> .mem (h x hx)
theorem Sp.cons {r:α→Bool} {L:List (α→Bool)} {v:α→Bool} (h:Sp (r:: L) v):Sp L v∨Sp L (xv r v):=by
 induction h with
 | zero=>exact .inl .zero
 | @add x w hm _ ih=>
  rcases List.mem_cons.1 hm with rfl | hm
  ·rcases ih with ih | ih
   ·exact .inr (by rwa[CD])
   ·exact .inl ih
  ·rcases ih with ih | ih
   ·exact .inl (.add hm ih)
   ·exact .inr (by
     have:=Sp.add hm ih;rwa[← Su,Qdr x r,Su]at this)
end
end Go.Am
