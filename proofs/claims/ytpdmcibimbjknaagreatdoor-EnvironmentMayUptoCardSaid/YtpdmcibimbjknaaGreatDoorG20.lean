/-
  En1, En2, En3, En4, En5, En6.
-/
import Derived.Test.YtpdmcibimbjknaaGreatDoorG19
set_option linter.unusedVariables false
set_option linter.unusedSimpArgs false
namespace Go.Am
set_option maxRecDepth 8000
theorem Ea (x y:Tm) (bs:List (List AV)) (hx:x.mass < big) (hy:y.mass < big):call F.tb 496 [.agg (Qc x),.agg (Qc y)] bs=some (.bool (decide (Qm x y=0)),bs):=by
 rw[Qa F.tb_496 _ _ rfl];have h:=call_Compare x y bs hx hy;simp[F.f496C,Qf,h]
def EqF (f:Nat):Prop:=∀(x y:Tm) (bs:List (List AV)),x.mass < big→y.mass < big→call F.tb f [.agg (Qc x),.agg (Qc y)] bs=some (.bool (decide (Qm x y=0)),bs)
theorem Qg0:EqF 496:=Ea
def RZ (L:List Tm) (B:List (List AV)) (id:Nat) (r:Option (AV×List (List AV))):Prop:=r=some (.sl true 4 (encTs L),B.set id [])
theorem AY (B:List (List AV)) (id n:Nat) (D:List Tm) (c:List AV) (hB:id < B.length) (hc:c.length=n*4) (hD:D.length≤n) (hn:n < 100000000) (ht:c.take (D.length*4)=Qo D) (hDne:D≠[])
  (ρ:Nat→AV) (h0:ρ 0= .gs id 0 4 n) (h5:ρ 5= .int .i64 D.length):
  R F.tb F.f497r0 ρ (B.set id c) (Qh 1 (Qq F.tb F.f497r1 (Qq F.tb (.loop F.f497l1) (Qh 0 (Qq F.tb F.f497r2 (Qx F.f497 B))))))=
   some (.sl true 4 (encTs D),B.set id []):=by
 have e1: (0:Int)≤(D.length:Int):=by omega
 have e2: (D.length:Int)≤(n:Int):=by omega
 have hl0: ¬D.length=0:=fun e=>hDne (List.eq_nil_of_length_eq_zero e);have hg:=encTs_gp D;have hch: ∀t,ZL (Qo D ++ t) 0 4 D.length=encTs D:=fun t=>by
  have:=YX (f:=Qc) (k:=4) QC Zk D t;rw[VA]at this;exact this
 have hlen: (Qo D).length=D.length*4:=ZZ QC D;have hput:c.take (D.length*4)++ (List.replicate ((n - D.length)*4) AV.undef ++ c.drop (D.length*4+ (n - D.length)*4))=Qo D ++ List.replicate ((n - D.length)*4) .undef:=by
  rw[ht,List.drop_eq_nil_of_le (by rw[hc,← Nat.add_mul];exact Nat.mul_le_mul_right _ (by omega))];simp
 have hle:D.length*4+ (n - D.length)*4≤n*4:=by rw[← Nat.add_mul];exact Nat.mul_le_mul_right _ (by omega)
 by_cases hz:n - D.length=0
 ·have hDn:D.length=n:=by omega
  have hcc:c=Qo D:=by rw[← ht,List.take_of_length_le (by omega)]
  have hch0:=hch [];rw[List.append_nil]at hch0;rw[← hcc]at hch0 hlen;have hlc:D.length*4≤c.length:=by omega
  generalize encTs D=E at *;simp[F.f497r0,h0,h5,e1,e2,hD,hz,hl0,ZO,hB,hlc,hch0,hg,List.take_of_length_le]
 ·have hchr:=hch (List.replicate ((n - D.length)*4) .undef);have hlr:D.length*4≤(Qo D ++ List.replicate ((n - D.length)*4) AV.undef).length:=by rw[List.length_append];omega
  rw[← hput]at hchr hlr;generalize encTs D=E at *;generalize hX:c.take (D.length*4)++ (List.replicate ((n - D.length)*4) AV.undef ++ c.drop (D.length*4+ (n - D.length)*4))=X at *;simp[F.f497r0,h0,h5,e1,e2,hD,hz,hB,hc,hle,hX,hl0,ZO,hlr,hchr,hg,List.take_of_length_le]
theorem AW (f:Nat) (hf:EqF f) (B:List (List AV)) (id n k0:Nat) (hB:id < B.length) (hn:n < 100000000): ∀(post D mid:List Tm) (prev:Tm) (k2:Nat) (ρ:Nat→AV),D≠[]→D.length+mid.length+1+post.length=n→k0+k2=D.length+mid.length+1→0 < k2→
   (∀x∈prev:: post,x.mass < big)→ρ 0= .gs id 0 4 n→ρ 1= .fn f []→ρ 5= .int .i64 D.length→ρ 6= .gs id (k0*4) 4 (n - k0)→ρ 7= .int .i64 k2→
  RZ (D ++ ZE prev post) B id (R F.tb (.loop F.f497l0) ρ (B.set id (Qo (D ++ mid ++ prev:: post)))
   (Qh 2 (Qq F.tb F.f497r0 (Qh 1 (Qq F.tb F.f497r1 (Qq F.tb (.loop F.f497l1) (Qh 0 (Qq F.tb F.f497r2 (Qx F.f497 B))))))))):=by
 intro post
 induction post with
 | nil=>
  intro D mid prev k2 ρ hDne hl hk hk2 hm h0 h1 h5 h6 h7;have hlen: (Qo (D ++ mid ++ [prev])).length=n*4:=by rw[ZZ QC];simp at hl ⊢;omega
  have ht: (Qo (D ++ mid ++ [prev])).take (D.length*4)=Qo D:=by
   have:=TG (f:=Qc) (k:=4) QC (l:=D ++ mid ++ [prev]) (pre:=D) (post:=mid ++ [prev]) (by simp) [];simpa using this
  have hr:=fun ρ a b=>AY B id n D (Qo (D ++ mid ++ [prev])) hB hlen (by omega) hn ht hDne ρ a b;have hl':D.length+mid.length+1=n:=by simpa using hl
  have hnl: ¬((k2:Int) < ((n - k0:Nat):Int)):=by omega
  have hnl2: ¬(k2 < n - k0):=by omega
  rw[Qb F.f497l0.eq_1];simp only[ZE,List.append_nil];unfold RZ;simp[h0,h1,h5,h6,h7,hnl,hnl2];simp only[List.append_assoc]at hr;refine hr _ ?_ ?_ <;> simp[h0,h5]
 | cons x post IH=>
  intro D mid prev k2 ρ hDne hl hk hk2 hm h0 h1 h5 h6 h7;have hlen: (Qo (D ++ mid ++ prev:: x:: post)).length=n*4:=by rw[ZZ QC];simp at hl ⊢;omega
  have hst: (Qo (D ++ mid ++ prev:: x:: post)).map AV.strip=Qo (D ++ mid ++ prev:: x:: post):=Yw Zk _;have r1: ((Qo (D ++ mid ++ prev:: x:: post)).drop (k0*4+k2*4)).take 4=Qc x:=by
   have:=WI (f:=Qc) (k:=4) QC (l:=D ++ mid ++ prev:: x:: post) (pre:=D ++ mid ++ [prev]) (post:=post) (x:=x) (by simp) [];rw[← Nat.add_mul,hk];simpa[Nat.add_assoc]using this
  have r2: ((Qo (D ++ mid ++ prev:: x:: post)).drop (k0*4+ (k2 - 1)*4)).take 4=Qc prev:=by
   have:=WI (f:=Qc) (k:=4) QC (l:=D ++ mid ++ prev:: x:: post) (pre:=D ++ mid) (post:=x:: post) (x:=prev) (by simp) [];rw[← Nat.add_mul,show k0+ (k2 - 1)=D.length+mid.length by omega];simpa[Nat.add_assoc]using this
  have hput: (Qo (D ++ mid ++ prev:: x:: post)).take (D.length*4)++ (Qc x ++ (Qo (D ++ mid ++ prev:: x:: post)).drop (D.length*4+4))=Qo ((D ++ [x])++ (mid ++ [prev]).tail ++ x:: post):=by
   obtain⟨y,m2,hy⟩: ∃y m2,mid ++ [prev]=y:: m2:=by cases mid <;> simp
   have:=Tf (f:=Qc) (k:=4) QC (l:=D ++ mid ++ prev:: x:: post) (pre:=D) (post:=m2 ++ x:: post) (x:=y) x (by
    have:D ++ mid ++ prev:: x:: post=D ++ (mid ++ [prev])++ x:: post:=by simp
    rw[this,hy];simp) []
   rw[hy];simpa using this
  have hw1:IntKind.i64.wrap ((k2:Int) - 1)=((k2 - 1:Nat):Int):=by rw[QW (by omega) (by omega)];omega
  have hw2:IntKind.i64.wrap ((k2:Int)+1)=((k2+1:Nat):Int):=by rw[QW (by simp at hl;omega) (by simp at hl;omega)];omega
  have hw3:IntKind.i64.wrap ((D.length:Int)+1)=((D.length+1:Nat):Int):=by rw[QW (by simp at hl;omega) (by simp at hl;omega)];omega
  have hlt: (k2:Int) < ((n - k0:Nat):Int):=by simp at hl;omega
  have hlt1:k2 < n - k0:=by simp at hl;omega
  have hlt2: ((k2 - 1:Nat):Int) < ((n - k0:Nat):Int):=by simp at hl;omega
  have hlt2':k2 - 1 < n - k0:=by simp at hl;omega
  have hlt3: (D.length:Int) < (n:Int):=by simp at hl;omega
  have hlt3':D.length < n:=by simp at hl;omega
  have hb1:k0*4+k2*4+4≤n*4:=by simp at hl;omega
  have hb2:k0*4+ (k2 - 1)*4+4≤n*4:=by simp at hl;omega
  have hb3:D.length*4+4≤n*4:=by simp at hl;omega
  have hnn: (0:Int)≤((k2 - 1:Nat):Int):=by omega
  have hc:=fun bs=>hf x prev bs (hm x (by simp)) (hm prev (by simp));have hcast: ((k2 - 1:Nat):Int).toNat=k2 - 1:=by omega
  have ih1:=IH D (mid ++ [prev]) x (k2+1);have ih2:=IH (D ++ [x]) (mid ++ [prev]).tail x (k2+1);have htl: ((mid ++ [prev]).tail).length=mid.length:=by simp
  rw[show D ++ (mid ++ [prev])++ x:: post=D ++ mid ++ prev:: x:: post by simp]at ih1;rw[Qb F.f497l0.eq_1];generalize Qo (D ++ mid ++ prev:: x:: post)=c at *;generalize hkm:k2 - 1=km at *;generalize n - k0=nk at *;by_cases he:Qm x prev=0
  ·have e:ZE prev (x:: post)=ZE x post:=by simp[ZE,he]
   rw[e];simp[h0,h1,h5,h6,h7,hlt,hlt1,hlt2,hlt2',hnn,hw1,hw2,hb1,hb2,hB,hlen,hst,r1,r2,hc,he,hcast];refine ih1 _ hDne (by simp at hl ⊢;omega) (by simp;omega) (by omega) (fun y hy=>hm y (by simp at hy ⊢;rcases hy with h | h <;> simp[h])) ?_ ?_ ?_ ?_ ?_ <;> simp[h0,h1,h5,h6]
  ·have e:D ++ ZE prev (x:: post)=D ++ x:: ZE x post:=by simp[ZE,he]
   rw[e];simp only[List.append_assoc,List.cons_append,List.nil_append]at ih2;simp[h0,h1,h5,h6,h7,hlt,hlt1,hlt2,hlt2',hlt3,hlt3',hnn,hw1,hw2,hw3,hb1,hb2,hb3,hB,hlen,hst,r1,r2,hc,he,hcast,hput];refine ih2 _ (by simp) (by simp at hl ⊢;omega) (by simp;omega) (by omega) (fun y hy=>hm y (by simp at hy ⊢;rcases hy with h | h <;> simp[h])) ?_ ?_ ?_ ?_ ?_ <;> simp[h0,h1,h5,h6]
theorem AX (f:Nat) (hf:EqF f) (B:List (List AV)) (id n:Nat) (hB:id < B.length) (hn:n < 100000000): ∀(post pre:List Tm) (prev:Tm) (ρ:Nat→AV),pre.length+1+post.length=n→
   (∀x∈prev:: post,x.mass < big)→ρ 0= .gs id 0 4 n→ρ 1= .fn f []→ρ 5= .int .i64 (pre.length+1:Nat)→
  RZ (pre ++ prev:: ZE prev post) B id (R F.tb (.loop F.f497l1) ρ (B.set id (Qo (pre ++ prev:: post)))
   (Qh 0 (Qq F.tb F.f497r2 (Qx F.f497 B)))):=by
 intro post
 induction post with
 | nil=>
  intro pre prev ρ hl hm h0 h1 h5;have hl':pre.length+1=n:=by simpa using hl
  have hnl: ¬((pre.length:Int)+1 < (n:Int)):=by omega
  rw[Qb F.f497l1.eq_1];have hlen: (Qo (pre ++ [prev])).length=n*4:=by rw[ZZ QC];simp;omega
  have hn0: ¬n=0:=by omega
  have hch:ZL (Qo (pre ++ [prev])) 0 4 n=encTs (pre ++ [prev]):=by
   have:=YX (f:=Qc) (k:=4) QC Zk (pre ++ [prev]) [];rw[List.append_nil,VA]at this;rw[← this,← hl'];simp
  have hg:=encTs_gp (pre ++ [prev]);simp only[RZ,ZE];generalize Qo (pre ++ [prev])=c at *;generalize encTs (pre ++ [prev])=e at *;simp[h0,h1,h5,hnl,F.f497r2,hl',ZO,hn0,hB,hlen,hch,hg,List.take_of_length_le]
 | cons x post IH=>
  intro pre prev ρ hl hm h0 h1 h5;have hl':pre.length+1+ (post.length+1)=n:=by simpa using hl
  have hlen: (Qo (pre ++ prev:: x:: post)).length=n*4:=by rw[ZZ QC];simp;omega
  have hst: (Qo (pre ++ prev:: x:: post)).map AV.strip=Qo (pre ++ prev:: x:: post):=Yw Zk _;have r1: ((Qo (pre ++ prev:: x:: post)).drop ((pre.length+1)*4)).take 4=Qc x:=by
   have:=WI (f:=Qc) (k:=4) QC (l:=pre ++ prev:: x:: post) (pre:=pre ++ [prev]) (post:=post) (x:=x) (by simp) [];simpa using this
  have r2: ((Qo (pre ++ prev:: x:: post)).drop (pre.length*4)).take 4=Qc prev:=by
   have:=WI (f:=Qc) (k:=4) QC (l:=pre ++ prev:: x:: post) (pre:=pre) (post:=x:: post) (x:=prev) (by simp) [];simpa using this
  have hw1:IntKind.i64.wrap (pre.length:Int)=(pre.length:Int):=QW (by omega) (by omega);have hw2:IntKind.i64.wrap ((pre.length:Int)+1+1)=(pre.length:Int)+1+1:=QW (by omega) (by omega);have hlt: (pre.length:Int)+1 < (n:Int):=by omega
  have hlt2: (pre.length:Int) < (n:Int):=by omega
  have hb1: (pre.length+1)*4+4≤n*4:=by omega
  have hb2:pre.length*4+4≤n*4:=by omega
  have hnn: (0:Int)≤(pre.length:Int)+1:=by omega
  have hle: (pre.length:Int)+1≤(n:Int):=by omega
  have hcast: ((pre.length:Int)+1).toNat=pre.length+1:=by omega
  have hc:=fun bs=>hf x prev bs (hm x (by simp)) (hm prev (by simp));have ih1:=IH (pre ++ [prev]) x;have ih2:=AW f hf B id n (pre.length+1) hB hn post (pre ++ [prev]) [] x 1;simp only[List.append_assoc,List.cons_append,List.nil_append]at ih1 ih2;rw[Qb F.f497l1.eq_1];generalize Qo (pre ++ prev:: x:: post)=c at *;by_cases he:Qm x prev=0
  ·have e:ZE prev (x:: post)=ZE x post:=by simp[ZE,he]
   rw[e];simp[h0,h1,h5,hlt,hlt2,hnn,hle,hw1,hw2,hb1,hb2,hB,hlen,hst,r1,r2,hc,he,hcast];refine ih2 _ (by simp) (by simp;omega) (by simp) (by omega) (fun y hy=>hm y (by simp at hy ⊢;rcases hy with h | h <;> simp[h])) ?_ ?_ ?_ ?_ ?_ <;> simp[h0,h1,h5]
  ·have e:pre ++ prev:: ZE prev (x:: post)=pre ++ prev:: x:: ZE x post:=by simp[ZE,he]
   rw[e];simp[h0,h1,h5,hlt,hlt2,hnn,hle,hw1,hw2,hb1,hb2,hB,hlen,hst,r1,r2,hc,he,hcast,F.f497r1];refine ih1 _ (by simp;omega) (fun y hy=>hm y (by simp at hy ⊢;rcases hy with h | h <;> simp[h])) ?_ ?_ ?_ <;> simp[h0,h1,h5]
theorem G3 (f:Nat) (hf:EqF f) (L:List Tm) (B:List (List AV)) (id:Nat) (hid:B[id]? =some (Qo L)) (hne:L≠[]) (hn:L.length < 100000000) (hm: ∀x∈L,x.mass < big):
  RZ (Xo L) B id (call F.tb 497 [.gs id 0 4 L.length,.fn f []] B):=by
 have hB:=Wk hid;have hset:B.set id (Qo L)=B:=HF hid
 match L with
 | []=>exact absurd rfl hne
 | [x]=>
  have hch:ZL (Qo [x]) 0 4 1=encTs [x]:=by
   have:=YX (f:=Qc) (k:=4) QC Zk [x] [];rw[List.append_nil,VA]at this;exact this
  have hlen: (Qo [x]).length=4:=ZZ QC [x];have hg:=encTs_gp [x];rw[Qa F.tb_497 _ _ rfl]
  show _=some (_,_);rw[show Xo [x]=[x] by simp[Xo]];generalize encTs [x]=E at *;generalize Qo [x]=c at *;simp[-getElem?_pos,F.f497C,ZO,hid,hlen,hch,hg,hB,List.take_of_length_le]
 | x:: y:: r=>
  have h:=AX f hf B id (r.length+2) hB (by simpa using hn) (y:: r) [] x;rw[Qa F.tb_497 _ _ rfl,UR];simp only[List.nil_append,hset]at h;have hge: ¬((r.length:Int)+1+1 < 2):=by omega
  simp[F.f497C,hge];refine h _ (by simp;omega) (fun z hz=>hm z hz) ?_ ?_ ?_ <;> simp
theorem It (f:Nat) (B:List (List AV)):call F.tb 497 [.gs 0 0 0 0,.fn f []] B=some (.sl true 4 [],B):=by
 rw[Qa F.tb_497 _ _ rfl];simp[F.f497C,ZO]
def Ch (B1 B:List (List AV)):Prop:=B1.length≤B.length∧∀(i:Nat) (x y:List AV),B1[i]? =some x→B[i]? =some y→x=y∨gpfreeL y=true
theorem Ch.refl (B:List (List AV)):Ch B B:=⟨Nat.le_refl _,fun i x y h1 h2=> .inl (by rw[h1]at h2;injection h2)⟩
theorem Ch.trans {B1 B2 B3:List (List AV)} (h:Ch B1 B2) (k:Ch B2 B3):Ch B1 B3:=⟨Nat.le_trans h.1 k.1,fun i x z h1 h3=>by
 have hlt:i < B1.length:=by
  rcases Nat.lt_or_ge i B1.length with g | g
  ·exact g
  ·rw[List.getElem?_eq_none g]at h1;cases h1
 have hlt2:i < B2.length:=Nat.lt_of_lt_of_le hlt h.1;obtain⟨y,hy⟩: ∃y,B2[i]? =some y:=⟨_,List.getElem?_eq_getElem hlt2⟩;rcases k.2 i y z hy h3 with e | e
 ·subst e;exact h.2 i x y h1 hy
 ·exact .inr e⟩
theorem Ch.set {B1 B:List (List AV)} (h:Ch B1 B) {c:List AV} (hc:gpfreeL c=true) (id:Nat):Ch B1 (B.set id c):=⟨by rw[List.length_set];exact h.1,fun i x y h1 h2=>by
 rw[List.getElem?_set]at h2;split at h2
 ·split at h2
  ·injection h2 with h2;subst h2;exact .inr hc
  ·cases h2
 ·exact h.2 i x y h1 h2⟩
theorem Ch.app {B1 B:List (List AV)} (h:Ch B1 B) (M:List (List AV)):Ch B1 (B ++ M):=⟨by rw[List.length_append];have:=h.1;omega,fun i x y h1 h2=>by
 have hlt:i < B1.length:=by
  rcases Nat.lt_or_ge i B1.length with g | g
  ·exact g
  ·rw[List.getElem?_eq_none g]at h1;cases h1
 rw[List.getElem?_append_left (Nat.lt_of_lt_of_le hlt h.1)]at h2;exact h.2 i x y h1 h2⟩
theorem Ch.take {B1 B:List (List AV)} (h:Ch B1 B):YT B1 (B.take B1.length)=true:=Lf (by rw[List.length_take];have:=h.1;omega) fun i x y h1 h2=>by
 have hlt:i < B1.length:=by
  rcases Nat.lt_or_ge i B1.length with g | g
  ·exact g
  ·rw[List.getElem?_eq_none g]at h1;cases h1
 rw[List.getElem?_take_of_lt hlt]at h2;exact h.2 i x y h1 h2
theorem O9 {B0 B:List (List AV)} {v:AV} {l:List Tm} (x:Tm) (o:Bool) (h:TS B0 B v l) (hl:l.length < 1000000): ∃v' B',appM 56 4 v (.sl o 4 [Qc x]) B=some (v',B')∧TS B0 B' v' (l ++ [x])∧∀B1,Ch B1 B→Ch B1 B':=by
 obtain⟨M,id,sz,rfl,rfl,hc⟩:=h;have hb: (l.length+1)*56≤140737488355328:=Yu (by omega);have hs:Wz 4 (.sl o 4 [Qc x]) (B0 ++ M)=some (1,Qc x):=by simp[Wz]
 rcases hc with⟨rfl,rfl,rfl⟩ | ⟨rfl,hid,hne0,hbx⟩
 ·refine⟨.gs (B0 ++ M).length 0 4 1,B0 ++ (M ++ [Qc x]),?_,⟨M ++ [Qc x],(B0 ++ M).length,4,rfl,rfl,.inr ⟨rfl,by simp,by simp,?_⟩⟩,fun B1 hB=>by rw[← List.append_assoc];exact hB.app _⟩
  ·simp[appM,hs]
  ·rw[← List.append_assoc,List.getElem?_concat_length];simp[Qo,ZP]
 ·have hr: (Qo l).length=l.length*4:=ZZ QC l;have hrow:Qo (l ++ [x])=Qo l ++ Qc x:=by simp[Qo,Wo,RX]
  have hst: (Qo l).map AV.strip=Qo l:=Yw Zk l;have hne:Qo l≠[]:=by
   intro e;rw[e]at hr;simp at hr
   exact hne0 (List.eq_nil_of_length_eq_zero (by omega))
  have hroom: ¬(l.length+1)*4≤(Qo l).length:=by omega
  refine⟨.gs (B0 ++ M).length 0 4 (l.length+1),(B0 ++ M).set id []++ [Qo l ++ Qc x],?_,⟨M.set (id - B0.length) []++ [Qo l ++ Qc x],(B0 ++ M).length,4,?_,by simp,.inr ⟨rfl,by simp,by simp,?_⟩⟩,fun B1 hB=>(hB.set rfl _).app _⟩
  ·simp only[appM,hs,Option.bind_some];rw[if_pos ⟨by omega,hb⟩,if_neg (by omega),if_neg (by omega),if_pos ⟨trivial,trivial⟩,hbx];simp only[Option.bind_some];rw[if_pos ⟨hne,by omega⟩,if_neg hroom,List.take_of_length_le (by omega),hst]
  ·rw[YI hid,List.append_assoc]
  ·have e: (B0 ++ M).length=((B0 ++ M).set id []).length:=by simp
   rw[hrow,e,List.getElem?_concat_length]
theorem Qdw {B0 B:List (List AV)} {v:AV} {l:List Tm} (h:TS B0 B v l) (hl:l.length < 1000000) (hm: ∀x∈l,x.mass < 1000000):
  ∃M,call F.tb 495 [v] B=some (.sl true 4 (encTs (Yf l)),B0 ++ M)∧Ch B (B0 ++ M)∧(B0 ++ M).length=B.length:=by
 obtain⟨M,id,sz,rfl,rfl,hc⟩:=h;rcases hc with⟨rfl,rfl,rfl⟩ | ⟨rfl,hid,hne,hb⟩
 ·have hs:call F.tb 170 [.gs 0 0 0 0,.fn 30 []] (B0 ++ M)=some (.tup [],B0 ++ M):=by rw[Y6 F.tb_170];simp[T4]
  have hc:=It 496 (B0 ++ M);refine⟨M,?_,Ch.refl _,rfl⟩;rw[Qa F.tb_495 _ _ rfl];simp[F.f495C,hs,hc,encTs,Yf,ZQ,List.take_of_length_le]
 ·have hmb: ∀x∈l,x.mass < big:=fun x hx=>by have:=hm x hx;unfold big;omega
  have hs:=P5 l (B0 ++ M) id hb (by omega) hmb;have hB:=Wk hb;have hS: ((B0 ++ M).set id (Qo (ZN l)))[id]? =some (Qo (ZN l)):=by rw[List.getElem?_set,if_pos rfl,if_pos hB]
  have hsne:ZN l≠[]:=by
   intro e;obtain⟨x,hx⟩:=List.exists_mem_of_ne_nil l hne;have:=(W3 (l:=l)).2 hx;rw[e]at this;simp at this
  have hc:=G3 496 Qg0 (ZN l) ((B0 ++ M).set id (Qo (ZN l))) id hS hsne (by rw[X8];omega) fun x hx=>hmb x (W3.1 hx);rw[Sa,X8]at hc;unfold RZ at hc;rw[List.set_set]at hc;have hg:=encTs_gp (Yf l);refine⟨M.set (id - B0.length) [],?_,by rw[← YI hid];exact(Ch.refl _).set rfl _,by simp⟩;rw[← YI hid,Qa F.tb_495 _ _ rfl];simp[-getElem?_pos,F.f495C,hs,hc,hg,List.take_of_length_le]
abbrev Nm:=List UInt8
def Za (l:List Nm):List (List AV):=l.map fun s=>[AV.str s]
theorem QE (l:List Nm): (Za l).length=l.length:=by simp[Za]
theorem YN {l:List Nm} {i:Nat} {s:Nm} (h:l[i]? =some s): (Za l)[i]? =some [AV.str s]:=by simp[Za,h]
theorem Mf {l pre post:List Nm} (h:l=pre ++ post): (Za l).take pre.length=Za pre:=by
 subst h;simp only[Za,List.map_append];rw[List.take_append_of_le_length (by simp),List.take_of_length_le (by simp)]
def ixF (l:List Nm) (x:Nm):Int:=if l.contains x then(l.idxOf x:Int)else -1
theorem BK {x:Nm} {post:List Nm}: ∀{pre:List Nm},x ∉ pre→(pre ++ x:: post).idxOf x=pre.length
 | [],_=>by simp[List.idxOf_cons]
 | a:: pre,h=>by
  have h1: (a == x)=false:=by simpa using fun e=>h (by simp[e])
  have h2:=BK (x:=x) (post:=post) (pre:=pre) fun e=>h (by simp[e]);rw[List.cons_append,List.idxOf_cons,h1,h2];simp
theorem BO {l pre post:List Nm} {x:Nm} (h:l=pre ++ x:: post) (hp:pre.contains x=false):ixF l x=pre.length:=by
 have hn:x ∉ pre:=by simpa using hp
 subst h;have: (pre ++ x:: post).contains x=true:=by simp
 rw[ixF,if_pos this,BK hn]
theorem BP {l:List Nm} {x:Nm} (hp:l.contains x=false):ixF l x= -1:=by rw[ixF,hp];simp
theorem Oo {l:List Nm} {x:Nm}:decide (0≤ixF l x)=l.contains x:=by
 unfold ixF;cases h:l.contains x <;> simp
theorem B4 {pre:List Nm} {x a:Nm} (hp:pre.contains x=false) (ho: ¬x=a): (pre ++ [a]).contains x=false:=by
 simp only[List.contains_eq_mem,decide_eq_false_iff_not,List.mem_append,List.mem_singleton]at hp ⊢;exact fun h=>h.elim hp ho
theorem EC (l:List Nm) (x:Nm) (bs:List (List AV)) (hl:l.length < 1000000):
  ∀(post pre:List Nm) (o:Bool) (ρ:Nat→AV),l=pre ++ post→pre.contains x=false→ρ 0= .sl o 1 (Za l)→ρ 1= .str x→ρ 7= .int .i64 l.length→ρ 8= .int .i64 pre.length→
  R F.tb (.loop F.f162l0) ρ bs (Qh 0 (Qq F.tb F.f162r0 (Qx F.f162 bs)))=some (.int .i64 (ixF l x),bs):=by
 intro post
 induction post with
 | nil=>
  intro pre o ρ hk hpp h0 h1 h7 h8;simp only[List.append_nil]at hk;rw[← hk]at h8 hpp;rw[Qb F.f162l0.eq_1,BP hpp];simp[h0,h1,h7,h8,F.f162r0]
 | cons a post IH=>
  intro pre o ρ hk hpp h0 h1 h7 h8;have hgt:=YN (Qn hk);have hll:=Qu hk;have hw1:=wr1 pre.length (by omega);have hlt:=Qv hk;have ih:=fun ρ hpp=>IH (pre ++ [a]) o ρ (by rw[hk];simp) hpp;rw[Qb F.f162l0.eq_1];by_cases ho:x=a
  ·rw[BO (by rw[hk,ho]) hpp];simp[h0,h1,h7,h8,hlt,hgt,← ho]
  ·have hb: (x == a)=false:=by simpa using ho
   have ih2:=fun ρ=>ih ρ (B4 hpp ho);simp[h0,h1,h7,h8,hlt,hgt,hw1,hb,-List.contains_eq_mem];apply ih2 <;> simp[h0,h1,h7]
theorem Ir (l:List Nm) (x:Nm) (o:Bool) (bs:List (List AV)) (hl:l.length < 1000000):call F.tb 162 [.sl o 1 (Za l),.str x] bs=some (.int .i64 (ixF l x),bs):=by
 have h1:=fun ρ=>EC l x bs hl l [] false ρ rfl rfl;rw[Qa F.tb_162 _ _ rfl];simp[F.f162C,-List.contains_eq_mem];apply h1 <;> simp[QE]
theorem Pb (l:List Nm) (x:Nm) (o:Bool) (bs:List (List AV)) (hl:l.length < 1000000):call F.tb 161 [.sl o 1 (Za l),.str x] bs=some (.bool (l.contains x),bs):=by
 have h:=Ir l x false bs hl;rw[Qa F.tb_161 _ _ rfl];simp[F.f161C,h,Oo,-List.contains_eq_mem]
theorem BB (l:List Nm) (x:Nm) (bs:List (List AV)) (hl:l.length < 1000000):
  ∀(post pre:List Nm) (o:Bool) (ρ:Nat→AV),l=pre ++ post→pre.contains x=false→ρ 0= .sl o 1 (Za l)→ρ 1= .str x→ρ 5= .int .i64 pre.length→
  R F.tb (.loop F.f574l0) ρ bs (Qh 0 (Qq F.tb F.f574r0 (Qx F.f574 bs)))=some (.int .i64 (ixF l x),bs):=by
 intro post
 induction post with
 | nil=>
  intro pre o ρ hk hpp h0 h1 h8;simp only[List.append_nil]at hk;rw[← hk]at h8 hpp;rw[Qb F.f574l0.eq_1,BP hpp];simp[h0,h1,h8,QE,F.f574r0]
 | cons a post IH=>
  intro pre o ρ hk hpp h0 h1 h8;have hgt:=YN (Qn hk);have hll:=Qu hk;have hw1:=wr1 pre.length (by omega);have hlt:=Qv hk;have ih:=fun ρ hpp=>IH (pre ++ [a]) o ρ (by rw[hk];simp) hpp;rw[Qb F.f574l0.eq_1];by_cases ho:x=a
  ·rw[BO (by rw[hk,ho]) hpp];simp[h0,h1,h8,hlt,hgt,QE,← ho]
  ·have hb: (a == x)=false:=by simpa using fun e=>ho e.symm
   have ih2:=fun ρ=>ih ρ (B4 hpp ho);simp[h0,h1,h8,hlt,hgt,hw1,hb,QE,-List.contains_eq_mem];apply ih2 <;> simp[h0,h1]
theorem RO (l:List Nm) (x:Nm) (o:Bool) (bs:List (List AV)) (hl:l.length < 1000000):call F.tb 574 [.sl o 1 (Za l),.str x] bs=some (.int .i64 (ixF l x),bs):=by
 have h1:=fun ρ=>BB l x bs hl l [] false ρ rfl rfl;rw[Qa F.tb_574 _ _ rfl];simp[F.f574C,-List.contains_eq_mem];apply h1 <;> simp[QE]
theorem BI (s:Nm) (bs:List (List AV)) (hl:s.length < 1000000):
  ∀(post pre:Nm) (ρ:Nat→AV),s=pre ++ post→pre.contains 35=false→ρ 0= .str s→ρ 3= .int .i64 pre.length→
  R F.tb (.loop F.f573l0) ρ bs (Qh 0 (Qq F.tb F.f573r0 (Qx F.f573 bs)))=some (.bool (s.contains 35),bs):=by
 intro post
 induction post with
 | nil=>
  intro pre ρ hk hpp h0 h3;simp only[List.append_nil]at hk;rw[← hk]at h3 hpp;rw[Qb F.f573l0.eq_1,hpp];simp[h0,h3,F.f573r0]
 | cons a post IH=>
  intro pre ρ hk hpp h0 h3;have hgt:=Qn hk;have hll:=Qu hk;have hw1:=wr1 pre.length (by omega);have hlt:=Qv hk;have ih:=fun ρ hpp=>IH (pre ++ [a]) ρ (by rw[hk];simp) hpp;rw[Qb F.f573l0.eq_1];by_cases ho:a=35
  ·have:s.contains 35=true:=by rw[hk,ho];simp
   rw[this];simp[h0,h3,hlt,hgt,ho]
  ·have hb: ¬a.toNat=35:=fun e=>ho (UInt8.toNat_inj.1 (by simpa using e));have ih2:=fun ρ=>ih ρ (by
    simp only[List.contains_eq_mem,decide_eq_false_iff_not,List.mem_append,List.mem_singleton]at hpp ⊢;exact fun h=>h.elim hpp fun e=>ho e.symm)
   have hbi: ¬((a.toNat:Int)=35):=by omega
   simp[h0,h3,hlt,hgt,hw1,hb,hbi,-List.contains_eq_mem];apply ih2 <;> simp[h0]
theorem QdG (s:Nm) (bs:List (List AV)) (hl:s.length < 1000000):call F.tb 573 [.str s] bs=some (.bool (s.contains 35),bs):=by
 have h1:=fun ρ=>BI s bs hl s [] ρ rfl rfl;rw[Qa F.tb_573 _ _ rfl];simp[F.f573C,-List.contains_eq_mem];apply h1 <;> simp
theorem PH: ∀(s:Nm) (c:UInt8),decide (0≤Lib.indexByte s c)=s.contains c
 | [],c=>by simp[Lib.indexByte]
 | b:: l,c=>by
  have ih:=PH l c;have hg:=Lib.indexByte_ge l c;simp only[Lib.indexByte];by_cases h:b=c
  ·simp[h]
  ·have h1: (b == c)=false:=by simpa using h
   simp only[h1,Bool.false_eq_true,if_false];have h2: (b:: l).contains c=l.contains c:=by
    simp only[List.contains_cons];have: (c == b)=false:=by simpa using fun e=>h e.symm
    rw[this];simp
   rw[h2,← ih];by_cases h3:Lib.indexByte l c= -1
   ·rw[h3];simp
   ·have h4: (Lib.indexByte l c == -1)=false:=by simpa using h3
    rw[h4];have:0≤Lib.indexByte l c:=by omega
    simp[this];omega
theorem Qai (s:Nm) (bs:List (List AV)):call F.tb 484 [.str s,.str [35]] bs=some (.int .i64 (Lib.indexByte s 35),bs):=by
 have h:call F.tb 485 [.str s,.int .u8 35] bs=some (.int .i64 (Lib.indexByte s 35),bs):=by
  rw[Y6 F.tb_485];simp[YZ,I5]
 have h0: (bif [35] == s then 0 else Lib.indexByte s 35)=Lib.indexByte s 35:=by
  by_cases e:s=[35]
  ·subst e;decide
  ·have: ([35] == s)=false:=by simpa using fun h=>e h.symm
   rw[this];rfl
 rw[Qa F.tb_484 _ _ rfl];simp[h0,F.f484C,h]
theorem Qah (s:Nm) (bs:List (List AV)):call F.tb 482 [.str s,.str [35]] bs=some (.bool (s.contains 35),bs):=by
 have h:=Qai s bs;have h2:call F.tb 483 [.str s,.str [35]] bs=some (.int .i64 (Lib.indexByte s 35),bs):=by
  rw[Qa F.tb_483 _ _ rfl];simp[F.f483C,h]
 rw[Qa F.tb_482 _ _ rfl];simp[F.f482C,h2,PH,-List.contains_eq_mem]
def agN (a:Nm):Tm:= .mk 2 a 1 []
def skN (a:Nm):Tm:= .mk 3 [115,107] 0 [agN a]
def pkN (a:Nm):Tm:= .mk 3 [112,107] 0 [skN a]
def shN (a b:Nm):Tm:= .mk 3 [115,104,107] 0 [agN a,agN b]
theorem OW (a:Nm) (bs:List (List AV)):call F.tb 481 [.str a] bs=some (.agg (Qc (agN a)),bs):=by
 rw[Qa F.tb_481 _ _ rfl];simp[F.f481C,agN,Qc,encTs]
theorem La (n:Nm) (ks:List Tm) (o:Bool) (bs:List (List AV)):call F.tb 491 [.str n,.sl o 4 (encTs ks)] bs=some (.agg (Qc (.mk 3 n 0 ks)),bs):=by
 have hg:=encTs_gp ks;rw[Qa F.tb_491 _ _ rfl];simp[F.f491C,Qc,hg]
theorem G2 (a:Nm) (bs:List (List AV)):call F.tb 490 [.str a] bs=some (.agg (Qc (skN a)),bs):=by
 have h1:=OW a bs;have h2:=fun o=>La [115,107] [agN a] o bs;simp only[encTs]at h2;rw[Qa F.tb_490 _ _ rfl];simp[F.f490C,h1,h2,skN]
theorem Qdv (a:Nm) (bs:List (List AV)):call F.tb 494 [.str a] bs=some (.agg (Qc (pkN a)),bs):=by
 have h1:=G2 a bs;have h2:=fun o=>La [112,107] [skN a] o bs;simp only[encTs]at h2;rw[Qa F.tb_494 _ _ rfl];simp[F.f494C,h1,h2,pkN]
theorem Qdt (a b:Nm) (bs:List (List AV)):call F.tb 492 [.str a,.str b] bs=some (.agg (Qc (shN a b)),bs):=by
 have h1:=OW a bs;have h3:=OW b bs;have h2:=fun o=>La [115,104,107] [agN a,agN b] o bs;simp only[encTs]at h2;rw[Qa F.tb_492 _ _ rfl];simp[F.f492C,h1,h3,h2,shN]
theorem Lb (a:Nm) (bs:List (List AV)):call F.tb 578 [.str a] bs=some (.agg (Qc (agN a)),bs):=by
 have h:=F3 a 1 bs;rw[Qa F.tb_578 _ _ rfl];simp[F.f578C,h,agN]
theorem G5 (a:Nm) (bs:List (List AV)):call F.tb 577 [.str a] bs=some (.agg (Qc (skN a)),bs):=by
 have h1:=Lb a bs;have h2:=fun o=>XF [115,107] [agN a] o bs (by simp);simp only[encTs]at h2;rw[Qa F.tb_577 _ _ rfl];simp[F.f577C,h1,h2,skN]
theorem QdI (a:Nm) (bs:List (List AV)):call F.tb 576 [.str a] bs=some (.agg (Qc (pkN a)),bs):=by
 have h1:=G5 a bs;have h2:=fun o=>XF [112,107] [skN a] o bs (by simp);simp only[encTs]at h2;rw[Qa F.tb_576 _ _ rfl];simp[F.f576C,h1,h2,pkN]
theorem QdK (a b:Nm) (bs:List (List AV)):call F.tb 580 [.str a,.str b] bs=some (.agg (Qc (shN a b)),bs):=by
 have h1:=Lb a bs;have h3:=Lb b bs;have h2:=fun o=>XF [115,104,107] [agN a,agN b] o bs (by simp);simp only[encTs]at h2;rw[Qa F.tb_580 _ _ rfl];simp[F.f580C,h1,h3,h2,shN]
def Uc (a:Nm):Bool:= !Z4 a || a.contains 35
def agE:List Nm→List Nm→Int
 | _,[]=>0
 | pre,a:: r=>if Uc a then 2 else if pre.contains a then 5 else agE (pre ++ [a]) r
def bdE (ags:List Nm):Int→List Nm→Int
 | _,[]=>0
 | last,b:: r=>if ixF ags b < 0 then 4 else if ixF ags b≤last then 5 else bdE ags (ixF ags b) r
def Xx (ags bad:List Nm):Int:=if ags.length=0 then 8 else if 6 < ags.length then 3 else if agE [] ags≠0 then agE [] ags else bdE ags (-1) bad
def QU (ags bad:List Nm):List AV:=[.sl false 1 (Za ags),.sl false 1 (Za bad)]
theorem Dk (a:Nm):decide (QK (agN a)≠0)= !Z4 a:=by
 unfold QK agN;simp only[Xs,errL,Uv,Tm.nodes,Tm.depth,nodesL,depthL];cases h:Z4 a <;> simp[h]
theorem Qip (ags bad:List Nm) (bs:List (List AV)) (ha:ags.length < 1000000) (hb:bad.length < 1000000):
  ∀(post pre:List Nm) (last:Int) (o:Bool) (ρ:Nat→AV),bad=pre ++ post→ρ 1= .bx (QU ags bad)→ρ 5= .int .i64 last→ρ 43= .sl o 1 (Za bad)→ρ 44= .int .i64 bad.length→ρ 45= .int .i64 pre.length→
  R F.tb (.loop F.f480l1) ρ bs (Qh 3 (Qq F.tb F.f480r0 (Qx F.f480 bs)))=some (.int .i64 (bdE ags last post),bs):=by
 intro post
 induction post with
 | nil=>
  intro pre last o ρ hk h1 h5 h43 h44 h45;simp only[List.append_nil]at hk;rw[← hk]at h45;rw[Qb F.f480l1.eq_1];simp[h1,h5,h43,h44,h45,bdE,F.f480r0]
 | cons b post IH=>
  intro pre last o ρ hk h1 h5 h43 h44 h45;have hgt:=YN (Qn hk);have hll:=Qu hk;have hw1:=wr1 pre.length (by omega);have hlt:=Qv hk;have hc:=Ir ags b false bs ha;have ih:=fun ρ=>IH (pre ++ [b]) (ixF ags b) o ρ (by rw[hk];simp);rw[Qb F.f480l1.eq_1];simp only[bdE];generalize ixF ags b=z at *;simp only[QU]at h1;by_cases c1:z < 0
  ·simp[h1,h5,h43,h44,h45,hlt,hgt,hc,c1]
  ·by_cases c2:z≤last
   ·simp[h1,h5,h43,h44,h45,hlt,hgt,hc,c1,c2]
   ·rw[if_neg c1,if_neg c2];simp[h1,h5,h43,h44,h45,hlt,hgt,hc,c1,c2,hw1];apply ih <;> simp[h1,h43,h44,QU]
theorem Qio (ags bad:List Nm) (bs:List (List AV)) (ha:ags.length < 1000000) (hb:bad.length < 1000000) (hm: ∀a∈ags,a.length < 1000000):
  ∀(post pre:List Nm) (o:Bool) (ρ:Nat→AV),ags=pre ++ post→ρ 1= .bx (QU ags bad)→ρ 20= .sl o 1 (Za ags)→ρ 21= .int .i64 ags.length→ρ 22= .int .i64 pre.length→
  R F.tb (.loop F.f480l0) ρ bs (Qh 1 (Qq F.tb F.f480r1 (Qx F.f480 bs)))=some (.int .i64 (if agE pre post≠0 then agE pre post else bdE ags (-1) bad),bs):=by
 intro post
 induction post with
 | nil=>
  intro pre o ρ hk h1 h20 h21 h22;simp only[List.append_nil]at hk;rw[← hk]at h22;have h:=fun ρ=>Qip ags bad bs ha hb bad [] (-1) false ρ rfl;rw[Qb F.f480l0.eq_1];simp only[QU]at h1;simp[h1,h20,h21,h22,agE,F.f480r1];apply h <;> simp[h1,QU,QE]
 | cons a post IH=>
  intro pre o ρ hk h1 h20 h21 h22;have hgt:=YN (Qn hk);have hll:=Qu hk;have hw1:=wr1 pre.length (by omega);have hlt:=Qv hk;have hle:pre.length≤ags.length:=by omega
  have hlei: (pre.length:Int)≤(ags.length:Int):=by omega
  have htk:=Mf hk;have c481:=OW a bs;have am: (agN a).mass < big:=by have:=hm a (by rw[hk];simp);simp only[agN,Tm.mass,massL,List.length_nil];unfold big;omega
  have c6:=XZ (agN a) bs am;have c482:=Qah a bs;have c161:=Pb pre a false bs (by omega);have hv:=Dk a;have ih:=fun ρ=>IH (pre ++ [a]) o ρ (by rw[hk];simp);rw[Qb F.f480l0.eq_1];simp only[agE];simp only[QU]at h1;have v1:Z4 a=true→QK (agN a)=0:=fun e=>by rw[e]at hv;simpa using hv
  have v2:Z4 a=false→¬QK (agN a)=0:=fun e=>by rw[e]at hv;simpa using hv
  clear hv;cases hX:Z4 a
  ·have v0:=v2 hX;have eb:Uc a=true:=by simp[Uc,hX]
   simp[h1,h20,h21,h22,hlt,hgt,c481,c6,v0,eb]
  ·have v0:=v1 hX;cases hY:a.contains 35
   ·have eb:Uc a=false:=by simp only[Uc,hX,hY];rfl
    rw[hY]at c482;rcases Bool.eq_false_or_eq_true (pre.contains a)with hZ | hZ
    ·rw[hZ]at c161;simp[h1,h20,h21,h22,hlt,hgt,c481,c6,v0,c482,hlei,htk,c161,hw1,QE,eb,hZ,-List.contains_eq_mem]
    ·rw[hZ]at c161;simp[h1,h20,h21,h22,hlt,hgt,c481,c6,v0,c482,hlei,htk,c161,hw1,QE,eb,hZ,-List.contains_eq_mem];have ih2:=ih;simp only[Ne,ite_not]at ih2;rw[ih2] <;> simp[h1,h20,h21,QU]
   ·have eb:Uc a=true:=by simp only[Uc,hX,hY];rfl
    rw[hY]at c482;simp[h1,h20,h21,h22,hlt,hgt,c481,c6,v0,c482,eb]
theorem Qdr (ags bad:List Nm) (bs:List (List AV)) (ha:ags.length < 1000000) (hb:bad.length < 1000000) (hm: ∀a∈ags,a.length < 1000000):
  call F.tb 480 [.agg (QU ags bad)] bs=some (.int .i64 (Xx ags bad),bs):=by
 have h:=fun ρ=>Qio ags bad bs ha hb hm ags [] false ρ rfl;rw[Qa F.tb_480 _ _ rfl];unfold Xx;by_cases c0:ags.length=0
 ·have:ags=[]:=List.eq_nil_of_length_eq_zero c0;subst this;simp[F.f480C,QU,Za]
 ·have c0':ags≠[]:=fun e=>c0 (by simp[e]);by_cases c1:6 < ags.length
  ·have c1': (6:Int) < (ags.length:Int):=by omega
   simp[F.f480C,QU,QE,c0,c0',c1,c1']
  ·have c1': ¬(6:Int) < (ags.length:Int):=by omega
   rw[if_neg c0,if_neg c1];simp[F.f480C,QU,QE,c0,c0',c1'];have h2:=h;simp only[Ne,ite_not]at h2;rw[h2] <;> simp[QU]
theorem Qi2 (ags bad:List Nm) (bs:List (List AV)) (ha:ags.length < 1000000) (hb:bad.length < 1000000):
  ∀(post pre:List Nm) (last:Int) (ρ:Nat→AV),bad=pre ++ post→ρ 1= .bx (QU ags bad)→ρ 4= .int .i64 last→ρ 5= .int .i64 pre.length→
  R F.tb (.loop F.f572l1) ρ bs (Qh 2 (Qq F.tb F.f572r0 (Qx F.f572 bs)))=some (.int .i64 (bdE ags last post),bs):=by
 intro post
 induction post with
 | nil=>
  intro pre last ρ hk h1 h4 h5;simp only[List.append_nil]at hk;rw[← hk]at h5;simp only[QU]at h1;rw[Qb F.f572l1.eq_1];simp[h1,h4,h5,QE,bdE,F.f572r0]
 | cons b post IH=>
  intro pre last ρ hk h1 h4 h5;have hgt:=YN (Qn hk);have hll:=Qu hk;have hw1:=wr1 pre.length (by omega);have hlt:=Qv hk;have hc:=RO ags b false bs ha;have ih:=fun ρ=>IH (pre ++ [b]) (ixF ags b) ρ (by rw[hk];simp);rw[Qb F.f572l1.eq_1];simp only[bdE];generalize ixF ags b=z at *;simp only[QU]at h1;by_cases c1:z < 0
  ·simp[h1,h4,h5,QE,hlt,hgt,hc,c1]
  ·by_cases c2:z≤last
   ·simp[h1,h4,h5,QE,hlt,hgt,hc,c1,c2]
   ·rw[if_neg c1,if_neg c2];simp[h1,h4,h5,QE,hlt,hgt,hc,c1,c2,hw1];apply ih <;> simp[h1,QU]
theorem Qi1 (ags bad:List Nm) (bs:List (List AV)) (ha:ags.length < 1000000) (hb:bad.length < 1000000) (hm: ∀a∈ags,a.length < 1000000):
  ∀(post pre:List Nm) (ρ:Nat→AV),ags=pre ++ post→ρ 1= .bx (QU ags bad)→ρ 3= .int .i64 pre.length→
  R F.tb (.loop F.f572l0) ρ bs (Qh 0 (Qq F.tb F.f572r1 (Qx F.f572 bs)))=some (.int .i64 (if agE pre post≠0 then agE pre post else bdE ags (-1) bad),bs):=by
 intro post
 induction post with
 | nil=>
  intro pre ρ hk h1 h3;simp only[List.append_nil]at hk;rw[← hk]at h3;have h:=fun ρ=>Qi2 ags bad bs ha hb bad [] (-1) ρ rfl;rw[Qb F.f572l0.eq_1];simp only[QU]at h1;simp[h1,h3,QE,agE,F.f572r1];apply h <;> simp[h1,QU,QE]
 | cons a post IH=>
  intro pre ρ hk h1 h3;have hgt:=YN (Qn hk);have hll:=Qu hk;have hw1:=wr1 pre.length (by omega);have hlt:=Qv hk;have hlei: (pre.length:Int)≤(ags.length:Int):=by omega
  have htk:=Mf hk;have am:=hm a (by rw[hk];simp);have c57:=P0 a bs (by omega);have c573:=QdG a bs am;have c574:=RO pre a false bs (by omega);have hge:=Oo (l:=pre) (x:=a);have ih:=fun ρ=>IH (pre ++ [a]) ρ (by rw[hk];simp);rw[Qb F.f572l0.eq_1];simp only[agE];simp only[QU]at h1;cases hX:Z4 a
  ·have eb:Uc a=true:=by simp[Uc,hX]
   rw[hX]at c57;simp[h1,h3,QE,hlt,hgt,c57,eb]
  ·rw[hX]at c57;cases hY:a.contains 35
   ·have eb:Uc a=false:=by simp only[Uc,hX,hY];rfl
    rw[hY]at c573;rcases Bool.eq_false_or_eq_true (pre.contains a)with hZ | hZ
    ·rw[hZ]at hge;have hg2:0≤ixF pre a:=by simpa using hge
     simp[h1,h3,QE,hlt,hgt,c57,c573,hlei,htk,c574,hg2,hw1,eb,hZ,-List.contains_eq_mem]
    ·rw[hZ]at hge;have hg2: ¬0≤ixF pre a:=by simpa using hge
     simp[h1,h3,QE,hlt,hgt,c57,c573,hlei,htk,c574,hg2,hw1,eb,hZ,-List.contains_eq_mem];have ih2:=ih;simp only[Ne,ite_not]at ih2;rw[ih2] <;> simp[h1,QU]
   ·have eb:Uc a=true:=by simp only[Uc,hX,hY];rfl
    rw[hY]at c573;simp[h1,h3,QE,hlt,hgt,c57,c573,eb]
theorem G4 (ags bad:List Nm) (bs:List (List AV)) (ha:ags.length < 1000000) (hb:bad.length < 1000000) (hm: ∀a∈ags,a.length < 1000000):
  call F.tb 572 [.agg (QU ags bad)] bs=some (.int .i64 (Xx ags bad),bs):=by
 have h:=fun ρ=>Qi1 ags bad bs ha hb hm ags [] ρ rfl;rw[Qa F.tb_572 _ _ rfl];unfold Xx;by_cases c0:ags.length=0
 ·have:ags=[]:=List.eq_nil_of_length_eq_zero c0;subst this;simp[F.f572C,QU,Za]
 ·have c0':ags≠[]:=fun e=>c0 (by simp[e]);by_cases c1:6 < ags.length
  ·have c1': (6:Int) < (ags.length:Int):=by omega
   simp[F.f572C,QU,QE,c0,c0',c1,c1']
  ·have c1': ¬(6:Int) < (ags.length:Int):=by omega
   rw[if_neg c0,if_neg c1];simp[F.f572C,QU,QE,c0,c0',c1'];have h2:=h;simp only[Ne,ite_not]at h2;rw[h2] <;> simp[QU]
def Tu (l:List Nm):Bool:=l.all (fun s=>decide (s.length≤60)) && decide (l.length≤20)
theorem QaI {a b:List Nm} (h:Tu (a ++ b)=true):a.length≤20∧b.length≤20:=by
 unfold Tu at h;simp only[Bool.and_eq_true,decide_eq_true_eq,List.length_append]at h;omega
theorem Bm (a b:List Nm):Za (a ++ b)=Za a ++ Za b:=by simp[Za]
theorem Qej (l:List Nm) (bs:List (List AV)) (hl:l.length < 30000000000):
  ∀(post pre:List Nm) (o:Bool) (ρ:Nat→AV),l=pre ++ post→pre.all (fun s=>decide (s.length≤60))=true→ρ 3= .sl o 1 (Za l)→ρ 4= .int .i64 pre.length→
  R F.tb (.loop F.f569l0) ρ bs (Qh 0 (Qq F.tb F.f569r0 (Qx F.f569 bs)))=some (.bool (Tu l),bs):=by
 intro post
 induction post with
 | nil=>
  intro pre o ρ hk hp h3 h4;simp only[List.append_nil]at hk;rw[← hk]at h4 hp;have e:Tu l=decide ((l.length:Int)≤20):=by
   unfold Tu;rw[hp,Bool.true_and];exact decide_eq_decide.2 (by omega)
  rw[Qb F.f569l0.eq_1,e];simp[h3,h4,QE,F.f569r0]
 | cons a post IH=>
  intro pre o ρ hk hp h3 h4;have hgt:=YN (Qn hk);have hll:=Qu hk;have hw1:=wr1 pre.length (by omega);have hlt:=Qv hk;have ih:=fun ρ hp=>IH (pre ++ [a]) o ρ (by rw[hk];simp) hp;rw[Qb F.f569l0.eq_1];by_cases c:60 < a.length
  ·have e:Tu l=false:=by
    unfold Tu;have:l.all (fun s=>decide (s.length≤60))=false:=by
     rw[List.all_eq_false];exact⟨a,by rw[hk];simp,by simp;omega⟩
    rw[this];rfl
   have ci: (60:Int) < (a.length:Int):=by omega
   rw[e];simp[h3,h4,QE,hlt,hgt,ci]
  ·have ci: ¬(60:Int) < (a.length:Int):=by omega
   have ih2:=fun ρ=>ih ρ (by rw[List.all_append,hp];simp;omega);simp[h3,h4,QE,hlt,hgt,ci,hw1];apply ih2 <;> simp[h3]
theorem QdE (ags bad:List Nm) (bs:List (List AV)) (ha:ags.length < 10000000000) (hb:bad.length < 10000000000):
  call F.tb 569 [.agg (QU ags bad)] bs=some (.bool (Tu (ags ++ bad)),bs):=by
 have h:=fun o ρ=>Qej (ags ++ bad) bs (by simp;omega) (ags ++ bad) [] o ρ rfl rfl;simp only[Bm]at h;have e1:ags.length*16≤140737488355328:=by omega
 have e2: (ags.length+bad.length)*16≤140737488355328:=by omega
 rw[Qa F.tb_569 _ _ rfl];simp[F.f569C,QU,QE,e1,e2];refine h true _ ?_ ?_ <;> simp
def shB (sm:List Nm) (a b:Nm):Bool:= !(a == b) && (sm.contains a || sm.contains b)
def shL (sm:List Nm) (a:Nm) (l:List Nm):List Tm:=(l.filter (shB sm a)).map (shN a)
def skL (sm:List Nm) (a:Nm):List Tm:=if sm.contains a then [skN a]else []
def Yp (ags sm:List Nm):List Nm→List Tm
 | []=>[]
 | a:: r=>(skL sm a ++ shL sm a ags)++ Yp ags sm r
theorem Ls (sm:List Nm) (a:Nm) (l:List Nm): (shL sm a l).length≤l.length:=by
 unfold shL;rw[List.length_map];exact List.length_filter_le _ _
theorem Lt (sm:List Nm) (a:Nm): (skL sm a).length≤1:=by unfold skL;split <;> simp
theorem R9 (ags sm:List Nm): ∀l:List Nm,(Yp ags sm l).length≤l.length* (ags.length+1)
 | []=>by simp[Yp]
 | a:: r=>by
  have h1:=Ls sm a ags;have h2:=Lt sm a;have h3:=R9 ags sm r;simp only[Yp,List.length_append,List.length_cons,Nat.succ_mul];omega
theorem Qh2 (ags sm:List Nm) (a:Nm) (B0:List (List AV)) (ha:ags.length < 1000) (hs:sm.length < 1000000) (c:AC) (K:Kn) (P:Out→Prop):
  ∀(post pre:List Nm) (acc:List Tm) (B:List (List AV)) (v:AV) (o o2:Bool) (ρ:Nat→AV),ags=pre ++ post→TS B0 B v acc→acc.length+post.length < 100000→
   ρ 1= .sl o2 1 (Za sm)→ρ 5=v→ρ 7= .str a→ρ 26= .sl o 1 (Za ags)→ρ 27= .int .i64 ags.length→ρ 28= .int .i64 pre.length→
   (∀(ρ':Nat→AV) (B':List (List AV)) (v':AV),TS B0 B' v' (acc ++ shL sm a post)→ρ' 5=v'→(∀j,j < 26→j≠5→j≠9→ρ' j=ρ j)→P (R F.tb c ρ' B' K))→
  P (R F.tb (.loop F.f489l0) ρ B (Qh 2 (Qh 1 (Qq F.tb c K)))):=by
 intro post
 induction post with
 | nil=>
  intro pre acc B v o o2 ρ hk hts hal h1 h5 h7 h26 h27 h28 h;simp only[List.append_nil]at hk;rw[← hk]at h28;rw[Qb F.f489l0.eq_1];simp[h1,h26,h27,h28];refine h _ B v (by simpa[shL]using hts) ?_ ?_
  ·simp[h5]
  ·intro j hj h3j h7j;have:j≠29:=by omega
   simp[this]
 | cons b post IH=>
  intro pre acc B v o o2 ρ hk hts hal h1 h5 h7 h26 h27 h28 h;have hgt:=YN (Qn hk);have hll:=Qu hk;have hw1:=wr1 pre.length (by omega);have hlt:=Qv hk;simp only[List.length_cons]at hal;have c1:=Pb sm a false B hs;have c2:=Pb sm b false B hs;have hjn: ∀j:Nat,j < 26→j≠28∧j≠29∧j≠30∧j≠31∧j≠32∧j≠33∧j≠34∧j≠35∧j≠36∧j≠37∧j≠38∧j≠39∧j≠40∧j≠41∧j≠42∧j≠43∧j≠44∧j≠45∧j≠46∧j≠47∧j≠48∧j≠49∧j≠50∧j≠51:=by intro j hj;omega
  obtain⟨id,sz,rfl⟩:=Wg hts;rw[Qb F.f489l0.eq_1];have skip:shB sm a b=false→∀ρ2:Nat→AV,ρ2 1= .sl o2 1 (Za sm)→ρ2 5= .gs id 0 sz acc.length→ρ2 7= .str a→ρ2 26= .sl o 1 (Za ags)→ρ2 27= .int .i64 ags.length→ρ2 28= .int .i64 ((pre ++ [b]).length:Nat)→(∀j,j < 26→j≠5→j≠9→ρ2 j=ρ j)→
    P (R F.tb (.loop F.f489l0) ρ2 B (Qh 2 (Qh 1 (Qq F.tb c K)))):=by
   intro hb ρ2 a1 a5 a7 a26 a27 a28 aj;have e:shL sm a (b:: post)=shL sm a post:=by simp[shL,hb]
   refine IH (pre ++ [b]) acc B _ o o2 ρ2 (by rw[hk];simp) hts (by omega) a1 a5 a7 a26 a27 a28 fun ρ' B' v' t1 t2 t3=>h ρ' B' v' (by rw[e];exact t1) t2 fun j j1 j2 j3=> ?_;rw[t3 j j1 j2 j3,aj j j1 j2 j3]
  have take:shB sm a b=true→∃v2 B2,appM 56 4 (.gs id 0 sz acc.length) (.sl false 4 [Qc (shN a b)]) B=some (v2,B2)∧(∃id2 sz2 n2,v2= .gs id2 0 sz2 n2)∧∀ρ2:Nat→AV,ρ2 1= .sl o2 1 (Za sm)→ρ2 5=v2→ρ2 7= .str a→ρ2 26= .sl o 1 (Za ags)→ρ2 27= .int .i64 ags.length→ρ2 28= .int .i64 ((pre ++ [b]).length:Nat)→(∀j,j < 26→j≠5→j≠9→ρ2 j=ρ j)→
    P (R F.tb (.loop F.f489l0) ρ2 B2 (Qh 2 (Qh 1 (Qq F.tb c K)))):=by
   intro hb;obtain⟨v2,B2,q1,q2,_⟩:=O9 (shN a b) false hts (by omega);obtain⟨id2,sz2,rfl⟩:=Wg q2;refine⟨_,B2,q1,⟨_,_,_,rfl⟩,fun ρ2 a1 a5 a7 a26 a27 a28 aj=> ?_⟩;have e:acc ++ shL sm a (b:: post)=(acc ++ [shN a b])++ shL sm a post:=by simp[shL,hb]
   refine IH (pre ++ [b]) (acc ++ [shN a b]) B2 _ o o2 ρ2 (by rw[hk];simp) q2 (by simp;omega) a1 a5 a7 a26 a27 a28 fun ρ' B' v' t1 t2 t3=>h ρ' B' v' (by rw[e];exact t1) t2 fun j j1 j2 j3=> ?_;rw[t3 j j1 j2 j3,aj j j1 j2 j3]
  have c492:=Qdt a b B;by_cases hab:a=b
  ·have hb:shB sm a b=false:=by simp[shB,hab]
   subst hab;simp[h1,h5,h7,h26,h27,h28,hgt,hlt,hw1];apply skip hb
   all_goals first | (intro j j1 j2 j3;have:=hjn j j1;simp[this,j2,j3];done) | simp[h1,h5,h7,h26,h27]
  ·have hab': (a == b)=false:=by simpa using hab
   cases hA:sm.contains a
   ·rw[hA]at c1;cases hB:sm.contains b
    ·rw[hB]at c2;have hb:shB sm a b=false:=by unfold shB;rw[hA,hB];simp
     simp[h1,h5,h7,h26,h27,h28,hgt,hlt,hw1,hab',c1,c2];apply skip hb
     all_goals first | (intro j j1 j2 j3;have:=hjn j j1;simp[this,j2,j3];done) | simp[h1,h5,h7,h26,h27]
    ·rw[hB]at c2;have hb:shB sm a b=true:=by unfold shB;rw[hA,hB,hab'];rfl
     obtain⟨v2,B2,q1,⟨id2,sz2,n2,rfl⟩,key⟩:=take hb;simp[h1,h5,h7,h26,h27,h28,hgt,hlt,hw1,hab',c1,c2,c492,q1];apply key
     all_goals first | (intro j j1 j2 j3;have:=hjn j j1;simp[this,j2,j3];done) | simp[h1,h5,h7,h26,h27]
   ·rw[hA]at c1;have hb:shB sm a b=true:=by unfold shB;rw[hA,hab'];rfl
    obtain⟨v2,B2,q1,⟨id2,sz2,n2,rfl⟩,key⟩:=take hb;simp[h1,h5,h7,h26,h27,h28,hgt,hlt,hw1,hab',c1,c492,q1];apply key
    all_goals first | (intro j j1 j2 j3;have:=hjn j j1;simp[this,j2,j3];done) | simp[h1,h5,h7,h26,h27]
theorem Qh3 (ags bad sm:List Nm) (B0:List (List AV)) (ha:ags.length < 100) (hs:sm.length < 1000000):
  ∀(post pre:List Nm) (acc:List Tm) (B:List (List AV)) (v:AV) (o o2:Bool) (ρ:Nat→AV),ags=pre ++ post→TS B0 B v acc→acc.length+post.length* (ags.length+1) < 20000→
   ρ 1= .sl o2 1 (Za sm)→ρ 2= .bx (QU ags bad)→ρ 5=v→ρ 11= .sl o 1 (Za ags)→ρ 12= .int .i64 ags.length→ρ 13= .int .i64 pre.length→
   ∃v' B',R F.tb (.loop F.f489l1) ρ B (Qh 0 (Qq F.tb F.f489r1 (Qx F.f489 B0)))=some (v',B')∧TS B0 B' v' (acc ++ Yp ags sm post):=by
 intro post
 induction post with
 | nil=>
  intro pre acc B v o o2 ρ hk hts hal h1 h2 h5 h11 h12 h13;simp only[List.append_nil]at hk;rw[← hk]at h13;obtain⟨id,sz,rfl⟩:=Wg hts;refine⟨_,B,?_,by simpa[Yp]using hts⟩;rw[Qb F.f489l1.eq_1];simp[h1,h5,h11,h12,h13,F.f489r1]
 | cons a post IH=>
  intro pre acc B v o o2 ρ hk hts hal h1 h2 h5 h11 h12 h13;have hgt:=YN (Qn hk);have hll:=Qu hk;have hw1:=wr1 pre.length (by omega);have hlt:=Qv hk;have hsh:=Ls sm a ags;simp only[List.length_cons,Nat.succ_mul]at hal;have c1:=Pb sm a false B hs;have c490:=G2 a B;have go: ∀(acc2:List Tm) (B2:List (List AV)) (v2:AV),TS B0 B2 v2 acc2→acc2=acc ++ skL sm a→∀ρ2:Nat→AV,ρ2 1= .sl o2 1 (Za sm)→ρ2 2= .bx (QU ags bad)→ρ2 5=v2→ρ2 7= .str a→ρ2 11= .sl o 1 (Za ags)→ρ2 12= .int .i64 ags.length→ρ2 13= .int .i64 pre.length→
    ρ2 26= .sl false 1 (Za ags)→ρ2 27= .int .i64 ags.length→ρ2 28= .int .i64 0→
    ∃v' B',R F.tb (.loop F.f489l0) ρ2 B2 (Qh 2 (Qh 1 (Qq F.tb F.f489r0 (Qq F.tb (.loop F.f489l1) (Qh 0 (Qq F.tb F.f489r1 (Qx F.f489 B0)))))))=some (v',B')∧TS B0 B' v' (acc ++ Yp ags sm (a:: post)):=by
   intro acc2 B2 v2 t2 e2 ρ2 a1 a2 a5 a7 a11 a12 a13 a26 a27 a28;have hsk:=Lt sm a;refine Qh2 ags sm a B0 (by omega) hs F.f489r0 _ (fun r=>∃v' B',r=some (v',B')∧TS B0 B' v' (acc ++ Yp ags sm (a:: post))) ags [] acc2 B2 v2 false o2 ρ2 rfl t2 (by rw[e2,List.length_append];omega) a1 a5 a7 a26 a27 (by simpa using a28) ?_;intro ρ' B' v' t1 t5 tj;have e3:acc ++ Yp ags sm (a:: post)=(acc2 ++ shL sm a ags)++ Yp ags sm post:=by rw[e2];simp[Yp]
   rw[e3];obtain⟨id,sz,rfl⟩:=Wg t1;have ih:=fun ρ=>IH (pre ++ [a]) (acc2 ++ shL sm a ags) B' _ o o2 ρ (by rw[hk];simp) t1 (by rw[List.length_append,e2,List.length_append];omega);have b1:=tj 1 (by omega) (by omega) (by omega);have b2:=tj 2 (by omega) (by omega) (by omega);have b11:=tj 11 (by omega) (by omega) (by omega);have b12:=tj 12 (by omega) (by omega) (by omega);have b13:=tj 13 (by omega) (by omega) (by omega);rw[a1]at b1;rw[a2]at b2;rw[a11]at b11;rw[a12]at b12;rw[a13]at b13
   simp[-List.append_assoc,F.f489r0,b13,hw1];apply ih <;> simp[b1,b2,t5,b11,b12]
  rw[Qb F.f489l1.eq_1];cases hA:sm.contains a
  ·rw[hA]at c1;have e2:acc=acc ++ skL sm a:=by unfold skL;rw[hA];simp
   have g:=fun ρ2=>go acc B v hts e2 ρ2;obtain⟨id,sz,rfl⟩:=Wg hts;simp only[QU]at h2 g;simp[h1,h2,h5,h11,h12,h13,hgt,hlt,c1];apply g <;> simp[h1,h2,h5,h11,h12,h13,QE]
  ·rw[hA]at c1;obtain⟨v2,B2,q1,q2,_⟩:=O9 (skN a) false hts (by omega);have e2:acc ++ [skN a]=acc ++ skL sm a:=by unfold skL;rw[hA];simp
   have g:=fun ρ2=>go (acc ++ [skN a]) B2 v2 q2 e2 ρ2;obtain⟨id,sz,rfl⟩:=Wg hts;obtain⟨id2,sz2,rfl⟩:=Wg q2;simp only[QU]at h2 g;simp[h1,h2,h5,h11,h12,h13,hgt,hlt,c1,c490,q1];apply g <;> simp[h1,h2,h5,h11,h12,h13,QE]
theorem Qds (ags bad sm:List Nm) (o:Bool) (B0:List (List AV)) (ha:ags.length < 100) (hs:sm.length < 1000000):
  ∃v B,call F.tb 489 [.agg (QU ags bad),.sl o 1 (Za sm)] B0=some (v,B)∧TS B0 B v (Yp ags sm ags):=by
 have hq:ags.length* (ags.length+1)≤99*100:=Nat.mul_le_mul (by omega) (by omega);have h:=fun ρ=>Qh3 ags bad sm B0 ha hs ags [] [] B0 (.gs 0 0 0 0) false false ρ rfl (AJ B0) (by simp;omega);simp only[QU,List.nil_append]at h;rw[Qa F.tb_489 _ _ rfl];simp[F.f489C,QU];apply h <;> simp[QE]
theorem NM {a:Nm} (h:a.length≤1000): (pkN a).mass < 10000:=by simp only[pkN,skN,agN,Tm.mass,massL,List.length_cons,List.length_nil];omega
theorem QbC {a:Nm} (h:a.length≤1000): (skN a).mass < 10000:=by simp only[skN,agN,Tm.mass,massL,List.length_cons,List.length_nil];omega
theorem Qbz {a b:Nm} (h:a.length≤1000) (h2:b.length≤1000): (shN a b).mass < 10000:=by simp only[shN,agN,Tm.mass,massL,List.length_cons,List.length_nil];omega
theorem TP {ags sm:List Nm} (hm: ∀a∈ags,a.length≤1000): ∀(l:List Nm),(∀a∈l,a.length≤1000)→∀x∈Yp ags sm l,x.mass < 10000
 | [],_,x,hx=>by simp[Yp]at hx
 | a:: r,hl,x,hx=>by
  simp only[Yp,List.mem_append]at hx;rcases hx with(hx | hx) | hx
  ·unfold skL at hx;split at hx
   ·simp at hx;subst hx;exact QbC (hl a (by simp))
   ·simp at hx
  ·unfold shL at hx;obtain⟨b,hb,rfl⟩:=List.mem_map.1 hx;exact Qbz (hl a (by simp)) (hm b (List.mem_filter.1 hb).1)
  ·exact TP hm r (fun y hy=>hl y (by simp[hy])) x hx
theorem Qi6 (ags:List Nm) (B0 B1:List (List AV)) (ha:ags.length < 1000) (hm: ∀a∈ags,a.length≤1000) (hB1:B0.length≤B1.length):
  ∀(post pre:List Nm) (acc:List Tm) (B:List (List AV)) (v:AV) (o:Bool) (ρ:Nat→AV),ags=pre ++ post→TS B0 B v acc→Ch B1 B→acc.length+post.length < 100000→(∀x∈acc,x.mass < 1000000)→
   ρ 1=v→ρ 8= .sl o 1 (Za ags)→ρ 9= .int .i64 ags.length→ρ 10= .int .i64 pre.length→
   ∃M,R F.tb (.loop F.f493l0) ρ B (Qh 0 (Qq F.tb F.f493r0 (Qx F.f493 B1)))=some (.sl true 4 (encTs (Yf (acc ++ post.map pkN))),B0 ++ M):=by
 intro post
 induction post with
 | nil=>
  intro pre acc B v o ρ hk hts hch hal ham h1 h8 h9 h10;simp only[List.append_nil]at hk;rw[← hk]at h10;obtain⟨M,q1,q2,q3⟩:=Qdw hts (by simp at hal;omega) ham;have hck:=(hch.trans q2).take;have hg:=encTs_gp (Yf acc);have htk: (B0 ++ M).take B1.length=B0 ++ M.take (B1.length - B0.length):=by
   rw[List.take_append,List.take_of_length_le (by omega)]
  obtain⟨id,sz,rfl⟩:=Wg hts;refine⟨M.take (B1.length - B0.length),?_⟩;rw[htk]at hck;rw[Qb F.f493l0.eq_1];simp only[List.map_nil,List.append_nil];generalize encTs (Yf acc)=E at *;simp[h1,h8,h9,h10,F.f493r0,q1,htk,hck,hg]
 | cons a post IH=>
  intro pre acc B v o ρ hk hts hch hal ham h1 h8 h9 h10;have hgt:=YN (Qn hk);have hll:=Qu hk;have hw1:=wr1 pre.length (by omega);have hlt:=Qv hk;simp only[List.length_cons]at hal;have c494:=Qdv a B;obtain⟨v2,B2,q1,q2,q3⟩:=O9 (pkN a) false hts (by omega);have hpm:=NM (hm a (by rw[hk];simp));have ih:=fun ρ=>IH (pre ++ [a]) (acc ++ [pkN a]) B2 v2 o ρ (by rw[hk];simp) q2 (q3 _ hch) (by simp;omega) (fun x hx=>by
   rcases List.mem_append.1 hx with hx | hx
   ·exact ham x hx
   ·simp at hx;subst hx;omega)
  have e:acc ++ (a:: post).map pkN=(acc ++ [pkN a])++ post.map pkN:=by simp
  obtain⟨id,sz,rfl⟩:=Wg hts;obtain⟨id2,sz2,rfl⟩:=Wg q2;rw[Qb F.f493l0.eq_1,e];simp[-List.append_assoc,h1,h8,h9,h10,hlt,hgt,hw1,c494,q1];apply ih <;> simp[h8,h9]
theorem Qdu (ags bad:List Nm) {B0 B1:List (List AV)} {v:AV} {l:List Tm} (h:TS B0 B1 v l) (ha:ags.length < 1000) (hm: ∀a∈ags,a.length≤1000) (hl:l.length < 50000) (hlm: ∀x∈l,x.mass < 1000000):
  ∃M,call F.tb 493 [.agg (QU ags bad),v] B1=some (.sl true 4 (encTs (Yf (l ++ ags.map pkN))),B0 ++ M):=by
 have hB1:B0.length≤B1.length:=by obtain⟨M,_,_,rfl,_⟩:=h;simp
 have hh:=fun ρ=>Qi6 ags B0 B1 ha hm hB1 ags [] l B1 v false ρ rfl h (Ch.refl _) (by omega) hlm;obtain⟨id,sz,rfl⟩:=Wg h;rw[Qa F.tb_493 _ _ rfl];simp[-List.append_assoc,F.f493C,QU];apply hh <;> simp[QE]
def Wl (ags bad:List Nm):List Tm:=Yf (Yp ags bad ags ++ ags.map pkN)
def Lj (ags bad:List Nm):AV:=if Xx ags bad≠0 then .tup [.sl false 4 [],.int .i64 (Xx ags bad)]else .tup [.sl false 4 (encTs (Wl ags bad)),.int .i64 0]
theorem P8 {ags bad:List Nm} (h:Xx ags bad=0):ags.length≤6:=by
 unfold Xx at h;split at h
 ·cases h
 ·split at h
  ·cases h
  ·omega
theorem Qdq (ags bad:List Nm) (B0:List (List AV)) (ha:ags.length < 1000000) (hb:bad.length < 1000000) (hm: ∀a∈ags,a.length≤1000):
  call F.tb 479 [.agg (QU ags bad)] B0=some (Lj ags bad,B0):=by
 have c480:=Qdr ags bad B0 ha hb fun a h=>by have:=hm a h;omega
 rw[Qa F.tb_479 _ _ rfl];unfold Lj;by_cases c:Xx ags bad=0
 ·have hl:=P8 c;obtain⟨v,B1,q1,q2⟩:=Qds ags bad bad false B0 (by omega) hb;have hbl:=R9 ags bad ags;have hq:ags.length* (ags.length+1)≤6*7:=Nat.mul_le_mul (by omega) (by omega);obtain⟨M,q3⟩:=Qdu ags bad q2 (by omega) hm (by omega) fun x hx=>by have:=TP (sm:=bad) hm ags hm x hx;omega
  have hg:=encTs_gp (Wl ags bad);rw[c]at c480;change call F.tb 493 _ _=some (.sl true 4 (encTs (Wl ags bad)),_)at q3;generalize encTs (Wl ags bad)=E at *;obtain⟨id,sz,rfl⟩:=Wg q2;simp only[QU]at *;simp[F.f479C,c480,c,q1,q3,hg]
 ·simp only[QU]at *;simp[F.f479C,c480,c]
end Go.Am
