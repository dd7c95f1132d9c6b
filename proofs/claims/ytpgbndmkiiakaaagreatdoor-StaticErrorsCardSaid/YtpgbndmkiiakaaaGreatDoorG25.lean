/-
  Sc19, Sc20, Sc21, Sc22, Sc23, Sc24, Sc25, Sc26.
-/
import Derived.Test.YtpgbndmkiiakaaaGreatDoorG24
set_option linter.unusedVariables false
set_option linter.unusedSimpArgs false
namespace Go.Am
set_option maxRecDepth 8000
def tsR (f:Fr) (l:List Rp) (g:Nat):List Rp→Nat→Option (List Tst)
 | [],_=>some []
 | x:: r,i=>if Rg f l x then none else(tsR f l g r (i+1)).map (YH l x i (decide (g≤i))++ ·)
def To (f:Fr):Option (List Tst):=match Vs f with
 | none=>none
 | some l=>tsR f l (Z4 f).length l 0
def UR (r:Option (List Tst)):AV:=match r with
 | some ts=> .tup [.sl false 9 (QK ts),.int .i64 0]
 | none=> .tup [.sl false 9 [],.int .i64 3]
theorem NM (l:List Rp) (x:Rp) (i:Nat) (g:Bool) (hi:i≤100000): (YH l x i g).length≤100004:=by
 have n1: (tsB x).length≤1:=by unfold tsB;split <;> simp
 have n2: (tsC l x).length≤1:=by unfold tsC;split <;> simp
 have n3: (tsD x g).length≤1:=by unfold tsD;split <;> simp
 have n5: (tsE l x).length≤1:=by unfold tsE;split <;> simp
 have n4: (tsA l x i).length≤i:=by
  unfold tsA;rw[List.length_map];have:=List.length_filter_le (fun y:Rp=>decide (Qm y.t x.t=0)) (l.take i);have h2: (l.take i).length≤i:=List.length_take_le _ _;omega
 unfold YH;simp only[List.length_append];omega
theorem O5 {n:Nat} (h:n≤1000000000000):n*120≤140737488355328:=by omega
theorem Qi0 (f:Fr) (hf:FOk f) (hM:massL f.t < 1000000) (x:Tm) (hx:x.mass < big) (pos:Nat) (bs:List (List AV)) (hp:bs[pos]? =some (Qj f)):
  call F.tb 431 [.agg (Qa x),.gp pos 0] bs=some (.bool (Yt f x),bs):=by
 have h:=Bm f hf hM x hx bs;have e:=Qg x;have hte:Qj f=[.sl false 4 (encTs f.s),.sl false 4 (encTs f.t)]:=rfl;rw[e,hte]at h;rw[hte]at hp;rw[Qb F.tb_431 _ _ rfl];simp[F.f431C,e,hp,h]
theorem Qnp (f:Fr) (hf:FOk f) (hM:massL f.t < 1000000) (bs:List (List AV)) (g:Nat) {l:List Rp} {os:List Nat} {n:Nat} (hI:U5 l os n):
  ∀(post pre:List Rp) (ts:List Tst) (o:Bool) (ρ:Nat→AV),l=pre ++ post→ts.length≤pre.length*100004→ρ 1= .gp bs.length 0→ρ 4= .sl o 8 (QB l)→ρ 5= .int .i64 g→ρ 7= .sl true 9 (QK ts)→ρ 20= .sl false 8 (QB l)→ρ 21= .int .i64 l.length→ρ 22= .int .i64 pre.length→
  R F.tb (.loop F.f413l0) ρ (bs ++ [Qj f]) (Ql 0 (Qr F.tb F.f413r0 (Qt F.f413 bs)))=some (UR ((tsR f l g post pre.length).map (ts ++ ·)),bs):=by
 have hR:=Ra hI;have hlen:=hI.len;intro post
 induction post with
 | nil=>
  intro pre ts o ρ hk htl h1 h4 h5 h7 h20 h21 h22;simp only[List.append_nil]at hk;rw[← hk]at h22;have hg:=Vd ts;rw[Qc F.f413l0.eq_1];simp[h1,h4,h5,h7,h20,h21,h22,tsR,UR,hg,F.f413r0]
 | cons x post IH=>
  intro pre ts o ρ hk htl h1 h4 h5 h7 h20 h21 h22;have hgx:=Qp hk;have hll:=Qx hk;have hw1:=wr1 pre.length (by omega);have hlt:=Qy hk;obtain⟨hv,hb⟩:=hI.ok x (by rw[hk];simp);have hc:=QiZ hR (by omega) (g:=g) hgx hv hb false (bs ++ [Qj f]);have hmm:=Ht hR hv hb;have hml: (Wj l x).length≤3:=by
   have n1: (Vf l x).length≤1:=by unfold Vf;split <;> simp
   have n2: (XP l x).length≤2:=by unfold XP;split <;> simp
   unfold Wj;rw[List.length_append];omega
  have ha:=fun o=>W9 (Wj l x) 431 [.gp bs.length 0] (Yt f) o (bs ++ [Qj f]) (by omega) (by simp) (fun y hy=>Qi0 f hf hM y (hmm y hy) bs.length (bs ++ [Qj f]) (by simp));have htl2:=NM l x pre.length (decide (g≤pre.length)) (by omega);have e:tsR f l g (x:: post) pre.length=if Rg f l x then none else(tsR f l g post (pre.length+1)).map (YH l x pre.length (decide (g≤pre.length))++ ·):=rfl
  have hi:=fun o ρ=>IH (pre ++ [x]) (ts ++ YH l x pre.length (decide (g≤pre.length))) o ρ (by rw[hk];simp) (by simp only[List.length_append,List.length_singleton];omega);rw[List.length_append,List.length_singleton]at hi;have ec: ∀q:Option (List Tst),(q.map (YH l x pre.length (decide (g≤pre.length))++ ·)).map (ts ++ ·)=q.map (ts ++ YH l x pre.length (decide (g≤pre.length))++ ·):=fun q=>by cases q <;> simp
  rw[Qc F.f413l0.eq_1,e];cases c:Rg f l x
  ·unfold Rg at c;rw[c]at ha;have hb2: (ts.length+ (YH l x pre.length (decide (g≤pre.length))).length)*120≤140737488355328:=O5 (by omega);simp only[Bool.false_eq_true,if_false];rw[ec];generalize YH l x pre.length (decide (g≤pre.length))=Q at *;simp[h1,h4,h5,h7,h20,h21,h22,hlt,hw1,hc,ha,Z9,hb2,LS,-List.append_assoc];apply hi <;> first | rfl | assumption | simp[h1,h4,h5,h20,h21]
  ·unfold Rg at c;rw[c]at ha;simp[h1,h4,h5,h7,h20,h21,h22,hlt,hw1,hc,ha,UR]
theorem QiQ (f:Fr) (hf:FOk f) (hM:massL f.t < 1000000) (hv:QI f=0) (bs:List (List AV)):call F.tb 413 [.agg (Qj f)] bs=some (UR (To f),bs):=by
 have h:=QiR f hf hM hv (bs ++ [Qj f]);have hte:Qj f=[.sl false 4 (encTs f.s),.sl false 4 (encTs f.t)]:=rfl;unfold To;rw[Qb F.tb_413 _ _ rfl];cases c:Vs f with
 | none=>
  rw[c]at h;rw[hte]at h ⊢;simp only[T0]at h;simp[F.f413C,h,UR]
 | some l=>
  obtain⟨os,n,hI⟩:=Lt hv c;have hl:=fun o ρ=>Qnp f hf hM bs (Z4 f).length hI l [] [] o ρ rfl (by simp);simp only[List.nil_append]at hl;have em: ∀q:Option (List Tst),q.map (fun x=>x)=q:=fun q=>by cases q <;> rfl
  simp only[em]at hl;rw[c]at h;simp only[T0]at h;rw[hte]at h hl ⊢;simp only[List.length_nil]at hl;generalize (Z4 f).length=g at *;simp[F.f413C,h];apply hl <;> first | rfl | simp[QX,QK]
theorem Qnq (f:Fr) (hf:FOk f) (hM:massL f.t < 1000000) (bs:List (List AV)) (g:Nat) {l:List Rp} {os:List Nat} {n:Nat} (hI:U5 l os n):
  ∀(post pre:List Rp) (ts:List Tst) (o:Bool) (ρ:Nat→AV),l=pre ++ post→ts.length≤pre.length*100004→ρ 1= .bx (Qj f)→ρ 4= .sl o 8 (QB l)→ρ 5= .int .i64 g→ρ 7= .sl true 9 (QK ts)→ρ 8= .int .i64 pre.length→
  R F.tb (.loop F.f449l0) ρ bs (Ql 0 (Qr F.tb F.f449r0 (Qt F.f449 bs)))=some (UR ((tsR f l g post pre.length).map (ts ++ ·)),bs):=by
 have hR:=Ra hI;have hlen:=hI.len;have hte:Qj f=[.sl false 4 (encTs f.s),.sl false 4 (encTs f.t)]:=rfl;intro post
 induction post with
 | nil=>
  intro pre ts o ρ hk htl h1 h4 h5 h7 h8;simp only[List.append_nil]at hk;rw[← hk]at h8;have hg:=Vd ts;rw[Qc F.f449l0.eq_1];simp[h1,h4,h5,h7,h8,QX,tsR,UR,hg,F.f449r0]
 | cons x post IH=>
  intro pre ts o ρ hk htl h1 h4 h5 h7 h8;have hgx:=Qp hk;have hll:=Qx hk;have hw1:=wr1 pre.length (by omega);have hlt:=Qy hk;obtain⟨hv,hb⟩:=hI.ok x (by rw[hk];simp);have hrd:=Qjc f hf hM hR hgx hv hb false bs;have hc:=Qjd hR (by omega) (g:=decide (g≤pre.length)) hgx hv hb false bs;have htl2:=NM l x pre.length (decide (g≤pre.length)) (by omega);have e:tsR f l g (x:: post) pre.length=if Rg f l x then none else(tsR f l g post (pre.length+1)).map (YH l x pre.length (decide (g≤pre.length))++ ·):=rfl
  have hi:=fun o ρ=>IH (pre ++ [x]) (ts ++ YH l x pre.length (decide (g≤pre.length))) o ρ (by rw[hk];simp) (by simp only[List.length_append,List.length_singleton];omega);rw[List.length_append,List.length_singleton]at hi;have ec: ∀q:Option (List Tst),(q.map (YH l x pre.length (decide (g≤pre.length))++ ·)).map (ts ++ ·)=q.map (ts ++ YH l x pre.length (decide (g≤pre.length))++ ·):=fun q=>by cases q <;> simp
  have eg:decide ((g:Int)≤(pre.length:Int))=decide (g≤pre.length):=by simp
  rw[Qc F.f449l0.eq_1,e];cases c:Rg f l x
  ·rw[c]at hrd;have hb2: (ts.length+ (YH l x pre.length (decide (g≤pre.length))).length)*120≤140737488355328:=O5 (by omega);simp only[Bool.false_eq_true,if_false];rw[ec];rw[hte]at hrd h1 hi;generalize YH l x pre.length (decide (g≤pre.length))=Q at *;simp[h1,h4,h5,h7,h8,QX,hlt,hw1,hrd,hc,Z9,hb2,LS,-List.append_assoc];apply hi <;> first | rfl | assumption | simp[h1,h4,h5]
  ·rw[c]at hrd;rw[hte]at hrd h1;simp[h1,h4,h5,h7,h8,QX,hlt,hw1,hrd,UR]
theorem Qi7 (f:Fr) (hf:FOk f) (hM:massL f.t < 1000000) (hv:QI f=0) (bs:List (List AV)):call F.tb 449 [.agg (Qj f)] bs=some (UR (To f),bs):=by
 have h:=Qi8 f hf hM hv bs;have hte:Qj f=[.sl false 4 (encTs f.s),.sl false 4 (encTs f.t)]:=rfl;unfold To;rw[Qb F.tb_449 _ _ rfl];cases c:Vs f with
 | none=>
  rw[c]at h;rw[hte]at h ⊢;simp only[TZ]at h;simp[F.f449C,h,UR]
 | some l=>
  obtain⟨os,n,hI⟩:=Lt hv c;have hl:=fun o ρ=>Qnq f hf hM bs (Z4 f).length hI l [] [] o ρ rfl (by simp);simp only[List.nil_append]at hl;have em: ∀q:Option (List Tst),q.map (fun x=>x)=q:=fun q=>by cases q <;> rfl
  simp only[em]at hl;rw[c]at h;simp only[TZ]at h;rw[hte]at h hl ⊢;simp only[List.length_nil]at hl;generalize (Z4 f).length=g at *;simp[F.f449C,h];apply hl <;> first | rfl | simp[QX,QK]
theorem Xg {f:Fr} (h:Yv f=0):QI f=0:=by
 unfold Yv at h;split at h
 ·rename_i c;exact absurd h c
 ·rename_i c;simpa using c
def Xm (f:Fr):List Tst×Int:=if Yv f≠0 then([],Yv f)else match To f with
 | some ts=>(ts,0)
 | none=>([],3)
def Ty (q:List Tst×Int):AV:= .tup [.sl false 9 (QK q.1),.int .i64 q.2]
theorem Bl (f:Fr) (hf:FOk f) (hM:massL f.t < 1000000) (bs:List (List AV)):call F.tb 411 [.agg (Qj f)] bs=some (Ty (Xm f),bs):=by
 have h0:=Iq f hf bs;have hte:Qj f=[.sl false 4 (encTs f.s),.sl false 4 (encTs f.t)]:=rfl;rw[Qb F.tb_411 _ _ rfl];unfold Xm;by_cases c:Yv f=0
 ·have h1:=QiQ f hf hM (Xg c) bs;cases d:To f with
  | none=>
   rw[d]at h1;rw[hte]at h0 h1 ⊢;simp only[UR]at h1;simp[F.f411C,h0,h1,c,Ty,QK]
  | some ts=>
   have hg:=Vd ts;rw[d]at h1;rw[hte]at h0 h1 ⊢;simp only[UR]at h1;simp[F.f411C,h0,h1,c,Ty,hg]
 ·rw[hte]at h0 ⊢;simp[F.f411C,h0,c,Ty,QK]
theorem Bs (f:Fr) (hf:FOk f) (hM:massL f.t < 1000000) (bs:List (List AV)):call F.tb 448 [.agg (Qj f)] bs=some (Ty (Xm f),bs):=by
 have h0:=OV f hf bs;have hte:Qj f=[.sl false 4 (encTs f.s),.sl false 4 (encTs f.t)]:=rfl;rw[Qb F.tb_448 _ _ rfl];unfold Xm;by_cases c:Yv f=0
 ·have h1:=Qi7 f hf hM (Xg c) bs;cases d:To f with
  | none=>
   rw[d]at h1;rw[hte]at h0 h1 ⊢;simp only[UR]at h1;simp[F.f448C,h0,h1,c,Ty,QK]
  | some ts=>
   have hg:=Vd ts;rw[d]at h1;rw[hte]at h0 h1 ⊢;simp only[UR]at h1;simp[F.f448C,h0,h1,c,Ty,hg]
 ·rw[hte]at h0 ⊢;simp[F.f448C,h0,c,Ty,QK]
theorem QdW {f:Fr} {r:Tm} (h:Yt f r=false):r.mass≤13200:=by
 unfold Yt at h;split at h
 ·cases h
 ·rename_i c;exact(YX (by simpa using c)).2.2
theorem Qa0 {f:Fr} {l:List Rp} {os:List Nat} {n i:Nat} {g:Bool} (hI:U5 l os n) {x:Rp} (hx:x∈l) (hL:Rg f l x=false): ∀q∈YH l x i g,q.l.mass < 1000000∧q.r.mass < 1000000:=by
 obtain⟨hv,hb⟩:=hI.ok x hx;obtain⟨_,_,hg,hma,hno⟩:=Zj hv;have hm: ∀y∈Wj l x,y.mass≤13200:=fun y hy=>by
  have:=List.any_eq_false.1 hL y hy;exact QdW (by simpa using this)
 intro q hq;unfold YH at hq;simp only[List.mem_append]at hq;rcases hq with(((hq | hq) | hq) | hq) | hq
 ·unfold tsA at hq;obtain⟨y,hy,rfl⟩:=List.mem_map.1 hq;have:=hI.ok y (List.mem_of_mem_take (List.mem_filter.1 hy).1);exact⟨hb,this.2⟩
 ·unfold tsB at hq;split at hq
  ·rw[List.mem_singleton]at hq;subst hq;exact⟨hb,by simp only;omega⟩
  ·cases hq
 ·unfold tsC at hq;cases c:Xt l x.t with
  | none=>rw[c]at hq;cases hq
  | some u=>
   rw[c,List.mem_singleton]at hq;subst hq
   have:=hm u (by simp[Wj,Vf,c]);exact⟨hb,by simp only;omega⟩
 ·unfold tsD at hq;split at hq
  ·rw[List.mem_singleton]at hq;subst hq;exact⟨hb,hb⟩
  ·cases hq
 ·unfold tsE at hq;cases c:Vu l x with
  | none=>rw[c]at hq;cases hq
  | some v=>
   rw[c,List.mem_singleton]at hq;subst hq
   have h1:=hm v (by simp[Wj,XP,c]);have h2:=hm (.mk 3 READ 0 [x.b]) (by simp[Wj,XP,c]);exact⟨by simp only;omega,by simp only;omega⟩
theorem Dy {f:Fr} {l:List Rp} {os:List Nat} {n g:Nat} (hI:U5 l os n): ∀{post:List Rp} {i:Nat} {ts:List Tst},(∀x∈post,x∈l)→tsR f l g post i=some ts→∀q∈ts,q.l.mass < 1000000∧q.r.mass < 1000000
 | [],i,ts,_,h=>by simp only[tsR,Option.some.injEq]at h;subst h;simp
 | x:: r,i,ts,hx,h=>by
  unfold tsR at h;split at h
  ·cases h
  ·rename_i c;cases hr:tsR f l g r (i+1)with
   | none=>rw[hr]at h;cases h
   | some us=>
    rw[hr]at h;simp only[Option.map_some,Option.some.injEq]at h;subst h;intro q hq;rcases List.mem_append.1 hq with hq | hq
    ·exact Qa0 hI (hx x (by simp)) (by simpa using c) q hq
    ·exact Dy hI (fun y hy=>hx y (by simp[hy])) hr q hq
theorem QeJ {f:Fr} (hv:QI f=0) {ts:List Tst} (h:To f=some ts): ∀q∈ts,q.l.mass < 1000000∧q.r.mass < 1000000:=by
 unfold To at h;cases c:Vs f with
 | none=>rw[c]at h;cases h
 | some l=>
  rw[c]at h;obtain⟨os,n,hI⟩:=Lt hv c;exact Dy hI (fun x hx=>hx) h
theorem Jz (f:Fr) (l:List Rp) (g:Nat): ∀{post:List Rp} {i:Nat} {ts:List Tst},i+post.length≤100000→tsR f l g post i=some ts→ts.length≤post.length*100004
 | [],i,ts,_,h=>by simp only[tsR,Option.some.injEq]at h;subst h;simp
 | x:: r,i,ts,hi,h=>by
  unfold tsR at h;split at h
  ·cases h
  ·cases hr:tsR f l g r (i+1)with
   | none=>rw[hr]at h;cases h
   | some us=>
    rw[hr]at h;simp only[Option.map_some,Option.some.injEq]at h;subst h;simp only[List.length_cons]at hi;have h1:=Jz f l g (by omega) hr;have h2:=NM l x i (decide (g≤i)) (by omega);simp only[List.length_append,List.length_cons];omega
theorem S2 (f:Fr): (∀q∈(Xm f).1,q.l.mass < 1000000∧q.r.mass < 1000000)∧(Xm f).1.length < 100000000000:=by
 unfold Xm;by_cases c:Yv f=0
 ·rw[if_neg (by simpa using c)];cases d:To f with
  | none=>simp
  | some ts=>
   refine⟨QeJ (Xg c) d,?_⟩;unfold To at d;cases c2:Vs f with
   | none=>rw[c2]at d;cases d
   | some l=>
    rw[c2]at d;obtain⟨os,n,hI⟩:=Lt (Xg c) c2;have:=hI.len;have:=Jz f l _ (by omega) d;simp only;omega
 ·rw[if_pos (by simpa using c)];simp
theorem Ds: ∀{l:List Tm} {prev:Option Tm},Y1 prev l=0→Asc l∧(∀p,prev=some p→∀x∈l,Qm p x < 0)∧∀x∈l,QF x=0∧x.kind=2∧ZK x=false
 | [],prev,_=>⟨Asc.nil,by simp,by simp⟩
 | x:: r,prev,h=>by
  unfold Y1 at h;split at h
  ·rename_i c;exact absurd h c
  ·rename_i c1;split at h
   ·cases h
   ·rename_i c2;split at h
    ·rename_i c3;obtain⟨a1,a2,a3⟩:=Ds h;have hlt:=a2 x rfl;refine⟨Yp.2 ⟨hlt,a1⟩,?_,?_⟩
     ·intro p hp y hy;subst hp;have hpx:Qm p x < 0:=by simpa[gtO]using c3
      rcases List.mem_cons.1 hy with rfl | hy
      ·exact hpx
      ·exact YD hpx (hlt y hy)
     ·intro y hy;rcases List.mem_cons.1 hy with rfl | hy
      ·exact⟨by simpa using c1,Decidable.not_not.1 fun e=>c2 (.inl e),by
        cases hp:ZK y
        ·rfl
        ·exact absurd (.inr hp) c2⟩
      ·exact a3 y hy
    ·cases h
theorem W3 {f:Fr} (h:QI f=0):Asc f.s∧∀x∈f.s,QF x=0∧x.kind=2∧ZK x=false:=by
 unfold QI at h;split at h
 ·cases h
 ·split at h
  ·rename_i c;exact absurd h c
  ·rename_i c;obtain⟨a,_,b⟩:=Ds (prev:=none) (by simpa using c);exact⟨a,b⟩
theorem Qc4 (f:Fr):Asc (Q0 f):=TN (R7 List.nodup_nil)
theorem Rx: ∀{l:List Tm},Asc l→l.Nodup
 | [],_=>List.nodup_nil
 | x:: r,h=>by
  obtain⟨h1,h2⟩:=Yp.1 h;refine List.nodup_cons.2 ⟨fun hx=> ?_,Rx h2⟩;have:=h1 x hx;rw[Yn]at this;omega
theorem QdD {f:Fr} {x:Tm} (h:x∈Q0 f):x ∉ f.s∧ZK x=false:=by
 have h12:ZK x=false∧ZZ f.s x=false:=(UA.1 h).2.2;exact⟨fun hx=>by have h2:=h12.2;rw[WP.2 hx]at h2;exact absurd h2 (by simp),h12.1⟩
def Sb (f g:Fr):List Tm:=(Q0 f).filter fun x=> !ZZ (Q0 g) x
def Zx (f g:Fr):Fr:=⟨ZF (f.s ++ Sb f g),f.t⟩
theorem Hz {f g:Fr} {x:Tm}:x∈Sb f g↔x∈Q0 f∧x ∉ Q0 g:=by
 unfold Sb;rw[List.mem_filter];refine and_congr_right fun _=> ?_;rw[← WP];simp
theorem A8 {f g:Fr} (h:QI f=0): (f.s ++ Sb f g).Nodup:=by
 rw[List.nodup_append];refine⟨Rx (W3 h).1,(Rx (Qc4 f)).filter _,fun a ha b hb e=> ?_⟩;subst e;exact(QdD (Hz.1 hb).1).1 ha
theorem Qfn {f g:Fr} (h:QI f=0):Asc (Zx f g).s:=TN (A8 h)
theorem Ka {f g:Fr} {x:Tm}:x∈(Zx f g).s↔x∈f.s∨x∈Sb f g:=by unfold Zx;simp only[X7,List.mem_append]
theorem Lp {f g:Fr} (hf:FOk f) (hM:massL f.t < 1000000) (hv:QI f=0):FOk (Zx f g)∧massL (Zx f g).t < 1000000:=by
 have h1:=Ve hM;have h2:=WE f;have h3:=X6 hv;have h4:=Yy hv;have hn:nodesL f.t≤400*f.t.length:=UT fun x hx=>(Zj (h3 x hx)).2.2.2.2;have hs40:f.s.length≤40:=by
  by_cases c:40 < f.s.length
  ·simp[QI,c]at hv
  ·omega
 have h5: (Sb f g).length≤(Q0 f).length:=List.length_filter_le _ _;refine⟨⟨fun x hx=> ?_,hf.t,?_,hf.tl⟩,hM⟩
 ·rcases Ka.1 hx with hx | hx
  ·exact hf.s x hx
  ·exact h1 x (Hz.1 hx).1
 ·show(ZF _).length < _;rw[Xj,List.length_append];omega
theorem Qnr {B0 B:List (List AV)} {v:AV} {l:List Tm} (x:List AV) (h:TS B0 B v l):TS B0 (B ++ [x]) v l:=by
 obtain⟨M,id,sz,rfl,rfl,hc⟩:=h;refine⟨M ++ [x],id,sz,by simp,rfl,?_⟩;rcases hc with hc | ⟨a,b,c,d⟩
 ·exact .inl hc
 ·exact .inr ⟨a,b,c,by rw[List.getElem?_append_left (VG d)];exact d⟩
theorem DA (l:List Tm) (bs:List (List AV)) (hl:l.length < 1000000): ∃v B,call F.tb 193 [.sl false 4 (encTs l)] bs=some (v,B)∧TS bs B v l:=by
 have hst: (Qu l).map AV.strip=Qu l:=Z6 Zu _;have hb:l.length*56≤140737488355328:=Yi (by omega);have ho:call F.tb 193 [.sl false 4 (encTs l)] bs=if l.length=0 then some (.gs 0 0 0 0,bs)else some (.gs bs.length 0 4 l.length,bs ++ [Qu l]):=by
  rw[Xv F.tb_193];simp only[Ua,if_true,UQ,XM,hb,encTs_gp,T3,hst]
 by_cases hk:l.length=0
 ·have:l=[]:=List.eq_nil_of_length_eq_zero hk;subst this;exact⟨_,_,by rw[ho];rfl,QeI bs⟩
 ·refine⟨_,_,by rw[ho,if_neg hk],[Qu l],bs.length,4,rfl,rfl,.inr ⟨rfl,Nat.le_refl _,fun e=>hk (by rw[e];rfl),by simp⟩⟩
theorem QiP (a b:Tm) (ha:a.mass < big) (hb:b.mass < big) (pos:Nat) (bs:List (List AV)) (hp:bs[pos]? =some (Qa a)):call F.tb 409 [.agg (Qa b),.gp pos 0] bs=some (.bool (decide (Qm a b=0)),bs):=by
 have h:=OT a b bs ha hb;have ea:=Qg a;have eb:=Qg b;rw[ea,eb]at h;rw[ea]at hp;rw[Qb F.tb_409 _ _ rfl];simp[F.f409C,eb,hp,h]
theorem Qms {f:Fr} {bs B:List (List AV)} {v:AV} {l:List Tm} (h:TS bs B v l) (hl:l.length < 1000000) (hm: ∀x∈l,x.mass < 1000000) (ρ:Nat→AV) (h2:ρ 2= .bx (Qj f)) (h4:ρ 4= .bx [.sl true 4 [],.sl true 4 []]) (h5:ρ 5=v):
  R F.tb F.f406r0 ρ B (Qt F.f406 bs)=some (.agg (Qj ⟨ZF l,f.t⟩),bs):=by
 obtain⟨B',hs,hts⟩:=IR h hl hm;obtain⟨M2,hf⟩:=QeH hts 5;obtain⟨id,sz,rfl⟩:=RU h;have hg:=encTs_gp (ZF l);have hte:Qj f=[.sl false 4 (encTs f.s),.sl false 4 (encTs f.t)]:=rfl;have hte2:Qj ⟨ZF l,f.t⟩=[.sl false 4 (encTs (ZF l)),.sl false 4 (encTs f.t)]:=rfl;rw[hte]at h2;rw[← Xj l]at hs hf h5;simp[F.f406r0,h2,h4,h5,hs,hf,hte2]
theorem Qmr (f g:Fr) (G:List Tm) (hGm: ∀x∈G,x.mass < 1000000) (hGl:G.length < 1000000) (A:List Tm) (hA: ∀x∈A,x.mass < 1000000) (hAl:A.length < 500000) (bs:List (List AV)):
  ∀(post pre acc:List Tm) (B:List (List AV)) (v:AV) (o o2:Bool) (ρ:Nat→AV),A=pre ++ post→TS bs B v acc→acc.length+post.length < 1000000→(∀x∈acc,x.mass < 1000000)→
   ρ 2= .bx (Qj f)→ρ 4= .bx [.sl true 4 [],.sl true 4 []]→ρ 5=v→ρ 6= .sl o 4 (encTs G)→ρ 15= .sl o2 4 (encTs A)→ρ 16= .int .i64 A.length→ρ 17= .int .i64 pre.length→
  R F.tb (.loop F.f406l0) ρ B (Ql 0 (Qr F.tb F.f406r0 (Qt F.f406 bs)))=some (.agg (Qj ⟨ZF (acc ++ post.filter fun x=> !ZZ G x),f.t⟩),bs):=by
 intro post
 induction post with
 | nil=>
  intro pre acc B v o o2 ρ hk hT hl hm h2 h4 h5 h6 h15 h16 h17;simp only[List.append_nil]at hk;rw[← hk]at h17;have hr:=fun ρ=>Qms (f:=f) hT (by simpa using hl) hm ρ;rw[Qc F.f406l0.eq_1];simp[h15,h16,h17];apply hr <;> simp[h2,h4,h5]
 | cons x post IH=>
  intro pre acc B v o o2 ρ hk hT hl hm h2 h4 h5 h6 h15 h16 h17;have hg:=Qp hk;have hll:=Qx hk;have hw1:=wr1 pre.length (by omega);have hlt:=Qy hk;have hx:x.mass < 1000000:=hA x (by rw[hk];simp);simp only[List.length_cons]at hl;have hTe:=Qnr (Qa x) hT;have hany:=fun o=>W9 G 409 [.gp B.length 0] (fun y=>decide (Qm x y=0)) o (B ++ [Qa x]) hGl (by simp) (fun y hy=>QiP x y (by unfold big;omega) (by have:=hGm y hy;unfold big;omega) B.length (B ++ [Qa x]) (by simp));have eh: (G.any fun y=>decide (Qm x y=0))=ZZ G x:=by
   unfold ZZ;congr 1;funext y;have:Qm x y=0↔Qm y x=0:=by rw[Nm,Nm];exact eq_comm
   simp[this]
  rw[eh]at hany;have es: ∀x y:List AV,(B ++ [x]).set B.length y=B ++ [y]:=fun x y=>by rw[List.set_append];simp
  have eg: ∀x:List AV,(B ++ [x])[B.length]? =some x:=fun x=>List.getElem?_concat_length;obtain⟨v',B',ha,hT'⟩:=Dz x false hTe (by omega);obtain⟨id,sz,hv⟩:=RU hT;obtain⟨id',sz',hv'⟩:=RU hT';have e1:=Qg x;rw[Qc F.f406l0.eq_1];cases c:ZZ G x
  ·rw[c]at hany;have ef:acc ++ (x:: post).filter (fun x=> !ZZ G x)=acc ++ [x]++ post.filter fun x=> !ZZ G x:=by simp[c]
   have hi:=fun ρ=>IH (pre ++ [x]) (acc ++ [x]) B' v' o o2 ρ (by rw[hk];simp) hT' (by simp only[List.length_append,List.length_singleton];omega) (fun y hy=>by
    rcases List.mem_append.1 hy with hy | hy
    ·exact hm y hy
    ·rw[List.mem_singleton]at hy;subst hy;exact hx)
   rw[ef];subst hv;subst hv';rw[e1]at ha hany;simp[h2,h4,h5,h6,h15,h16,h17,hg,hlt,hw1,e1,es,eg,hany,ha];simp only[List.append_assoc]at hi;apply hi <;> simp[h2,h4,h6,h15,h16]
  ·rw[c]at hany;have ef:acc ++ (x:: post).filter (fun x=> !ZZ G x)=acc ++ post.filter fun x=> !ZZ G x:=by simp[c]
   have hi:=fun ρ=>IH (pre ++ [x]) acc (B ++ [Qa x]) v o o2 ρ (by rw[hk];simp) hTe (by omega) hm;rw[ef];rw[e1]at hany hi;simp[h2,h4,h5,h6,h15,h16,h17,hg,hlt,hw1,e1,es,eg,hany];apply hi <;> simp[h2,h4,h5,h6,h15,h16]
theorem Bk (f g:Fr) (hf:FOk f) (hM:massL f.t < 1000000) (hv:QI f=0) (hg:FOk g) (hN:massL g.t < 1000000) (hw:QI g=0) (bs:List (List AV)):
  call F.tb 406 [.agg (Qj f),.agg (Qj g)] bs=some (.agg (Qj (Zx f g)),bs):=by
 obtain⟨v,B,hc,hT⟩:=DA f.s bs hf.sl;have h1:=fun B=>Ip g hg hN hw B;have h2:=fun B=>Ip f hf hM hv B;have hn1:=nodesL_le_mass f.t;have hn2:=nodesL_le_mass g.t;have hl1:=WE f;have hl2:=WE g;have hs40:f.s.length≤40:=by
  by_cases c:40 < f.s.length
  ·simp[QI,c]at hv
  ·omega
 have h4:=Yy hv;have h3:=X6 hv;have hn:nodesL f.t≤400*f.t.length:=UT fun x hx=>(Zj (h3 x hx)).2.2.2.2;have hl:=fun o o2 ρ=>Qmr f g (Q0 g) (Ve hN) (by omega) (Q0 f) (Ve hM) (by omega) bs (Q0 f) [] f.s B v o o2 ρ rfl hT (by omega) hf.s;obtain⟨id,sz,hvv⟩:=RU hT;have hte:Qj f=[.sl false 4 (encTs f.s),.sl false 4 (encTs f.t)]:=rfl;have htg:Qj g=[.sl false 4 (encTs g.s),.sl false 4 (encTs g.t)]:=rfl;have ec: (⟨ZF (f.s ++ (Q0 f).filter fun x=> !ZZ (Q0 g) x),f.t⟩:Fr)=Zx f g:=rfl;rw[ec]at hl;subst hvv;rw[Qb F.tb_406 _ _ rfl];generalize Qj (Zx f g)=V at *;rw[hte]at h2 hl ⊢;rw[htg]at h1 ⊢;simp[F.f406C,hc,h1,h2];apply hl <;> first | rfl | simp
theorem Qmt (f:Fr) (G:List Tm) (hGm: ∀x∈G,x.mass < 1000000) (hGl:G.length < 1000000) (A:List Tm) (hA: ∀x∈A,x.mass < 1000000) (hAl:A.length < 500000) (bs:List (List AV)):
  ∀(post pre acc:List Tm) (o o2 o3:Bool) (ρ:Nat→AV),A=pre ++ post→acc.length+post.length < 1000000→(∀x∈acc,x.mass < 1000000)→
   ρ 4= .bx [.sl true 4 [],.sl true 4 []]→ρ 5= .bx [.sl o3 4 (encTs acc),.sl false 4 (encTs f.t)]→ρ 6= .sl o 4 (encTs A)→ρ 7= .sl o2 4 (encTs G)→ρ 8= .int .i64 pre.length→
  R F.tb (.loop F.f447l0) ρ bs (Ql 0 (Qr F.tb F.f447r0 (Qt F.f447 bs)))=some (.agg (Qj ⟨(post.filter fun x=> !ZZ G x).foldl (fun a x=>Zr x a) acc,f.t⟩),bs):=by
 intro post
 induction post with
 | nil=>
  intro pre acc o o2 o3 ρ hk hl hm h4 h5 h6 h7 h8;simp only[List.append_nil]at hk;rw[← hk]at h8;have hg:=encTs_gp acc;rw[Qc F.f447l0.eq_1];simp[h4,h5,h6,h8,hg,Qj,F.f447r0]
 | cons x post IH=>
  intro pre acc o o2 o3 ρ hk hl hm h4 h5 h6 h7 h8;have hg:=Qp hk;have hll:=Qx hk;have hw1:=wr1 pre.length (by omega);have hlt:=Qy hk;have hx:x.mass < 1000000:=hA x (by rw[hk];simp);simp only[List.length_cons]at hl;have hh:=fun o=>S6 G x o bs (by omega) (fun y hy=>by have:=hGm y hy;unfold big;omega) (by unfold big;omega);have ha:=fun o=>Nh acc x o bs (by omega) (fun y hy=>by have:=hm y hy;unfold big;omega) (by unfold big;omega);have hal:=U7 x acc;have e1:=Qg x;rw[Qc F.f447l0.eq_1];cases c:ZZ G x
  ·have ef: ((x:: post).filter (fun x=> !ZZ G x)).foldl (fun a x=>Zr x a) acc=(post.filter fun x=> !ZZ G x).foldl (fun a x=>Zr x a) (Zr x acc):=by simp[c]
   have hi:=fun o3 ρ=>IH (pre ++ [x]) (Zr x acc) o o2 o3 ρ (by rw[hk];simp) (by omega) (fun y hy=>by
    rcases Vg.1 hy with rfl | hy
    ·exact hx
    ·exact hm y hy)
   rw[c,e1]at hh;rw[e1]at ha;rw[ef];generalize (post.filter fun x=> !ZZ G x).foldl (fun a x=>Zr x a) (Zr x acc)=V at *;simp[h4,h5,h6,h7,h8,hg,hlt,hw1,e1,hh,ha];apply hi <;> first | rfl | simp[h4,h6,h7]
  ·have ef: ((x:: post).filter (fun x=> !ZZ G x)).foldl (fun a x=>Zr x a) acc=(post.filter fun x=> !ZZ G x).foldl (fun a x=>Zr x a) acc:=by simp[c]
   have hi:=fun o3 ρ=>IH (pre ++ [x]) acc o o2 o3 ρ (by rw[hk];simp) (by omega) hm;rw[c,e1]at hh;rw[ef];generalize (post.filter fun x=> !ZZ G x).foldl (fun a x=>Zr x a) acc=V at *;simp[h4,h5,h6,h7,h8,hg,hlt,hw1,e1,hh];apply hi <;> first | rfl | assumption | simp[h4,h5,h6,h7]
theorem EF: ∀(l acc:List Tm),Asc acc→Asc (l.foldl (fun a x=>Zr x a) acc)∧∀y,y∈l.foldl (fun a x=>Zr x a) acc↔y∈acc∨y∈l
 | [],acc,h=>⟨h,by simp⟩
 | x:: l,acc,h=>by
  obtain⟨h1,h2⟩:=EF l (Zr x acc) (S5 h);refine⟨h1,fun y=> ?_⟩;rw[List.foldl_cons,h2,Vg,List.mem_cons];constructor
  ·rintro((h | h) | h) <;> simp[h]
  ·rintro(h | h | h) <;> simp[h]
theorem Br (f g:Fr) (hf:FOk f) (hM:massL f.t < 1000000) (hv:QI f=0) (hg:FOk g) (hN:massL g.t < 1000000) (bs:List (List AV)):
  call F.tb 447 [.agg (Qj f),.agg (Qj g)] bs=some (.agg (Qj (Zx f g)),bs):=by
 have h1:=fun B=>Lm g hg hN B;have h2:=fun B=>Lm f hf hM B;have hn1:=nodesL_le_mass f.t;have hn2:=nodesL_le_mass g.t;have hl1:=WE f;have hl2:=WE g;have hs40:f.s.length≤40:=by
  by_cases c:40 < f.s.length
  ·simp[QI,c]at hv
  ·omega
 have h4:=Yy hv;have h3:=X6 hv;have hn:nodesL f.t≤400*f.t.length:=UT fun x hx=>(Zj (h3 x hx)).2.2.2.2;have hl:=fun o o2 o3 ρ=>Qmt f (Q0 g) (Ve hN) (by omega) (Q0 f) (Ve hM) (by omega) bs (Q0 f) [] f.s o o2 o3 ρ rfl (by omega) hf.s;have ec: (⟨((Q0 f).filter fun x=> !ZZ (Q0 g) x).foldl (fun a x=>Zr x a) f.s,f.t⟩:Fr)=Zx f g:=by
  obtain⟨a1,a2⟩:=EF (Sb f g) f.s (W3 hv).1;have e: (Sb f g).foldl (fun a x=>Zr x a) f.s=(Zx f g).s:=SR a1 (Qfn hv) fun x=>by rw[a2,Ka]
  unfold Sb at e;rw[e];rfl
 rw[ec]at hl;have hte:Qj f=[.sl false 4 (encTs f.s),.sl false 4 (encTs f.t)]:=rfl;have htg:Qj g=[.sl false 4 (encTs g.s),.sl false 4 (encTs g.t)]:=rfl;rw[Qb F.tb_447 _ _ rfl];generalize Qj (Zx f g)=V at *;rw[hte]at h2 ⊢;rw[htg]at h1 ⊢;simp[F.f447C,h1,h2];apply hl <;> first | rfl | simp | exact false
def QC (f:Fr):List Tst→List Tst×Int
 | []=>([],0)
 | q:: r=>if(YZ f q.l q.r q.f).2≠0 then([],(YZ f q.l q.r q.f).2)else if(QC f r).2≠0 then([],(QC f r).2)else(if(YZ f q.l q.r q.f).1 then(QC f r).1 else q:: (QC f r).1,0)
def Tr:Tst:=⟨Qw,Qw,false⟩
def MA:List Tst→Tst×Int
 | []=>(Tr,15)
 | q:: _=>(q,0)
def apE (a b:List Tst×Int):Tst×Int:=if a.2=0 then(if b.2=0 then MA (a.1 ++ b.1)else(Tr,b.2))else(Tr,a.2)
def WK (f g:Fr):Tst×Int:=
 if VQ f g≠0 then(Tr,VQ f g)else if(Xm (Zx f g)).2≠0 then(Tr,(Xm (Zx f g)).2)else if(Xm (Zx g f)).2≠0 then(Tr,(Xm (Zx g f)).2)else
 apE (QC g (Xm (Zx f g)).1) (QC f (Xm (Zx g f)).1)
def Z3 (q:Tst×Int):AV:= .tup [.agg (Zl q.1),.int .i64 q.2]
theorem YY:Zl Tr=[.int .i64 0,.str [],.int .i64 0,.sl false 4 [],.int .i64 0,.str [],.int .i64 0,.sl false 4 [],.bool false]:=by simp[ZM,Tr,Qw,encTs]
theorem Mz {f:Fr} {q:Tst} {r:List Tst} (h: (YZ f q.l q.r q.f).2=0): (QC f (q:: r)).2=(QC f r).2:=by
 simp only[QC,h,ne_eq,not_true_eq_false,if_false];by_cases c: (QC f r).2=0 <;> simp[c]
theorem Hj {f:Fr} {q:Tst} {r:List Tst} (h: (YZ f q.l q.r q.f).2=0) (h2: (QC f r).2=0): (QC f (q:: r)).1=if(YZ f q.l q.r q.f).1 then(QC f r).1 else q:: (QC f r).1:=by
 simp only[QC,h,h2,ne_eq,not_true_eq_false,if_false]
theorem Hi {f:Fr} {q:Tst} {r:List Tst} (h: ¬(YZ f q.l q.r q.f).2=0): (QC f (q:: r)).2=(YZ f q.l q.r q.f).2:=by
 simp[QC,h]
theorem RE (f:Fr): ∀l:List Tst,(QC f l).1.length≤l.length
 | []=>by simp[QC]
 | q:: r=>by
  have:=RE f r;unfold QC;split
  ·simp
  ·split
   ·simp
   ·simp only;split
    ·simp only[List.length_cons];omega
    ·simp only[List.length_cons];omega
theorem RF {f:Fr}: ∀{l:List Tst} {q:Tst},q∈(QC f l).1→q∈l∧YZ f q.l q.r q.f=(false,0)
 | [],q,h=>by simp[QC]at h
 | x:: r,q,h=>by
  unfold QC at h;split at h
  ·cases h
  ·rename_i c1;split at h
   ·cases h
   ·simp only at h;split at h
    ·obtain⟨a,b⟩:=RF h;exact⟨by simp[a],b⟩
    ·rename_i c2;rcases List.mem_cons.1 h with rfl | h
     ·refine⟨by simp,?_⟩;generalize YZ f q.l q.r q.f=V at *;obtain⟨a,b⟩:=V;simp only at c1 c2;have c1:=Decidable.not_not.1 c1;cases a
      ·rw[c1]
      ·exact absurd rfl c2
     ·obtain⟨a,b⟩:=RF h;exact⟨by simp[a],b⟩
structure TA (ρ ρ':Nat→AV) (ts:List Tst):Prop where
 h2:ρ' 2=ρ 2
 h3:ρ' 3=ρ 3
 h4:ρ' 4=ρ 4
 h49:ρ' 49=ρ 49
 h50:ρ' 50=ρ 50
 h51:ρ' 51=ρ 51
 h10:ρ' 10= .sl true 9 (QK ts)
theorem Qg5 (f:Fr) (hf:FOk f) (hM:massL f.t < 1000000) (l:List Tst) (hl:l.length < 100000000000) (hm: ∀q∈l,q.l.mass < 1000000∧q.r.mass < 1000000) (bs:List (List AV)) (X:Out):
  ∀(post pre acc:List Tst) (o:Bool) (ρ:Nat→AV),l=pre ++ post→acc.length+post.length < 400000000000→ρ 4= .bx [.int .i64 0,.str [],.int .i64 0,.sl true 4 [],.int .i64 0,.str [],.int .i64 0,.sl true 4 [],.bool false]→
   ρ 13= .bx (Qj f)→ρ 10= .sl true 9 (QK acc)→ρ 62= .sl o 9 (QK l)→ρ 63= .int .i64 l.length→ρ 64= .int .i64 pre.length→
   ((QC f post).2=0→∀ρ',TA ρ ρ' (acc ++ (QC f post).1)→R F.tb F.f401r0 ρ' bs (Qr F.tb (.loop F.f401l1) (Ql 0 (Qr F.tb F.f401r1 (Qt F.f401 bs))))=X)→
  R F.tb (.loop F.f401l0) ρ bs (Ql 2 (Ql 1 (Qr F.tb F.f401r0 (Qr F.tb (.loop F.f401l1) (Ql 0 (Qr F.tb F.f401r1 (Qt F.f401 bs)))))))=if(QC f post).2=0 then X else some (Z3 (Tr,(QC f post).2),bs):=by
 intro post
 induction post with
 | nil=>
  intro pre acc o ρ hk hal h4 h13 h10 h62 h63 h64 hX;simp only[List.append_nil]at hk;rw[← hk]at h64;have e: (QC f []).2=0:=rfl;rw[Qc F.f401l0.eq_1,if_pos e];simp[h62,h63,h64];refine hX e _ ⟨?_,?_,?_,?_,?_,?_,?_⟩ <;> simp[h10,QC]
 | cons q post IH=>
  intro pre acc o ρ hk hal h4 h13 h10 h62 h63 h64 hX;have hg:=LT (Qp hk);have hll:=Qx hk;have hw1:=wr1 pre.length (by omega);have hlt:=Qy hk;obtain⟨hq1,hq2⟩:=hm q (by rw[hk];simp);simp only[List.length_cons]at hal;have hc:=Qi1 f hf hM q hq1 hq2 bs;have hb: (acc.length+1)*120≤140737488355328:=O5 (by omega);have e1:=ZM q;have hte:Qj f=[.sl false 4 (encTs f.s),.sl false 4 (encTs f.t)]:=rfl;rw[e1]at hg hc;rw[Qc F.f401l0.eq_1];by_cases c1: (YZ f q.l q.r q.f).2=0
  ·rw[Mz c1];have hX': (QC f post).2=0→∀ρ',TA ρ ρ' (acc ++ (if(YZ f q.l q.r q.f).1 then(QC f post).1 else q:: (QC f post).1))→R F.tb F.f401r0 ρ' bs (Qr F.tb (.loop F.f401l1) (Ql 0 (Qr F.tb F.f401r1 (Qt F.f401 bs))))=X:=
    fun e ρ' h=>hX (by rw[Mz c1];exact e) ρ' (by rw[Hj c1 e];exact h)
   cases c2: (YZ f q.l q.r q.f).1
   ·rw[c1,c2]at hc;rw[c2]at hX';have i1:=fun ρ=>IH (pre ++ [q]) (acc ++ [q]) o ρ (by rw[hk];simp) (by simp only[List.length_append,List.length_singleton];omega);have ea:QK (acc ++ [q])=QK acc ++ [[.int .i64 q.l.kind,.str q.l.name,.int .i64 q.l.sort,.sl false 4 (encTs q.l.kids),.int .i64 q.r.kind,.str q.r.name,.int .i64 q.r.sort,.sl false 4 (encTs q.r.kids),.bool q.f]]:=by simp[QK,e1]
    rw[ea]at i1;rw[hte]at hc h13 i1;simp[h13,h10,h62,h63,h64,hg,hlt,hw1,hc,Z9,hb];refine i1 _ ?_ ?_ ?_ ?_ ?_ ?_ (fun e3 ρ' h=> ?_) <;> (try simp[h4,h13,h62,h63]);obtain⟨g2,g3,g4,g49,g50,g51,g10⟩:=h;refine hX' e3 ρ' ⟨?_,?_,?_,?_,?_,?_,?_⟩ <;> simp_all
   ·rw[c1,c2]at hc;rw[c2]at hX';have i1:=fun ρ=>IH (pre ++ [q]) acc o ρ (by rw[hk];simp) (by omega);rw[hte]at hc h13 i1;simp[h13,h10,h62,h63,h64,hg,hlt,hw1,hc,Z9];refine i1 _ ?_ ?_ ?_ ?_ ?_ ?_ (fun e3 ρ' h=> ?_) <;> (try simp[h4,h10,h13,h62,h63]);obtain⟨g2,g3,g4,g49,g50,g51,g10⟩:=h;refine hX' e3 ρ' ⟨?_,?_,?_,?_,?_,?_,?_⟩ <;> simp_all
  ·rw[Hi c1,if_neg c1];rw[hte]at hc h13;simp[h4,h13,h10,h62,h63,h64,hg,hlt,hc,c1,Z3,YY]
theorem RZ {f g:Fr} (h:VQ f g=0):QI f=0∧QI g=0∧Yv f=0∧Yv g=0:=by
 unfold VQ at h;split at h
 ·rename_i c;exact absurd h c
 ·rename_i c1;have c1:=Decidable.not_not.1 c1;split at h
  ·rename_i c;exact absurd h c
  ·rename_i c2;have c2:=Decidable.not_not.1 c2;split at h
   ·cases h
   ·rename_i c3;simp only[Bool.or_eq_true,not_or,Bool.not_eq_true]at c3;refine⟨c1,c2,?_,?_⟩
    ·unfold Yv;rw[if_neg (by simpa using c1),c3.1];rfl
    ·unfold Yv;rw[if_neg (by simpa using c2),c3.2];rfl
theorem QnY (ts:List Tst) (bs:List (List AV)) (ρ:Nat→AV) (h4:ρ 4= .bx [.int .i64 0,.str [],.int .i64 0,.sl true 4 [],.int .i64 0,.str [],.int .i64 0,.sl true 4 [],.bool false]) (h10:ρ 10= .sl true 9 (QK ts)):
  R F.tb F.f401r1 ρ bs (Qt F.f401 bs)=some (Z3 (MA ts),bs):=by
 cases ts with
 | nil=>
  have e:QK []=[]:=rfl;rw[e]at h10;simp[F.f401r1,h4,h10,MA,Z3,YY]
 | cons q r=>
  have e:QK (q:: r)=Zl q:: QK r:=rfl;rw[e,ZM]at h10;have hp: (0:Int) < ((QK r).length:Int)+1:=by omega
  simp[F.f401r1,h4,h10,hp,MA,Z3,ZM]
theorem Io (f g:Fr) (hf:FOk f) (hM:massL f.t < 1000000) (hg:FOk g) (hN:massL g.t < 1000000) (bs:List (List AV)):
  call F.tb 401 [.agg (Qj f),.agg (Qj g)] bs=some (Z3 (WK f g),bs):=by
 have h0:=QiL f g hf hg bs;have hte:Qj f=[.sl false 4 (encTs f.s),.sl false 4 (encTs f.t)]:=rfl;have htg:Qj g=[.sl false 4 (encTs g.s),.sl false 4 (encTs g.t)]:=rfl;have w1:IntKind.i64.wrap 1=1:=rfl;have w2:IntKind.i64.wrap 2=2:=rfl;unfold WK;rw[Qb F.tb_401 _ _ rfl];by_cases c0: ¬VQ f g=0
 ·rw[if_pos c0];rw[hte,htg]at h0 ⊢;simp[F.f401C,h0,c0,Z3,YY]
 have c0:=Decidable.not_not.1 c0;obtain⟨hv,hw,_,_⟩:=RZ c0;obtain⟨kf,kM⟩:=Lp (g:=g) hf hM hv;obtain⟨kg,kN⟩:=Lp (g:=f) hg hN hw;have h1:=Bk f g hf hM hv hg hN hw bs;have h2:=Bk g f hg hN hw hf hM hv bs;have h3:=Bl (Zx f g) kf kM bs;have h4:=Bl (Zx g f) kg kN bs;obtain⟨a1,a2⟩:=S2 (Zx f g);obtain⟨b1,b2⟩:=S2 (Zx g f);simp only[Ty]at h3 h4;have hte2:Qj (Zx f g)=[.sl false 4 (encTs (Zx f g).s),.sl false 4 (encTs (Zx f g).t)]:=rfl;have htg2:Qj (Zx g f)=[.sl false 4 (encTs (Zx g f).s),.sl false 4 (encTs (Zx g f).t)]:=rfl;rw[hte2]at h1 h3;rw[htg2]at h2 h4;rw[if_neg (by simpa using c0)];generalize Xm (Zx f g)=A at *;generalize Xm (Zx g f)=B at *;obtain⟨A,ea⟩:=A;obtain⟨B,eb⟩:=B;simp only at a1 a2 b1 b2 h3 h4 ⊢;by_cases c1: ¬ea=0
 ·rw[if_pos c1];rw[hte,htg]at h0 h1 ⊢;simp[F.f401C,h0,h1,h3,c0,c1,Z3,YY]
 have c1:=Decidable.not_not.1 c1;rw[if_neg (by simpa using c1)];by_cases c2: ¬eb=0
 ·rw[if_pos c2];rw[hte,htg]at h0 h1 h2 ⊢;simp[F.f401C,h0,h1,h2,h3,h4,c0,c1,c2,Z3,YY]
 have c2:=Decidable.not_not.1 c2;rw[if_neg (by simpa using c2)];subst c1;subst c2;have hfl:=RE g A;have hl1:=fun X o ρ=>Qg5 g hg hN A a2 a1 bs X A [] [] o ρ rfl (by simp only[List.length_nil];omega);have hl2:=fun X acc (ha:acc.length < 200000000000) o ρ=>Qg5 f hf hM B b2 b1 bs X B [] acc o ρ rfl (by omega);have hr1:=fun ts ρ=>QnY ts bs ρ;have goal: ∀(o:Bool) (ρ:Nat→AV),ρ 2= .bx (Qj f)→ρ 3= .bx (Qj g)→ρ 4= .bx [.int .i64 0,.str [],.int .i64 0,.sl true 4 [],.int .i64 0,.str [],.int .i64 0,.sl true 4 [],.bool false]→ρ 10= .sl true 9 []→
   ρ 49= .sl o 1 [[.sl false 9 (QK A)],[.sl false 9 (QK B)]]→ρ 50= .int .i64 2→ρ 51= .int .i64 0→
   R F.tb (.loop F.f401l1) ρ bs (Ql 0 (Qr F.tb F.f401r1 (Qt F.f401 bs)))=some (Z3 (apE (QC g A) (QC f B)),bs):=by
  intro o ρ h2 h3 h4 h10 h49 h50 h51;have x1: (if(QC g A).2=0 then some (Z3 (apE (QC g A) (QC f B)),bs)else some (Z3 (Tr,(QC g A).2),bs))=some (Z3 (apE (QC g A) (QC f B)),bs):=by
   by_cases c: (QC g A).2=0 <;> simp[c,apE]
  have x2: (QC g A).2=0→(if(QC f B).2=0 then some (Z3 (apE (QC g A) (QC f B)),bs)else some (Z3 (Tr,(QC f B).2),bs))=some (Z3 (apE (QC g A) (QC f B)),bs):=by
   intro d;by_cases c: (QC f B).2=0 <;> simp[c,d,apE]
  have x3: (QC g A).2=0→(QC f B).2=0→MA ((QC g A).1 ++ (QC f B).1)=apE (QC g A) (QC f B):=fun d e=>by unfold apE;rw[if_pos d,if_pos e]
  have hr1:=hr1 ((QC g A).1 ++ (QC f B).1);generalize apE (QC g A) (QC f B)=Z at *;have h2':=h2;have h3':=h3;rw[hte]at h2';rw[htg]at h3';rw[Qc F.f401l1.eq_1,← x1];simp[-Km,-Kl,h2',h3',h4,h10,h49,h50,h51,Z9];refine hl1 _ false _ ?_ ?_ ?_ ?_ ?_ ?_ (fun e ρ' h=> ?_) <;> (try simp[h2',h3',h4,h10,h49,h50,h51,hte,htg]) <;> (try rfl);obtain⟨g2,g3,g4,g49,g50,g51,g10⟩:=h;simp[h2',h3',h4,h49,h50,h51]at g2 g3 g4 g49 g50 g51 g10;have x2:=x2 e;have x3:=x3 e;simp[F.f401r0,g51,w1];rw[Qc F.f401l1.eq_1,← x2];simp[-Km,-Kl,g2,g3,g4,g10,g49,g50,Z9];refine hl2 _ (QC g A).1 (by omega) false _ ?_ ?_ ?_ ?_ ?_ ?_ (fun e ρ'' h=> ?_) <;> (try simp[g2,g3,g4,g10,g49,g50,hte,htg]) <;> (try rfl);obtain⟨k2,k3,k4,k49,k50,k51,k10⟩:=h;simp[g2,g3,g4,g49,g50]at k2 k3 k4 k49 k50 k51 k10;rw[x3 e]at hr1;simp[F.f401r0,k51,w2];rw[Qc F.f401l1.eq_1];simp[k50];refine hr1 _ ?_ ?_ <;> simp[k4,k10]
 generalize apE (QC g A) (QC f B)=Z at *;rw[hte,htg]at h0 h1 h2 goal ⊢;simp[F.f401C,h0,h1,h2,h3,h4,c0];apply goal <;> first | rfl | simp
def TW (B0 B:List (List AV)) (v:AV) (l:List Tst):Prop:=∃(M:List (List AV)) (id sz:Nat),B=B0 ++ M∧v= .gs id 0 sz l.length∧
 ((sz=0∧id=0∧l=[])∨(sz=9∧B0.length≤id∧l≠[]∧B[id]? =some (Yu l)))
theorem LO {B0 B:List (List AV)} {v:AV} {l:List Tst} (h:TW B0 B v l): ∃id sz,v= .gs id 0 sz l.length:=by
 obtain⟨M,id,sz,_,rfl,_⟩:=h;exact⟨id,sz,rfl⟩
theorem QeK (B0 M:List (List AV)):TW B0 (B0 ++ M) (.gs 0 0 0 0) []:=⟨M,0,0,rfl,rfl,.inl ⟨rfl,rfl,rfl⟩⟩
theorem QnH {B0 B:List (List AV)} {v:AV} {l:List Tst} (M:List (List AV)) (h:TW B0 B v l):TW B0 (B ++ M) v l:=by
 obtain⟨M',id,sz,rfl,rfl,hc⟩:=h;refine⟨M' ++ M,id,sz,by simp,rfl,?_⟩;rcases hc with hc | ⟨a,b,c,d⟩
 ·exact .inl hc
 ·exact .inr ⟨a,b,c,by rw[List.getElem?_append_left (VG d)];exact d⟩
theorem LN {B0 B:List (List AV)} {v:AV} {l:List Tst} (h:TW B0 B v l): ∃M,B=B0 ++ M:=by
 obtain⟨M,_,_,h,_⟩:=h;exact⟨M,h⟩
theorem QnI {B0 B:List (List AV)} {v:AV} {l:List Tst} (h:TW B0 B v l):Xp 9 v B=some (l.length,Yu l):=by
 obtain⟨M,id,sz,rfl,rfl,hc⟩:=h;rcases hc with⟨rfl,rfl,rfl⟩ | ⟨rfl,hid,hne,hb⟩
 ·simp[Xp,ZP]
 ·have hz: ¬l.length=0:=fun e=>hne (List.eq_nil_of_length_eq_zero e);have hr: (Yu l).length=l.length*9:=Z2 XD l;have hst: (Yu l).map AV.strip=Yu l:=Z6 YC l;have hle:0+l.length*9≤(Yu l).length:=by omega
  have htk: ((Yu l).drop 0).take (l.length*9)=Yu l:=by rw[List.drop_zero,List.take_of_length_le (by omega)]
  simp only[Xp];rw[if_neg hz,if_pos trivial,hb];simp only[Option.bind_some];rw[if_pos hle,htk,hst]
theorem Ai {B0 B:List (List AV)} {v x:AV} {l m:List Tst} (h:TW B0 B v l) (hs:Xp 9 x B=some (m.length,Yu m)) (hl: (l.length+m.length)*120≤140737488355328):
  ∃v' B',appM 120 9 v x B=some (v',B')∧TW B0 B' v' (l ++ m):=by
 obtain⟨M,id,sz,rfl,rfl,hc⟩:=h;have hrow:Yu (l ++ m)=Yu l ++ Yu m:=by simp[X9]
 by_cases hm:m=[]
 ·subst hm;refine⟨.gs id 0 sz l.length,B0 ++ M,?_,M,id,sz,rfl,by rw[List.append_nil],by rw[List.append_nil];exact hc⟩;simp only[appM,hs,Option.bind_some];rw[if_pos ⟨by omega,hl⟩,if_pos (by simp)]
 have hm0: ¬m.length=0:=fun e=>hm (List.eq_nil_of_length_eq_zero e);rcases hc with⟨rfl,rfl,rfl⟩ | ⟨rfl,hid,hne0,hbx⟩
 ·refine⟨.gs (B0 ++ M).length 0 9 m.length,(B0 ++ M)++ [Yu m],?_,M ++ [Yu m],(B0 ++ M).length,9,by simp,by simp,.inr ⟨rfl,by simp,by simpa using hm,?_⟩⟩
  ·simp only[appM,hs,Option.bind_some,List.length_nil];rw[if_pos ⟨by omega,by simpa using hl⟩,if_neg hm0,if_pos ⟨trivial,trivial⟩]
  ·rw[List.getElem?_concat_length];simp
 ·have hr: (Yu l).length=l.length*9:=Z2 XD l;have hst: (Yu l).map AV.strip=Yu l:=Z6 YC l;have hpos:0 < l.length:=List.length_pos_iff.2 hne0;have hne:Yu l≠[]:=by
   intro e;rw[e]at hr;simp at hr;omega
  have hroom: ¬(l.length+m.length)*9≤(Yu l).length:=by omega
  refine⟨.gs (B0 ++ M).length 0 9 (l.length+m.length),(B0 ++ M).set id []++ [Yu l ++ Yu m],?_,M.set (id - B0.length) []++ [Yu l ++ Yu m],(B0 ++ M).length,9,?_,by simp,.inr ⟨rfl,by simp,by simp[hne0],?_⟩⟩
  ·simp only[appM,hs,Option.bind_some];rw[if_pos ⟨by omega,hl⟩,if_neg hm0,if_neg (by omega),if_pos ⟨trivial,trivial⟩,hbx];simp only[Option.bind_some];rw[if_pos ⟨hne,by omega⟩,if_neg hroom,List.take_of_length_le (by omega),hst]
  ·rw[Y2 hid,List.append_assoc]
  ·have e: (B0 ++ M).length=((B0 ++ M).set id []).length:=by simp
   rw[hrow,e,List.getElem?_concat_length]
theorem QnG {B0 B:List (List AV)} {v:AV} {l:List Tst} (q:Tst) (o:Bool) (h:TW B0 B v l) (hl: (l.length+1)*120≤140737488355328): ∃v' B',appM 120 9 v (.sl o 9 [Zl q]) B=some (v',B')∧TW B0 B' v' (l ++ [q]):=
 Ai (m:=[q]) h (by simp[Xp,YC,ZP]) hl
theorem Qok {B0 B:List (List AV)} {v:AV} {q:Tst} {l:List Tst} (h:TW B0 B v (q:: l)): ∃id c,v= .gs id 0 9 (l.length+1)∧B[id]? =some (Zl q ++ c):=by
 obtain⟨M,id,sz,rfl,rfl,hc⟩:=h;rcases hc with⟨_,_,h⟩ | ⟨rfl,hid,hne,hb⟩
 ·cases h
 ·exact⟨id,Yu l,rfl,by rw[hb];show some (ZP Zl (q:: l))=_;rw[Uu]⟩
def QkL (bs:List (List AV)) (l:List Tst) (e:Int) (r:Out):Prop:=∃v B,r=some (.tup [v,.int .i64 e],B)∧TW bs B v l
theorem QmX (f:Fr) (hf:FOk f) (hM:massL f.t < 1000000) (l:List Tst) (hl:l.length < 100000000000) (hm: ∀q∈l,q.l.mass < 1000000∧q.r.mass < 1000000) (bs:List (List AV)):
  ∀(post pre acc:List Tst) (B:List (List AV)) (v:AV) (o:Bool) (ρ:Nat→AV),l=pre ++ post→acc.length≤pre.length→TW bs B v acc→ρ 0= .sl o 9 (QK l)→ρ 3= .bx (Qj f)→ρ 6=v→ρ 7= .int .i64 pre.length→
  QkL bs (if(QC f post).2=0 then acc ++ (QC f post).1 else []) (QC f post).2 (R F.tb (.loop F.f475l0) ρ B (Ql 0 (Qr F.tb F.f475r0 (Qt F.f475 bs)))):=by
 have hte:Qj f=[.sl false 4 (encTs f.s),.sl false 4 (encTs f.t)]:=rfl;intro post
 induction post with
 | nil=>
  intro pre acc B v o ρ hk hal hT h0 h3 h6 h7;simp only[List.append_nil]at hk;rw[← hk]at h7;have e: (QC f []).2=0:=rfl;have e1: (QC f []).1=[]:=rfl;obtain⟨id,sz,rfl⟩:=LO hT;rw[Qc F.f475l0.eq_1,if_pos e,e1,e];refine⟨.gs id 0 sz acc.length,B,?_,by simpa using hT⟩;simp[h0,h6,h7,Z9,F.f475r0]
 | cons q post IH=>
  intro pre acc B v o ρ hk hal hT h0 h3 h6 h7;have hg:=LT (Qp hk);have hll:=Qx hk;have hw1:=wr1 pre.length (by omega);have hlt:=Qy hk;obtain⟨hq1,hq2⟩:=hm q (by rw[hk];simp);have hc:=It f hf hM q hq1 hq2 B;obtain⟨v',B',ha,hT'⟩:=QnG q false hT (O5 (by omega));obtain⟨id,sz,hv⟩:=LO hT;obtain⟨id',sz',hv'⟩:=LO hT';have e1:=ZM q;rw[e1]at hg hc ha;rw[Qc F.f475l0.eq_1];by_cases c1: (YZ f q.l q.r q.f).2=0
  ·rw[Mz c1];have ef: (QC f post).2=0→(QC f (q:: post)).1=if(YZ f q.l q.r q.f).1 then(QC f post).1 else q:: (QC f post).1:=fun e=>Hj c1 e
   have er: ∀acc2,(∀r,acc ++ (if(YZ f q.l q.r q.f).1 then r else q:: r)=acc2 ++ r)→(if(QC f post).2=0 then acc ++ (QC f (q:: post)).1 else [])=if(QC f post).2=0 then acc2 ++ (QC f post).1 else []:=by
    intro acc2 h;by_cases d: (QC f post).2=0
    ·rw[if_pos d,if_pos d,ef d,h]
    ·rw[if_neg d,if_neg d]
   cases c2: (YZ f q.l q.r q.f).1
   ·rw[er (acc ++ [q]) (by rw[c2];simp)];rw[c1,c2]at hc;have i1:=fun ρ=>IH (pre ++ [q]) (acc ++ [q]) B' v' o ρ (by rw[hk];simp) (by simp only[List.length_append,List.length_singleton];omega) hT';subst hv;subst hv';rw[hte]at hc h3 i1;generalize (if(QC f post).2=0 then acc ++ [q]++ (QC f post).1 else [])=Z at *;simp[-getElem?_pos,Ya,List.getElem?_cons_succ,h0,h3,h6,h7,hg,hlt,hw1,hc,Z9,ha];simp only[List.length_append,List.length_singleton]at i1;apply i1 <;> simp[h0,h3]
   ·rw[er acc (by rw[c2];simp)];rw[c1,c2]at hc;have i1:=fun ρ=>IH (pre ++ [q]) acc B v o ρ (by rw[hk];simp) (by simp only[List.length_append,List.length_singleton];omega) hT;rw[hte]at hc h3 i1;generalize (if(QC f post).2=0 then acc ++ (QC f post).1 else [])=Z at *;simp[-getElem?_pos,Ya,List.getElem?_cons_succ,h0,h3,h6,h7,hg,hlt,hw1,hc,Z9];apply i1 <;> simp[h0,h3,h6]
  ·rw[Hi c1,if_neg c1];obtain⟨M,rfl⟩:=LN hT;refine⟨.gs 0 0 0 0,bs ++ M,?_,QeK bs M⟩;rw[hte]at hc h3;simp[-getElem?_pos,Ya,List.getElem?_cons_succ,h0,h3,h6,h7,hg,hlt,hc,c1,Z9]
theorem Qdx {f:Fr}: ∀{l:List Tst},(QC f l).2≠0→(QC f l).1=[]
 | [],h=>absurd rfl h
 | q:: r,h=>by
  unfold QC at h ⊢;split at h
  ·rename_i c;rw[if_pos c]
  ·rename_i c;rw[if_neg c];split at h
   ·rename_i d;rw[if_pos d]
   ·exact absurd rfl h
theorem Bw (f:Fr) (hf:FOk f) (hM:massL f.t < 1000000) (l:List Tst) (hl:l.length < 100000000000) (hm: ∀q∈l,q.l.mass < 1000000∧q.r.mass < 1000000) (o:Bool) (bs:List (List AV)):
  QkL bs (QC f l).1 (QC f l).2 (call F.tb 475 [.sl o 9 (QK l),.agg (Qj f)] bs):=by
 have h:=fun ρ=>QmX f hf hM l hl hm bs l [] [] bs (.gs 0 0 0 0) false ρ rfl (by simp) (by simpa using QeK bs []);have e: (if(QC f l).2=0 then([]:List Tst)++ (QC f l).1 else [])=(QC f l).1:=by
  by_cases c: (QC f l).2=0
  ·rw[if_pos c,List.nil_append]
  ·rw[if_neg c,Qdx c]
 simp only[e]at h;rw[Qb F.tb_475 _ _ rfl];simp[F.f475C];apply h <;> simp[Qq]
theorem Iu (f g:Fr) (hf:FOk f) (hM:massL f.t < 1000000) (hg:FOk g) (hN:massL g.t < 1000000) (bs:List (List AV)):
  call F.tb 446 [.agg (Qj f),.agg (Qj g)] bs=some (Z3 (WK f g),bs):=by
 have h0:=Bp f g hf hg bs;have hte:Qj f=[.sl false 4 (encTs f.s),.sl false 4 (encTs f.t)]:=rfl;have htg:Qj g=[.sl false 4 (encTs g.s),.sl false 4 (encTs g.t)]:=rfl;unfold WK;rw[Qb F.tb_446 _ _ rfl];by_cases c0: ¬VQ f g=0
 ·rw[if_pos c0];rw[hte,htg]at h0 ⊢;simp[F.f446C,h0,c0,Z3,YY]
 have c0:=Decidable.not_not.1 c0;obtain⟨hv,hw,_,_⟩:=RZ c0;obtain⟨kf,kM⟩:=Lp (g:=g) hf hM hv;obtain⟨kg,kN⟩:=Lp (g:=f) hg hN hw;have h1:=Br f g hf hM hv hg hN bs;have h2:=Br g f hg hN hw hf hM bs;have h3:=Bs (Zx f g) kf kM bs;have h4:=Bs (Zx g f) kg kN bs;obtain⟨a1,a2⟩:=S2 (Zx f g);obtain⟨b1,b2⟩:=S2 (Zx g f);simp only[Ty]at h3 h4;have hte2:Qj (Zx f g)=[.sl false 4 (encTs (Zx f g).s),.sl false 4 (encTs (Zx f g).t)]:=rfl;have htg2:Qj (Zx g f)=[.sl false 4 (encTs (Zx g f).s),.sl false 4 (encTs (Zx g f).t)]:=rfl;rw[hte2]at h1 h3;rw[htg2]at h2 h4;rw[if_neg (by simpa using c0)];generalize Xm (Zx f g)=A at *;generalize Xm (Zx g f)=B at *;obtain⟨A,ea⟩:=A;obtain⟨B,eb⟩:=B;simp only at a1 a2 b1 b2 h3 h4 ⊢;by_cases c1: ¬ea=0
 ·rw[if_pos c1];rw[hte,htg]at h0 h1 ⊢;simp[F.f446C,h0,h1,h3,c0,c1,Z3,YY]
 have c1:=Decidable.not_not.1 c1;rw[if_neg (by simpa using c1)];by_cases c2: ¬eb=0
 ·rw[if_pos c2];rw[hte,htg]at h0 h1 h2 ⊢;simp[F.f446C,h0,h1,h2,h3,h4,c0,c1,c2,Z3,YY]
 have c2:=Decidable.not_not.1 c2;rw[if_neg (by simpa using c2)];subst c1;subst c2;have n1:=RE g A;have n2:=RE f B;have k1:=fun o=>Bw g hg hN A a2 a1 o bs;have k2:=fun o bs=>Bw f hf hM B b2 b1 o bs;rw[hte,htg]at h0 h1 h2 ⊢;rw[htg]at k1;rw[hte]at k2;generalize QC g A=P at *;generalize QC f B=Q at *;obtain⟨P,ep⟩:=P;obtain⟨Q,eq⟩:=Q;simp only at n1 n2 k1 k2;obtain⟨v1,B1,g1,t1⟩:=k1 false;obtain⟨v2,B2,g2,t2⟩:=k2 false B1;obtain⟨M1,rfl⟩:=LN t1;obtain⟨M2,rfl⟩:=LN t2;obtain⟨i1,z1,hv1⟩:=LO t1;obtain⟨i2,z2,hv2⟩:=LO t2;have t1':=QnH M2 t1;obtain⟨v3,B3,g3,t3⟩:=Ai t1' (QnI t2) (O5 (by omega));obtain⟨i3,z3,hv3⟩:=LO t3;obtain⟨M3,hB3⟩:=LN t3;subst hv1;subst hv2;simp only[List.append_assoc]at g2 g3;unfold apE;simp only;by_cases d1:ep=0
 ·by_cases d2:eq=0
  ·rw[if_pos d1,if_pos d2];subst d1;subst d2;cases hPQ:P ++ Q with
   | nil=>
    rw[hPQ]at hv3;subst hv3;simp[F.f446C,h0,h1,h2,h3,h4,g1,g2,g3,c0,hB3,Z3,MA,YY]
   | cons q r=>
    rw[hPQ]at t3 hv3;obtain⟨i4,c,hv4,hb4⟩:=Qok t3;rw[ZM]at hb4;rw[hv4]at g3;have hp: (0:Int) < ((r.length:Int)+1):=by omega
    subst hB3;simp[-getElem?_pos,Ya,List.getElem?_cons_succ,F.f446C,h0,h1,h2,h3,h4,g1,g2,g3,c0,hp,hb4,Z3,MA,ZM]
  ·rw[if_pos d1,if_neg d2];subst d1;simp[F.f446C,h0,h1,h2,h3,h4,g1,g2,c0,d2,Z3,YY]
 ·rw[if_neg d1];simp[F.f446C,h0,h1,h2,h3,h4,g1,c0,d1,Z3,YY]
def Kd (f g:Fr):Bool×Int:=if(WK f g).2≠0∧(WK f g).2≠15 then(false,(WK f g).2)else(decide ((WK f g).2=15),0)
theorem QiK (f g:Fr) (hf:FOk f) (hM:massL f.t < 1000000) (hg:FOk g) (hN:massL g.t < 1000000) (bs:List (List AV)):
  call F.tb 400 [.agg (Qj f),.agg (Qj g)] bs=some (.tup [.bool (Kd f g).1,.int .i64 (Kd f g).2],bs):=by
 have h:=Io f g hf hM hg hN bs;have hte:Qj f=[.sl false 4 (encTs f.s),.sl false 4 (encTs f.t)]:=rfl;have htg:Qj g=[.sl false 4 (encTs g.s),.sl false 4 (encTs g.t)]:=rfl;rw[Qb F.tb_400 _ _ rfl];unfold Kd;generalize WK f g=Z at *;obtain⟨q,e⟩:=Z;simp only[Z3]at h;rw[ZM,hte,htg]at h;rw[hte,htg];by_cases c1:e=0
 ·simp[F.f400C,h,c1]
 ·by_cases c2:e=15
  ·simp[F.f400C,h,c1,c2]
  ·simp[F.f400C,h,c1,c2]
theorem Qje (f g:Fr) (hf:FOk f) (hM:massL f.t < 1000000) (hg:FOk g) (hN:massL g.t < 1000000) (bs:List (List AV)):
  call F.tb 461 [.agg (Qj f),.agg (Qj g)] bs=some (.tup [.bool (Kd f g).1,.int .i64 (Kd f g).2],bs):=by
 have h:=Iu f g hf hM hg hN bs;have hte:Qj f=[.sl false 4 (encTs f.s),.sl false 4 (encTs f.t)]:=rfl;have htg:Qj g=[.sl false 4 (encTs g.s),.sl false 4 (encTs g.t)]:=rfl;rw[Qb F.tb_461 _ _ rfl];unfold Kd;generalize WK f g=Z at *;obtain⟨q,e⟩:=Z;simp only[Z3]at h;rw[ZM,hte,htg]at h;rw[hte,htg];by_cases c1:e=0
 ·simp[F.f461C,h,c1]
 ·by_cases c2:e=15
  ·simp[F.f461C,h,c1,c2]
  ·simp[F.f461C,h,c1,c2]
def nmZ (k:Nat):List UInt8:=List.replicate (k+1) 122
theorem LF (k:Nat): (nmZ k).length=k+1:=by simp[nmZ]
theorem E7:nmZ 0=[122]:=rfl
theorem E6 (k:Nat):nmZ k ++ [122]=nmZ (k+1):=by
 unfold nmZ;rw[List.replicate_succ' (n:=k+1)]
def Ui (l:List Tm) (n:List UInt8):Bool:=l.any fun t=>(YB t).any fun a=>a.name == n
theorem M6 {l:List Tm} {n:List UInt8}:Ui l n=true↔∃a∈allL l,a.kind=2∧a.name=n:=by
 unfold Ui;simp only[List.any_eq_true,beq_iff_eq];constructor
 ·rintro⟨t,ht,a,ha,hn⟩
  obtain⟨h1,h2⟩:=T9.1 ha;exact⟨a,VB.2 ⟨t,ht,h1⟩,h2,hn⟩
 ·rintro⟨a,ha,hk,hn⟩
  obtain⟨t,ht,h1⟩:=VB.1 ha;exact⟨t,ht,a,T9.2 ⟨h1,hk⟩,hn⟩
def Tg (l:List Tm):Nat→Nat→Nat
 | 0,k=>k
 | n+1,k=>if Ui l (nmZ k)then Tg l n (k+1)else k
def ShN (l:List Tm):Prop:=∀a∈allL l,a.kind=2→a.name.length≤24
theorem KC {l:List Tm} (h:ShN l) {k:Nat} (hk:24≤k):Ui l (nmZ k)=false:=by
 cases c:Ui l (nmZ k)
 ·rfl
 ·obtain⟨a,ha,h1,h2⟩:=M6.1 c;have:=h a ha h1;rw[h2,LF]at this;omega
theorem MC {l:List Tm} (h:ShN l): ∀(n k:Nat),k+n=24→Ui l (nmZ (Tg l n k))=false∧Tg l n k≤24
 | 0,k,hk=>⟨KC h (by simp only[Tg];omega),by simp only[Tg];omega⟩
 | n+1,k,hk=>by
  unfold Tg;split
  ·exact MC h n (k+1) (by omega)
  ·rename_i c;exact⟨by simpa using c,by omega⟩
def MD (l:List Tm) (s:Int):Tm:= .mk 2 (nmZ (Tg l 24 0)) s []
theorem Qi5 (a:Tm) (n:List UInt8) (pos:Nat) (bs:List (List AV)) (hp:bs[pos]? =some [.str n]):call F.tb 437 [.agg (Qa a),.gp pos 0] bs=some (.bool (a.name == n),bs):=by
 have hlt:=(List.getElem?_eq_some_iff.1 hp).1;rw[Qb F.tb_437 _ _ rfl];simp[-getElem?_pos,Ya,F.f437C,Qg,hp]
theorem Bn (t:Tm) (n:List UInt8) (pos:Nat) (bs:List (List AV)) (hm:t.mass < 1000000) (hp:bs[pos]? =some [.str n]):call F.tb 436 [.agg (Qa t),.gp pos 0] bs=some (.bool ((YB t).any fun a=>a.name == n),bs):=by
 have h1:=KW t bs (by omega);have hal:=Ng t;have hnm:=Zm t;have h2:=fun o=>W9 (YB t) 437 [.gp pos 0] (fun a=>a.name == n) o bs (by omega) (by simp) (fun a _=>Qi5 a n pos bs hp);have e:=Qg t;rw[e]at h1;rw[Qb F.tb_436 _ _ rfl];simp[F.f436C,e,h1,h2]
theorem Qm1 (l:List Tm) (s:Int) (hl:l.length < 1000000) (hm: ∀x∈l,x.mass < 1000000) (hS:ShN l) (bs:List (List AV)):
  ∀(n k:Nat) (o:Bool) (ρ:Nat→AV),k+n=24→ρ 1= .int .i64 s→ρ 4= .bx [.int .i64 0,.str [],.int .i64 0,.sl true 4 []]→ρ 5= .sl o 4 (encTs l)→ρ 6= .gp bs.length 0→
  R F.tb (.loop F.f435l0) ρ (bs ++ [[.str (nmZ k)]]) (Ql 0 (Qr F.tb F.f435r0 (Qt F.f435 bs)))=some (.agg (Qa (.mk 2 (nmZ (Tg l n k)) s [])),bs):=by
 intro n;have stop: ∀(k:Nat) (o:Bool) (ρ:Nat→AV),k≤24→Ui l (nmZ k)=false→ρ 1= .int .i64 s→ρ 4= .bx [.int .i64 0,.str [],.int .i64 0,.sl true 4 []]→ρ 5= .sl o 4 (encTs l)→ρ 6= .gp bs.length 0→
   R F.tb (.loop F.f435l0) ρ (bs ++ [[.str (nmZ k)]]) (Ql 0 (Qr F.tb F.f435r0 (Qt F.f435 bs)))=some (.agg (Qa (.mk 2 (nmZ k) s [])),bs):=by
  intro k o ρ hk hu h1 h4 h5 h6;have h2:=fun o=>W9 l 436 [.gp bs.length 0] (fun t=>(YB t).any fun a=>a.name == nmZ k) o (bs ++ [[.str (nmZ k)]]) hl (by simp) (fun t ht=>Bn t (nmZ k) bs.length _ (hm t ht) (by simp));have hu': (l.any fun t=>(YB t).any fun a=>a.name == nmZ k)=false:=hu;rw[hu']at h2;rw[Qc F.f435l0.eq_1];simp[h1,h4,h5,h6,h2,F.f435r0,Qa,encTs]
 induction n with
 | zero=>
  intro k o ρ hk h1 h4 h5 h6;exact stop k o ρ (by omega) (KC hS (by omega)) h1 h4 h5 h6
 | succ n IH=>
  intro k o ρ hk h1 h4 h5 h6;unfold Tg;cases c:Ui l (nmZ k)
  ·exact stop k o ρ (by omega) c h1 h4 h5 h6
  ·have h2:=fun o=>W9 l 436 [.gp bs.length 0] (fun t=>(YB t).any fun a=>a.name == nmZ k) o (bs ++ [[.str (nmZ k)]]) hl (by simp) (fun t ht=>Bn t (nmZ k) bs.length _ (hm t ht) (by simp));have hu': (l.any fun t=>(YB t).any fun a=>a.name == nmZ k)=true:=c;rw[hu']at h2;have hi:=fun ρ=>IH (k+1) o ρ (by omega);have hlen: (nmZ k).length+1≤9223372036854775807:=by rw[LF];omega
   rw[← E6]at hi;rw[Qc F.f435l0.eq_1];simp[h1,h4,h5,h6,h2,hlen];apply hi <;> simp[h1,h4,h5,h6]
theorem Qi4 (f:Fr) (s:Int) (hf:FOk f) (hlen: (f.s ++ f.t).length < 1000000) (hS:ShN (f.s ++ f.t)) (bs:List (List AV)):call F.tb 435 [.agg (Qj f),.int .i64 s] bs=some (.agg (Qa (MD (f.s ++ f.t) s)),bs):=by
 have hsl:=hf.sl;have htl:=hf.tl;have h1:=fun o=>Tw [f.s,f.t] o bs (by simp) (by simp;omega);simp only[List.flatten_cons,List.flatten_nil,List.append_nil,Uh,List.map_cons,List.map_nil]at h1;have hl:=fun ρ=>Qm1 (f.s ++ f.t) s hlen (fun x hx=>by
  rcases List.mem_append.1 hx with hx | hx
  ·exact hf.s x hx
  ·exact hf.t x hx) hS bs 24 0 false ρ rfl
 rw[E7]at hl;have hte:Qj f=[.sl false 4 (encTs f.s),.sl false 4 (encTs f.t)]:=rfl;unfold MD;rw[Qb F.tb_435 _ _ rfl,hte];simp[F.f435C,h1];apply hl <;> simp
def nmB (n:List UInt8) (x:Tm):Bool:=decide (x.kind=2) && (x.name == n)
theorem DB (l:List Tm) (n:List UInt8): (YM (allL l)).any (nmB n)=Ui l n:=by
 apply Bool.eq_iff_iff.2;rw[M6,List.any_eq_true];simp only[VJ,nmB,Bool.and_eq_true,decide_eq_true_eq,beq_iff_eq]
theorem QdE (S:List Tm) (hS:S.length < 1000000) (n:List UInt8) (s:Int) (bs:List (List AV)) (C:AC) (K:Kn) (X:Out):
  ∀(post pre:List Tm) (u:Bool) (o:Bool) (ρ:Nat→AV),S=pre ++ post→ρ 1= .int .i64 s→ρ 4= .bx [.int .i64 0,.str [],.int .i64 0,.sl true 4 []]→ρ 5= .sl o 4 (encTs S)→ρ 6= .str n→ρ 7= .bool u→ρ 8= .int .i64 pre.length→
   (∀ρ':Nat→AV,ρ' 1= .int .i64 s→ρ' 4= .bx [.int .i64 0,.str [],.int .i64 0,.sl true 4 []]→ρ' 5= .sl o 4 (encTs S)→ρ' 6= .str n→ρ' 7= .bool (u || post.any (nmB n))→R F.tb C ρ' bs K=X)→
  R F.tb (.loop F.f464l0) ρ bs (Ql 2 (Qr F.tb C K))=X:=by
 intro post
 induction post with
 | nil=>
  intro pre u o ρ hk h1 h4 h5 h6 h7 h8 hX;simp only[List.append_nil]at hk;rw[← hk]at h8;rw[Qc F.f464l0.eq_1];simp[h5,h8];apply hX <;> simp[h1,h4,h5,h6,h7]
 | cons x post IH=>
  intro pre u o ρ hk h1 h4 h5 h6 h7 h8 hX;have hg:=Qp hk;have hll:=Qx hk;have hw1:=wr1 pre.length (by omega);have hlt:=Qy hk;have e1:=Qg x;have hi:=fun u ρ=>IH (pre ++ [x]) u o ρ (by rw[hk];simp);have ea: (u || (x:: post).any (nmB n))=((u || nmB n x) || post.any (nmB n)):=by rw[List.any_cons,Bool.or_assoc]
  rw[ea]at hX;rw[Qc F.f464l0.eq_1];cases u
  ·rw[Bool.false_or]at hX;by_cases c1:x.kind=2
   ·by_cases c2:x.name=n
    ·have en:nmB n x=true:=by simp[nmB,c1,c2]
     rw[en]at hX;simp[h5,h6,h7,h8,hg,hlt,hw1,e1,c1,c2];refine hi true _ ?_ ?_ ?_ ?_ ?_ ?_ (fun ρ' g1 g4 g5 g6 g7=>hX ρ' g1 g4 g5 g6 g7) <;> simp[h1,h4,h5,h6]
    ·have en:nmB n x=false:=by simp[nmB,c2]
     rw[en]at hX;simp[h5,h6,h7,h8,hg,hlt,hw1,e1,c1,c2];refine hi false _ ?_ ?_ ?_ ?_ ?_ ?_ (fun ρ' g1 g4 g5 g6 g7=>hX ρ' g1 g4 g5 g6 g7) <;> simp[h1,h4,h5,h6,c2]
   ·have en:nmB n x=false:=by simp[nmB,c1]
    rw[en]at hX;simp[h5,h6,h7,h8,hg,hlt,hw1,e1,c1];refine hi false _ ?_ ?_ ?_ ?_ ?_ ?_ (fun ρ' g1 g4 g5 g6 g7=>hX ρ' g1 g4 g5 g6 g7) <;> simp[h1,h4,h5,h6]
  ·simp[h5,h6,h7,h8,hg,hlt,hw1,e1];refine hi true _ ?_ ?_ ?_ ?_ ?_ ?_ (fun ρ' g1 g4 g5 g6 g7=>hX ρ' g1 g4 g5 g6 (by rw[g7];simp)) <;> simp[h1,h4,h5,h6]
theorem Qm2 (l:List Tm) (s:Int) (hl: (YM (allL l)).length < 1000000) (hS:ShN l) (bs:List (List AV)):
  ∀(n k:Nat) (o:Bool) (ρ:Nat→AV),k+n=24→ρ 1= .int .i64 s→ρ 4= .bx [.int .i64 0,.str [],.int .i64 0,.sl true 4 []]→ρ 5= .sl o 4 (encTs (YM (allL l)))→ρ 6= .str (nmZ k)→
  R F.tb (.loop F.f464l1) ρ bs (Ql 0 (Qt F.f464 bs))=some (.agg (Qa (.mk 2 (nmZ (Tg l n k)) s [])),bs):=by
 have hat:=fun n=>AR n s bs;have e0: ∀n:List UInt8,Qa (.mk 2 n s [])=[.int .i64 2,.str n,.int .i64 s,.sl false 4 []]:=fun n=>by simp[Qa,encTs]
 have stop: ∀(k:Nat) (o:Bool) (ρ:Nat→AV),Ui l (nmZ k)=false→ρ 1= .int .i64 s→ρ 4= .bx [.int .i64 0,.str [],.int .i64 0,.sl true 4 []]→ρ 5= .sl o 4 (encTs (YM (allL l)))→ρ 6= .str (nmZ k)→
   R F.tb (.loop F.f464l1) ρ bs (Ql 0 (Qt F.f464 bs))=some (.agg (Qa (.mk 2 (nmZ k) s [])),bs):=by
  intro k o ρ hu h1 h4 h5 h6;have hat:=hat (nmZ k);rw[e0]at hat ⊢;have hl0:=fun X ρ=>QdE (YM (allL l)) hl (nmZ k) s bs F.f464r0 (Ql 1 (Qr F.tb F.f464r1 (Qr F.tb (.loop F.f464l1) (Ql 0 (Qt F.f464 bs))))) X (YM (allL l)) [] false o ρ rfl;rw[DB,hu,Bool.false_or]at hl0;rw[Qc F.f464l1.eq_1];simp only[Ts,Cr,QgS];simp;refine hl0 _ _ ?_ ?_ ?_ ?_ ?_ ?_ (fun ρ' g1 g4 g5 g6 g7=> ?_) <;> (try simp[h1,h4,h5,h6]);simp[F.f464r0,g1,g4,g6,g7,hat]
 intro n
 induction n with
 | zero=>
  intro k o ρ hk h1 h4 h5 h6;exact stop k o ρ (KC hS (by omega)) h1 h4 h5 h6
 | succ n IH=>
  intro k o ρ hk h1 h4 h5 h6;unfold Tg;cases c:Ui l (nmZ k)
  ·exact stop k o ρ c h1 h4 h5 h6
  ·have hl0:=fun X ρ=>QdE (YM (allL l)) hl (nmZ k) s bs F.f464r0 (Ql 1 (Qr F.tb F.f464r1 (Qr F.tb (.loop F.f464l1) (Ql 0 (Qt F.f464 bs))))) X (YM (allL l)) [] false o ρ rfl;rw[DB,c,Bool.false_or]at hl0;have hi:=fun o ρ=>IH (k+1) o ρ (by omega);have hlen: (nmZ k).length+1≤9223372036854775807:=by rw[LF];omega
   rw[← E6]at hi;rw[Qc F.f464l1.eq_1];rw[if_pos rfl];generalize Qa (.mk 2 (nmZ (Tg l n (k+1))) s [])=Z at *;simp;refine hl0 _ _ ?_ ?_ ?_ ?_ ?_ ?_ (fun ρ' g1 g4 g5 g6 g7=> ?_) <;> (try simp[h1,h4,h5,h6]);simp[F.f464r0,F.f464r1,g1,g4,g6,g7,hlen];apply hi <;> first | rfl | assumption | simp[g1,g4,g5]
theorem Qjg (f:Fr) (s:Int) (hf:FOk f) (hlen: (f.s ++ f.t).length < 1000000) (hM:massL (f.s ++ f.t) < 100000000) (hN:nodesL (f.s ++ f.t) < 1000000) (hS:ShN (f.s ++ f.t)) (bs:List (List AV)):
  call F.tb 464 [.agg (Qj f),.int .i64 s] bs=some (.agg (Qa (MD (f.s ++ f.t) s)),bs):=by
 have h1:=fun o=>NS (f.s ++ f.t) o bs (by omega) hM;have hsl:=NJ (allL (f.s ++ f.t));rw[allL_len]at hsl;have hl:=fun o ρ=>Qm2 (f.s ++ f.t) s (by omega) hS bs 24 0 o ρ rfl;rw[E7]at hl;have hte:Qj f=[.sl false 4 (encTs f.s),.sl false 4 (encTs f.t)]:=rfl;rw[List.length_append]at hlen;have hb1:f.s.length*56≤140737488355328:=Yi (by omega);have hb2: (f.s.length+f.t.length)*56≤140737488355328:=Yi (by omega);unfold MD;rw[Qb F.tb_464 _ _ rfl,hte];simp[F.f464C,hb1,hb2,QP,h1];apply hl <;> first | rfl | simp
end Go.Am
