/-
  Am15, Am16, Am17, Am18, Am19, Am24.
-/
import Derived.Test.YtkikjgionglgaaaGreatDoorG07
import Derived.LoopN
import Derived.Lib.AtoiAll
import Derived.Below
import Derived.Lib.Bytealg
import Derived.Lib.IndexAny
import Derived.Lib.ItoaNum
import Derived.Lib.LaidTab
import Derived.Lib.ConvBytes
import Derived.Sort.Grow
import Derived.Deep.Draws
import Derived.Lib.AtoiErrMem
set_option linter.unusedVariables false
set_option linter.unusedSimpArgs false
namespace Go.Am
structure En where
 j:Nat
 g:Option (Nat×Bool)
 q:Nat
 s:Nat
 off:Nat
def Gi (x:Qp) (j:Nat):Option En:=match x.op,x.dst with
 | .fad s off,some q=>some ⟨j,x.guard,q,s,off⟩
 | _,_=>none
def entries (xs:List Qp):List En:=xs.zipIdx.filterMap fun p=>Gi p.1 p.2
def AR (E:List En) (prec:Nat→Nat→Bool) (i:Nat) (g:Option (Nat×Bool)) (q s off:Nat):Bool:=
 E.any fun en=>prec i en.j && (decide (en.g=none) || decide (en.g=g)) && decide (en.q=q) && decide (en.s=s) && decide (en.off=off)
def Bn (E:List En) (prec:Nat→Nat→Bool) (xs:List Qp):Bool:=
 E.all fun en=>xs.zipIdx.all fun p=>(decide (p.2=en.j) || !decide (p.1.dst=some en.q)) && !decide (p.1.dst=some en.s) &&
  (match en.g with
   | some (t,_)=> !decide (p.1.dst=some t) || prec en.j p.2
   | none=>true)
def Ms (cops:Array Oper) (x:Qp) (o:Oper):Bool:=match x.guard,o.guard with
 | none,none=>true
 | some (t,b),some (j,b2)=>decide (b=b2) && decide (((cops[j]?).bind (·.dst))=some t)
 | _,_=>false
def CO (P:Program) (num:Nat→Option Nat) (N:Nat) (E:List En) (prec:Nat→Nat→Bool) (cops:Array Oper) (i:Nat) (x:Qp) (o:Oper):Bool:=
 decide (x.dst=o.dst) && (match x.dst with
  | some d=>decide (d < N)
  | none=>true) && Ms cops x o && AJ P num (AR E prec i x.guard) x.op o.op
def Tu (P:Program) (num:Nat→Option Nat) (N:Nat) (prec:Nat→Nat→Bool) (cops:Array Oper) (xs:List Qp):Bool:=
 decide (xs.length=cops.size) && Bn (entries xs) prec xs && xs.zipIdx.all fun p=>match cops[p.2]? with
  | some o=>CO P num N (entries xs) prec cops p.2 p.1 o
  | none=>false
def gOK (σ:St):Option (Nat×Bool)→Prop
 | none=>True
 | some (t,b)=>σ.env t= .bool b
def RS (E:List En) (D:Nat→Prop) (σ:St) (a:Act):Prop:=∀en∈E,D en.j→gOK σ en.g→WO a en.q en.s en.off
theorem OB {xs:List Qp} {en:En} (h:en∈entries xs): ∃x,xs[en.j]? =some x∧x.op= .fad en.s en.off∧x.dst=some en.q∧x.guard=en.g:=by
 unfold entries at h;rw[List.mem_filterMap]at h;obtain⟨⟨x,j⟩,h1,h2⟩:=h;have h3:xs[j]? =some x:=by
  rw[List.mem_iff_getElem?]at h1;obtain⟨k,hk⟩:=h1;rw[List.getElem?_zipIdx]at hk;cases hx:xs[k]? with
  | none=>rw[hx]at hk;cases hk
  | some y=>
   rw[hx]at hk;simp only[Option.map_some,Option.some.injEq,Prod.mk.injEq]at hk;obtain⟨rfl,rfl⟩:=hk;simpa using hx
 simp only[Gi]at h2;split at h2
 ·rename_i s off q e1 e2;injection h2 with h2
  subst h2;exact⟨x,h3,e1,e2,rfl⟩
 ·cases h2
theorem GI {xs:List Qp} {f:Qp×Nat→Bool} (h:xs.zipIdx.all f=true) {i:Nat} {x:Qp} (hx:xs[i]? =some x):f (x,i)=true:=by
 rw[List.all_eq_true]at h;refine h (x,i) (List.mem_of_getElem? (i:=i) ?_);rw[List.getElem?_zipIdx,hx];simp
section
variable {P:Program} {num:Nat→Option Nat} {β:List Blk} {w w':World} {m:Nat→Nat} {ν:Own} {N:Nat} {w0:World} {m0:Nat→Nat} {T:Nat→Prop} {β0:List Blk} {σ σ1 σ2:St} {a:Act}
 {next:Act→World→Prop} {Q:Exit→Act→World→Prop} {K:Zx} {v:AV} {xs:List Qp} {cops:Array Oper} {prec:Nat→Nat→Bool}
theorem Qcw {op:AOp} (h:Qe K op σ=some (v,σ1)): ∀j∈Yc op,σ1.env j= .undef∨∃cs,σ1.env j= .bx cs:=by
 intro j hj;cases op <;> simp only[Yc,List.not_mem_nil,List.mem_cons,or_false]at hj
 case mvs n=>
  subst hj;simp only[Qe]at h;split at h
  ·injection h with h;injection h with _ h;subst h;exact .inl (by simp[upd])
  ·cases h
 case ldfm s off=>
  subst hj;simp only[Qe]at h;split at h
  ·rename_i cs hcs;cases hc:cs[off]? with
   | none=>rw[hc]at h;cases h
   | some c=>
    rw[hc]at h;simp only[Option.bind_some]at h;split at h
    ·injection h with h;injection h with _ h;subst h;exact .inr ⟨_,by simp[upd];rfl⟩
    ·cases h
  ·cases h
 case stf s off sz x=>
  subst hj;simp only[Qe]at h;split at h
  ·rename_i cs hcs;cases hc:cellsOf (val σ.env x)with
   | none=>rw[hc]at h;cases h
   | some c=>
    rw[hc]at h;simp only[Option.bind_some]at h;split at h
    ·injection h with h;injection h with _ h;subst h;exact .inr ⟨_,by simp[upd];rfl⟩
    ·cases h
  ·cases h
 case stn s off sz x zs=>
  subst hj;simp only[Qe]at h;split at h
  ·rename_i cs hcs;cases hc:cellsOf (val σ.env x)with
   | none=>rw[hc]at h;cases h
   | some c=>
    rw[hc]at h;simp only[Option.bind_some]at h;split at h
    ·injection h with h;injection h with _ h;subst h;exact .inr ⟨_,by simp[upd];rfl⟩
    ·cases h
  ·cases h
 case stfm s off n=>
  simp only[Qe]at h;split at h
  ·rename_i cs hcs;split at h
   ·rename_i hne;injection h with h;injection h with _ h;subst h
    rcases hj with rfl | rfl
    ·exact .inr ⟨_,by simp[upd];rfl⟩
    ·exact .inl (by simp only[upd];rw[if_neg (fun e=>hne.1 e.symm)];simp)
   ·cases h
  ·cases h
 case stm p n=>
  subst hj;simp only[Qe]at h;split at h
  ·rename_i i of hcs;cases hc:σ.bs[i]? with
   | none=>rw[hc]at h;cases h
   | some c=>
    rw[hc]at h;simp only[Option.bind_some]at h;split at h
    ·injection h with h;injection h with _ h;subst h;exact .inl (by simp[upd])
    ·cases h
  ·cases h
 case ldfz s off sz fo fz=>
  subst hj;simp only[Qe]at h;split at h
  ·rename_i cs hcs;split at h
   ·rename_i id o sz1 k hfo;split at h
    ·cases hb:σ.bs[id]? with
     | none=>rw[hb]at h;cases h
     | some c2=>
      rw[hb]at h;simp only[Option.bind_some]at h;split at h
      ·cases hr:ZO (cs.set fo (.sl false fz (ZE c2 o fz k))) off sz true with
       | none=>rw[hr]at h;cases h
       | some v2=>
        rw[hr]at h;injection h with h;injection h with _ h;subst h
        exact .inr ⟨_,by simp[upd];rfl⟩
      ·cases h
    ·split at h
     ·cases hr:ZO (cs.set fo (.sl false fz [])) off sz true with
      | none=>rw[hr]at h;cases h
      | some v2=>
       rw[hr]at h;injection h with h;injection h with _ h;subst h
       exact .inr ⟨cs,hcs⟩
     ·cases h
   ·cases h
  ·cases h
 case frz n sz=>
  subst hj;simp only[Qe]at h;have:=Oh h;simp only at this;exact .inl (by rw[this];simp[upd])
 case appz bytes sz n x=>
  subst hj;simp only[Qe]at h;split at h
  ·rename_i s _ _ _ hf _;have:=Oh hf;simp only at this;split at h
   ·injection h with h;injection h with _ h;subst h
    exact .inl (by rw[this];simp[upd])
   ·cases h
  ·cases h
 case appg bytes sz s x=>
  cases s with
  | c v=>simp[rdO]at hj
  | t n=>
   simp only[rdO,List.mem_singleton]at hj;subst hj;simp only[Qe]at h;split at h
   ·rename_i e1 e2;simp only[Prod.mk.injEq]at e1;obtain⟨_,rfl⟩:=e1;split at h
    ·split at h
     ·cases h
     ·injection h with h;injection h with _ h;subst h;exact .inl (by simp[upd])
    ·cases h
   ·cases h
 case app bytes sz s x=>
  cases s with
  | c v=>simp[rdO]at hj
  | t n=>
   simp only[rdO,List.mem_singleton]at hj;subst hj;simp only[Qe]at h;split at h
   ·rename_i sz1 ys ρ o2 sz2 zs e1 e2;simp only[Prod.mk.injEq]at e1;obtain⟨e1,rfl⟩:=e1;split at h
    ·injection h with h;injection h with _ h;subst h;exact .inl (by simp[upd])
    ·cases h
   ·cases h
theorem Ct [Dr] {op:AOp} (h:Qe K op σ=some (v,σ1)) {t:Nat} {b:Bool} (ht:σ1.env t= .bool b):σ.env t= .bool b:=by
 by_cases hj:t∈Yc op
 ·rcases Qcw h t hj with h1 | ⟨cs,h1⟩ <;> rw[h1]at ht <;> cases ht
 ·have:=congrArg (fun s:St=>s.env t) (Fr h);simp only[Qx]at this;rw[if_neg hj]at this;rw[← this];exact ht
theorem MD {q s off:Nat} {d:Option Nat} {u:Value} (h:WO a q s off) (h1:d≠some q) (h2:d≠some s):WO (a.put d u) q s off:=by
 obtain⟨b,p1,p2⟩:=h;cases d with
 | none=>exact⟨b,p1,p2⟩
 | some d=>
  have e1:d≠q:=fun e=>h1 (by rw[e]);have e2:d≠s:=fun e=>h2 (by rw[e]);refine⟨b,?_,?_⟩
  ·simp only[Act.put,Array.getD_eq_getD_getElem?]at p1 ⊢;rw[Array.getElem?_setIfInBounds_ne e2];exact p1
  ·simp only[Act.put,Array.getD_eq_getD_getElem?]at p2 ⊢;rw[Array.getElem?_setIfInBounds_ne e1];exact p2
theorem Bt [Dr] {x:Qp} {o:Oper} (hI:Inv num N w0 m0 T β0 σ a w m β ν) (hg:Ms cops x o=true):
  (x.guard=none→Region.wanted o (yielded cops a.tmps)=true)∧(∀t b c,x.guard=some (t,b)→σ.env t= .bool c→Region.wanted o (yielded cops a.tmps)=decide (c=b))∧
   ∀t b,x.guard=some (t,b)→σ.env t= .tup []→Region.wanted o (yielded cops a.tmps)=false:=by
 unfold Ms at hg;split at hg
 ·rename_i e1 e2;refine⟨fun _=>by simp[Region.wanted,e2],fun t b c h=>(by rw[e1]at h;cases h),fun t b h=>(by rw[e1]at h;cases h)⟩
 ·rename_i t b j b2 e1 e2;simp only[Bool.and_eq_true,decide_eq_true_eq]at hg;obtain⟨rfl,hg⟩:=hg;refine⟨(fun h=>by rw[e1]at h;cases h),fun t2 b3 c h hc=> ?_,fun t2 b3 h hc=> ?_⟩
  ·rw[e1]at h;injection h with h
   injection h with h3 h4
   subst h3 h4;obtain⟨_,h5⟩:=hI.at_ (n:=t) (by rw[hc];simp);have h6:=hI.slots t _ h5;rw[hc]at h6;obtain⟨h6,_⟩:=h6;simp only[Qd]at h6;simp only[Region.wanted,e2,yielded,hg,Option.bind_some,h5,h6];cases c <;> cases b <;> rfl
  ·rw[e1]at h;injection h with h
   injection h with h3 h4
   subst h3 h4;obtain⟨_,h5⟩:=hI.at_ (n:=t) (by rw[hc];simp);have h6:=hI.slots t _ h5;rw[hc]at h6;obtain⟨h6,_⟩:=h6;simp only[Qd]at h6;obtain⟨us,h6,_⟩:=h6;simp only[Region.wanted,e2,yielded,hg,Option.bind_some,h5,h6];cases b <;> rfl
 ·cases hg
theorem OD [Dr] {Γ:Z7} (hI:Inv num N w0 m0 T β0 σ a w m β ν) (hE:Xs P num) (hK:KOk P num Γ K) (hG:Γ.G w0) (hGb:Γ.Gb≤w0.heap.size) (hT: ∀b,T b→Γ.Gb≤b)
  {D:Nat→Prop} {i:Nat} {x:Qp} (hall:Tu P num N prec cops xs=true) (hx:xs[i]? =some x) (hD: ¬D i) (hpre: ∀k,prec i k=true→D k) (hdown: ∀j k,D j→prec j k=true→D k)
  (hRS:RS (entries xs) D σ a) (hr:Zj K x σ=some σ2)
  (h: ∀a' w' m' β' ν',Inv num N w0 m0 T β0 σ2 a' w' m' β' ν'→RS (entries xs) (fun j=>D j∨j=i) σ2 a'→next a' w'):wpOp P cops Q i next a w:=by
 unfold Tu at hall;simp only[Bool.and_eq_true,decide_eq_true_eq]at hall;obtain⟨⟨hlen,hst⟩,hall⟩:=hall;have hox:=GI hall hx;simp only at hox;split at hox
 ·rename_i o ho;unfold CO at hox;simp only[Bool.and_eq_true,decide_eq_true_eq]at hox;obtain⟨⟨⟨hdst,hdN⟩,hgd⟩,hop⟩:=hox;have hstab: ∀en∈entries xs,(i=en.j∨x.dst≠some en.q)∧x.dst≠some en.s∧∀t b,en.g=some (t,b)→x.dst=some t→prec en.j i=true:=fun en hen=>by
   unfold Bn at hst;rw[List.all_eq_true]at hst;have:=GI (hst en hen) hx;simp only[Bool.and_eq_true,Bool.or_eq_true,decide_eq_true_eq,Bool.not_eq_true',decide_eq_false_iff_not]at this;refine⟨this.1.1,this.1.2,fun t b hg hd=> ?_⟩;have h2:=this.2;rw[hg]at h2;simp only[Bool.or_eq_true,Bool.not_eq_true',decide_eq_false_iff_not]at h2;exact h2.resolve_left (fun hn=>hn hd)
  obtain⟨hw1,hw2,hw3⟩:=Bt hI hgd;have run: (∀t b,x.guard=some (t,b)→σ.env t= .bool b)→Region.wanted o (yielded cops a.tmps)=true→((Qe K x.op σ).map fun p=>({p.2 with env:=ZG p.2.env x.dst p.1}:St))=some σ2→wpOp P cops Q i next a w:=by
   intro hgu hwant hex;cases he:Qe K x.op σ with
   | none=>rw[he]at hex;cases hex
   | some p=>
    obtain⟨v,σ1⟩:=p;rw[he]at hex;simp only[Option.map_some,Option.some.injEq]at hex;subst hex;unfold wpOp;simp only[ho,hwant,if_true];refine .inl (AK hI hE hK hG hGb hT (pt:=AR (entries xs) prec i x.guard) (fun q s off hp=> ?_) hop he fun u w' m' β' ν' k1 k2 k3=> ?_)
    ·unfold AR at hp;rw[List.any_eq_true]at hp;obtain⟨en,hen,hp⟩:=hp;simp only[Bool.and_eq_true,Bool.or_eq_true,decide_eq_true_eq]at hp;obtain⟨⟨⟨⟨p1,p2⟩,rfl⟩,rfl⟩,rfl⟩:=hp;refine hRS en hen (hpre _ p1) ?_;rcases p2 with p2 | p2
     ·rw[p2];exact trivial
     ·rw[p2];cases hxg:x.guard with
      | none=>exact trivial
      | some tb=>obtain⟨t,b⟩:=tb;exact hgu t b hxg
    ·rw[← hdst];have hRS2:RS (entries xs) (fun j=>D j∨j=i) {σ1 with env:=ZG σ1.env x.dst v} (a.put x.dst u):=by
      intro en hen hDj hgk;obtain⟨st1,st2,st3⟩:=hstab en hen;by_cases hji:en.j=i
      ·obtain⟨y,y1,y2,y3,_⟩:=OB hen;rw[hji,hx]at y1;injection y1 with y1
       subst y1;obtain⟨b,b1,b2⟩:=k3 _ _ y2;have hne:en.q≠en.s:=fun e=>st2 (by rw[y3,e]);rw[y3];rw[y3]at hdN;have hqN:en.q < N:=by simpa using hdN
       refine⟨b,?_,?_⟩
       ·simp only[Act.put,Array.getD_eq_getD_getElem?]at b1 ⊢;rw[Array.getElem?_setIfInBounds_ne hne];exact b1
       ·simp only[Act.put,Array.getD_eq_getD_getElem?];rw[Array.getElem?_setIfInBounds_self_of_lt (by rw[hI.size];exact hqN),b2];rfl
      ·have hDj2:D en.j:=hDj.resolve_right hji;refine MD (hRS en hen hDj2 ?_) (st1.resolve_left (fun e=>hji e.symm)) st2;cases heg:en.g with
       | none=>exact trivial
       | some tb=>
        obtain⟨t,b⟩:=tb;rw[heg]at hgk;simp only[gOK,RV]at hgk ⊢;split at hgk
        ·rename_i hd;exact absurd (hdown en.j i hDj2 (st3 t b heg (by simpa using hd))) hD
        ·exact Ct he hgk
     cases hxd:x.dst with
     | none=>
      rw[hxd]at hRS2 h;exact h _ w' m' β' ν' k1 hRS2
     | some d=>
      rw[hxd]at hRS2 hdN h;exact h _ w' m' β' _ (k1.put k2 d (by simpa using hdN)) hRS2
  unfold Zj at hr;cases hxg:x.guard with
  | none=>
   rw[hxg]at hr;exact run (fun t b h=>by rw[hxg]at h;cases h) (hw1 hxg) hr
  | some tb=>
   obtain⟨t,b⟩:=tb;rw[hxg]at hr;simp only at hr;have skip:σ.env t≠ .bool b→Region.wanted o (yielded cops a.tmps)=false→{σ with env:=ZG σ.env x.dst (.tup [])}=σ2→wpOp P cops Q i next a w:=by
    intro hc hwant hr;subst hr;unfold wpOp;simp only[ho];rw[hwant,if_neg (by simp),← hdst];have hRS2:RS (entries xs) (fun j=>D j∨j=i) {σ with env:=ZG σ.env x.dst (.tup [])} (a.put x.dst undef):=by
     intro en hen hDj hgk;obtain⟨st1,st2,st3⟩:=hstab en hen;have hback: ∀t2 b2,en.g=some (t2,b2)→D en.j∨en.j=i→σ.env t2= .bool b2:=fun t2 b2 heg hDj=>by
      rw[heg]at hgk;simp only[gOK,RV]at hgk;split at hgk
      ·cases hgk
      ·exact hgk
     by_cases hji:en.j=i
     ·exfalso;obtain⟨y,y1,y2,y3,y4⟩:=OB hen;rw[hji,hx]at y1;injection y1 with y1
      subst y1;exact hc (hback t b (y4.symm.trans hxg) (.inr hji))
     ·have hDj2:D en.j:=hDj.resolve_right hji;refine MD (hRS en hen hDj2 ?_) (st1.resolve_left (fun e=>hji e.symm)) st2;cases heg:en.g with
      | none=>exact trivial
      | some tb2=>
       obtain⟨t2,b2⟩:=tb2;exact hback t2 b2 heg (.inl hDj2)
    cases hxd:x.dst with
    | none=>
     rw[hxd]at hRS2 h;exact h _ w m β ν hI hRS2
    | some d=>
     rw[hxd]at hRS2 hdN h;exact h _ w m β _ (hI.put (v:= .tup []) (u:=undef) ((QW rfl).2 ⟨by simp only[Qd];exact⟨#[],rfl,rfl,by simp only[RepT]⟩,trivial⟩) d (by simpa using hdN)) hRS2
   split at hr
   ·rename_i c hc;have hwant:=hw2 t b c hxg hc;split at hr
    ·rename_i hcb;subst hcb;exact run (fun t2 b2 h=>by rw[hxg]at h;injection h with h;injection h with h1 h2;subst h1 h2;exact hc) (by rw[hwant];simp) hr
    ·rename_i hcb;injection hr with hr
     exact skip (by rw[hc];intro e;injection e with e;exact hcb e) (by rw[hwant];simpa using hcb) hr
   ·rename_i hc;injection hr with hr
    exact skip (by rw[hc];intro e;cases e) (hw3 t b hxg hc) hr
   ·cases hr
 ·cases hox
theorem NS [Dr] {Γ:Z7} (hE:Xs P num) (hK:KOk P num Γ K) (hG:Γ.G w0) (hGb:Γ.Gb≤w0.heap.size) (hT: ∀b,T b→Γ.Gb≤b) {σn:St}
  (hall:Tu P num N (fun i k=>decide (k < i)) cops xs=true) (hQ: ∀a' w' m' β' ν',Inv num N w0 m0 T β0 σn a' w' m' β' ν'→Q .normal a' w'):
  ∀(n k:Nat) (σ:St) (a:Act) (w:World) (m:Nat→Nat) (β:List Blk) (ν:Own),k+n=xs.length→Zf K (xs.drop k) σ=some σn→Inv num N w0 m0 T β0 σ a w m β ν→RS (entries xs) (fun j=>j < k) σ a→
   wpOps P cops Q (List.range' k n) a w
 | 0,k,σ,a,w,m,β,ν,hk,hr,hI,_=>by
  rw[List.drop_eq_nil_of_le (by omega)]at hr;injection hr with hr
  subst hr;exact hQ a w m β ν hI
 | n+1,k,σ,a,w,m,β,ν,hk,hr,hI,hRS=>by
  have hkl:k < xs.length:=by omega
  rw[List.drop_eq_getElem_cons hkl]at hr;simp only[Zf]at hr;cases h1:Zj K xs[k] σ with
  | none=>rw[h1]at hr;cases hr
  | some σ1=>
   rw[h1,Option.bind_some]at hr;rw[List.range'_succ,wpOps_cons];refine OD hI hE hK hG hGb hT hall (List.getElem?_eq_getElem hkl) (D:=fun j=>j < k) (by omega) (fun j hj=>by simpa using hj) (fun i j hi hj=>Nat.lt_trans (show j < i by simpa using hj) hi) hRS h1 fun a' w' m' β' ν' k1 k2=> ?_;exact NS hE hK hG hGb hT hall hQ n (k+1) σ1 a' w' m' β' ν' (by omega) hr k1 (fun en hen hj hg=>k2 en hen (by omega) hg)
end
end Go.Am
namespace Go.Am
def WX (cops:Array Oper) (i k:Nat):Bool:=match cops[i]? with
 | some o=>o.after.any fun e=>Region.binds .any e && decide (e.on=k)
 | none=>false
def NR (cops:Array Oper):Nat→Nat→Nat→Bool
 | 0,_,_=>false
 | f+1,i,j=>WX cops i j || (match cops[i]? with
  | some o=>o.after.any fun e=>Region.binds .any e && decide (j < e.on) && NR cops f e.on j
  | none=>false)
def Py (cops:Array Oper):Bool:=(List.range cops.size).all fun i=>match cops[i]? with
 | some o=>o.after.all fun e=> !Region.binds .any e || decide (e.on < i)
 | none=>true
def RQ (xs:List Qp) (i:Nat):Qp:=xs.getD i ⟨none,.alloc [],none⟩
def Mc (cops:Array Oper) (xs:List Qp):Bool:=(List.range xs.length).all fun i=>(List.range i).all fun j=>PF (RQ xs j) (RQ xs i) || NR cops xs.length i j
def LC (P:Program) (num:Nat→Option Nat) (N:Nat) (draw:Bool) (cops:Array Oper) (xs:List Qp):Bool:=
 if draw then Tu P num N (WX cops) cops xs && Py cops && Mc cops xs else Tu P num N (fun i k=>decide (k < i)) cops xs
theorem Iu {cops:Array Oper} {L:Nat→Prop} (hdown: ∀j k,L j→WX cops j k=true→L k): ∀(f i j:Nat),(∀k,WX cops i k=true→L k)→NR cops f i j=true→L j
 | 0,_,_,_,h=>by simp[NR]at h
 | f+1,i,j,hi,h=>by
  simp only[NR,Bool.or_eq_true]at h;rcases h with h | h
  ·exact hi j h
  ·split at h
   ·rename_i o ho;rw[Array.any_eq_true']at h;obtain⟨e,he,h⟩:=h;simp only[Bool.and_eq_true,decide_eq_true_eq]at h;have hL:L e.on:=hi e.on (by
     unfold WX;rw[ho];simp only;rw[Array.any_eq_true'];exact⟨e,he,by simp[h.1.1]⟩)
    exact Iu hdown f e.on j (fun k hk=>hdown _ k hL hk) h.2
   ·cases h
def rem (n:Nat) (listed:Array Bool):List Nat:=(List.range n).filter fun i=> !listed.getD i true
theorem Rm {n i:Nat} {listed:Array Bool}:i∈rem n listed↔i < n∧listed.getD i true=false:=by
 unfold rem;rw[List.mem_filter,List.mem_range];simp
theorem M6 {n i:Nat} {listed:Array Bool} (hn:listed.size=n) (hi:i∈rem n listed):rem n (listed.setIfInBounds i true)=(rem n listed).erase i:=by
 have hnd: (rem n listed).Nodup:=List.Pairwise.filter _ List.nodup_range;rw[List.Nodup.erase_eq_filter hnd];unfold rem;rw[List.filter_filter];apply List.filter_congr;intro x hx;rw[List.mem_range]at hx;by_cases hxi:x=i
 ·subst hxi;simp[hn,hx]
 ·rw[getD_set_ne true (fun e=>hxi e.symm)];simp[hxi]
section
variable {P:Program} {num:Nat→Option Nat} {β:List Blk} {w w':World} {m:Nat→Nat} {ν:Own} {N:Nat} {w0:World} {m0:Nat→Nat} {T:Nat→Prop} {β0:List Blk} {σ σ1 σ2:St} {a:Act}
 {next:Act→World→Prop} {Q:Exit→Act→World→Prop} {K:Zx} {v:AV} {xs:List Qp} {cops:Array Oper}
theorem Gv {i:Nat} (h:i < xs.length):xs[i]? =some (RQ xs i):=by
 unfold RQ;rw[List.getElem?_eq_getElem h];simp[h]
theorem PP {prec:Nat→Nat→Bool} (h:Tu P num N prec cops xs=true):xs.length=cops.size:=by
 unfold Tu at h;simp only[Bool.and_eq_true,decide_eq_true_eq]at h;exact h.1.1
theorem FQ [Dr] {Γ:Z7} (hE:Xs P num) (hK:KOk P num Γ K) (hG:Γ.G w0) (hGb:Γ.Gb≤w0.heap.size) (hT: ∀b,T b→Γ.Gb≤b) {σn:St}
  (hall:Tu P num N (WX cops) cops xs=true) (hed:Py cops=true) (hap:Mc cops xs=true) (hQ: ∀a' w' m' β' ν',Inv num N w0 m0 T β0 σn a' w' m' β' ν'→Q .normal a' w'):
  ∀(fuel:Nat) (listed:Array Bool) (σ:St) (a:Act) (w:World) (m:Nat→Nat) (β:List Blk) (ν:Own),listed.size=xs.length→(rem xs.length listed).length=fuel→
   Zf K ((rem xs.length listed).map (RQ xs)) σ=some σn→(∀j k,listed.getD j false=true→WX cops j k=true→listed.getD k false=true)→
   Inv num N w0 m0 T β0 σ a w m β ν→RS (entries xs) (fun j=>listed.getD j false=true) σ a→wpAny P .any cops Q fuel listed a w:=by
 intro fuel;have hlen:=PP hall;have hdownE: ∀i k,WX cops i k=true→k < i:=fun i k h=>by
  unfold WX at h;split at h
  ·rename_i o ho;rw[Array.any_eq_true']at h;obtain⟨e,he,h⟩:=h;simp only[Bool.and_eq_true,decide_eq_true_eq]at h;have hi:i < cops.size:=(Array.getElem?_eq_some_iff.1 ho).1;unfold Py at hed;rw[List.all_eq_true]at hed;have:=hed i (List.mem_range.2 hi);rw[ho]at this;simp only[Array.all_eq_true_iff_forall_mem,Bool.or_eq_true,Bool.not_eq_true',decide_eq_true_eq]at this;rcases this e he with h1 | h1
   ·rw[h.1]at h1;cases h1
   ·omega
  ·cases h
 have hDor: ∀(listed:Array Bool) (j:Nat),listed.size=xs.length→j < xs.length→listed.getD j true=false∨listed.getD j false=true:=fun listed j h1 h2=>by
  rw[Array.getD_eq_getD_getElem?,Array.getD_eq_getD_getElem?,Array.getElem?_eq_getElem (by omega)];cases listed[j] <;> simp
 induction fuel with
 | zero=>
  intro listed σ a w m β ν hs hl hr _ hI _;have h0:rem xs.length listed=[]:=List.eq_nil_of_length_eq_zero hl;rw[h0]at hr;injection hr with hr
  subst hr;refine⟨?_,hQ a w m β ν hI⟩;cases hrd:Region.ready .any cops listed with
  | nil=>rfl
  | cons i is=>
   exfalso;have hi:i∈Region.ready .any cops listed:=by rw[hrd];simp
   obtain⟨h1,o,h2,_⟩:=mem_ready.1 hi;have:i∈rem xs.length listed:=Rm.2 ⟨by rw[hlen];exact(Array.getElem?_eq_some_iff.1 h2).1,h1⟩;rw[h0]at this;cases this
 | succ fuel ih=>
  intro listed σ a w m β ν hs hl hr hdown hI hRS;refine⟨fun h0=> ?_,fun i hi=> ?_⟩
  ·exfalso;cases hrem:rem xs.length listed with
   | nil=>rw[hrem]at hl;simp at hl
   | cons i is=>
    have hi:i∈rem xs.length listed:=by rw[hrem];simp
    obtain⟨h1,h2⟩:=Rm.1 hi;have hsort: (rem xs.length listed).Pairwise (· < ·):=List.Pairwise.filter _ List.pairwise_lt_range;rw[hrem]at hsort;have hmin:=(List.pairwise_cons.1 hsort).1;have hready:i∈Region.ready .any cops listed:=by
     refine mem_ready.2 ⟨h2,cops[i]'(by omega),Array.getElem?_eq_getElem _,fun e he hb=> ?_⟩;have hp:WX cops i e.on=true:=by
      unfold WX;rw[Array.getElem?_eq_getElem (by omega)];simp only;rw[Array.any_eq_true'];exact⟨e,he,by simp[hb]⟩
     have hlt:=hdownE i e.on hp;rcases hDor listed e.on hs (by omega)with h3 | h3
     ·have:e.on∈rem xs.length listed:=Rm.2 ⟨by omega,h3⟩;rw[hrem]at this;rcases List.mem_cons.1 this with h4 | h4
      ·omega
      ·have:=hmin _ h4;omega
     ·exact h3
    rw[h0]at hready;cases hready
  ·obtain⟨h1,o,h2,h3⟩:=mem_ready.1 hi;have hin:i < xs.length:=by rw[hlen];exact(Array.getElem?_eq_some_iff.1 h2).1
   have hir:i∈rem xs.length listed:=Rm.2 ⟨hin,h1⟩;have hpre: ∀k,WX cops i k=true→listed.getD k false=true:=fun k hk=>by
    unfold WX at hk;rw[h2]at hk;simp only at hk;rw[Array.any_eq_true']at hk;obtain⟨e,he,hk⟩:=hk;simp only[Bool.and_eq_true,decide_eq_true_eq]at hk;rw[← hk.2];exact h3 e he hk.1
   have hsort: (rem xs.length listed).Pairwise (· < ·):=List.Pairwise.filter _ List.pairwise_lt_range;have hind: ∀j∈rem xs.length listed,j < i→PF (RQ xs j) (RQ xs i)=true:=fun j hj hji=>by
    unfold Mc at hap;rw[List.all_eq_true]at hap;have:=hap i (List.mem_range.2 hin);rw[List.all_eq_true]at this;have:=this j (List.mem_range.2 hji);simp only[Bool.or_eq_true]at this;rcases this with h | h
    ·exact h
    ·have hL:=Iu (L:=fun j=>listed.getD j false=true) hdown _ i j hpre h;obtain⟨k1,k2⟩:=Rm.1 hj;rw[Array.getD_eq_getD_getElem?,Array.getElem?_eq_getElem (by omega)]at hL k2;simp only[Option.getD_some]at hL k2;rw[hL]at k2;cases k2
   obtain⟨σ',g1,g2⟩:=PT (RQ xs) i _ σ σn hsort hir hind hr;have hnD: ¬listed.getD i false=true:=fun h=>by
    rw[Array.getD_eq_getD_getElem?,Array.getElem?_eq_getElem (by omega)]at h h1;simp only[Option.getD_some]at h h1;rw[h]at h1;cases h1
   refine OD hI hE hK hG hGb hT hall (Gv hin) hnD hpre hdown hRS g1 fun a' w' m' β' ν' k1 k2=> ?_;have hset: ∀j,(listed.setIfInBounds i true).getD j false=true→listed.getD j false=true∨j=i:=fun j hj=>by
    by_cases e:j=i
    ·exact .inr e
    ·rw[getD_set_ne false (fun h=>e h.symm)]at hj;exact .inl hj
   have hself: (listed.setIfInBounds i true).getD i false=true:=by simp[hs,hin]
   refine ih (listed.setIfInBounds i true) σ' a' w' m' β' ν' (by simpa using hs) ?_ ?_ (fun j k hj hk=> ?_) k1 (fun en hen hj hg=>k2 en hen (hset _ hj) hg)
   ·rw[M6 hs hir,List.length_erase_of_mem hir,hl];rfl
   ·rw[M6 hs hir];exact g2
   ·rcases hset j hj with h | h
    ·exact getD_set_true (hdown j k h hk)
    ·rw[h]at hk;exact getD_set_true (hpre k hk)
theorem AF [Dr]: (List.range xs.length).map (RQ xs)=xs:=by
 apply List.ext_getElem?;intro i;rw[List.getElem?_map];by_cases hi:i < xs.length
 ·rw[List.getElem?_range hi,Gv hi];rfl
 ·rw[List.getElem?_eq_none (by simp;omega),List.getElem?_eq_none (by omega)];rfl
theorem Iv [Dr] {Γ:Z7} (hmix:P.follows .mixedOrders=true) (hE:Xs P num) (hK:KOk P num Γ K) (hG:Γ.G w0) (hGb:Γ.Gb≤w0.heap.size) (hT: ∀b,T b→Γ.Gb≤b) {σn:St} {id:Nat} {dr:Bool}
  (hok:LC P num N dr cops xs=true) (hI:Inv num N w0 m0 T β0 σ a w m β ν) (hr:Zf K xs σ=some σn) (hQ: ∀a' w' m' β' ν',Inv num N w0 m0 T β0 σn a' w' m' β' ν'→Q .normal a' w'):
  (Code.region id cops dr).wp P Q a w:=by
 cases dr
 ·simp only[LC,Bool.false_eq_true,if_false]at hok;refine wp_region ?_;rw[List.range_eq_range',← PP hok];exact NS hE hK hG hGb hT hok hQ xs.length 0 σ a w m β ν (by omega) (by simpa using hr) hI (fun en _ hj _=>absurd hj (by omega))
 ·simp only[LC,if_true,Bool.and_eq_true]at hok;obtain⟨⟨h1,h2⟩,h3⟩:=hok;refine wp_region_any hmix ?_;have hlen:=PP h1;have hrem:rem xs.length (Array.replicate cops.size false)=List.range xs.length:=by
   unfold rem;rw[List.filter_eq_self];intro x hx;rw[List.mem_range]at hx;simp[← hlen,hx]
  have hno: ∀j,(Array.replicate cops.size false).getD j false=false:=fun j=>by
   rw[Array.getD_eq_getD_getElem?];by_cases h:j < cops.size <;> simp[h]
  rw[← hlen];have hno': ∀j,(Array.replicate xs.length false).getD j false=false:=by rw[hlen];exact hno
  rw[← hlen]at hrem;exact FQ hE hK hG hGb hT h1 h2 h3 hQ xs.length _ σ a w.drew m β ν (by simp) (by rw[hrem];simp) (by rw[hrem,AF];exact hr)
   (fun j k hj _=>by rw[hno']at hj;cases hj) hI.drew (fun en _ hj _=>by have h0:=hno' en.j;simp only[h0]at hj;cases hj)
def Z4 (P:Program) (num:Nat→Option Nat) (N:Nat):AC→Code→Bool
 | .bad,_=>true
 | .skip,.skip=>true
 | .reg dr xs,.region _ ops dr2=>decide (dr=dr2) && LC P num N dr ops xs
 | .seq a b,.seq c d=>Z4 P num N a c && Z4 P num N b d
 | .cond c a b,.cond c2 a2 b2=>okO num c c2 && Z4 P num N a a2 && Z4 P num N b b2
 | .block id c,.block id2 c2=>decide (id=id2) && Z4 P num N c c2
 | .loop c,.loop c2=>Z4 P num N c c2
 | .exit id,.exit id2=>decide (id=id2)
 | .ret,.ret=>true
 | _,_=>false
def Ex.toExit:Ex→Exit
 | .normal=> .normal
 | .exit i=> .exit i
 | .ret=> .ret
theorem XJ [Dr] {Γ:Z7} (hmix:P.follows .mixedOrders=true) (hE:Xs P num) (hK:KOk P num Γ K) (hG:Γ.G w0) (hGb:Γ.Gb≤w0.heap.size) (hT: ∀b,T b→Γ.Gb≤b) {n:Nat}:
  ∀(c:AC) (cc:Code),Z4 P num N c cc=true→∀(σ:St) (a:Act) (w:World) (m:Nat→Nat) (β:List Blk) (ν:Own) (ex:Ex) (σ':St) (Q:Exit→Act→World→Prop),
   Q0 K n c σ=some (ex,σ')→Inv num N w0 m0 T β0 σ a w m β ν→(∀a' w' m' β' ν',Inv num N w0 m0 T β0 σ' a' w' m' β' ν'→Q ex.toExit a' w')→cc.wp P Q a w:=by
 intro c
 induction c with
 | bad=>
  intro cc hok σ a w m β ν ex σ' Q hr;simp[Q0]at hr
 | skip=>
  intro cc hok σ a w m β ν ex σ' Q hr hI hQ;cases cc <;> simp[Z4]at hok;simp only[Q0,Option.some.injEq,Prod.mk.injEq]at hr;obtain⟨rfl,rfl⟩:=hr;exact wp_skip (hQ a w m β ν hI)
 | reg dr xs=>
  intro cc hok σ a w m β ν ex σ' Q hr hI hQ;cases cc <;> simp only[Z4,Bool.and_eq_true,decide_eq_true_eq]at hok <;> try (cases hok;done)
  obtain⟨rfl,hok⟩:=hok;simp only[Q0]at hr;cases h1:Zf K xs σ with
  | none=>rw[h1]at hr;cases hr
  | some s=>
   rw[h1]at hr;simp only[Option.map_some,Option.some.injEq,Prod.mk.injEq]at hr;obtain⟨rfl,rfl⟩:=hr;exact Iv hmix hE hK hG hGb hT hok hI h1 hQ
 | seq x y ihx ihy=>
  intro cc hok σ a w m β ν ex σ' Q hr hI hQ;cases cc <;> simp only[Z4,Bool.and_eq_true]at hok <;> try (cases hok;done)
  refine wp_seq ?_;simp only[Q0]at hr;split at hr
  ·rename_i s h1;refine ihx _ hok.1 σ a w m β ν .normal s _ h1 hI fun a' w' m' β' ν' k=> ?_;exact ihy _ hok.2 s a' w' m' β' ν' ex σ' Q hr k hQ
  ·rename_i hne;refine ihx _ hok.1 σ a w m β ν ex σ' _ hr hI fun a' w' m' β' ν' k=> ?_;cases ex
   ·exact absurd hr (hne σ')
   ·exact hQ a' w' m' β' ν' k
   ·exact hQ a' w' m' β' ν' k
 | cond c x y ihx ihy=>
  intro cc hok σ a w m β ν ex σ' Q hr hI hQ;cases cc <;> simp only[Z4,Bool.and_eq_true]at hok <;> try (cases hok;done)
  obtain⟨⟨h0,h1⟩,h2⟩:=hok;simp only[Q0]at hr;split at hr
  ·rename_i hv;have g:=(hI.val h0 (by rw[hv];rfl)).1;rw[hv]at g;simp only[Qd]at g;exact wp_cond_true g (ihx _ h1 σ a w m β ν ex σ' Q hr hI hQ)
  ·rename_i hv;have g:=(hI.val h0 (by rw[hv];rfl)).1;rw[hv]at g;simp only[Qd]at g;exact wp_cond_false g (ihy _ h2 σ a w m β ν ex σ' Q hr hI hQ)
  ·cases hr
 | block id x ihx=>
  intro cc hok σ a w m β ν ex σ' Q hr hI hQ;cases cc <;> simp only[Z4,Bool.and_eq_true,decide_eq_true_eq]at hok <;> try (cases hok;done)
  obtain⟨rfl,hok⟩:=hok;refine wp_block ?_;simp only[Q0]at hr;split at hr
  ·rename_i i s h1;simp only[Option.some.injEq,Prod.mk.injEq]at hr;obtain⟨rfl,rfl⟩:=hr;refine ihx _ hok σ a w m β ν (.exit i) s _ h1 hI fun a' w' m' β' ν' k=> ?_;have hq:=hQ a' w' m' β' ν' k;simp only[Ex.toExit,Exit.inBlock];split
   ·rename_i e;rw[if_pos e]at hq;exact hq
   ·rename_i e;rw[if_neg e]at hq;exact hq
  ·rename_i hne;refine ihx _ hok σ a w m β ν ex σ' _ hr hI fun a' w' m' β' ν' k=> ?_;have hq:=hQ a' w' m' β' ν' k;cases ex
   ·exact hq
   ·exact absurd hr (hne _ _)
   ·exact hq
 | loop x ihx=>
  intro cc hok σ a w m β ν ex σ' Q hr hI hQ;cases cc <;> simp only[Z4]at hok <;> try (cases hok;done)
  rename_i c2;simp only[Q0]at hr;refine wp_loop_rounds n ?_;have key: ∀(k:Nat) (σ:St) (a:Act) (w:World) (m:Nat→Nat) (β:List Blk) (ν:Own),WZ (Q0 K n x) k σ=some (ex,σ')→Inv num N w0 m0 T β0 σ a w m β ν→Code.rounds P c2 Q k a w:=by
   intro k
   induction k with
   | zero=>intro σ a w m β ν h;simp[WZ]at h
   | succ k ih=>
    intro σ a w m β ν h hI;rw[rounds_succ];simp only[WZ]at h;split at h
    ·rename_i s h1;refine ihx _ hok σ a w m β ν .normal s _ h1 hI fun a' w' m' β' ν' k2=> ?_;exact ih s a' w' m' β' ν' h k2
    ·rename_i hne;refine ihx _ hok σ a w m β ν ex σ' _ h hI fun a' w' m' β' ν' k2=> ?_;cases ex
     ·exact absurd h (hne σ')
     ·exact hQ a' w' m' β' ν' k2
     ·exact hQ a' w' m' β' ν' k2
  exact key n σ a w m β ν hr hI
 | exit id=>
  intro cc hok σ a w m β ν ex σ' Q hr hI hQ;cases cc <;> simp only[Z4,decide_eq_true_eq]at hok <;> try (cases hok;done)
  subst hok;simp only[Q0,Option.some.injEq,Prod.mk.injEq]at hr;obtain⟨rfl,rfl⟩:=hr;exact wp_exit (hQ a w m β ν hI)
 | ret=>
  intro cc hok σ a w m β ν ex σ' Q hr hI hQ;cases cc <;> simp[Z4]at hok;simp only[Q0,Option.some.injEq,Prod.mk.injEq]at hr;obtain⟨rfl,rfl⟩:=hr;exact wp_ret (hQ a w m β ν hI)
end
end Go.Am
namespace Go.Am
def XA (P:Program):List R8→List ResultVar→Bool
 | [],[]=>true
 | .tmp t:: rs,.tmp t2:: vs=>decide (t=t2) && XA P rs vs
 | .cell t sz ag:: rs,.cell t2 ty:: vs=>decide (t=t2) && Zp P ty sz && Y7 P ty ag && XA P rs vs
 | _,_=>false
def FJ (P:Program) (num:Nat→Option Nat) (f:Qf) (fn:Func):Bool:=
 decide (f.ntmps=fn.ntmps) && decide (f.nparams≤f.ntmps) && XA P f.res fn.results.toList && (match fn.body with
  | some c=>Z4 P num f.ntmps f.body c
  | none=>false)
def W5 [Dr] (P:Program) (num:Nat→Option Nat) (Γ:Z7) (h:List AV→List (List AV)→Option (AV×List (List AV))) (g:Nat):Prop:=
 ∀(args:List AV) (bs:List (List AV)) (r:AV) (bs':List (List AV)),h args bs=some (r,bs')→YL args=true→
  ∀(w:World) (m:Nat→Nat) (β:List Blk) (ν:Own) (vs:Array Value),Γ.G w→Γ.Gb≤w.heap.size→vs.size=args.length→
   (∀(i:Nat) (c:AV),args[i]? =some c→∃u,vs[i]? =some u∧Qd num β w m c u)→Uo num β w m ν bs→
   (∀b p,ν b=some p→b < w.heap.size∧Γ.Gb≤b∧p.isG=true)→
   Calls P g vs w (W8 num β bs' r w m ν)
def D0 [Dr] (P:Program) (num:Nat→Option Nat) (Γ:Z7) (h:List AV→Option AV) (g:Nat):Prop:=
 ∀(args:List AV) (r:AV),h args=some r→YL args=true→∀(w:World) (m:Nat→Nat) (β:List Blk) (vs:Array Value),Γ.G w→Γ.Gb≤w.heap.size→vs.size=args.length→
  (∀(i:Nat) (c:AV),args[i]? =some c→∃u,vs[i]? =some u∧Qd num β w m c u)→
  Calls P g vs w fun e w'=>∃v m' ν',e= .returned v∧Zl (fun _=>False) w m w' m'∧r.ok=true∧Qd num β w' m' r v∧Q6 w' m' ν' .f r v∧∀b p,ν' b=some p→b < w'.heap.size∧w.heap.size≤b∧p= .f
def YQ (h:List AV→Option AV):List AV→List (List AV)→Option (AV×List (List AV)):=fun args bs=>(h args).map fun r=>(r,bs)
structure N9 [Dr] (P:Program) (num:Nat→Option Nat) (Γ:Z7) (tb:Nat→Option AFn):Prop where
 mix:P.follows .mixedOrders=true
 enters:Xs P num
 code: ∀(f g:Nat) (fn:Qf),num f=some g→tb f=some (.code fn)→∃F,P.funcs[g]? =some F∧FJ P num fn F=true
 orc: ∀(f g:Nat) (h:List AV→List (List AV)→Option (AV×List (List AV))),num f=some g→tb f=some (.orc h)→W5 P num Γ h g
section
variable {P:Program} {num:Nat→Option Nat} {β:List Blk} {w w':World} {m:Nat→Nat} {ν:Own} {N:Nat} {w0:World} {m0:Nat→Nat} {T:Nat→Prop} {β0:List Blk} {σ:St} {a:Act} {tb:Nat→Option AFn}
def QaL:List R8→Nat→Bool
 | [.tmp t],n=>decide (t=n)
 | _,_=>false
def Xe (rs:List R8) (ν:Own):Own:=fun b=>match ν b with
 | some (.s n)=>if QaL rs n then some .f else none
 | some p=>if p.isG then some p else none
 | none=>none
theorem OC [Dr] (hI:Inv num N w0 m0 T β0 σ a w m β ν) {r:R8} {rv:ResultVar} {v:AV} (ho:XA P [r] [rv]=true) (hr:Wx σ.env r=some v):
  ∃u,(match rv with
   | .tmp t=>(pure (a.tmps.getD t undef):Sem Value)
   | .cell t ty=>do loadVar ty (← asAddr (a.tmps.getD t undef))).run P w= .ok u w∧v.ok=true∧Qd num β w m v u∧Q6 w m (Xe [r] ν) .f v u:=by
 cases r with
 | tmp t=>
  cases rv with
  | cell t2 ty=>simp[XA]at ho
  | tmp t2=>
   simp only[XA,Bool.and_true,decide_eq_true_eq]at ho;subst ho;simp only[Wx]at hr;split at hr
   ·rename_i hk;injection hr with hr
    subst hr;obtain⟨_,h2⟩:=hI.at_ (n:=t) (fun e=>by rw[e]at hk;cases hk);have h3:=hI.slots t _ h2;rw[QW hk]at h3;refine⟨a.tmps.getD t undef,rfl,hk,h3.1,?_⟩;exact XG (θ:=fun _=> .f) (fun b hb=>⟨rfl,rfl,by unfold Xe;rw[hb];simp[QaL]⟩) h3.2
   ·cases hr
 | cell t sz ag=>
  cases rv with
  | tmp t2=>simp[XA]at ho
  | cell t2 ty=>
   simp only[XA,Bool.and_true,Bool.and_eq_true,decide_eq_true_eq]at ho;obtain⟨⟨rfl,h1⟩,h2⟩:=ho;simp only[Wx]at hr;split at hr
   ·rename_i cs hcs;obtain⟨b,cur,e,_,hq,hb,hz,hc⟩:=hI.box_at (q:=t) (off:=0) hcs (.inr ⟨rfl,rfl⟩);obtain⟨u,g1,g2,g3,g4⟩:=Xq (w:=w) (num:=num) (β:=β) (m:=m) (ν:=Xe [.cell t sz ag] ν) (o:=0) (b:=b) h1 h2 hr (fun i c hi=>by
     obtain⟨u,k1,k2,k3,_⟩:=hc i c hi;exact⟨u,by rw[Nat.zero_add,cell_of_row w b i cur e (0,0) hb];exact k1,k2,k3⟩)
    have hq2:a.tmps.getD t undef= .pointer (some ⟨b,0,none⟩):=hq;refine⟨u,?_,g2,g3,g4 _⟩;simp only[hq2,asAddr,Sem.run_bind,Sem.run_pure,Result.andThen_ok];exact g1
   ·cases hr
theorem U6 [Dr] (hI:Inv num N w0 m0 T β0 σ a w m β ν): ∀{rs:List R8} {rvs:List ResultVar} {vs:List AV},XA P rs rvs=true→Xa σ.env rs=some vs→
  ∃us:List Value,(rvs.mapM fun(rv:ResultVar)=>(match rv with
   | .tmp t=>(pure (a.tmps.getD t undef):Sem Value)
   | .cell t ty=>do loadVar ty (← asAddr (a.tmps.getD t undef)))).run P w= .ok us w∧us.length=vs.length∧∀(i:Nat) (c:AV),vs[i]? =some c→∃u,us[i]? =some u∧c.ok=true∧Qd num β w m c u
 | [],[],vs,_,hr=>by
  simp only[Xa,Option.some.injEq]at hr;subst hr;exact⟨[],by simp,rfl,fun i c h=>by simp at h⟩
 | r:: rs,rv:: rvs,vs,ho,hr=>by
  simp only[Xa]at hr;split at hr
  ·rename_i v vs2 h1 h2;injection hr with hr
   subst hr;have ho2:XA P [r] [rv]=true∧XA P rs rvs=true:=by
    cases r <;> cases rv <;> simp only[XA,Bool.and_eq_true,Bool.and_true,Bool.false_eq_true]at ho ⊢ <;> first | exact ho | exact ho.elim
   obtain⟨u,g1,g2,g3,_⟩:=OC (P:=P) hI ho2.1 h1;obtain⟨us,k1,k2,k3⟩:=U6 hI ho2.2 h2;refine⟨u:: us,?_,by simp[k2],fun i c hc=> ?_⟩
   ·rw[List.mapM_cons];simp only[Sem.run_bind,g1,Result.andThen_ok,k1,Sem.run_pure]
   ·cases i with
    | zero=>simp at hc;subst hc;exact⟨u,rfl,g2,g3⟩
    | succ i=>simpa using k3 i c (by simpa using hc)
  ·cases hr
 | [],_:: _,_,h,_=>by simp[XA]at h
 | r:: _,[],_,h,_=>by cases r <;> simp[XA]at h
theorem O7 [Dr] {Γ:Z7} {h:List AV→Option AV} {g:Nat} (hP:D0 P num Γ h g):W5 P num Γ (YQ h) g:=by
 intro args bs r bs' hc hok w m β ν vs hG hGb hvs hrep hbox hlt;unfold YQ at hc;cases hh:h args with
 | none=>rw[hh]at hc;cases hc
 | some r2=>
  rw[hh]at hc;simp only[Option.map_some,Option.some.injEq,Prod.mk.injEq]at hc;obtain⟨rfl,rfl⟩:=hc;refine(hP args r2 hh hok w m β vs hG hGb hvs hrep).mono fun e w' he=> ?_;obtain⟨v,m',ν',rfl,hS,h1,h2,h3,h4⟩:=he;have hjoin: ∀b p,ν b=some p→(fun b=>match ν b with
    | some p=>some p
    | none=>ν' b:Own) b=some p:=fun b p hb=>by simp only[hb]
  refine⟨v,m',β,(fun b=>match ν b with
    | some p=>some p
    | none=>ν' b),rfl,Ge.refl β,⟨hS.os,hS.tape,hS.output,hS.size,fun b hb _=>hS.same b hb id,hS.le,hS.drawn⟩,⟨hbox.1,fun i cs b hb1 hb2 hne=> ?_⟩,h1,h2,?_,fun b p hp=> ?_⟩
  ·exact Xn (Ge.refl β) hS.le (fun x hx=>⟨(hS.same x (hlt x _ hx).1 id).1,(hS.same x (hlt x _ hx).1 id).2,hjoin x _ hx⟩)
    (fun j x hx=>⟨(hS.same x (hlt x _ hx).1 id).1,(hS.same x (hlt x _ hx).1 id).2,hjoin x _ hx⟩) (hbox.2 i cs b hb1 hb2 hne)
  ·refine XG (θ:=id) (fun b hb=>⟨rfl,rfl,?_⟩) h3;have:=h4 b _ hb;cases hν:ν b with
   | none=>simp only;exact hb
   | some q=>have:=(hlt b q hν).1;omega
  ·simp only at hp;split at hp
   ·rename_i q hq;injection hp with hp
    subst hp;have:=hlt b q hq;exact⟨Nat.lt_of_lt_of_le this.1 hS.size,.inr ⟨q,hq⟩,.inl this.2.2⟩
   ·have:=h4 b p hp;exact⟨this.1,.inl this.2.1,.inr this.2.2⟩
theorem Lb [Dr] {Γ:Z7} {f:Qf} {F:Func} {args:List AV} {bs:List (List AV)} {vs:Array Value} (hnp:args.length=f.nparams) (hnt:f.ntmps=F.ntmps) (hpt:f.nparams≤f.ntmps) (hok:YL args=true)
  (hvs:vs.size=args.length) (hrep: ∀(i:Nat) (c:AV),args[i]? =some c→∃u,vs[i]? =some u∧Qd num β w m c u) (hbox:Uo num β w m ν bs)
  (hlt: ∀b p,ν b=some p→b < w.heap.size∧Γ.Gb≤b∧p.isG=true):
  Inv num f.ntmps w m (fun b=>∃p,ν b=some p) β {env:=Yr args,bs} {tmps:=vs ++ Array.replicate (F.ntmps - vs.size) undef,defers:=[]} w m β ν:=by
 refine⟨rfl,by simp;omega,fun t ht=> ?_,fun t v hv=> ?_,hbox.1,hbox.2,fun b p hb=>⟨(hlt b p hb).1,.inr ⟨p,hb⟩⟩,Zl.refl _ w m,Ge.refl β⟩
 ·simp only[Yr];rw[List.getD_eq_getElem?_getD,List.getElem?_eq_none (by omega)];rfl
 ·simp only[Yr];rw[List.getD_eq_getElem?_getD];cases hat:args[t]? with
  | none=>exact trivial
  | some c=>
   obtain⟨u,g1,g2⟩:=hrep t c hat;have hck:c.ok=true:=by
    unfold YL at hok;rw[List.all_eq_true]at hok;exact hok c (List.mem_of_getElem? hat)
   have hlt2:t < vs.size:=by
    rcases Nat.lt_or_ge t vs.size with h | h
    ·exact h
    ·rw[Array.getElem?_eq_none h]at g1;cases g1
   rw[Array.getElem?_append_left hlt2,g1]at hv;injection hv with hv
   subst hv;simp only[Option.getD_some];exact(QW (by rw[Tb];exact hck)).2 ⟨by rw[QN];exact g2,ZH _ _ _⟩
theorem JL [Dr]: ∀(xs ys:List (List AV)),YB xs ys=true→∀(i:Nat) (x y:List AV),xs[i]? =some x→ys[i]? =some y→x=y∨gpfreeL y=true
 | [],_,_,i,x,y,h,_=>by simp at h
 | a:: aq,[],h,_,_,_,_,_=>by simp[YB]at h
 | a:: aq,b:: bs,h,i,x,y,hx,hy=>by
  simp only[YB,Bool.and_eq_true,Bool.or_eq_true]at h;cases i with
  | zero=>
   simp at hx hy;subst hx hy;rcases h.1 with h1 | h1
   ·exact .inl (eqVL_eq _ _ h1)
   ·exact .inr h1
  | succ i=>exact JL aq bs h.2 i x y (by simpa using hx) (by simpa using hy)
theorem PB [Dr] {f:Qf} {F:Func} {bs bs':List (List AV)} {r:AV} (hres:XA P f.res F.results.toList=true) (hbox:Uo num β w m ν bs) (σ':St) (hfin:Yd f bs σ'=some (r,bs'))
  (a':Act) (w':World) (m':Nat→Nat) (β':List Blk) (ν':Own) (hI:Inv num f.ntmps w m (fun b=>∃p,ν b=some p) β σ' a' w' m' β' ν'):
  a'.defers=[]∧∃v,(results F a'.tmps).run P w'= .ok v w'∧W8 num β bs' r w m ν (.returned v) w':=by
 refine⟨hI.defers,?_⟩;have hboxes: ∀rs,YB bs (σ'.bs.take bs.length)=true→Uo num β w' m' (Xe rs ν') (σ'.bs.take bs.length):=fun rs hck=>by
  have hge:=hI.ge;have hle:bs.length≤σ'.bs.length:=by
   rw[← hI.blen];rcases Nat.lt_or_ge β'.length bs.length with h | h
   ·exfalso;have h0:β'.length < β.length:=by rw[hbox.1];exact h
    have:=hge β'.length _ (List.getElem?_eq_getElem h0);rw[List.getElem?_eq_none (Nat.le_refl _)]at this;cases this
   ·exact h
  refine⟨by rw[List.length_take,hbox.1];omega,fun i cs b h1 h2 hne=> ?_⟩
  ·have hck2:=JL _ _ hck i;have h10:=h1;rw[List.getElem?_take]at h1;split at h1
   ·have hb2:=hI.boxes i cs b h1 (hge i b h2) hne;obtain⟨x,hx⟩: ∃x,bs[i]? =some x:=⟨_,List.getElem?_eq_getElem (by assumption)⟩;have hb3:=hck2 x cs hx h10;rw[TE]at hb3;have hent:x=cs→Ty num β w m ν i b cs:=fun e=>by subst e;exact hbox.2 i x b hx h2 hne
    refine⟨fun hmp=> ?_,fun hmp=> ?_⟩
    ·obtain⟨cur,e,q1,q2,q3,q4,q5⟩:=hb2.1 hmp;refine⟨cur,e,q1,q2,q3,by unfold Xe;rw[q4];rfl,fun j c hc=> ?_⟩;obtain⟨u,p1,p2,p3,p4⟩:=q5 j c hc;refine⟨u,p1,p2,?_,XG (θ:=id) (fun x hx=>⟨rfl,rfl,by unfold Xe;rw[hx];rfl⟩) p4⟩;rcases hb3 with e | hb3
     ·obtain⟨_,_,_,_,_,_,r5⟩:=(hent e).1 hmp;obtain⟨u0,_,_,r3,_⟩:=r5 j c hc;exact Uh hge c u0 u r3 p3
     ·exact WD c u (hb3 j c hc) p3
    ·obtain⟨es,clock,xs,q1,q2,q3,q4,q5,q6⟩:=hb2.2 hmp;refine⟨es,clock,xs,q1,q2,by unfold Xe;rw[q3];rfl,q4,q5,fun j c hc=> ?_⟩;obtain⟨e2,k,v,p1,p2,p3,p4⟩:=q6 j c hc;rcases hb3 with e | hb3
     ·obtain⟨_,_,xs0,_,_,_,r4,_,r6⟩:=(hent e).2 hmp;have hxs:xs0=xs:=by rw[q4]at r4;injection r4 with _ r4;exact r4.symm
      obtain⟨e3,k3,v3,_,g2,g3,g4⟩:=r6 j c (by rw[hxs];exact hc);rw[p2]at g2;injection g2 with g2
      injection g2 with g5 g2
      injection g2 with g6
      subst g5 g6;exact⟨e2,k,v,p1,p2,Uh hge k _ _ g3 p3,Uh hge v _ _ g4 p4⟩
     ·have hf:=hb3 (j+1) c (by rw[q4];simpa using hc);rw[p2]at hf;simp only[AV.gpfree,gpfreeL,Bool.and_true,Bool.and_eq_true]at hf;exact⟨e2,k,v,p1,p2,WD k _ hf.1 p3,WD v _ hf.2 p4⟩
   ·cases h1
 have hboxesAll: ∀rs,Uo num β' w' m' (Xe rs ν') σ'.bs:=fun rs=>by
  refine⟨hI.blen,fun i cs b h1 h2 hne=> ?_⟩;exact Xn (Ge.refl β') (Le.refl w' m') (fun x hx=>⟨rfl,rfl,by unfold Xe;rw[hx];rfl⟩) (fun _ x hx=>⟨rfl,rfl,by unfold Xe;rw[hx];rfl⟩) (hI.boxes i cs b h1 h2 hne)
 have hown: ∀rs b p,Xe rs ν' b=some p→b < w'.heap.size∧(w.heap.size≤b∨∃q,ν b=some q)∧(p.isG=true∨p= .f):=fun rs b p hp=>by
  unfold Xe at hp;split at hp
  ·rename_i n hn;split at hp
   ·injection hp with hp
    subst hp;have:=hI.lt b _ hn;exact⟨this.1,this.2,.inr rfl⟩
   ·cases hp
  ·rename_i q hq;split at hp
   ·rename_i hg;injection hp with hp
    subst hp;have:=hI.lt b _ hq;exact⟨this.1,this.2,.inl hg⟩
   ·cases hp
  ·cases hp
 have hrun: ∀us:List Value,(F.results.toList.mapM fun(rv:ResultVar)=>(match rv with
   | .tmp t=>(pure (a'.tmps.getD t undef):Sem Value)
   | .cell t ty=>do loadVar ty (← asAddr (a'.tmps.getD t undef)))).run P w'= .ok us w'→
   (results F a'.tmps).run P w'= .ok (if h:us.toArray.size=1 then us.toArray[0]else .tuple us.toArray) w':=fun us hus=>by
  unfold results;rw[Array.mapM_eq_mapM_toList];simp only[Sem.run_bind,Sem.run_map,Sem.run_pure];exact congrArg (fun z:Result (List Value)=>(z.andThen fun a w'=> .ok a.toArray w').andThen (fun(a:Array Value) w'=> .ok (if h:a.size=1 then a[0]else .tuple a) w')) hus
 unfold Yd at hfin;split at hfin
 ·rename_i v0 hv0;obtain⟨us,k1,k2,k3⟩:=U6 hI hres hv0;obtain⟨r0,hr0⟩: ∃r0,f.res=[r0]:=by
   cases hfr:f.res with
   | nil=>rw[hfr]at hv0;simp[Xa]at hv0
   | cons r0 rs=>
    cases rs with
    | nil=>exact⟨r0,rfl⟩
    | cons r1 rs=>
     rw[hfr]at hv0;simp only[Xa]at hv0;split at hv0
     ·rename_i x1 x2 e1 e2;split at e2
      ·injection e2 with e2
       subst e2;simp at hv0
      ·cases e2
     ·cases hv0
  obtain⟨rv0,hrv0⟩: ∃rv0,F.results.toList=[rv0]:=by
   cases hfr:F.results.toList with
   | nil=>rw[hfr,hr0]at hres;cases r0 <;> simp[XA]at hres
   | cons rv0 rs=>
    cases rs with
    | nil=>exact⟨rv0,rfl⟩
    | cons rv1 rs=>rw[hfr,hr0]at hres;cases r0 <;> cases rv0 <;> simp[XA]at hres
  rw[hr0,hrv0]at hres;rw[hr0]at hv0;simp only[Xa]at hv0;split at hv0
  ·rename_i x1 x2 e1 e2;injection e2 with e2
   subst e2;injection hv0 with hv0
   injection hv0 with hv0 _
   subst hv0;obtain⟨u,g1,g2,g3,g4⟩:=OC (P:=P) hI hres e1;have hus:us=[u]:=by
    rw[hrv0]at k1;simp only[List.mapM_cons,List.mapM_nil,Sem.run_bind,g1,Result.andThen_ok,Sem.run_pure]at k1;injection k1 with k1
    exact k1.symm
   subst hus;split at hfin
   ·simp only[Option.some.injEq,Prod.mk.injEq]at hfin;obtain⟨rfl,rfl⟩:=hfin;exact⟨u,hrun [u] k1,u,m',β',Xe [r0] ν',rfl,hI.ge,hI.step,hboxesAll [r0],g2,g3,g4,hown [r0]⟩
   ·split at hfin
    ·rename_i hgp;simp only[Option.some.injEq,Prod.mk.injEq]at hfin;obtain⟨rfl,rfl⟩:=hfin;exact⟨u,hrun [u] k1,u,m',β,Xe [r0] ν',rfl,Ge.refl β,hI.step,hboxes [r0] hgp.2,g2,WD _ _ hgp.1 g3,g4,hown [r0]⟩
    ·cases hfin
  ·cases hv0
 ·rename_i vs0 hv0 hne;obtain⟨us,k1,k2,k3⟩:=U6 hI hres hne;have hsz: ¬us.toArray.size=1:=by
   simp only[List.size_toArray,k2];intro h1
   match vs0,h1 with
   | [v1],_=>exact hv0 v1 rfl
  have hret: (results F a'.tmps).run P w'= .ok (.tuple us.toArray) w':=by have:=hrun us k1;rwa[dif_neg hsz]at this
  split at hfin
  ·simp only[Option.some.injEq,Prod.mk.injEq]at hfin;obtain⟨rfl,rfl⟩:=hfin;refine⟨.tuple us.toArray,hret,.tuple us.toArray,m',β',Xe [] ν',rfl,hI.ge,hI.step,hboxesAll [],rfl,?_,trivial,hown []⟩;simp only[Qd];refine⟨us.toArray,rfl,by simp[k2],?_⟩;rw[Rr];intro i c hci;obtain⟨d,hd,rfl⟩:=QY hci;obtain⟨u,g1,_,g3⟩:=k3 i d hd;exact⟨u,by simpa using g1,by rw[QN];exact g3⟩
  ·split at hfin
   ·rename_i hgp;simp only[Option.some.injEq,Prod.mk.injEq]at hfin;obtain⟨rfl,rfl⟩:=hfin;refine⟨.tuple us.toArray,hret,.tuple us.toArray,m',β,Xe [] ν',rfl,Ge.refl β,hI.step,hboxes [] hgp.2,rfl,?_,trivial,hown []⟩;simp only[Qd];refine⟨us.toArray,rfl,by simp[k2],?_⟩;rw[Rr];intro i c hci;obtain⟨d,hd,rfl⟩:=QY hci;obtain⟨u,g1,_,g3⟩:=k3 i d hd;have hgp1:=hgp.1;rw[TE]at hgp1;exact⟨u,by simpa using g1,by rw[QN];exact WD d u (hgp1 i d hd) g3⟩
   ·cases hfin
 ·cases hfin
theorem TA [Dr] {Γ:Z7} (hF:N9 P num Γ tb): ∀n,KOk P num Γ (ZI tb n):=by
 intro n
 induction n with
 | zero=>intro f g args bs r bs' _ h;simp[ZI]at h
 | succ n ih=>
  intro f g args bs r bs' hfg hc hok w m β ν vs hG hGb hvs hrep hbox hlt;simp only[ZI]at hc;split at hc
  ·cases hc
  ·rename_i h htb;exact hF.orc f g h hfg htb args bs r bs' hc hok w m β ν vs hG hGb hvs hrep hbox hlt
  ·rename_i fn htb;split at hc
   ·rename_i hnp;obtain⟨F,hFf,hokF⟩:=hF.code f g fn hfg htb;unfold FJ at hokF;simp only[Bool.and_eq_true,decide_eq_true_eq]at hokF;obtain⟨⟨⟨hnt,hpt⟩,hres⟩,hbody⟩:=hokF;split at hbody
    ·rename_i cc hcc;have hInv:=Lb (ν:=ν) hnp hnt hpt hok hvs hrep hbox hlt;refine calls_of_wp hFf hcc ?_;split at hc
     ·rename_i σ' hrc;refine XJ hF.mix hF.enters ih hG hGb (fun b hb=>by obtain⟨p,hp⟩:=hb;exact(hlt b p hp).2.1) fn.body cc hbody _ _ w m β ν .normal σ' _ hrc hInv fun a' w' m' β' ν' hI=> ?_;exact PB hres hbox σ' hc a' w' m' β' ν' hI
     ·rename_i σ' hrc;refine XJ hF.mix hF.enters ih hG hGb (fun b hb=>by obtain⟨p,hp⟩:=hb;exact(hlt b p hp).2.1) fn.body cc hbody _ _ w m β ν .ret σ' _ hrc hInv fun a' w' m' β' ν' hI=> ?_;exact PB hres hbox σ' hc a' w' m' β' ν' hI
     ·cases hc
    ·cases hbody
   ·cases hc
end
#print axioms TA
end Go.Am
namespace Go.Am
def cl0 (sz:Nat):AC:= .reg false [⟨some 2,.mov (.c (.sl true sz [])),none⟩]
def cl1:AC:= .reg false [⟨some 3,.mov (.t 0),none⟩,⟨some 4,.isn false (.t 3),none⟩]
def cl2 (g:Bool) (sz:Nat):AC:= .reg false [⟨some 2,.mov (.c (if g then .gs 0 0 0 0 else .sl true sz [])),none⟩]
def cl3 (g:Bool) (bytes sz:Nat):AC:= .reg false [⟨some 5,.mksl sz [],none⟩,⟨some 6,.mov (.t 0),none⟩,
 ⟨some 7,if g then .appg bytes sz (.t 5) (.t 6)else .app bytes sz (.t 5) (.t 6),none⟩,⟨some 2,if g then .mov (.t 7)else .mvs 7,none⟩]
def QeY:AC:= .reg false [⟨some 5,.zlit,none⟩,⟨some 6,.mov (.t 0),none⟩,⟨some 7,.appzz (.t 5) (.t 6),none⟩,⟨some 2,.mov (.t 7),none⟩]
def Pt (g e:Bool) (bytes sz:Nat):AC:=if g && e then QeY else cl3 g bytes sz
def Vo (P:Program) (num:Nat→Option Nat) (g:Bool) (bytes sz:Nat) (F:Func):Bool:=
 decide (F.ntmps=8) && XA P [.tmp 2] F.results.toList && (match F.body with
  | some (.seq r0 (.seq (.seq r1 (.cond (.tmp 4) (.seq r2 .ret) .skip)) (.seq r3 .ret)))=>
   Z4 P num 8 (cl0 sz) r0 && Z4 P num 8 cl1 r1 && Z4 P num 8 (cl2 g sz) r2 && (Z4 P num 8 (Pt g true bytes sz) r3 && Z4 P num 8 (Pt g false bytes sz) r3)
  | _=>false)
def Uk (g:Bool) (bytes sz:Nat) (ys:List (List AV)) (bs:List (List AV)):Option (AV×List (List AV)):=
 if ys.length*bytes≤140737488355328 then
  (if g then(if ys.length=0 then some (.gs 0 0 0 0,bs)else if gpfreeE ys then some (.gs bs.length 0 sz ys.length,bs ++ [ys.flatten.map AV.strip])else none)
   else some (.sl true sz ys,bs))
  else none
def YZ (g:Bool) (bytes sz:Nat):List AV→List (List AV)→Option (AV×List (List AV))
 | [.sl _ s ys],bs=>if s=sz then Uk g bytes sz ys bs else none
 | _,_=>none
def W0:Qf:={nparams:=1,ntmps:=8,res:=[.tmp 2],body:= .skip,keep:=true}
theorem Gw {K:Zx} {g:Bool} {bytes sz:Nat} {o:Bool} {ys:List (List AV)} {r:AV} {bs':List (List AV)} (σ:St) (h0:σ.env 0= .sl o sz ys) (h:Uk g bytes sz ys σ.bs=some (r,bs')):
  ∃σ3,Q0 K 0 (.seq (Pt g ys.isEmpty bytes sz) .ret) σ=some (.ret,σ3)∧Yd W0 [] σ3=some (r,bs'):=by
 unfold Uk at h;split at h
 ·rename_i hb;cases g
  ·simp only[Bool.false_eq_true,if_false,Option.some.injEq,Prod.mk.injEq]at h;obtain⟨rfl,rfl⟩:=h;refine⟨_,by simp[Q0,Pt,cl3,Zf,Zj,Qe,Yi,ZG,upd,h0,val,AV.strip,AV.ok,hb];rfl,?_⟩;simp[Yd,Xa,Wx,W0,upd,AV.ok]
  ·simp only[if_true]at h;split at h
   ·rename_i hy;simp only[Option.some.injEq,Prod.mk.injEq]at h;obtain⟨rfl,rfl⟩:=h;have hy2:ys=[]:=List.eq_nil_of_length_eq_zero hy;subst hy2;refine⟨_,by simp[Q0,Pt,QeY,Zf,Zj,Qe,ZG,upd,h0,val,AV.strip];rfl,?_⟩;simp[Yd,Xa,Wx,W0,upd,AV.ok]
   ·rename_i hy;split at h
    ·rename_i hgp;simp only[Option.some.injEq,Prod.mk.injEq]at h;obtain⟨rfl,rfl⟩:=h;have hy3:ys≠[]:=fun e=>hy (by rw[e];rfl);have hie:ys.isEmpty=false:=by cases ys <;> simp_all
     refine⟨_,by simp[Q0,Pt,hie,cl3,Zf,Zj,Qe,Yi,ZG,upd,h0,val,AV.strip,AV.ok,hb,hy3];rfl,?_⟩;simp[Yd,Xa,Wx,W0,upd,AV.ok]
    ·cases h
 ·cases h
section
variable {P:Program} {num:Nat→Option Nat}
theorem Vh [Dr] {Γ:Z7} (hmix:P.follows .mixedOrders=true) (hE:Xs P num) {g:Bool} {bytes sz id:Nat} {F:Func} (hFf:P.funcs[id]? =some F) (hok:Vo P num g bytes sz F=true):
  W5 P num Γ (YZ g bytes sz) id:=by
 intro args bs r bs' hc hokv w m β ν vs hG hGb hvs hrep hbox hlt;have hK:KOk P num Γ (fun _ _ _=>none):=fun _ _ _ _ _ _ _ h=>by cases h
 have hT: ∀b,(∃p,ν b=some p)→Γ.Gb≤b:=fun b hb=>by obtain⟨p,hp⟩:=hb;exact(hlt b p hp).2.1
 unfold YZ at hc;split at hc
 ·rename_i _ o s ys;split at hc
  ·rename_i hcond;subst hcond;unfold Vo at hok;simp only[Bool.and_eq_true,decide_eq_true_eq]at hok;obtain⟨⟨hnt,hres⟩,hbody⟩:=hok;split at hbody
   ·rename_i r0 r1 r2 r3 hcc;simp only[Bool.and_eq_true]at hbody;obtain⟨⟨⟨k0,k1⟩,k2⟩,k3⟩:=hbody;have hInv:=Lb (num:=num) (f:=W0) (F:=F) (ν:=ν) (Γ:=Γ) rfl hnt.symm (show 1≤8 by omega) hokv hvs hrep hbox hlt;have hend:=PB (f:=W0) (F:=F) (r:=r) (bs':=bs') hres hbox;have hfin0: ∀σ' k,Yd W0 k σ'=Yd W0 [] σ':=fun σ' k=>by
     unfold Yd;split <;> rfl
    refine calls_of_wp hFf hcc ?_;refine wp_seq ?_;refine XJ hmix hE hK hG hGb hT (n:=0) _ _ k0 _ _ w m β ν .normal _ _ (by simp[Q0,cl0,Zf,Zj,Qe,ZG,val,AV.ok];rfl) hInv fun a1 w1 m1 β1 ν1 hI1=> ?_;refine wp_seq (wp_seq ?_);cases ys with
    | nil=>
     refine XJ hmix hE hK hG hGb hT (n:=0) _ _ k1 _ _ w1 m1 β1 ν1 .normal _ _ (by simp[Q0,cl1,Zf,Zj,Qe,ZG,val,AV.ok,upd,Yr,AV.strip];rfl) hI1 fun a2 w2 m2 β2 ν2 hI2=> ?_;have hb: ∃b,a2.eval (.tmp 4)= .bool b:=by
      obtain⟨_,h2⟩:=hI2.at_ (n:=4) (by simp[upd]);have h3:=hI2.slots 4 _ h2;simp only[upd]at h3;obtain⟨⟨b,h3⟩,_⟩:=h3;exact⟨b,h3⟩
     obtain⟨b,hb⟩:=hb;cases b
     ·refine wp_cond_false hb (wp_skip ?_);obtain⟨σ3,e1,e2⟩:=Gw (K:=fun _ _ _=>none) (o:=false) (σ:={env:=upd (upd (upd (Yr [.sl o s []]) 2 (.sl true s [])) 3 (.sl false s [])) 4 .anyb,bs:=bs}) (by simp[upd,Yr,AV.strip]) hc;exact XJ hmix hE hK hG hGb hT (n:=0) (.seq (Pt g _ bytes s) .ret) (.seq r3 .ret) (by simp[Z4,k3]) _ _ w2 m2 β2 ν2 .ret σ3 _ e1 hI2 fun a3 w3 m3 β3 ν3 hI3=>hend σ3 (by rw[hfin0];exact e2) a3 w3 m3 β3 ν3 hI3
     ·refine wp_cond_true hb (wp_seq ?_);refine XJ hmix hE hK hG hGb hT (n:=0) _ _ k2 _ _ w2 m2 β2 ν2 .normal {env:=upd (upd (upd (upd (Yr [.sl o s []]) 2 (.sl true s [])) 3 (.sl false s [])) 4 .anyb) 2 (if g then .gs 0 0 0 0 else .sl true s []),bs:=bs} _
       (by cases g <;> simp[Q0,cl2,Zf,Zj,Qe,ZG,val,AV.ok]) hI2 fun a3 w3 m3 β3 ν3 hI3=> ?_
      refine wp_ret ?_;refine hend _ ?_ a3 w3 m3 β3 ν3 hI3;rw[hfin0];cases g
      ·simp[Uk]at hc;obtain⟨rfl,rfl⟩:=hc;simp[Yd,Xa,Wx,W0,upd,AV.ok]
      ·simp[Uk]at hc;obtain⟨rfl,rfl⟩:=hc;simp[Yd,Xa,Wx,W0,upd,AV.ok]
    | cons y ys=>
     refine XJ hmix hE hK hG hGb hT (n:=0) _ _ k1 _ _ w1 m1 β1 ν1 .normal _ _ (by simp[Q0,cl1,Zf,Zj,Qe,ZG,val,AV.ok,upd,Yr,AV.strip];rfl) hI1 fun a2 w2 m2 β2 ν2 hI2=> ?_;have hb:a2.eval (.tmp 4)= .bool false:=by
      obtain⟨_,h2⟩:=hI2.at_ (n:=4) (by simp[upd]);have h3:=hI2.slots 4 _ h2;simp only[upd]at h3;obtain⟨h3,_⟩:=h3;exact h3
     refine wp_cond_false hb (wp_skip ?_);obtain⟨σ3,e1,e2⟩:=Gw (K:=fun _ _ _=>none) (o:=false) (σ:={env:=upd (upd (upd (Yr [.sl o s (y:: ys)]) 2 (.sl true s [])) 3 (.sl false s (y:: ys))) 4 (.bool false),bs:=bs}) (by simp[upd,Yr,AV.strip]) hc;exact XJ hmix hE hK hG hGb hT (n:=0) (.seq (Pt g _ bytes s) .ret) (.seq r3 .ret) (by simp[Z4,k3]) _ _ w2 m2 β2 ν2 .ret σ3 _ e1 hI2 fun a3 w3 m3 β3 ν3 hI3=>hend σ3 (by rw[hfin0];exact e2) a3 w3 m3 β3 ν3 hI3
   ·cases hbody
  ·cases hc
 ·cases hc
end
end Go.Am
namespace Go.Am
def OT:List AV→Option AV
 | [.str a,.str b]=>some (.int .i64 (if Op.bytesLess a b then -1 else if a == b then 0 else 1))
 | _=>none
def Qe1:Nat→Nat→List UInt8→List UInt8
 | 0,_,acc=>acc
 | k+1,n,acc=>if n < 10 then(48+n).toUInt8:: acc else Qe1 k (n / 10) ((48+n % 10).toUInt8:: acc)
def Qg3 (n:Nat):List UInt8:=Qe1 (n+1) n []
end Go.Am
namespace Go.Am
open Go.RowKit
def Ft (P:Program):Nat:=max (max ((P.globalNamed "internal/strconv.uint64pow10").getD 0) ((P.globalNamed "strconv.ErrSyntax").getD 0)) ((P.globalNamed "strconv.ErrRange").getD 0)+1
theorem Nc [Dr] {P:Program} {X:Nat→Prop} {w w':World} {m m':Nat→Nat} {B:Nat} (hS:Zl X w m w' m') (hX: ∀b,X b→B≤b) (hb:B≤w.heap.size) {n:String} (hn: (P.globalNamed n).getD 0 < B):w'.var? P n=w.var? P n:=by
 unfold World.var?;cases hg:P.globalNamed n with
 | none=>rfl
 | some g=>
  rw[hg]at hn;simp only[Option.getD_some]at hn;simp only[Option.bind_some];rw[(hS.same g (by omega) (fun hx=>by have:=hX g hx;omega)).1]
def QaK (P:Program) (w:World):Prop:=Lib.TabIs P w "internal/strconv.uint64pow10" .u64 Lib.pow10Tab∧
 (P.globalNamed "strconv.ErrSyntax" ≠none→∃tp p,w.var? P "strconv.ErrSyntax" =some #[.iface tp p])∧(P.globalNamed "strconv.ErrRange" ≠none→∃tp p,w.var? P "strconv.ErrRange" =some #[.iface tp p])
def glob [Dr] (P:Program):Z7 where
 G:=QaK P
 Gb:=Ft P
 step:=fun X w m w' m' hS hX hb hG=>by
  unfold QaK Lib.TabIs at *;rw[Nc hS hX hb (by unfold Ft;omega),Nc hS hX hb (by unfold Ft;omega),Nc hS hX hb (by unfold Ft;omega)];exact hG
theorem F7 [Dr] {w w':World} {m:Nat→Nat} (h:Below w.heap.size w w') (hdr:Dr.d→w.drawn≤w'.drawn):Zl (fun _=>False) w m w' m:=by
 refine⟨h.os,h.tape,h.output,h.size,fun b hb _=>⟨h.block b hb,rfl⟩,fun b i u hu=> ?_,hdr⟩;unfold hg at hu ⊢;split at hu
 ·rename_i hi;rw[if_pos hi];have hb:b < w.heap.size:=by
   rcases Nat.lt_or_ge b w.heap.size with h1 | h1
   ·exact h1
   ·exfalso;unfold World.cell? at hu;rw[Array.getElem?_eq_none h1]at hu;cases hu
  unfold World.cell? at hu ⊢;rw[h.block b hb];exact hu
 ·cases hu
section
variable {P:Program} {num:Nat→Option Nat}
theorem RU [Dr] {Γ:Z7} {h:List AV→Option AV} {g:Nat}
  (hc: ∀(args:List AV) (r:AV),h args=some r→∀(w:World) (m:Nat→Nat) (β:List Blk) (vs:Array Value),Γ.G w→vs.size=args.length→
   (∀(i:Nat) (c:AV),args[i]? =some c→∃u,vs[i]? =some u∧Qd num β w m c u)→
   Calls P g vs w fun e w'=>∃v,e= .returned v∧Below w.heap.size w w'∧(Dr.d→w.drawn≤w'.drawn)∧r.ok=true∧(∀w' m',Qd num β w' m' r v)∧(∀w' m' ν',Q6 w' m' ν' .f r v)):
  D0 P num Γ h g:=by
 intro args r hr hok w m β vs hG hGb hvs hrep;refine(hc args r hr w m β vs hG hvs hrep).mono fun e w' he=> ?_;obtain⟨v,he,hB,hdr,h1,h2,h3⟩:=he;exact⟨v,m,fun _=>none,he,F7 hB hdr,h1,h2 w' m,h3 w' m _,fun b p hp=>by cases hp⟩
theorem Js {vs:Array Value} {u v:Value} (h:vs.size=2) (h0:vs[0]? =some u) (h1:vs[1]? =some v):vs= #[u,v]:=by
 apply Array.ext_getElem?;intro i
 match i with
 | 0=>rw[h0];rfl
 | 1=>rw[h1];rfl
 | i+2=>rw[Array.getElem?_eq_none (by omega),Array.getElem?_eq_none (by simp)]
theorem WP (s:List UInt8): (⟨s.toArray⟩:ByteArray).data.toList=s:=by simp
theorem Nk (s:List UInt8): (⟨s.toArray⟩:ByteArray).size=s.length:=by simp[ByteArray.size]
theorem Tk: ∀a b:List UInt8,Lib.compareBytes a b=if Op.bytesLess a b then -1 else if a == b then 0 else 1
 | [],[]=>rfl
 | [],_:: _=>by simp[Lib.compareBytes,Op.bytesLess]
 | _:: _,[]=>by simp[Lib.compareBytes,Op.bytesLess]
 | a:: aq,b:: bs=>by
  simp only[Lib.compareBytes,Op.bytesLess,Tk aq bs];by_cases h1:a < b
  ·simp[h1]
  ·by_cases h2:b < a
   ·have hne: (a == b)=false:=by
     rw[beq_eq_false_iff_ne];intro e;subst e;exact h1 h2
    simp[h1,h2,hne]
   ·have he:a=b:=by
     apply UInt8.toNat_inj.1;rw[UInt8.lt_iff_toNat_lt]at h1 h2;omega
    subst he;simp[h1]
theorem H8 [Dr] {Γ:Z7} {g:Nat} (hC: ∀(a b:ByteArray) (w:World),Calls P g #[.string a,.string b] w fun e w'=>e= .returned (.int .i64 (Lib.compareBytes a.data.toList b.data.toList))∧w'=w):W5 P num Γ (YQ OT) g:=by
 refine O7 (RU fun args r hr w m β vs hG hvs hrep=> ?_);unfold OT at hr;split at hr
 ·rename_i a b;injection hr with hr
  subst hr;obtain⟨u,h0,h1⟩:=hrep 0 _ rfl;obtain⟨u2,h2,h3⟩:=hrep 1 _ rfl;simp only[Qd]at h1 h3;subst h1 h3;rw[Js hvs h0 h2];refine(hC _ _ w).mono fun e w' he=> ?_;obtain⟨rfl,rfl⟩:=he;rw[WP,WP,Tk];exact⟨_,rfl,Below.refl _ _,fun _=>Nat.le_refl _,rfl,fun _ _=>by simp only[Qd],fun _ _ _=>trivial⟩
 ·cases hr
end
end Go.Am
