/-
  Am15, Am16, Am17, Am18, Am19, Am24.
-/
import Derived.Test.YtpdmcibimbjknaaGreatDoorG07
import Derived.LoopN
import Derived.Lib.AtoiAll
import Derived.Below
import Derived.Lib.Bytealg
import Derived.Lib.IndexAny
import Derived.Lib.ItoaNum
import Derived.Lib.LaidTab
import Derived.Lib.ConvBytes
import Derived.Sort.Grow
import Derived.Deep.Draws
import Derived.Lib.AtoiErrMem
set_option linter.unusedVariables false
set_option linter.unusedSimpArgs false
namespace Go.Am
structure En where
 j:Nat
 g:Option (Nat×Bool)
 q:Nat
 s:Nat
 off:Nat
def Fh (x:Qr) (j:Nat):Option En:=match x.op,x.dst with
 | .fad s off,some q=>some ⟨j,x.guard,q,s,off⟩
 | _,_=>none
def entries (xs:List Qr):List En:=xs.zipIdx.filterMap fun p=>Fh p.1 p.2
def Qa9 (E:List En) (prec:Nat→Nat→Bool) (i:Nat) (g:Option (Nat×Bool)) (q s off:Nat):Bool:=
 E.any fun en=>prec i en.j && (decide (en.g=none) || decide (en.g=g)) && decide (en.q=q) && decide (en.s=s) && decide (en.off=off)
def AD (E:List En) (prec:Nat→Nat→Bool) (xs:List Qr):Bool:=
 E.all fun en=>xs.zipIdx.all fun p=>(decide (p.2=en.j) || !decide (p.1.dst=some en.q)) && !decide (p.1.dst=some en.s) &&
  (match en.g with
   | some (t,_)=> !decide (p.1.dst=some t) || prec en.j p.2
   | none=>true)
def Li (cops:Array Oper) (x:Qr) (o:Oper):Bool:=match x.guard,o.guard with
 | none,none=>true
 | some (t,b),some (j,b2)=>decide (b=b2) && decide (((cops[j]?).bind (·.dst))=some t)
 | _,_=>false
def BT (P:Program) (num:Nat→Option Nat) (N:Nat) (E:List En) (prec:Nat→Nat→Bool) (cops:Array Oper) (i:Nat) (x:Qr) (o:Oper):Bool:=
 decide (x.dst=o.dst) && (match x.dst with
  | some d=>decide (d < N)
  | none=>true) && Li cops x o && Qa2 P num (Qa9 E prec i x.guard) x.op o.op
def T0 (P:Program) (num:Nat→Option Nat) (N:Nat) (prec:Nat→Nat→Bool) (cops:Array Oper) (xs:List Qr):Bool:=
 decide (xs.length=cops.size) && AD (entries xs) prec xs && xs.zipIdx.all fun p=>match cops[p.2]? with
  | some o=>BT P num N (entries xs) prec cops p.2 p.1 o
  | none=>false
def gOK (σ:St):Option (Nat×Bool)→Prop
 | none=>True
 | some (t,b)=>σ.env t= .bool b
def RS (E:List En) (D:Nat→Prop) (σ:St) (a:Act):Prop:=∀en∈E,D en.j→gOK σ en.g→W9 a en.q en.s en.off
theorem Nj {xs:List Qr} {en:En} (h:en∈entries xs): ∃x,xs[en.j]? =some x∧x.op= .fad en.s en.off∧x.dst=some en.q∧x.guard=en.g:=by
 unfold entries at h;rw[List.mem_filterMap]at h;obtain⟨⟨x,j⟩,h1,h2⟩:=h;have h3:xs[j]? =some x:=by
  rw[List.mem_iff_getElem?]at h1;obtain⟨k,hk⟩:=h1;rw[List.getElem?_zipIdx]at hk;cases hx:xs[k]? with
  | none=>rw[hx]at hk;cases hk
  | some y=>
   rw[hx]at hk;simp only[Option.map_some,Option.some.injEq,Prod.mk.injEq]at hk;obtain⟨rfl,rfl⟩:=hk;simpa using hx
 simp only[Fh]at h2;split at h2
 ·rename_i s off q e1 e2;injection h2 with h2
  subst h2;exact⟨x,h3,e1,e2,rfl⟩
 ·cases h2
theorem FE {xs:List Qr} {f:Qr×Nat→Bool} (h:xs.zipIdx.all f=true) {i:Nat} {x:Qr} (hx:xs[i]? =some x):f (x,i)=true:=by
 rw[List.all_eq_true]at h;refine h (x,i) (List.mem_of_getElem? (i:=i) ?_);rw[List.getElem?_zipIdx,hx];simp
section
variable {P:Program} {num:Nat→Option Nat} {β:List Blk} {w w':World} {m:Nat→Nat} {ν:Own} {N:Nat} {w0:World} {m0:Nat→Nat} {T:Nat→Prop} {β0:List Blk} {σ σ1 σ2:St} {a:Act}
 {next:Act→World→Prop} {Q:Exit→Act→World→Prop} {K:ZJ} {v:AV} {xs:List Qr} {cops:Array Oper} {prec:Nat→Nat→Bool}
theorem Qei {op:AOp} (h:Qg K op σ=some (v,σ1)): ∀j∈Ym op,σ1.env j= .undef∨∃cs,σ1.env j= .bx cs:=by
 intro j hj;cases op <;> simp only[Ym,List.not_mem_nil,List.mem_cons,or_false]at hj
 case mvs n=>
  subst hj;simp only[Qg]at h;split at h
  ·injection h with h;injection h with _ h;subst h;exact .inl (by simp[upd])
  ·cases h
 case ldfm s off=>
  subst hj;simp only[Qg]at h;split at h
  ·rename_i cs hcs;cases hc:cs[off]? with
   | none=>rw[hc]at h;cases h
   | some c=>
    rw[hc]at h;simp only[Option.bind_some]at h;split at h
    ·injection h with h;injection h with _ h;subst h;exact .inr ⟨_,by simp[upd];rfl⟩
    ·cases h
  ·cases h
 case stf s off sz x=>
  subst hj;simp only[Qg]at h;split at h
  ·rename_i cs hcs;cases hc:cellsOf (val σ.env x)with
   | none=>rw[hc]at h;cases h
   | some c=>
    rw[hc]at h;simp only[Option.bind_some]at h;split at h
    ·injection h with h;injection h with _ h;subst h;exact .inr ⟨_,by simp[upd];rfl⟩
    ·cases h
  ·cases h
 case stn s off sz x zs=>
  subst hj;simp only[Qg]at h;split at h
  ·rename_i cs hcs;cases hc:cellsOf (val σ.env x)with
   | none=>rw[hc]at h;cases h
   | some c=>
    rw[hc]at h;simp only[Option.bind_some]at h;split at h
    ·injection h with h;injection h with _ h;subst h;exact .inr ⟨_,by simp[upd];rfl⟩
    ·cases h
  ·cases h
 case stfm s off n=>
  simp only[Qg]at h;split at h
  ·rename_i cs hcs;split at h
   ·rename_i hne;injection h with h;injection h with _ h;subst h
    rcases hj with rfl | rfl
    ·exact .inr ⟨_,by simp[upd];rfl⟩
    ·exact .inl (by simp only[upd];rw[if_neg (fun e=>hne.1 e.symm)];simp)
   ·cases h
  ·cases h
 case stm p n=>
  subst hj;simp only[Qg]at h;split at h
  ·rename_i i of hcs;cases hc:σ.bs[i]? with
   | none=>rw[hc]at h;cases h
   | some c=>
    rw[hc]at h;simp only[Option.bind_some]at h;split at h
    ·injection h with h;injection h with _ h;subst h;exact .inl (by simp[upd])
    ·cases h
  ·cases h
 case ldfz s off sz fo fz=>
  subst hj;simp only[Qg]at h;split at h
  ·rename_i cs hcs;split at h
   ·rename_i id o sz1 k hfo;split at h
    ·cases hb:σ.bs[id]? with
     | none=>rw[hb]at h;cases h
     | some c2=>
      rw[hb]at h;simp only[Option.bind_some]at h;split at h
      ·cases hr:Z0 (cs.set fo (.sl false fz (ZL c2 o fz k))) off sz true with
       | none=>rw[hr]at h;cases h
       | some v2=>
        rw[hr]at h;injection h with h;injection h with _ h;subst h
        exact .inr ⟨_,by simp[upd];rfl⟩
      ·cases h
    ·split at h
     ·cases hr:Z0 (cs.set fo (.sl false fz [])) off sz true with
      | none=>rw[hr]at h;cases h
      | some v2=>
       rw[hr]at h;injection h with h;injection h with _ h;subst h
       exact .inr ⟨cs,hcs⟩
     ·cases h
   ·cases h
  ·cases h
 case frz n sz=>
  subst hj;simp only[Qg]at h;have:=O0 h;simp only at this;exact .inl (by rw[this];simp[upd])
 case appz bytes sz n x=>
  subst hj;simp only[Qg]at h;split at h
  ·rename_i s _ _ _ hf _;have:=O0 hf;simp only at this;split at h
   ·injection h with h;injection h with _ h;subst h
    exact .inl (by rw[this];simp[upd])
   ·cases h
  ·cases h
 case appg bytes sz s x=>
  cases s with
  | c v=>simp[rdO]at hj
  | t n=>
   simp only[rdO,List.mem_singleton]at hj;subst hj;simp only[Qg]at h;split at h
   ·rename_i e1 e2;simp only[Prod.mk.injEq]at e1;obtain⟨_,rfl⟩:=e1;split at h
    ·split at h
     ·cases h
     ·injection h with h;injection h with _ h;subst h;exact .inl (by simp[upd])
    ·cases h
   ·cases h
 case app bytes sz s x=>
  cases s with
  | c v=>simp[rdO]at hj
  | t n=>
   simp only[rdO,List.mem_singleton]at hj;subst hj;simp only[Qg]at h;split at h
   ·rename_i sz1 ys ρ o2 sz2 zs e1 e2;simp only[Prod.mk.injEq]at e1;obtain⟨e1,rfl⟩:=e1;split at h
    ·injection h with h;injection h with _ h;subst h;exact .inl (by simp[upd])
    ·cases h
   ·cases h
theorem Bx [Dr] {op:AOp} (h:Qg K op σ=some (v,σ1)) {t:Nat} {b:Bool} (ht:σ1.env t= .bool b):σ.env t= .bool b:=by
 by_cases hj:t∈Ym op
 ·rcases Qei h t hj with h1 | ⟨cs,h1⟩ <;> rw[h1]at ht <;> cases ht
 ·have:=congrArg (fun s:St=>s.env t) (Eq h);simp only[QA]at this;rw[if_neg hj]at this;rw[← this];exact ht
theorem Lx {q s off:Nat} {d:Option Nat} {u:Value} (h:W9 a q s off) (h1:d≠some q) (h2:d≠some s):W9 (a.put d u) q s off:=by
 obtain⟨b,p1,p2⟩:=h;cases d with
 | none=>exact⟨b,p1,p2⟩
 | some d=>
  have e1:d≠q:=fun e=>h1 (by rw[e]);have e2:d≠s:=fun e=>h2 (by rw[e]);refine⟨b,?_,?_⟩
  ·simp only[Act.put,Array.getD_eq_getD_getElem?]at p1 ⊢;rw[Array.getElem?_setIfInBounds_ne e2];exact p1
  ·simp only[Act.put,Array.getD_eq_getD_getElem?]at p2 ⊢;rw[Array.getElem?_setIfInBounds_ne e1];exact p2
theorem AL [Dr] {x:Qr} {o:Oper} (hI:Inv num N w0 m0 T β0 σ a w m β ν) (hg:Li cops x o=true):
  (x.guard=none→Region.wanted o (yielded cops a.tmps)=true)∧(∀t b c,x.guard=some (t,b)→σ.env t= .bool c→Region.wanted o (yielded cops a.tmps)=decide (c=b))∧
   ∀t b,x.guard=some (t,b)→σ.env t= .tup []→Region.wanted o (yielded cops a.tmps)=false:=by
 unfold Li at hg;split at hg
 ·rename_i e1 e2;refine⟨fun _=>by simp[Region.wanted,e2],fun t b c h=>(by rw[e1]at h;cases h),fun t b h=>(by rw[e1]at h;cases h)⟩
 ·rename_i t b j b2 e1 e2;simp only[Bool.and_eq_true,decide_eq_true_eq]at hg;obtain⟨rfl,hg⟩:=hg;refine⟨(fun h=>by rw[e1]at h;cases h),fun t2 b3 c h hc=> ?_,fun t2 b3 h hc=> ?_⟩
  ·rw[e1]at h;injection h with h
   injection h with h3 h4
   subst h3 h4;obtain⟨_,h5⟩:=hI.at_ (n:=t) (by rw[hc];simp);have h6:=hI.slots t _ h5;rw[hc]at h6;obtain⟨h6,_⟩:=h6;simp only[Qd]at h6;simp only[Region.wanted,e2,yielded,hg,Option.bind_some,h5,h6];cases c <;> cases b <;> rfl
  ·rw[e1]at h;injection h with h
   injection h with h3 h4
   subst h3 h4;obtain⟨_,h5⟩:=hI.at_ (n:=t) (by rw[hc];simp);have h6:=hI.slots t _ h5;rw[hc]at h6;obtain⟨h6,_⟩:=h6;simp only[Qd]at h6;obtain⟨us,h6,_⟩:=h6;simp only[Region.wanted,e2,yielded,hg,Option.bind_some,h5,h6];cases b <;> rfl
 ·cases hg
theorem Nl [Dr] {Γ:Yg} (hI:Inv num N w0 m0 T β0 σ a w m β ν) (hE:XI P num) (hK:KOk P num Γ K) (hG:Γ.G w0) (hGb:Γ.Gb≤w0.heap.size) (hT: ∀b,T b→Γ.Gb≤b)
  {D:Nat→Prop} {i:Nat} {x:Qr} (hall:T0 P num N prec cops xs=true) (hx:xs[i]? =some x) (hD: ¬D i) (hpre: ∀k,prec i k=true→D k) (hdown: ∀j k,D j→prec j k=true→D k)
  (hRS:RS (entries xs) D σ a) (hr:Zr K x σ=some σ2)
  (h: ∀a' w' m' β' ν',Inv num N w0 m0 T β0 σ2 a' w' m' β' ν'→RS (entries xs) (fun j=>D j∨j=i) σ2 a'→next a' w'):wpOp P cops Q i next a w:=by
 unfold T0 at hall;simp only[Bool.and_eq_true,decide_eq_true_eq]at hall;obtain⟨⟨hlen,hst⟩,hall⟩:=hall;have hox:=FE hall hx;simp only at hox;split at hox
 ·rename_i o ho;unfold BT at hox;simp only[Bool.and_eq_true,decide_eq_true_eq]at hox;obtain⟨⟨⟨hdst,hdN⟩,hgd⟩,hop⟩:=hox;have hstab: ∀en∈entries xs,(i=en.j∨x.dst≠some en.q)∧x.dst≠some en.s∧∀t b,en.g=some (t,b)→x.dst=some t→prec en.j i=true:=fun en hen=>by
   unfold AD at hst;rw[List.all_eq_true]at hst;have:=FE (hst en hen) hx;simp only[Bool.and_eq_true,Bool.or_eq_true,decide_eq_true_eq,Bool.not_eq_true',decide_eq_false_iff_not]at this;refine⟨this.1.1,this.1.2,fun t b hg hd=> ?_⟩;have h2:=this.2;rw[hg]at h2;simp only[Bool.or_eq_true,Bool.not_eq_true',decide_eq_false_iff_not]at h2;exact h2.resolve_left (fun hn=>hn hd)
  obtain⟨hw1,hw2,hw3⟩:=AL hI hgd;have run: (∀t b,x.guard=some (t,b)→σ.env t= .bool b)→Region.wanted o (yielded cops a.tmps)=true→((Qg K x.op σ).map fun p=>({p.2 with env:=ZR p.2.env x.dst p.1}:St))=some σ2→wpOp P cops Q i next a w:=by
   intro hgu hwant hex;cases he:Qg K x.op σ with
   | none=>rw[he]at hex;cases hex
   | some p=>
    obtain⟨v,σ1⟩:=p;rw[he]at hex;simp only[Option.map_some,Option.some.injEq]at hex;subst hex;unfold wpOp;simp only[ho,hwant,if_true];refine .inl (Qa3 hI hE hK hG hGb hT (pt:=Qa9 (entries xs) prec i x.guard) (fun q s off hp=> ?_) hop he fun u w' m' β' ν' k1 k2 k3=> ?_)
    ·unfold Qa9 at hp;rw[List.any_eq_true]at hp;obtain⟨en,hen,hp⟩:=hp;simp only[Bool.and_eq_true,Bool.or_eq_true,decide_eq_true_eq]at hp;obtain⟨⟨⟨⟨p1,p2⟩,rfl⟩,rfl⟩,rfl⟩:=hp;refine hRS en hen (hpre _ p1) ?_;rcases p2 with p2 | p2
     ·rw[p2];exact trivial
     ·rw[p2];cases hxg:x.guard with
      | none=>exact trivial
      | some tb=>obtain⟨t,b⟩:=tb;exact hgu t b hxg
    ·rw[← hdst];have hRS2:RS (entries xs) (fun j=>D j∨j=i) {σ1 with env:=ZR σ1.env x.dst v} (a.put x.dst u):=by
      intro en hen hDj hgk;obtain⟨st1,st2,st3⟩:=hstab en hen;by_cases hji:en.j=i
      ·obtain⟨y,y1,y2,y3,_⟩:=Nj hen;rw[hji,hx]at y1;injection y1 with y1
       subst y1;obtain⟨b,b1,b2⟩:=k3 _ _ y2;have hne:en.q≠en.s:=fun e=>st2 (by rw[y3,e]);rw[y3];rw[y3]at hdN;have hqN:en.q < N:=by simpa using hdN
       refine⟨b,?_,?_⟩
       ·simp only[Act.put,Array.getD_eq_getD_getElem?]at b1 ⊢;rw[Array.getElem?_setIfInBounds_ne hne];exact b1
       ·simp only[Act.put,Array.getD_eq_getD_getElem?];rw[Array.getElem?_setIfInBounds_self_of_lt (by rw[hI.size];exact hqN),b2];rfl
      ·have hDj2:D en.j:=hDj.resolve_right hji;refine Lx (hRS en hen hDj2 ?_) (st1.resolve_left (fun e=>hji e.symm)) st2;cases heg:en.g with
       | none=>exact trivial
       | some tb=>
        obtain⟨t,b⟩:=tb;rw[heg]at hgk;simp only[gOK,PB]at hgk ⊢;split at hgk
        ·rename_i hd;exact absurd (hdown en.j i hDj2 (st3 t b heg (by simpa using hd))) hD
        ·exact Bx he hgk
     cases hxd:x.dst with
     | none=>
      rw[hxd]at hRS2 h;exact h _ w' m' β' ν' k1 hRS2
     | some d=>
      rw[hxd]at hRS2 hdN h;exact h _ w' m' β' _ (k1.put k2 d (by simpa using hdN)) hRS2
  unfold Zr at hr;cases hxg:x.guard with
  | none=>
   rw[hxg]at hr;exact run (fun t b h=>by rw[hxg]at h;cases h) (hw1 hxg) hr
  | some tb=>
   obtain⟨t,b⟩:=tb;rw[hxg]at hr;simp only at hr;have skip:σ.env t≠ .bool b→Region.wanted o (yielded cops a.tmps)=false→{σ with env:=ZR σ.env x.dst (.tup [])}=σ2→wpOp P cops Q i next a w:=by
    intro hc hwant hr;subst hr;unfold wpOp;simp only[ho];rw[hwant,if_neg (by simp),← hdst];have hRS2:RS (entries xs) (fun j=>D j∨j=i) {σ with env:=ZR σ.env x.dst (.tup [])} (a.put x.dst undef):=by
     intro en hen hDj hgk;obtain⟨st1,st2,st3⟩:=hstab en hen;have hback: ∀t2 b2,en.g=some (t2,b2)→D en.j∨en.j=i→σ.env t2= .bool b2:=fun t2 b2 heg hDj=>by
      rw[heg]at hgk;simp only[gOK,PB]at hgk;split at hgk
      ·cases hgk
      ·exact hgk
     by_cases hji:en.j=i
     ·exfalso;obtain⟨y,y1,y2,y3,y4⟩:=Nj hen;rw[hji,hx]at y1;injection y1 with y1
      subst y1;exact hc (hback t b (y4.symm.trans hxg) (.inr hji))
     ·have hDj2:D en.j:=hDj.resolve_right hji;refine Lx (hRS en hen hDj2 ?_) (st1.resolve_left (fun e=>hji e.symm)) st2;cases heg:en.g with
      | none=>exact trivial
      | some tb2=>
       obtain⟨t2,b2⟩:=tb2;exact hback t2 b2 heg (.inl hDj2)
    cases hxd:x.dst with
    | none=>
     rw[hxd]at hRS2 h;exact h _ w m β ν hI hRS2
    | some d=>
     rw[hxd]at hRS2 hdN h;exact h _ w m β _ (hI.put (v:= .tup []) (u:=undef) ((QX rfl).2 ⟨by simp only[Qd];exact⟨#[],rfl,rfl,by simp only[RepT]⟩,trivial⟩) d (by simpa using hdN)) hRS2
   split at hr
   ·rename_i c hc;have hwant:=hw2 t b c hxg hc;split at hr
    ·rename_i hcb;subst hcb;exact run (fun t2 b2 h=>by rw[hxg]at h;injection h with h;injection h with h1 h2;subst h1 h2;exact hc) (by rw[hwant];simp) hr
    ·rename_i hcb;injection hr with hr
     exact skip (by rw[hc];intro e;injection e with e;exact hcb e) (by rw[hwant];simpa using hcb) hr
   ·rename_i hc;injection hr with hr
    exact skip (by rw[hc];intro e;cases e) (hw3 t b hxg hc) hr
   ·cases hr
 ·cases hox
theorem MF [Dr] {Γ:Yg} (hE:XI P num) (hK:KOk P num Γ K) (hG:Γ.G w0) (hGb:Γ.Gb≤w0.heap.size) (hT: ∀b,T b→Γ.Gb≤b) {σn:St}
  (hall:T0 P num N (fun i k=>decide (k < i)) cops xs=true) (hQ: ∀a' w' m' β' ν',Inv num N w0 m0 T β0 σn a' w' m' β' ν'→Q .normal a' w'):
  ∀(n k:Nat) (σ:St) (a:Act) (w:World) (m:Nat→Nat) (β:List Blk) (ν:Own),k+n=xs.length→Zn K (xs.drop k) σ=some σn→Inv num N w0 m0 T β0 σ a w m β ν→RS (entries xs) (fun j=>j < k) σ a→
   wpOps P cops Q (List.range' k n) a w
 | 0,k,σ,a,w,m,β,ν,hk,hr,hI,_=>by
  rw[List.drop_eq_nil_of_le (by omega)]at hr;injection hr with hr
  subst hr;exact hQ a w m β ν hI
 | n+1,k,σ,a,w,m,β,ν,hk,hr,hI,hRS=>by
  have hkl:k < xs.length:=by omega
  rw[List.drop_eq_getElem_cons hkl]at hr;simp only[Zn]at hr;cases h1:Zr K xs[k] σ with
  | none=>rw[h1]at hr;cases hr
  | some σ1=>
   rw[h1,Option.bind_some]at hr;rw[List.range'_succ,wpOps_cons];refine Nl hI hE hK hG hGb hT hall (List.getElem?_eq_getElem hkl) (D:=fun j=>j < k) (by omega) (fun j hj=>by simpa using hj) (fun i j hi hj=>Nat.lt_trans (show j < i by simpa using hj) hi) hRS h1 fun a' w' m' β' ν' k1 k2=> ?_;exact MF hE hK hG hGb hT hall hQ n (k+1) σ1 a' w' m' β' ν' (by omega) hr k1 (fun en hen hj hg=>k2 en hen (by omega) hg)
end
end Go.Am
namespace Go.Am
def Vi (cops:Array Oper) (i k:Nat):Bool:=match cops[i]? with
 | some o=>o.after.any fun e=>Region.binds .any e && decide (e.on=k)
 | none=>false
def ME (cops:Array Oper):Nat→Nat→Nat→Bool
 | 0,_,_=>false
 | f+1,i,j=>Vi cops i j || (match cops[i]? with
  | some o=>o.after.any fun e=>Region.binds .any e && decide (j < e.on) && ME cops f e.on j
  | none=>false)
def Of (cops:Array Oper):Bool:=(List.range cops.size).all fun i=>match cops[i]? with
 | some o=>o.after.all fun e=> !Region.binds .any e || decide (e.on < i)
 | none=>true
def Pv (xs:List Qr) (i:Nat):Qr:=xs.getD i ⟨none,.alloc [],none⟩
def M1 (cops:Array Oper) (xs:List Qr):Bool:=(List.range xs.length).all fun i=>(List.range i).all fun j=>Ol (Pv xs j) (Pv xs i) || ME cops xs.length i j
def Kv (P:Program) (num:Nat→Option Nat) (N:Nat) (draw:Bool) (cops:Array Oper) (xs:List Qr):Bool:=
 if draw then T0 P num N (Vi cops) cops xs && Of cops && M1 cops xs else T0 P num N (fun i k=>decide (k < i)) cops xs
theorem Ht {cops:Array Oper} {L:Nat→Prop} (hdown: ∀j k,L j→Vi cops j k=true→L k): ∀(f i j:Nat),(∀k,Vi cops i k=true→L k)→ME cops f i j=true→L j
 | 0,_,_,_,h=>by simp[ME]at h
 | f+1,i,j,hi,h=>by
  simp only[ME,Bool.or_eq_true]at h;rcases h with h | h
  ·exact hi j h
  ·split at h
   ·rename_i o ho;rw[Array.any_eq_true']at h;obtain⟨e,he,h⟩:=h;simp only[Bool.and_eq_true,decide_eq_true_eq]at h;have hL:L e.on:=hi e.on (by
     unfold Vi;rw[ho];simp only;rw[Array.any_eq_true'];exact⟨e,he,by simp[h.1.1]⟩)
    exact Ht hdown f e.on j (fun k hk=>hdown _ k hL hk) h.2
   ·cases h
def rem (n:Nat) (listed:Array Bool):List Nat:=(List.range n).filter fun i=> !listed.getD i true
theorem RU {n i:Nat} {listed:Array Bool}:i∈rem n listed↔i < n∧listed.getD i true=false:=by
 unfold rem;rw[List.mem_filter,List.mem_range];simp
theorem LZ {n i:Nat} {listed:Array Bool} (hn:listed.size=n) (hi:i∈rem n listed):rem n (listed.setIfInBounds i true)=(rem n listed).erase i:=by
 have hnd: (rem n listed).Nodup:=List.Pairwise.filter _ List.nodup_range;rw[List.Nodup.erase_eq_filter hnd];unfold rem;rw[List.filter_filter];apply List.filter_congr;intro x hx;rw[List.mem_range]at hx;by_cases hxi:x=i
 ·subst hxi;simp[hn,hx]
 ·rw[getD_set_ne true (fun e=>hxi e.symm)];simp[hxi]
section
variable {P:Program} {num:Nat→Option Nat} {β:List Blk} {w w':World} {m:Nat→Nat} {ν:Own} {N:Nat} {w0:World} {m0:Nat→Nat} {T:Nat→Prop} {β0:List Blk} {σ σ1 σ2:St} {a:Act}
 {next:Act→World→Prop} {Q:Exit→Act→World→Prop} {K:ZJ} {v:AV} {xs:List Qr} {cops:Array Oper}
theorem Ft {i:Nat} (h:i < xs.length):xs[i]? =some (Pv xs i):=by
 unfold Pv;rw[List.getElem?_eq_getElem h];simp[h]
theorem Ox {prec:Nat→Nat→Bool} (h:T0 P num N prec cops xs=true):xs.length=cops.size:=by
 unfold T0 at h;simp only[Bool.and_eq_true,decide_eq_true_eq]at h;exact h.1.1
theorem EW [Dr] {Γ:Yg} (hE:XI P num) (hK:KOk P num Γ K) (hG:Γ.G w0) (hGb:Γ.Gb≤w0.heap.size) (hT: ∀b,T b→Γ.Gb≤b) {σn:St}
  (hall:T0 P num N (Vi cops) cops xs=true) (hed:Of cops=true) (hap:M1 cops xs=true) (hQ: ∀a' w' m' β' ν',Inv num N w0 m0 T β0 σn a' w' m' β' ν'→Q .normal a' w'):
  ∀(fuel:Nat) (listed:Array Bool) (σ:St) (a:Act) (w:World) (m:Nat→Nat) (β:List Blk) (ν:Own),listed.size=xs.length→(rem xs.length listed).length=fuel→
   Zn K ((rem xs.length listed).map (Pv xs)) σ=some σn→(∀j k,listed.getD j false=true→Vi cops j k=true→listed.getD k false=true)→
   Inv num N w0 m0 T β0 σ a w m β ν→RS (entries xs) (fun j=>listed.getD j false=true) σ a→wpAny P .any cops Q fuel listed a w:=by
 intro fuel;have hlen:=Ox hall;have hdownE: ∀i k,Vi cops i k=true→k < i:=fun i k h=>by
  unfold Vi at h;split at h
  ·rename_i o ho;rw[Array.any_eq_true']at h;obtain⟨e,he,h⟩:=h;simp only[Bool.and_eq_true,decide_eq_true_eq]at h;have hi:i < cops.size:=(Array.getElem?_eq_some_iff.1 ho).1;unfold Of at hed;rw[List.all_eq_true]at hed;have:=hed i (List.mem_range.2 hi);rw[ho]at this;simp only[Array.all_eq_true_iff_forall_mem,Bool.or_eq_true,Bool.not_eq_true',decide_eq_true_eq]at this;rcases this e he with h1 | h1
   ·rw[h.1]at h1;cases h1
   ·omega
  ·cases h
 have hDor: ∀(listed:Array Bool) (j:Nat),listed.size=xs.length→j < xs.length→listed.getD j true=false∨listed.getD j false=true:=fun listed j h1 h2=>by
  rw[Array.getD_eq_getD_getElem?,Array.getD_eq_getD_getElem?,Array.getElem?_eq_getElem (by omega)];cases listed[j] <;> simp
 induction fuel with
 | zero=>
  intro listed σ a w m β ν hs hl hr _ hI _;have h0:rem xs.length listed=[]:=List.eq_nil_of_length_eq_zero hl;rw[h0]at hr;injection hr with hr
  subst hr;refine⟨?_,hQ a w m β ν hI⟩;cases hrd:Region.ready .any cops listed with
  | nil=>rfl
  | cons i is=>
   exfalso;have hi:i∈Region.ready .any cops listed:=by rw[hrd];simp
   obtain⟨h1,o,h2,_⟩:=mem_ready.1 hi;have:i∈rem xs.length listed:=RU.2 ⟨by rw[hlen];exact(Array.getElem?_eq_some_iff.1 h2).1,h1⟩;rw[h0]at this;cases this
 | succ fuel ih=>
  intro listed σ a w m β ν hs hl hr hdown hI hRS;refine⟨fun h0=> ?_,fun i hi=> ?_⟩
  ·exfalso;cases hrem:rem xs.length listed with
   | nil=>rw[hrem]at hl;simp at hl
   | cons i is=>
    have hi:i∈rem xs.length listed:=by rw[hrem];simp
    obtain⟨h1,h2⟩:=RU.1 hi;have hsort: (rem xs.length listed).Pairwise (· < ·):=List.Pairwise.filter _ List.pairwise_lt_range;rw[hrem]at hsort;have hmin:=(List.pairwise_cons.1 hsort).1;have hready:i∈Region.ready .any cops listed:=by
     refine mem_ready.2 ⟨h2,cops[i]'(by omega),Array.getElem?_eq_getElem _,fun e he hb=> ?_⟩;have hp:Vi cops i e.on=true:=by
      unfold Vi;rw[Array.getElem?_eq_getElem (by omega)];simp only;rw[Array.any_eq_true'];exact⟨e,he,by simp[hb]⟩
     have hlt:=hdownE i e.on hp;rcases hDor listed e.on hs (by omega)with h3 | h3
     ·have:e.on∈rem xs.length listed:=RU.2 ⟨by omega,h3⟩;rw[hrem]at this;rcases List.mem_cons.1 this with h4 | h4
      ·omega
      ·have:=hmin _ h4;omega
     ·exact h3
    rw[h0]at hready;cases hready
  ·obtain⟨h1,o,h2,h3⟩:=mem_ready.1 hi;have hin:i < xs.length:=by rw[hlen];exact(Array.getElem?_eq_some_iff.1 h2).1
   have hir:i∈rem xs.length listed:=RU.2 ⟨hin,h1⟩;have hpre: ∀k,Vi cops i k=true→listed.getD k false=true:=fun k hk=>by
    unfold Vi at hk;rw[h2]at hk;simp only at hk;rw[Array.any_eq_true']at hk;obtain⟨e,he,hk⟩:=hk;simp only[Bool.and_eq_true,decide_eq_true_eq]at hk;rw[← hk.2];exact h3 e he hk.1
   have hsort: (rem xs.length listed).Pairwise (· < ·):=List.Pairwise.filter _ List.pairwise_lt_range;have hind: ∀j∈rem xs.length listed,j < i→Ol (Pv xs j) (Pv xs i)=true:=fun j hj hji=>by
    unfold M1 at hap;rw[List.all_eq_true]at hap;have:=hap i (List.mem_range.2 hin);rw[List.all_eq_true]at this;have:=this j (List.mem_range.2 hji);simp only[Bool.or_eq_true]at this;rcases this with h | h
    ·exact h
    ·have hL:=Ht (L:=fun j=>listed.getD j false=true) hdown _ i j hpre h;obtain⟨k1,k2⟩:=RU.1 hj;rw[Array.getD_eq_getD_getElem?,Array.getElem?_eq_getElem (by omega)]at hL k2;simp only[Option.getD_some]at hL k2;rw[hL]at k2;cases k2
   obtain⟨σ',g1,g2⟩:=OA (Pv xs) i _ σ σn hsort hir hind hr;have hnD: ¬listed.getD i false=true:=fun h=>by
    rw[Array.getD_eq_getD_getElem?,Array.getElem?_eq_getElem (by omega)]at h h1;simp only[Option.getD_some]at h h1;rw[h]at h1;cases h1
   refine Nl hI hE hK hG hGb hT hall (Ft hin) hnD hpre hdown hRS g1 fun a' w' m' β' ν' k1 k2=> ?_;have hset: ∀j,(listed.setIfInBounds i true).getD j false=true→listed.getD j false=true∨j=i:=fun j hj=>by
    by_cases e:j=i
    ·exact .inr e
    ·rw[getD_set_ne false (fun h=>e h.symm)]at hj;exact .inl hj
   have hself: (listed.setIfInBounds i true).getD i false=true:=by simp[hs,hin]
   refine ih (listed.setIfInBounds i true) σ' a' w' m' β' ν' (by simpa using hs) ?_ ?_ (fun j k hj hk=> ?_) k1 (fun en hen hj hg=>k2 en hen (hset _ hj) hg)
   ·rw[LZ hs hir,List.length_erase_of_mem hir,hl];rfl
   ·rw[LZ hs hir];exact g2
   ·rcases hset j hj with h | h
    ·exact getD_set_true (hdown j k h hk)
    ·rw[h]at hk;exact getD_set_true (hpre k hk)
theorem QaY [Dr]: (List.range xs.length).map (Pv xs)=xs:=by
 apply List.ext_getElem?;intro i;rw[List.getElem?_map];by_cases hi:i < xs.length
 ·rw[List.getElem?_range hi,Ft hi];rfl
 ·rw[List.getElem?_eq_none (by simp;omega),List.getElem?_eq_none (by omega)];rfl
theorem Hu [Dr] {Γ:Yg} (hmix:P.follows .mixedOrders=true) (hE:XI P num) (hK:KOk P num Γ K) (hG:Γ.G w0) (hGb:Γ.Gb≤w0.heap.size) (hT: ∀b,T b→Γ.Gb≤b) {σn:St} {id:Nat} {dr:Bool}
  (hok:Kv P num N dr cops xs=true) (hI:Inv num N w0 m0 T β0 σ a w m β ν) (hr:Zn K xs σ=some σn) (hQ: ∀a' w' m' β' ν',Inv num N w0 m0 T β0 σn a' w' m' β' ν'→Q .normal a' w'):
  (Code.region id cops dr).wp P Q a w:=by
 cases dr
 ·simp only[Kv,Bool.false_eq_true,if_false]at hok;refine wp_region ?_;rw[List.range_eq_range',← Ox hok];exact MF hE hK hG hGb hT hok hQ xs.length 0 σ a w m β ν (by omega) (by simpa using hr) hI (fun en _ hj _=>absurd hj (by omega))
 ·simp only[Kv,if_true,Bool.and_eq_true]at hok;obtain⟨⟨h1,h2⟩,h3⟩:=hok;refine wp_region_any hmix ?_;have hlen:=Ox h1;have hrem:rem xs.length (Array.replicate cops.size false)=List.range xs.length:=by
   unfold rem;rw[List.filter_eq_self];intro x hx;rw[List.mem_range]at hx;simp[← hlen,hx]
  have hno: ∀j,(Array.replicate cops.size false).getD j false=false:=fun j=>by
   rw[Array.getD_eq_getD_getElem?];by_cases h:j < cops.size <;> simp[h]
  rw[← hlen];have hno': ∀j,(Array.replicate xs.length false).getD j false=false:=by rw[hlen];exact hno
  rw[← hlen]at hrem;exact EW hE hK hG hGb hT h1 h2 h3 hQ xs.length _ σ a w.drew m β ν (by simp) (by rw[hrem];simp) (by rw[hrem,QaY];exact hr)
   (fun j k hj _=>by rw[hno']at hj;cases hj) hI.drew (fun en _ hj _=>by have h0:=hno' en.j;simp only[h0]at hj;cases hj)
def Yd (P:Program) (num:Nat→Option Nat) (N:Nat):AC→Code→Bool
 | .bad,_=>true
 | .skip,.skip=>true
 | .reg dr xs,.region _ ops dr2=>decide (dr=dr2) && Kv P num N dr ops xs
 | .seq a b,.seq c d=>Yd P num N a c && Yd P num N b d
 | .cond c a b,.cond c2 a2 b2=>okO num c c2 && Yd P num N a a2 && Yd P num N b b2
 | .block id c,.block id2 c2=>decide (id=id2) && Yd P num N c c2
 | .loop c,.loop c2=>Yd P num N c c2
 | .exit id,.exit id2=>decide (id=id2)
 | .ret,.ret=>true
 | _,_=>false
def Ex.toExit:Ex→Exit
 | .normal=> .normal
 | .exit i=> .exit i
 | .ret=> .ret
theorem X0 [Dr] {Γ:Yg} (hmix:P.follows .mixedOrders=true) (hE:XI P num) (hK:KOk P num Γ K) (hG:Γ.G w0) (hGb:Γ.Gb≤w0.heap.size) (hT: ∀b,T b→Γ.Gb≤b) {n:Nat}:
  ∀(c:AC) (cc:Code),Yd P num N c cc=true→∀(σ:St) (a:Act) (w:World) (m:Nat→Nat) (β:List Blk) (ν:Own) (ex:Ex) (σ':St) (Q:Exit→Act→World→Prop),
   Q2 K n c σ=some (ex,σ')→Inv num N w0 m0 T β0 σ a w m β ν→(∀a' w' m' β' ν',Inv num N w0 m0 T β0 σ' a' w' m' β' ν'→Q ex.toExit a' w')→cc.wp P Q a w:=by
 intro c
 induction c with
 | bad=>
  intro cc hok σ a w m β ν ex σ' Q hr;simp[Q2]at hr
 | skip=>
  intro cc hok σ a w m β ν ex σ' Q hr hI hQ;cases cc <;> simp[Yd]at hok;simp only[Q2,Option.some.injEq,Prod.mk.injEq]at hr;obtain⟨rfl,rfl⟩:=hr;exact wp_skip (hQ a w m β ν hI)
 | reg dr xs=>
  intro cc hok σ a w m β ν ex σ' Q hr hI hQ;cases cc <;> simp only[Yd,Bool.and_eq_true,decide_eq_true_eq]at hok <;> try (cases hok;done)
  obtain⟨rfl,hok⟩:=hok;simp only[Q2]at hr;cases h1:Zn K xs σ with
  | none=>rw[h1]at hr;cases hr
  | some s=>
   rw[h1]at hr;simp only[Option.map_some,Option.some.injEq,Prod.mk.injEq]at hr;obtain⟨rfl,rfl⟩:=hr;exact Hu hmix hE hK hG hGb hT hok hI h1 hQ
 | seq x y ihx ihy=>
  intro cc hok σ a w m β ν ex σ' Q hr hI hQ;cases cc <;> simp only[Yd,Bool.and_eq_true]at hok <;> try (cases hok;done)
  refine wp_seq ?_;simp only[Q2]at hr;split at hr
  ·rename_i s h1;refine ihx _ hok.1 σ a w m β ν .normal s _ h1 hI fun a' w' m' β' ν' k=> ?_;exact ihy _ hok.2 s a' w' m' β' ν' ex σ' Q hr k hQ
  ·rename_i hne;refine ihx _ hok.1 σ a w m β ν ex σ' _ hr hI fun a' w' m' β' ν' k=> ?_;cases ex
   ·exact absurd hr (hne σ')
   ·exact hQ a' w' m' β' ν' k
   ·exact hQ a' w' m' β' ν' k
 | cond c x y ihx ihy=>
  intro cc hok σ a w m β ν ex σ' Q hr hI hQ;cases cc <;> simp only[Yd,Bool.and_eq_true]at hok <;> try (cases hok;done)
  obtain⟨⟨h0,h1⟩,h2⟩:=hok;simp only[Q2]at hr;split at hr
  ·rename_i hv;have g:=(hI.val h0 (by rw[hv];rfl)).1;rw[hv]at g;simp only[Qd]at g;exact wp_cond_true g (ihx _ h1 σ a w m β ν ex σ' Q hr hI hQ)
  ·rename_i hv;have g:=(hI.val h0 (by rw[hv];rfl)).1;rw[hv]at g;simp only[Qd]at g;exact wp_cond_false g (ihy _ h2 σ a w m β ν ex σ' Q hr hI hQ)
  ·cases hr
 | block id x ihx=>
  intro cc hok σ a w m β ν ex σ' Q hr hI hQ;cases cc <;> simp only[Yd,Bool.and_eq_true,decide_eq_true_eq]at hok <;> try (cases hok;done)
  obtain⟨rfl,hok⟩:=hok;refine wp_block ?_;simp only[Q2]at hr;split at hr
  ·rename_i i s h1;simp only[Option.some.injEq,Prod.mk.injEq]at hr;obtain⟨rfl,rfl⟩:=hr;refine ihx _ hok σ a w m β ν (.exit i) s _ h1 hI fun a' w' m' β' ν' k=> ?_;have hq:=hQ a' w' m' β' ν' k;simp only[Ex.toExit,Exit.inBlock];split
   ·rename_i e;rw[if_pos e]at hq;exact hq
   ·rename_i e;rw[if_neg e]at hq;exact hq
  ·rename_i hne;refine ihx _ hok σ a w m β ν ex σ' _ hr hI fun a' w' m' β' ν' k=> ?_;have hq:=hQ a' w' m' β' ν' k;cases ex
   ·exact hq
   ·exact absurd hr (hne _ _)
   ·exact hq
 | loop x ihx=>
  intro cc hok σ a w m β ν ex σ' Q hr hI hQ;cases cc <;> simp only[Yd]at hok <;> try (cases hok;done)
  rename_i c2;simp only[Q2]at hr;refine wp_loop_rounds n ?_;have key: ∀(k:Nat) (σ:St) (a:Act) (w:World) (m:Nat→Nat) (β:List Blk) (ν:Own),Vk (Q2 K n x) k σ=some (ex,σ')→Inv num N w0 m0 T β0 σ a w m β ν→Code.rounds P c2 Q k a w:=by
   intro k
   induction k with
   | zero=>intro σ a w m β ν h;simp[Vk]at h
   | succ k ih=>
    intro σ a w m β ν h hI;rw[rounds_succ];simp only[Vk]at h;split at h
    ·rename_i s h1;refine ihx _ hok σ a w m β ν .normal s _ h1 hI fun a' w' m' β' ν' k2=> ?_;exact ih s a' w' m' β' ν' h k2
    ·rename_i hne;refine ihx _ hok σ a w m β ν ex σ' _ h hI fun a' w' m' β' ν' k2=> ?_;cases ex
     ·exact absurd h (hne σ')
     ·exact hQ a' w' m' β' ν' k2
     ·exact hQ a' w' m' β' ν' k2
  exact key n σ a w m β ν hr hI
 | exit id=>
  intro cc hok σ a w m β ν ex σ' Q hr hI hQ;cases cc <;> simp only[Yd,decide_eq_true_eq]at hok <;> try (cases hok;done)
  subst hok;simp only[Q2,Option.some.injEq,Prod.mk.injEq]at hr;obtain⟨rfl,rfl⟩:=hr;exact wp_exit (hQ a w m β ν hI)
 | ret=>
  intro cc hok σ a w m β ν ex σ' Q hr hI hQ;cases cc <;> simp[Yd]at hok;simp only[Q2,Option.some.injEq,Prod.mk.injEq]at hr;obtain⟨rfl,rfl⟩:=hr;exact wp_ret (hQ a w m β ν hI)
end
end Go.Am
namespace Go.Am
def XS (P:Program):List PO→List ResultVar→Bool
 | [],[]=>true
 | .tmp t:: rs,.tmp t2:: vs=>decide (t=t2) && XS P rs vs
 | .cell t sz ag:: rs,.cell t2 ty:: vs=>decide (t=t2) && Zw P ty sz && Xn P ty ag && XS P rs vs
 | _,_=>false
def EN (P:Program) (num:Nat→Option Nat) (f:Qe) (fn:Func):Bool:=
 decide (f.ntmps=fn.ntmps) && decide (f.nparams≤f.ntmps) && XS P f.res fn.results.toList && (match fn.body with
  | some c=>Yd P num f.ntmps f.body c
  | none=>false)
def Vq [Dr] (P:Program) (num:Nat→Option Nat) (Γ:Yg) (h:List AV→List (List AV)→Option (AV×List (List AV))) (g:Nat):Prop:=
 ∀(args:List AV) (bs:List (List AV)) (r:AV) (bs':List (List AV)),h args bs=some (r,bs')→Y2 args=true→
  ∀(w:World) (m:Nat→Nat) (β:List Blk) (ν:Own) (vs:Array Value),Γ.G w→Γ.Gb≤w.heap.size→vs.size=args.length→
   (∀(i:Nat) (c:AV),args[i]? =some c→∃u,vs[i]? =some u∧Qd num β w m c u)→UN num β w m ν bs→
   (∀b p,ν b=some p→b < w.heap.size∧Γ.Gb≤b∧p.isG=true)→
   Calls P g vs w (Vt num β bs' r w m ν)
def C3 [Dr] (P:Program) (num:Nat→Option Nat) (Γ:Yg) (h:List AV→Option AV) (g:Nat):Prop:=
 ∀(args:List AV) (r:AV),h args=some r→Y2 args=true→∀(w:World) (m:Nat→Nat) (β:List Blk) (vs:Array Value),Γ.G w→Γ.Gb≤w.heap.size→vs.size=args.length→
  (∀(i:Nat) (c:AV),args[i]? =some c→∃u,vs[i]? =some u∧Qd num β w m c u)→
  Calls P g vs w fun e w'=>∃v m' ν',e= .returned v∧Zs (fun _=>False) w m w' m'∧r.ok=true∧Qd num β w' m' r v∧Q6 w' m' ν' .f r v∧∀b p,ν' b=some p→b < w'.heap.size∧w.heap.size≤b∧p= .f
def YZ (h:List AV→Option AV):List AV→List (List AV)→Option (AV×List (List AV)):=fun args bs=>(h args).map fun r=>(r,bs)
structure M0 [Dr] (P:Program) (num:Nat→Option Nat) (Γ:Yg) (tb:Nat→Option AFn):Prop where
 mix:P.follows .mixedOrders=true
 enters:XI P num
 code: ∀(f g:Nat) (fn:Qe),num f=some g→tb f=some (.code fn)→∃F,P.funcs[g]? =some F∧EN P num fn F=true
 orc: ∀(f g:Nat) (h:List AV→List (List AV)→Option (AV×List (List AV))),num f=some g→tb f=some (.orc h)→Vq P num Γ h g
section
variable {P:Program} {num:Nat→Option Nat} {β:List Blk} {w w':World} {m:Nat→Nat} {ν:Own} {N:Nat} {w0:World} {m0:Nat→Nat} {T:Nat→Prop} {β0:List Blk} {σ:St} {a:Act} {tb:Nat→Option AFn}
def Qb7:List PO→Nat→Bool
 | [.tmp t],n=>decide (t=n)
 | _,_=>false
def Xu (rs:List PO) (ν:Own):Own:=fun b=>match ν b with
 | some (.s n)=>if Qb7 rs n then some .f else none
 | some p=>if p.isG then some p else none
 | none=>none
theorem Nk [Dr] (hI:Inv num N w0 m0 T β0 σ a w m β ν) {r:PO} {rv:ResultVar} {v:AV} (ho:XS P [r] [rv]=true) (hr:WM σ.env r=some v):
  ∃u,(match rv with
   | .tmp t=>(pure (a.tmps.getD t undef):Sem Value)
   | .cell t ty=>do loadVar ty (← asAddr (a.tmps.getD t undef))).run P w= .ok u w∧v.ok=true∧Qd num β w m v u∧Q6 w m (Xu [r] ν) .f v u:=by
 cases r with
 | tmp t=>
  cases rv with
  | cell t2 ty=>simp[XS]at ho
  | tmp t2=>
   simp only[XS,Bool.and_true,decide_eq_true_eq]at ho;subst ho;simp only[WM]at hr;split at hr
   ·rename_i hk;injection hr with hr
    subst hr;obtain⟨_,h2⟩:=hI.at_ (n:=t) (fun e=>by rw[e]at hk;cases hk);have h3:=hI.slots t _ h2;rw[QX hk]at h3;refine⟨a.tmps.getD t undef,rfl,hk,h3.1,?_⟩;exact XX (θ:=fun _=> .f) (fun b hb=>⟨rfl,rfl,by unfold Xu;rw[hb];simp[Qb7]⟩) h3.2
   ·cases hr
 | cell t sz ag=>
  cases rv with
  | tmp t2=>simp[XS]at ho
  | cell t2 ty=>
   simp only[XS,Bool.and_true,Bool.and_eq_true,decide_eq_true_eq]at ho;obtain⟨⟨rfl,h1⟩,h2⟩:=ho;simp only[WM]at hr;split at hr
   ·rename_i cs hcs;obtain⟨b,cur,e,_,hq,hb,hz,hc⟩:=hI.box_at (q:=t) (off:=0) hcs (.inr ⟨rfl,rfl⟩);obtain⟨u,g1,g2,g3,g4⟩:=XH (w:=w) (num:=num) (β:=β) (m:=m) (ν:=Xu [.cell t sz ag] ν) (o:=0) (b:=b) h1 h2 hr (fun i c hi=>by
     obtain⟨u,k1,k2,k3,_⟩:=hc i c hi;exact⟨u,by rw[Nat.zero_add,cell_of_row w b i cur e (0,0) hb];exact k1,k2,k3⟩)
    have hq2:a.tmps.getD t undef= .pointer (some ⟨b,0,none⟩):=hq;refine⟨u,?_,g2,g3,g4 _⟩;simp only[hq2,asAddr,Sem.run_bind,Sem.run_pure,Result.andThen_ok];exact g1
   ·cases hr
theorem TF [Dr] (hI:Inv num N w0 m0 T β0 σ a w m β ν): ∀{rs:List PO} {rvs:List ResultVar} {vs:List AV},XS P rs rvs=true→Xq σ.env rs=some vs→
  ∃us:List Value,(rvs.mapM fun(rv:ResultVar)=>(match rv with
   | .tmp t=>(pure (a.tmps.getD t undef):Sem Value)
   | .cell t ty=>do loadVar ty (← asAddr (a.tmps.getD t undef)))).run P w= .ok us w∧us.length=vs.length∧∀(i:Nat) (c:AV),vs[i]? =some c→∃u,us[i]? =some u∧c.ok=true∧Qd num β w m c u
 | [],[],vs,_,hr=>by
  simp only[Xq,Option.some.injEq]at hr;subst hr;exact⟨[],by simp,rfl,fun i c h=>by simp at h⟩
 | r:: rs,rv:: rvs,vs,ho,hr=>by
  simp only[Xq]at hr;split at hr
  ·rename_i v vs2 h1 h2;injection hr with hr
   subst hr;have ho2:XS P [r] [rv]=true∧XS P rs rvs=true:=by
    cases r <;> cases rv <;> simp only[XS,Bool.and_eq_true,Bool.and_true,Bool.false_eq_true]at ho ⊢ <;> first | exact ho | exact ho.elim
   obtain⟨u,g1,g2,g3,_⟩:=Nk (P:=P) hI ho2.1 h1;obtain⟨us,k1,k2,k3⟩:=TF hI ho2.2 h2;refine⟨u:: us,?_,by simp[k2],fun i c hc=> ?_⟩
   ·rw[List.mapM_cons];simp only[Sem.run_bind,g1,Result.andThen_ok,k1,Sem.run_pure]
   ·cases i with
    | zero=>simp at hc;subst hc;exact⟨u,rfl,g2,g3⟩
    | succ i=>simpa using k3 i c (by simpa using hc)
  ·cases hr
 | [],_:: _,_,h,_=>by simp[XS]at h
 | r:: _,[],_,h,_=>by cases r <;> simp[XS]at h
theorem NN [Dr] {Γ:Yg} {h:List AV→Option AV} {g:Nat} (hP:C3 P num Γ h g):Vq P num Γ (YZ h) g:=by
 intro args bs r bs' hc hok w m β ν vs hG hGb hvs hrep hbox hlt;unfold YZ at hc;cases hh:h args with
 | none=>rw[hh]at hc;cases hc
 | some r2=>
  rw[hh]at hc;simp only[Option.map_some,Option.some.injEq,Prod.mk.injEq]at hc;obtain⟨rfl,rfl⟩:=hc;refine(hP args r2 hh hok w m β vs hG hGb hvs hrep).mono fun e w' he=> ?_;obtain⟨v,m',ν',rfl,hS,h1,h2,h3,h4⟩:=he;have hjoin: ∀b p,ν b=some p→(fun b=>match ν b with
    | some p=>some p
    | none=>ν' b:Own) b=some p:=fun b p hb=>by simp only[hb]
  refine⟨v,m',β,(fun b=>match ν b with
    | some p=>some p
    | none=>ν' b),rfl,Ge.refl β,⟨hS.os,hS.tape,hS.output,hS.size,fun b hb _=>hS.same b hb id,hS.le,hS.drawn⟩,⟨hbox.1,fun i cs b hb1 hb2 hne=> ?_⟩,h1,h2,?_,fun b p hp=> ?_⟩
  ·exact XE (Ge.refl β) hS.le (fun x hx=>⟨(hS.same x (hlt x _ hx).1 id).1,(hS.same x (hlt x _ hx).1 id).2,hjoin x _ hx⟩)
    (fun j x hx=>⟨(hS.same x (hlt x _ hx).1 id).1,(hS.same x (hlt x _ hx).1 id).2,hjoin x _ hx⟩) (hbox.2 i cs b hb1 hb2 hne)
  ·refine XX (θ:=id) (fun b hb=>⟨rfl,rfl,?_⟩) h3;have:=h4 b _ hb;cases hν:ν b with
   | none=>simp only;exact hb
   | some q=>have:=(hlt b q hν).1;omega
  ·simp only at hp;split at hp
   ·rename_i q hq;injection hp with hp
    subst hp;have:=hlt b q hq;exact⟨Nat.lt_of_lt_of_le this.1 hS.size,.inr ⟨q,hq⟩,.inl this.2.2⟩
   ·have:=h4 b p hp;exact⟨this.1,.inl this.2.1,.inr this.2.2⟩
theorem L3 [Dr] {Γ:Yg} {f:Qe} {F:Func} {args:List AV} {bs:List (List AV)} {vs:Array Value} (hnp:args.length=f.nparams) (hnt:f.ntmps=F.ntmps) (hpt:f.nparams≤f.ntmps) (hok:Y2 args=true)
  (hvs:vs.size=args.length) (hrep: ∀(i:Nat) (c:AV),args[i]? =some c→∃u,vs[i]? =some u∧Qd num β w m c u) (hbox:UN num β w m ν bs)
  (hlt: ∀b p,ν b=some p→b < w.heap.size∧Γ.Gb≤b∧p.isG=true):
  Inv num f.ntmps w m (fun b=>∃p,ν b=some p) β {env:=YK args,bs} {tmps:=vs ++ Array.replicate (F.ntmps - vs.size) undef,defers:=[]} w m β ν:=by
 refine⟨rfl,by simp;omega,fun t ht=> ?_,fun t v hv=> ?_,hbox.1,hbox.2,fun b p hb=>⟨(hlt b p hb).1,.inr ⟨p,hb⟩⟩,Zs.refl _ w m,Ge.refl β⟩
 ·simp only[YK];rw[List.getD_eq_getElem?_getD,List.getElem?_eq_none (by omega)];rfl
 ·simp only[YK];rw[List.getD_eq_getElem?_getD];cases hat:args[t]? with
  | none=>exact trivial
  | some c=>
   obtain⟨u,g1,g2⟩:=hrep t c hat;have hck:c.ok=true:=by
    unfold Y2 at hok;rw[List.all_eq_true]at hok;exact hok c (List.mem_of_getElem? hat)
   have hlt2:t < vs.size:=by
    rcases Nat.lt_or_ge t vs.size with h | h
    ·exact h
    ·rw[Array.getElem?_eq_none h]at g1;cases g1
   rw[Array.getElem?_append_left hlt2,g1]at hv;injection hv with hv
   subst hv;simp only[Option.getD_some];exact(QX (by rw[TJ];exact hck)).2 ⟨by rw[QM];exact g2,ZS _ _ _⟩
theorem IK [Dr]: ∀(xs ys:List (List AV)),YT xs ys=true→∀(i:Nat) (x y:List AV),xs[i]? =some x→ys[i]? =some y→x=y∨gpfreeL y=true
 | [],_,_,i,x,y,h,_=>by simp at h
 | a:: aq,[],h,_,_,_,_,_=>by simp[YT]at h
 | a:: aq,b:: bs,h,i,x,y,hx,hy=>by
  simp only[YT,Bool.and_eq_true,Bool.or_eq_true]at h;cases i with
  | zero=>
   simp at hx hy;subst hx hy;rcases h.1 with h1 | h1
   ·exact .inl (eqVL_eq _ _ h1)
   ·exact .inr h1
  | succ i=>exact IK aq bs h.2 i x y (by simpa using hx) (by simpa using hy)
theorem Oi [Dr] {f:Qe} {F:Func} {bs bs':List (List AV)} {r:AV} (hres:XS P f.res F.results.toList=true) (hbox:UN num β w m ν bs) (σ':St) (hfin:Yn f bs σ'=some (r,bs'))
  (a':Act) (w':World) (m':Nat→Nat) (β':List Blk) (ν':Own) (hI:Inv num f.ntmps w m (fun b=>∃p,ν b=some p) β σ' a' w' m' β' ν'):
  a'.defers=[]∧∃v,(results F a'.tmps).run P w'= .ok v w'∧Vt num β bs' r w m ν (.returned v) w':=by
 refine⟨hI.defers,?_⟩;have hboxes: ∀rs,YT bs (σ'.bs.take bs.length)=true→UN num β w' m' (Xu rs ν') (σ'.bs.take bs.length):=fun rs hck=>by
  have hge:=hI.ge;have hle:bs.length≤σ'.bs.length:=by
   rw[← hI.blen];rcases Nat.lt_or_ge β'.length bs.length with h | h
   ·exfalso;have h0:β'.length < β.length:=by rw[hbox.1];exact h
    have:=hge β'.length _ (List.getElem?_eq_getElem h0);rw[List.getElem?_eq_none (Nat.le_refl _)]at this;cases this
   ·exact h
  refine⟨by rw[List.length_take,hbox.1];omega,fun i cs b h1 h2 hne=> ?_⟩
  ·have hck2:=IK _ _ hck i;have h10:=h1;rw[List.getElem?_take]at h1;split at h1
   ·have hb2:=hI.boxes i cs b h1 (hge i b h2) hne;obtain⟨x,hx⟩: ∃x,bs[i]? =some x:=⟨_,List.getElem?_eq_getElem (by assumption)⟩;have hb3:=hck2 x cs hx h10;rw[Sc]at hb3;have hent:x=cs→T5 num β w m ν i b cs:=fun e=>by subst e;exact hbox.2 i x b hx h2 hne
    refine⟨fun hmp=> ?_,fun hmp=> ?_⟩
    ·obtain⟨cur,e,q1,q2,q3,q4,q5⟩:=hb2.1 hmp;refine⟨cur,e,q1,q2,q3,by unfold Xu;rw[q4];rfl,fun j c hc=> ?_⟩;obtain⟨u,p1,p2,p3,p4⟩:=q5 j c hc;refine⟨u,p1,p2,?_,XX (θ:=id) (fun x hx=>⟨rfl,rfl,by unfold Xu;rw[hx];rfl⟩) p4⟩;rcases hb3 with e | hb3
     ·obtain⟨_,_,_,_,_,_,r5⟩:=(hent e).1 hmp;obtain⟨u0,_,_,r3,_⟩:=r5 j c hc;exact UD hge c u0 u r3 p3
     ·exact WS c u (hb3 j c hc) p3
    ·obtain⟨es,clock,xs,q1,q2,q3,q4,q5,q6⟩:=hb2.2 hmp;refine⟨es,clock,xs,q1,q2,by unfold Xu;rw[q3];rfl,q4,q5,fun j c hc=> ?_⟩;obtain⟨e2,k,v,p1,p2,p3,p4⟩:=q6 j c hc;rcases hb3 with e | hb3
     ·obtain⟨_,_,xs0,_,_,_,r4,_,r6⟩:=(hent e).2 hmp;have hxs:xs0=xs:=by rw[q4]at r4;injection r4 with _ r4;exact r4.symm
      obtain⟨e3,k3,v3,_,g2,g3,g4⟩:=r6 j c (by rw[hxs];exact hc);rw[p2]at g2;injection g2 with g2
      injection g2 with g5 g2
      injection g2 with g6
      subst g5 g6;exact⟨e2,k,v,p1,p2,UD hge k _ _ g3 p3,UD hge v _ _ g4 p4⟩
     ·have hf:=hb3 (j+1) c (by rw[q4];simpa using hc);rw[p2]at hf;simp only[AV.gpfree,gpfreeL,Bool.and_true,Bool.and_eq_true]at hf;exact⟨e2,k,v,p1,p2,WS k _ hf.1 p3,WS v _ hf.2 p4⟩
   ·cases h1
 have hboxesAll: ∀rs,UN num β' w' m' (Xu rs ν') σ'.bs:=fun rs=>by
  refine⟨hI.blen,fun i cs b h1 h2 hne=> ?_⟩;exact XE (Ge.refl β') (Le.refl w' m') (fun x hx=>⟨rfl,rfl,by unfold Xu;rw[hx];rfl⟩) (fun _ x hx=>⟨rfl,rfl,by unfold Xu;rw[hx];rfl⟩) (hI.boxes i cs b h1 h2 hne)
 have hown: ∀rs b p,Xu rs ν' b=some p→b < w'.heap.size∧(w.heap.size≤b∨∃q,ν b=some q)∧(p.isG=true∨p= .f):=fun rs b p hp=>by
  unfold Xu at hp;split at hp
  ·rename_i n hn;split at hp
   ·injection hp with hp
    subst hp;have:=hI.lt b _ hn;exact⟨this.1,this.2,.inr rfl⟩
   ·cases hp
  ·rename_i q hq;split at hp
   ·rename_i hg;injection hp with hp
    subst hp;have:=hI.lt b _ hq;exact⟨this.1,this.2,.inl hg⟩
   ·cases hp
  ·cases hp
 have hrun: ∀us:List Value,(F.results.toList.mapM fun(rv:ResultVar)=>(match rv with
   | .tmp t=>(pure (a'.tmps.getD t undef):Sem Value)
   | .cell t ty=>do loadVar ty (← asAddr (a'.tmps.getD t undef)))).run P w'= .ok us w'→
   (results F a'.tmps).run P w'= .ok (if h:us.toArray.size=1 then us.toArray[0]else .tuple us.toArray) w':=fun us hus=>by
  unfold results;rw[Array.mapM_eq_mapM_toList];simp only[Sem.run_bind,Sem.run_map,Sem.run_pure];exact congrArg (fun z:Result (List Value)=>(z.andThen fun a w'=> .ok a.toArray w').andThen (fun(a:Array Value) w'=> .ok (if h:a.size=1 then a[0]else .tuple a) w')) hus
 unfold Yn at hfin;split at hfin
 ·rename_i v0 hv0;obtain⟨us,k1,k2,k3⟩:=TF hI hres hv0;obtain⟨r0,hr0⟩: ∃r0,f.res=[r0]:=by
   cases hfr:f.res with
   | nil=>rw[hfr]at hv0;simp[Xq]at hv0
   | cons r0 rs=>
    cases rs with
    | nil=>exact⟨r0,rfl⟩
    | cons r1 rs=>
     rw[hfr]at hv0;simp only[Xq]at hv0;split at hv0
     ·rename_i x1 x2 e1 e2;split at e2
      ·injection e2 with e2
       subst e2;simp at hv0
      ·cases e2
     ·cases hv0
  obtain⟨rv0,hrv0⟩: ∃rv0,F.results.toList=[rv0]:=by
   cases hfr:F.results.toList with
   | nil=>rw[hfr,hr0]at hres;cases r0 <;> simp[XS]at hres
   | cons rv0 rs=>
    cases rs with
    | nil=>exact⟨rv0,rfl⟩
    | cons rv1 rs=>rw[hfr,hr0]at hres;cases r0 <;> cases rv0 <;> simp[XS]at hres
  rw[hr0,hrv0]at hres;rw[hr0]at hv0;simp only[Xq]at hv0;split at hv0
  ·rename_i x1 x2 e1 e2;injection e2 with e2
   subst e2;injection hv0 with hv0
   injection hv0 with hv0 _
   subst hv0;obtain⟨u,g1,g2,g3,g4⟩:=Nk (P:=P) hI hres e1;have hus:us=[u]:=by
    rw[hrv0]at k1;simp only[List.mapM_cons,List.mapM_nil,Sem.run_bind,g1,Result.andThen_ok,Sem.run_pure]at k1;injection k1 with k1
    exact k1.symm
   subst hus;split at hfin
   ·simp only[Option.some.injEq,Prod.mk.injEq]at hfin;obtain⟨rfl,rfl⟩:=hfin;exact⟨u,hrun [u] k1,u,m',β',Xu [r0] ν',rfl,hI.ge,hI.step,hboxesAll [r0],g2,g3,g4,hown [r0]⟩
   ·split at hfin
    ·rename_i hgp;simp only[Option.some.injEq,Prod.mk.injEq]at hfin;obtain⟨rfl,rfl⟩:=hfin;exact⟨u,hrun [u] k1,u,m',β,Xu [r0] ν',rfl,Ge.refl β,hI.step,hboxes [r0] hgp.2,g2,WS _ _ hgp.1 g3,g4,hown [r0]⟩
    ·cases hfin
  ·cases hv0
 ·rename_i vs0 hv0 hne;obtain⟨us,k1,k2,k3⟩:=TF hI hres hne;have hsz: ¬us.toArray.size=1:=by
   simp only[List.size_toArray,k2];intro h1
   match vs0,h1 with
   | [v1],_=>exact hv0 v1 rfl
  have hret: (results F a'.tmps).run P w'= .ok (.tuple us.toArray) w':=by have:=hrun us k1;rwa[dif_neg hsz]at this
  split at hfin
  ·simp only[Option.some.injEq,Prod.mk.injEq]at hfin;obtain⟨rfl,rfl⟩:=hfin;refine⟨.tuple us.toArray,hret,.tuple us.toArray,m',β',Xu [] ν',rfl,hI.ge,hI.step,hboxesAll [],rfl,?_,trivial,hown []⟩;simp only[Qd];refine⟨us.toArray,rfl,by simp[k2],?_⟩;rw[R5];intro i c hci;obtain⟨d,hd,rfl⟩:=Q0 hci;obtain⟨u,g1,_,g3⟩:=k3 i d hd;exact⟨u,by simpa using g1,by rw[QM];exact g3⟩
  ·split at hfin
   ·rename_i hgp;simp only[Option.some.injEq,Prod.mk.injEq]at hfin;obtain⟨rfl,rfl⟩:=hfin;refine⟨.tuple us.toArray,hret,.tuple us.toArray,m',β,Xu [] ν',rfl,Ge.refl β,hI.step,hboxes [] hgp.2,rfl,?_,trivial,hown []⟩;simp only[Qd];refine⟨us.toArray,rfl,by simp[k2],?_⟩;rw[R5];intro i c hci;obtain⟨d,hd,rfl⟩:=Q0 hci;obtain⟨u,g1,_,g3⟩:=k3 i d hd;have hgp1:=hgp.1;rw[Sc]at hgp1;exact⟨u,by simpa using g1,by rw[QM];exact WS d u (hgp1 i d hd) g3⟩
   ·cases hfin
 ·cases hfin
theorem T8 [Dr] {Γ:Yg} (hF:M0 P num Γ tb): ∀n,KOk P num Γ (ZT tb n):=by
 intro n
 induction n with
 | zero=>intro f g args bs r bs' _ h;simp[ZT]at h
 | succ n ih=>
  intro f g args bs r bs' hfg hc hok w m β ν vs hG hGb hvs hrep hbox hlt;simp only[ZT]at hc;split at hc
  ·cases hc
  ·rename_i h htb;exact hF.orc f g h hfg htb args bs r bs' hc hok w m β ν vs hG hGb hvs hrep hbox hlt
  ·rename_i fn htb;split at hc
   ·rename_i hnp;obtain⟨F,hFf,hokF⟩:=hF.code f g fn hfg htb;unfold EN at hokF;simp only[Bool.and_eq_true,decide_eq_true_eq]at hokF;obtain⟨⟨⟨hnt,hpt⟩,hres⟩,hbody⟩:=hokF;split at hbody
    ·rename_i cc hcc;have hInv:=L3 (ν:=ν) hnp hnt hpt hok hvs hrep hbox hlt;refine calls_of_wp hFf hcc ?_;split at hc
     ·rename_i σ' hrc;refine X0 hF.mix hF.enters ih hG hGb (fun b hb=>by obtain⟨p,hp⟩:=hb;exact(hlt b p hp).2.1) fn.body cc hbody _ _ w m β ν .normal σ' _ hrc hInv fun a' w' m' β' ν' hI=> ?_;exact Oi hres hbox σ' hc a' w' m' β' ν' hI
     ·rename_i σ' hrc;refine X0 hF.mix hF.enters ih hG hGb (fun b hb=>by obtain⟨p,hp⟩:=hb;exact(hlt b p hp).2.1) fn.body cc hbody _ _ w m β ν .ret σ' _ hrc hInv fun a' w' m' β' ν' hI=> ?_;exact Oi hres hbox σ' hc a' w' m' β' ν' hI
     ·cases hc
    ·cases hbody
   ·cases hc
end
#print axioms T8
end Go.Am
namespace Go.Am
def cl0 (sz:Nat):AC:= .reg false [⟨some 2,.mov (.c (.sl true sz [])),none⟩]
def cl1:AC:= .reg false [⟨some 3,.mov (.t 0),none⟩,⟨some 4,.isn false (.t 3),none⟩]
def cl2 (g:Bool) (sz:Nat):AC:= .reg false [⟨some 2,.mov (.c (if g then .gs 0 0 0 0 else .sl true sz [])),none⟩]
def cl3 (g:Bool) (bytes sz:Nat):AC:= .reg false [⟨some 5,.mksl sz [],none⟩,⟨some 6,.mov (.t 0),none⟩,
 ⟨some 7,if g then .appg bytes sz (.t 5) (.t 6)else .app bytes sz (.t 5) (.t 6),none⟩,⟨some 2,if g then .mov (.t 7)else .mvs 7,none⟩]
def QgR:AC:= .reg false [⟨some 5,.zlit,none⟩,⟨some 6,.mov (.t 0),none⟩,⟨some 7,.appzz (.t 5) (.t 6),none⟩,⟨some 2,.mov (.t 7),none⟩]
def Oa (g e:Bool) (bytes sz:Nat):AC:=if g && e then QgR else cl3 g bytes sz
def VL (P:Program) (num:Nat→Option Nat) (g:Bool) (bytes sz:Nat) (F:Func):Bool:=
 decide (F.ntmps=8) && XS P [.tmp 2] F.results.toList && (match F.body with
  | some (.seq r0 (.seq (.seq r1 (.cond (.tmp 4) (.seq r2 .ret) .skip)) (.seq r3 .ret)))=>
   Yd P num 8 (cl0 sz) r0 && Yd P num 8 cl1 r1 && Yd P num 8 (cl2 g sz) r2 && (Yd P num 8 (Oa g true bytes sz) r3 && Yd P num 8 (Oa g false bytes sz) r3)
  | _=>false)
def UH (g:Bool) (bytes sz:Nat) (ys:List (List AV)) (bs:List (List AV)):Option (AV×List (List AV)):=
 if ys.length*bytes≤140737488355328 then
  (if g then(if ys.length=0 then some (.gs 0 0 0 0,bs)else if gpfreeE ys then some (.gs bs.length 0 sz ys.length,bs ++ [ys.flatten.map AV.strip])else none)
   else some (.sl true sz ys,bs))
  else none
def Xg (g:Bool) (bytes sz:Nat):List AV→List (List AV)→Option (AV×List (List AV))
 | [.sl _ s ys],bs=>if s=sz then UH g bytes sz ys bs else none
 | _,_=>none
def Vm:Qe:={nparams:=1,ntmps:=8,res:=[.tmp 2],body:= .skip,keep:=true}
theorem Fv {K:ZJ} {g:Bool} {bytes sz:Nat} {o:Bool} {ys:List (List AV)} {r:AV} {bs':List (List AV)} (σ:St) (h0:σ.env 0= .sl o sz ys) (h:UH g bytes sz ys σ.bs=some (r,bs')):
  ∃σ3,Q2 K 0 (.seq (Oa g ys.isEmpty bytes sz) .ret) σ=some (.ret,σ3)∧Yn Vm [] σ3=some (r,bs'):=by
 unfold UH at h;split at h
 ·rename_i hb;cases g
  ·simp only[Bool.false_eq_true,if_false,Option.some.injEq,Prod.mk.injEq]at h;obtain⟨rfl,rfl⟩:=h;refine⟨_,by simp[Q2,Oa,cl3,Zn,Zr,Qg,Yx,ZR,upd,h0,val,AV.strip,AV.ok,hb];rfl,?_⟩;simp[Yn,Xq,WM,Vm,upd,AV.ok]
  ·simp only[if_true]at h;split at h
   ·rename_i hy;simp only[Option.some.injEq,Prod.mk.injEq]at h;obtain⟨rfl,rfl⟩:=h;have hy2:ys=[]:=List.eq_nil_of_length_eq_zero hy;subst hy2;refine⟨_,by simp[Q2,Oa,QgR,Zn,Zr,Qg,ZR,upd,h0,val,AV.strip];rfl,?_⟩;simp[Yn,Xq,WM,Vm,upd,AV.ok]
   ·rename_i hy;split at h
    ·rename_i hgp;simp only[Option.some.injEq,Prod.mk.injEq]at h;obtain⟨rfl,rfl⟩:=h;have hy3:ys≠[]:=fun e=>hy (by rw[e];rfl);have hie:ys.isEmpty=false:=by cases ys <;> simp_all
     refine⟨_,by simp[Q2,Oa,hie,cl3,Zn,Zr,Qg,Yx,ZR,upd,h0,val,AV.strip,AV.ok,hb,hy3];rfl,?_⟩;simp[Yn,Xq,WM,Vm,upd,AV.ok]
    ·cases h
 ·cases h
section
variable {P:Program} {num:Nat→Option Nat}
theorem VD [Dr] {Γ:Yg} (hmix:P.follows .mixedOrders=true) (hE:XI P num) {g:Bool} {bytes sz id:Nat} {F:Func} (hFf:P.funcs[id]? =some F) (hok:VL P num g bytes sz F=true):
  Vq P num Γ (Xg g bytes sz) id:=by
 intro args bs r bs' hc hokv w m β ν vs hG hGb hvs hrep hbox hlt;have hK:KOk P num Γ (fun _ _ _=>none):=fun _ _ _ _ _ _ _ h=>by cases h
 have hT: ∀b,(∃p,ν b=some p)→Γ.Gb≤b:=fun b hb=>by obtain⟨p,hp⟩:=hb;exact(hlt b p hp).2.1
 unfold Xg at hc;split at hc
 ·rename_i _ o s ys;split at hc
  ·rename_i hcond;subst hcond;unfold VL at hok;simp only[Bool.and_eq_true,decide_eq_true_eq]at hok;obtain⟨⟨hnt,hres⟩,hbody⟩:=hok;split at hbody
   ·rename_i r0 r1 r2 r3 hcc;simp only[Bool.and_eq_true]at hbody;obtain⟨⟨⟨k0,k1⟩,k2⟩,k3⟩:=hbody;have hInv:=L3 (num:=num) (f:=Vm) (F:=F) (ν:=ν) (Γ:=Γ) rfl hnt.symm (show 1≤8 by omega) hokv hvs hrep hbox hlt;have hend:=Oi (f:=Vm) (F:=F) (r:=r) (bs':=bs') hres hbox;have hfin0: ∀σ' k,Yn Vm k σ'=Yn Vm [] σ':=fun σ' k=>by
     unfold Yn;split <;> rfl
    refine calls_of_wp hFf hcc ?_;refine wp_seq ?_;refine X0 hmix hE hK hG hGb hT (n:=0) _ _ k0 _ _ w m β ν .normal _ _ (by simp[Q2,cl0,Zn,Zr,Qg,ZR,val,AV.ok];rfl) hInv fun a1 w1 m1 β1 ν1 hI1=> ?_;refine wp_seq (wp_seq ?_);cases ys with
    | nil=>
     refine X0 hmix hE hK hG hGb hT (n:=0) _ _ k1 _ _ w1 m1 β1 ν1 .normal _ _ (by simp[Q2,cl1,Zn,Zr,Qg,ZR,val,AV.ok,upd,YK,AV.strip];rfl) hI1 fun a2 w2 m2 β2 ν2 hI2=> ?_;have hb: ∃b,a2.eval (.tmp 4)= .bool b:=by
      obtain⟨_,h2⟩:=hI2.at_ (n:=4) (by simp[upd]);have h3:=hI2.slots 4 _ h2;simp only[upd]at h3;obtain⟨⟨b,h3⟩,_⟩:=h3;exact⟨b,h3⟩
     obtain⟨b,hb⟩:=hb;cases b
     ·refine wp_cond_false hb (wp_skip ?_);obtain⟨σ3,e1,e2⟩:=Fv (K:=fun _ _ _=>none) (o:=false) (σ:={env:=upd (upd (upd (YK [.sl o s []]) 2 (.sl true s [])) 3 (.sl false s [])) 4 .anyb,bs:=bs}) (by simp[upd,YK,AV.strip]) hc;exact X0 hmix hE hK hG hGb hT (n:=0) (.seq (Oa g _ bytes s) .ret) (.seq r3 .ret) (by simp[Yd,k3]) _ _ w2 m2 β2 ν2 .ret σ3 _ e1 hI2 fun a3 w3 m3 β3 ν3 hI3=>hend σ3 (by rw[hfin0];exact e2) a3 w3 m3 β3 ν3 hI3
     ·refine wp_cond_true hb (wp_seq ?_);refine X0 hmix hE hK hG hGb hT (n:=0) _ _ k2 _ _ w2 m2 β2 ν2 .normal {env:=upd (upd (upd (upd (YK [.sl o s []]) 2 (.sl true s [])) 3 (.sl false s [])) 4 .anyb) 2 (if g then .gs 0 0 0 0 else .sl true s []),bs:=bs} _
       (by cases g <;> simp[Q2,cl2,Zn,Zr,Qg,ZR,val,AV.ok]) hI2 fun a3 w3 m3 β3 ν3 hI3=> ?_
      refine wp_ret ?_;refine hend _ ?_ a3 w3 m3 β3 ν3 hI3;rw[hfin0];cases g
      ·simp[UH]at hc;obtain⟨rfl,rfl⟩:=hc;simp[Yn,Xq,WM,Vm,upd,AV.ok]
      ·simp[UH]at hc;obtain⟨rfl,rfl⟩:=hc;simp[Yn,Xq,WM,Vm,upd,AV.ok]
    | cons y ys=>
     refine X0 hmix hE hK hG hGb hT (n:=0) _ _ k1 _ _ w1 m1 β1 ν1 .normal _ _ (by simp[Q2,cl1,Zn,Zr,Qg,ZR,val,AV.ok,upd,YK,AV.strip];rfl) hI1 fun a2 w2 m2 β2 ν2 hI2=> ?_;have hb:a2.eval (.tmp 4)= .bool false:=by
      obtain⟨_,h2⟩:=hI2.at_ (n:=4) (by simp[upd]);have h3:=hI2.slots 4 _ h2;simp only[upd]at h3;obtain⟨h3,_⟩:=h3;exact h3
     refine wp_cond_false hb (wp_skip ?_);obtain⟨σ3,e1,e2⟩:=Fv (K:=fun _ _ _=>none) (o:=false) (σ:={env:=upd (upd (upd (YK [.sl o s (y:: ys)]) 2 (.sl true s [])) 3 (.sl false s (y:: ys))) 4 (.bool false),bs:=bs}) (by simp[upd,YK,AV.strip]) hc;exact X0 hmix hE hK hG hGb hT (n:=0) (.seq (Oa g _ bytes s) .ret) (.seq r3 .ret) (by simp[Yd,k3]) _ _ w2 m2 β2 ν2 .ret σ3 _ e1 hI2 fun a3 w3 m3 β3 ν3 hI3=>hend σ3 (by rw[hfin0];exact e2) a3 w3 m3 β3 ν3 hI3
   ·cases hbody
  ·cases hc
 ·cases hc
end
end Go.Am
namespace Go.Am
def Nz:List AV→Option AV
 | [.str a,.str b]=>some (.int .i64 (if Op.bytesLess a b then -1 else if a == b then 0 else 1))
 | _=>none
def QgX:Nat→Nat→List UInt8→List UInt8
 | 0,_,acc=>acc
 | k+1,n,acc=>if n < 10 then(48+n).toUInt8:: acc else QgX k (n / 10) ((48+n % 10).toUInt8:: acc)
def Qju (n:Nat):List UInt8:=QgX (n+1) n []
end Go.Am
namespace Go.Am
open Go.RowKit
def Et (P:Program):Nat:=max (max ((P.globalNamed "internal/strconv.uint64pow10").getD 0) ((P.globalNamed "strconv.ErrSyntax").getD 0)) ((P.globalNamed "strconv.ErrRange").getD 0)+1
theorem NW [Dr] {P:Program} {X:Nat→Prop} {w w':World} {m m':Nat→Nat} {B:Nat} (hS:Zs X w m w' m') (hX: ∀b,X b→B≤b) (hb:B≤w.heap.size) {n:String} (hn: (P.globalNamed n).getD 0 < B):w'.var? P n=w.var? P n:=by
 unfold World.var?;cases hg:P.globalNamed n with
 | none=>rfl
 | some g=>
  rw[hg]at hn;simp only[Option.getD_some]at hn;simp only[Option.bind_some];rw[(hS.same g (by omega) (fun hx=>by have:=hX g hx;omega)).1]
def Qb6 (P:Program) (w:World):Prop:=Lib.TabIs P w "internal/strconv.uint64pow10" .u64 Lib.pow10Tab∧
 (P.globalNamed "strconv.ErrSyntax" ≠none→∃tp p,w.var? P "strconv.ErrSyntax" =some #[.iface tp p])∧(P.globalNamed "strconv.ErrRange" ≠none→∃tp p,w.var? P "strconv.ErrRange" =some #[.iface tp p])
def glob [Dr] (P:Program):Yg where
 G:=Qb6 P
 Gb:=Et P
 step:=fun X w m w' m' hS hX hb hG=>by
  unfold Qb6 Lib.TabIs at *;rw[NW hS hX hb (by unfold Et;omega),NW hS hX hb (by unfold Et;omega),NW hS hX hb (by unfold Et;omega)];exact hG
theorem Dh [Dr] {w w':World} {m:Nat→Nat} (h:Below w.heap.size w w') (hdr:Dr.d→w.drawn≤w'.drawn):Zs (fun _=>False) w m w' m:=by
 refine⟨h.os,h.tape,h.output,h.size,fun b hb _=>⟨h.block b hb,rfl⟩,fun b i u hu=> ?_,hdr⟩;unfold hg at hu ⊢;split at hu
 ·rename_i hi;rw[if_pos hi];have hb:b < w.heap.size:=by
   rcases Nat.lt_or_ge b w.heap.size with h1 | h1
   ·exact h1
   ·exfalso;unfold World.cell? at hu;rw[Array.getElem?_eq_none h1]at hu;cases hu
  unfold World.cell? at hu ⊢;rw[h.block b hb];exact hu
 ·cases hu
section
variable {P:Program} {num:Nat→Option Nat}
theorem PA [Dr] {Γ:Yg} {h:List AV→Option AV} {g:Nat}
  (hc: ∀(args:List AV) (r:AV),h args=some r→∀(w:World) (m:Nat→Nat) (β:List Blk) (vs:Array Value),Γ.G w→vs.size=args.length→
   (∀(i:Nat) (c:AV),args[i]? =some c→∃u,vs[i]? =some u∧Qd num β w m c u)→
   Calls P g vs w fun e w'=>∃v,e= .returned v∧Below w.heap.size w w'∧(Dr.d→w.drawn≤w'.drawn)∧r.ok=true∧(∀w' m',Qd num β w' m' r v)∧(∀w' m' ν',Q6 w' m' ν' .f r v)):
  C3 P num Γ h g:=by
 intro args r hr hok w m β vs hG hGb hvs hrep;refine(hc args r hr w m β vs hG hvs hrep).mono fun e w' he=> ?_;obtain⟨v,he,hB,hdr,h1,h2,h3⟩:=he;exact⟨v,m,fun _=>none,he,Dh hB hdr,h1,h2 w' m,h3 w' m _,fun b p hp=>by cases hp⟩
theorem Il {vs:Array Value} {u v:Value} (h:vs.size=2) (h0:vs[0]? =some u) (h1:vs[1]? =some v):vs= #[u,v]:=by
 apply Array.ext_getElem?;intro i
 match i with
 | 0=>rw[h0];rfl
 | 1=>rw[h1];rfl
 | i+2=>rw[Array.getElem?_eq_none (by omega),Array.getElem?_eq_none (by simp)]
theorem Va (s:List UInt8): (⟨s.toArray⟩:ByteArray).data.toList=s:=by simp
theorem N4 (s:List UInt8): (⟨s.toArray⟩:ByteArray).size=s.length:=by simp[ByteArray.size]
theorem TR: ∀a b:List UInt8,Lib.compareBytes a b=if Op.bytesLess a b then -1 else if a == b then 0 else 1
 | [],[]=>rfl
 | [],_:: _=>by simp[Lib.compareBytes,Op.bytesLess]
 | _:: _,[]=>by simp[Lib.compareBytes,Op.bytesLess]
 | a:: aq,b:: bs=>by
  simp only[Lib.compareBytes,Op.bytesLess,TR aq bs];by_cases h1:a < b
  ·simp[h1]
  ·by_cases h2:b < a
   ·have hne: (a == b)=false:=by
     rw[beq_eq_false_iff_ne];intro e;subst e;exact h1 h2
    simp[h1,h2,hne]
   ·have he:a=b:=by
     apply UInt8.toNat_inj.1;rw[UInt8.lt_iff_toNat_lt]at h1 h2;omega
    subst he;simp[h1]
theorem G7 [Dr] {Γ:Yg} {g:Nat} (hC: ∀(a b:ByteArray) (w:World),Calls P g #[.string a,.string b] w fun e w'=>e= .returned (.int .i64 (Lib.compareBytes a.data.toList b.data.toList))∧w'=w):Vq P num Γ (YZ Nz) g:=by
 refine NN (PA fun args r hr w m β vs hG hvs hrep=> ?_);unfold Nz at hr;split at hr
 ·rename_i a b;injection hr with hr
  subst hr;obtain⟨u,h0,h1⟩:=hrep 0 _ rfl;obtain⟨u2,h2,h3⟩:=hrep 1 _ rfl;simp only[Qd]at h1 h3;subst h1 h3;rw[Il hvs h0 h2];refine(hC _ _ w).mono fun e w' he=> ?_;obtain⟨rfl,rfl⟩:=he;rw[Va,Va,TR];exact⟨_,rfl,Below.refl _ _,fun _=>Nat.le_refl _,rfl,fun _ _=>by simp only[Qd],fun _ _ _=>trivial⟩
 ·cases hr
end
end Go.Am
