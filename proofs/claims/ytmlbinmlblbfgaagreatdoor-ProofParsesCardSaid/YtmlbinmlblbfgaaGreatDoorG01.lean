/-
  Am4, Am5, Am6.
-/
import Derived.Test.YtmlbinmlblbfgaaGreatDoorG00
set_option linter.all false
namespace Go.Am
section
variable {num:Nat->Option Nat} {β β':List Blk} {w w':World} {m m':Nat->Nat} {ν ν':Own} {N:Nat} {w0:World} {m0:Nat->Nat} {T:Nat->Prop} {β0:List Blk} {σ σ':St} {a:Act}
def m1 (m:Q9) (b k:Nat):Q9:=fun x=>if x=b then k else m x
def ZA (ν:Own) (b:Nat) (p:Pl):Own:=fun x=>if x=b then some p else ν x
def ZF (ν:Own) (θ:Pl->Pl):Own:=fun b=>(ν b).map θ
def Y1 {b i:Nat} {u:Value} (h:hg w m b i=some u):i < m b/\w.cell? ⟨b,i,none⟩=some u/\b < w.heap.size:=by
 unfold hg at h;split at h
 ·rename_i hi;exact⟨hi,h,block_lt_of_cell (a:=⟨b,i,none⟩) h⟩
 ·cases h
def Qe:=@if_neg
def Qh:=@if_pos
def Zm.allocO [Dr] (X:Nat->Prop) (w:World) (m:Q9) (ob:Obj) (k:Nat):Zm X w m (w.alloc ob) (m1 m w.heap.size k):=by
 refine⟨rfl,rfl,rfl,by simp,fun b hb _=>⟨Go.RowKit.Below.heap_alloc w _ b hb,by unfold m1;rw[Qe (by omega)]⟩,fun b i u h=> ?_,fun _=>Za _⟩;obtain⟨h1,h2,h3⟩:=Y1 h;unfold hg m1;rw[Qe (show ¬b=w.heap.size by omega),Qh h1,World.cell?_alloc_lt w _ ⟨b,i,none⟩ h3];exact h2
def Zm.alloc [Dr] (X:Nat->Prop) (w:World) (m:Q9) (cur:QW) (e:TypeId) (k:Nat):Zm X w m (w.alloc (.cells cur e)) (m1 m w.heap.size k):=Zm.allocO X w m _ k
def Zm.drew [Dr] (X:Nat->Prop) (w:World) (m:Q9):Zm X w m w.drew m:=
 ⟨rfl,rfl,rfl,Za _,fun _ _ _=>⟨rfl,rfl⟩,fun _ _ _ h=>h,fun _=>Nat.le_succ _⟩
def Zm.setRow [Dr] {b:Nat} {cur cur':QW} {e:TypeId} {k:Nat} (hb:w.heap[b]? =some (.cells cur e (0,0)))
  (hs: ∀(i:Nat) (u:Value),i < m b->cur[i]? =some u->cur'[i]? =some u) (hk:m b<=k):Zm (· =b) w m (w.setRow b cur') (m1 m b k):=by
 refine⟨rfl,rfl,rfl,by simp,fun x _ hx=>⟨setRow_other w b x cur' hx,by unfold m1;rw[Qe hx]⟩,fun x i u h=> ?_,fun _=>Za _⟩;obtain⟨h1,h2,h3⟩:=Y1 h;unfold hg m1;by_cases hx:x=b
 ·subst hx;rw[Qh rfl,Qh (by omega),cell_setRow_same w x i cur cur' e (0,0) hb];rw[cell_of_row w x i cur e (0,0) hb]at h2;exact hs i u h1 h2
 ·rw[Qe hx,Qh h1,cell_setRow_other w b cur' ⟨x,i,none⟩ hx];exact h2
def Zr:=@List.getElem?_eq_getElem
def Inv.next [Dr] {X:Nat->Prop} (hI:Inv num N w0 m0 T β0 σ a w m β ν) (hS:Zm X w m w' m') (hX: ∀b,b < w.heap.size->X b->w0.heap.size<=b\/T b) (hβ:Ge β β')
  (Es Eg:Nat->Prop)
  (hs: ∀b t,ν b=some (.s t)->¬Es t->¬X b/\ν' b=some (.s t)) (hc: ∀b t i,ν b=some (.c t i)->¬Es t->¬X b/\ν' b=some (.c t i))
  (hg: ∀b t,ν b=some (.g t)->¬Eg t->¬X b/\ν' b=some (.g t)) (hgc: ∀b t i,ν b=some (.gc t i)->¬Eg t->¬X b/\ν' b=some (.gc t i))
  (hlt: ∀b p,ν' b=some p->b < w'.heap.size/\(w0.heap.size<=b\/T b))
  (henv: ∀t,¬Es t->σ'.env t=σ.env t\/σ'.env t= .undef) (hout: ∀t,N<=t->σ'.env t= .undef)
  (hEs: ∀t v,Es t->a.tmps[t]? =some v->Wo num β' w' m' ν' (.s t) (fun i=> .c t i) (σ'.env t) v)
  (hbl:β'.length=σ'.bs.length) (hbs: ∀(i:Nat),¬Eg i->σ'.bs[i]? =σ.bs[i]?)
  (hEg: ∀(i:Nat) (cs:Qf) (k:Blk),Eg i->σ'.bs[i]? =some cs->β'[i]? =some k->(cs≠[]->Sz num β' w' m' ν' i k cs)):
  Inv num N w0 m0 T β0 σ' a w' m' β' ν':=by
 have hkeep: ∀b,b < w.heap.size->¬X b->w'.heap[b]? =w.heap[b]? /\m' b=m b:=fun b hb hx=>hS.same b hb hx;refine⟨hI.defers,hI.size,hout,fun t v hv=> ?_,hbl,fun i cs b h1 h2 hne=> ?_,hlt,hI.step.trans hS fun b hb hx=> ?_,fun i b hb=>hβ i b (hI.ge i b hb)⟩
 ·by_cases hE:Es t
  ·exact hEs t v hE hv
  ·rcases henv t hE with h | h
   ·rw[h];refine Ra (θ:=id) hβ hS.le ?_ ?_ (hI.slots t v hv)
    ·intro b hb;have:=hs b t hb hE;have h2:=hkeep b (hI.lt b _ hb).1 this.1;exact⟨h2.1,h2.2,this.2⟩
    ·intro i b hb;have:=hc b t i hb hE;have h2:=hkeep b (hI.lt b _ hb).1 this.1;exact⟨h2.1,h2.2,this.2⟩
   ·rw[h];exact trivial
 ·by_cases hE:Eg i
  ·exact hEg i cs b hE h1 h2 hne
  ·rw[hbs i hE]at h1;have hlt:i < σ.bs.length:=by
    rcases QL i σ.bs.length with h | h
    ·exact h
    ·rw[QT h]at h1;cases h1
   have hb0: ∃b0,β[i]? =some b0:=⟨β[i]'(by rw[hI.blen];exact hlt),Zr _⟩;obtain⟨b0,hb0⟩:=hb0;have:b0=b:=by have:=hβ i b0 hb0;rw[h2]at this;injection this with this;exact this.symm
   subst this;refine YU hβ hS.le ?_ ?_ (hI.boxes i cs b0 h1 hb0 hne)
   ·intro b hb;have:=hg b i hb hE;have h2:=hkeep b (hI.lt b _ hb).1 this.1;exact⟨h2.1,h2.2,this.2⟩
   ·intro j b hb;have:=hgc b i j hb hE;have h2:=hkeep b (hI.lt b _ hb).1 this.1;exact⟨h2.1,h2.2,this.2⟩
 ·rcases hX b (TV hb hI.step.size) hx with h | h
  ·omega
  ·exact h
def Inv.drew [Dr] (hI:Inv num N w0 m0 T β0 σ a w m β ν):Inv num N w0 m0 T β0 σ a w.drew m β ν:=
 hI.next (X:=fun _=>False) (Zm.drew _ w m) (fun _ _ h=>h.elim) (Ge.refl β) (fun _=>False) (fun _=>False)
  (fun _ _ h _=>⟨id,h⟩) (fun _ _ _ h _=>⟨id,h⟩) (fun _ _ h _=>⟨id,h⟩) (fun _ _ _ h _=>⟨id,h⟩) hI.lt (fun _ _=> .inl rfl) hI.out (fun _ _ h=>h.elim) hI.blen (fun _ _=>rfl) (fun _ _ _ h=>h.elim)
def Tz [Dr] {x:Nat} {p q:Pl} (hI:Inv num N w0 m0 T β0 σ a w m β ν) (hx:ν x=some p):ZA ν w.heap.size q x=some p:=by
 unfold ZA;rw[Qe (by have:=(hI.lt x p hx).1;omega)];exact hx
def Inv.freshO [Dr] (hI:Inv num N w0 m0 T β0 σ a w m β ν) (ob:Obj) (k:Nat) (q:Pl):
  Inv num N w0 m0 T β0 σ a (w.alloc ob) (m1 m w.heap.size k) β (ZA ν w.heap.size q):=
 hI.next (X:=fun _=>False) (Zm.allocO _ w m ob k) (fun _ _ h=>h.elim) (Ge.refl β) (fun _=>False) (fun _=>False)
  (fun _ _ h _=>⟨id,Tz hI h⟩) (fun _ _ _ h _=>⟨id,Tz hI h⟩) (fun _ _ h _=>⟨id,Tz hI h⟩) (fun _ _ _ h _=>⟨id,Tz hI h⟩)
  (fun b p h=>by
   unfold ZA at h;split at h
   ·rename_i hb;subst hb;exact⟨by simp,.inl hI.step.size⟩
   ·have:=hI.lt b p h;exact⟨by simp;omega,this.2⟩)
  (fun _ _=> .inl rfl) hI.out (fun _ _ h=>h.elim) hI.blen (fun _ _=>rfl) (fun _ _ _ h=>h.elim)
def Inv.fresh [Dr] (hI:Inv num N w0 m0 T β0 σ a w m β ν) (cur:QW) (e:TypeId) (k:Nat) (q:Pl):
  Inv num N w0 m0 T β0 σ a (w.alloc (.cells cur e)) (m1 m w.heap.size k) β (ZA ν w.heap.size q):=hI.freshO _ k q
def mv (p q:Pl):Pl->Pl:=fun x=>if x=p then q else x
def V2 {p q r:Pl} {b:Nat} (h:ν b=some r) (hr:r≠p):ZF ν (mv p q) b=some r:=by
 unfold ZF mv;rw[h];simp[hr]
def V1 [Dr] {θ:Pl->Pl} (hI:Inv num N w0 m0 T β0 σ a w m β ν) (b:Nat) (p:Pl) (h:ZF ν θ b=some p):b < w.heap.size/\(w0.heap.size<=b\/T b):=by
 unfold ZF at h;cases hb:ν b with
 | none=>rw[hb]at h;cases h
 | some q=>exact hI.lt b q hb
def QF:=@if_true
def Inv.takeSlot [Dr] (hI:Inv num N w0 m0 T β0 σ a w m β ν) (n:Nat):
  Inv num N w0 m0 T β0 {σ with env:=upd σ.env n .undef} a w m β (ZF ν (mv (.s n) .f)):=
 hI.next (X:=fun _=>False) (Zm.refl _ w m) (fun _ _ h=>h.elim) (Ge.refl β) (fun t=>t=n) (fun _=>False)
  (fun _ t h hn=>⟨id,V2 h (by simpa using hn)⟩) (fun _ _ _ h _=>⟨id,V2 h (by simp)⟩) (fun _ _ h _=>⟨id,V2 h (by simp)⟩) (fun _ _ _ h _=>⟨id,V2 h (by simp)⟩)
  (V1 hI) (fun t hn=> .inl (by simp only[upd];rw[Qe hn])) (fun t ht=>by simp only[upd];split <;> first | rfl | exact hI.out t ht)
  (fun t v hE _=>by subst hE;simp only[upd,QF];exact trivial) hI.blen (fun _ _=>rfl) (fun _ _ _ h=>h.elim)
def X2 {θ:Pl->Pl} {p:Pl} {c:AV} {u:Value} (h:Q6 w m ν p c u):Q6 w m (ZF ν θ) (θ p) c u:=
 YV (θ:=θ) (fun b hb=>⟨rfl,rfl,by unfold ZF;rw[hb];rfl⟩) h
def FL (d:Nat):Pl->Pl
 | .f=> .s d
 | .fc i=> .c d i
 | p=>p
def U1 {d b:Nat} {p:Pl} (h:ν b=some p) (h1:p≠ .f) (h2: ∀i,p≠ .fc i):ZF ν (FL d) b=some p:=by
 unfold ZF;rw[h]
 cases p <;> first | rfl | exact absurd rfl h1 | exact absurd rfl (h2 _)
def Jr:=@Array.getElem?_setIfInBounds_self_of_lt
def Rb:=@Array.getElem?_setIfInBounds_ne
def Inv.put [Dr] (hI:Inv num N w0 m0 T β0 σ a w m β ν) {v:AV} {u:Value} (hv:Wo num β w m ν .f (fun i=> .fc i) v u) (d:Nat) (hd:d < N):
  Inv num N w0 m0 T β0 {σ with env:=upd σ.env d v} (a.put (some d) u) w m β (ZF ν (FL d)):=by
 have hI2:Inv num N w0 m0 T β0 {σ with env:=upd σ.env d .undef} a w m β (ZF ν (FL d)):=
  hI.next (X:=fun _=>False) (Zm.refl _ w m) (fun _ _ h=>h.elim) (Ge.refl β) (fun t=>t=d) (fun _=>False)
   (fun _ t h hn=>⟨id,U1 h (by simp) (by simp)⟩) (fun _ _ _ h _=>⟨id,U1 h (by simp) (by simp)⟩) (fun _ _ h _=>⟨id,U1 h (by simp) (by simp)⟩) (fun _ _ _ h _=>⟨id,U1 h (by simp) (by simp)⟩)
   (V1 hI) (fun t hn=> .inl (by simp only[upd];rw[Qe hn])) (fun t ht=>by simp only[upd];split <;> first | rfl | exact hI.out t ht)
   (fun t v hE _=>by subst hE;simp only[upd,QF];exact trivial) hI.blen (fun _ _=>rfl) (fun _ _ _ h=>h.elim)
 refine⟨hI2.defers,by simpa[Act.put]using hI.size,fun t ht=> ?_,fun t x hx=> ?_,hI2.blen,hI2.boxes,hI2.lt,hI2.step,hI2.ge⟩
 ·simp only[upd];rw[Qe (by omega)];exact hI.out t ht
 ·simp only[Act.put,upd]at hx ⊢;by_cases ht:t=d
  ·subst ht;rw[Jr (by rw[hI.size];exact hd)]at hx;injection hx with hx
   subst hx;rw[Qh rfl];exact Ra (θ:=FL t) (pl:= .f) (cp:=fun i=> .fc i) (Ge.refl β) (Le.refl w m) (fun b hb=>⟨rfl,rfl,by unfold ZF;rw[hb];rfl⟩) (fun i b hb=>⟨rfl,rfl,by unfold ZF;rw[hb];rfl⟩) hv
  ·rw[Rb (fun e=>ht e.symm)]at hx;rw[Qe ht];have:=hI2.slots t x hx;simp only[upd]at this;rw[Qe ht]at this;exact this
def WP {b:Nat} (h:m b=0):m1 m b 0=m:=by
 funext x;unfold m1;split
 ·rename_i hx;rw[hx,h]
 ·rfl
def LU {b:Nat} {cur':QW} {k:Nat} {p:Pl} {θ:Pl->Pl} (hp:ν b≠some p) {c:AV} {u:Value} (h:Q6 w m ν p c u):Q6 (w.setRow b cur') (m1 m b k) (ZF ν θ) (θ p) c u:=by
 refine YV (θ:=θ) (fun x hx=> ?_) h;have hne:x≠b:=fun e=>by subst e;exact hp hx
 exact⟨setRow_other w b x cur' hne,by unfold m1;rw[Qe hne],by unfold ZF;rw[hx];rfl⟩
def Inv.setBox [Dr] (hI:Inv num N w0 m0 T β0 σ a w m β ν) (s:Nat) {cs cs':Qf} {x:Value} (hs:σ.env s= .bx cs) (hx:a.tmps[s]? =some x):
  ∃b cur e,x= .pointer (some ⟨b,0,none⟩)/\w.heap[b]? =some (.cells cur e (0,0))/\cur.size=cs.length/\
   (∀(i:Nat) (c:AV),cs[i]? =some c->∃u,cur[i]? =some u/\u.oneCell'=true/\Qa num β w m c u/\Q6 w m ν (.c s i) c u)/\
   ∀(θ:Pl->Pl) (cur':QW),(∀t,θ (.s t)= .s t)->(∀t i,θ (.c t i)= .c t i)->(∀i,θ (.g i)= .g i)->(∀i j,θ (.gc i j)= .gc i j)->
    cur'.size=cs'.length->
    (∀(i:Nat) (c:AV),cs'[i]? =some c->∃u,cur'[i]? =some u/\u.oneCell'=true/\Qa num β w m c u/\∃p,Q6 w m ν p c u/\θ p= .c s i/\ν b≠some p)->
    Inv num N w0 m0 T β0 {σ with env:=upd σ.env s (.bx cs')} a (w.setRow b cur') m β (ZF ν θ):=by
 have h0:=hI.slots s x hx;rw[hs]at h0;obtain⟨b,hxb,cur,e,h1,h2,h3,h4,h5⟩:=h0;refine⟨b,cur,e,hxb,h1,h2.1,h5,fun θ cur' t1 t2 t3 t4 hsz hcs=> ?_⟩;have hN:s < N:=by
  rcases QL s N with h | h
  ·exact h
  ·have:=hI.out s h;rw[hs]at this;cases this
 have hS:=Zm.setRow (cur':=cur') (k:=0) h1 (m:=m) (fun i u hi _=>by omega) (by omega);rw[WP h3]at hS;have hmp: ∀{x:Nat} {p:Pl},ν x=some p->θ p=p->ZF ν θ x=some p:=fun {x p} h ht=>by unfold ZF;rw[h];simp[ht]
 refine hI.next hS (fun x hx hxb=>by subst hxb;exact(hI.lt x _ h4).2) (Ge.refl β) (fun t=>t=s) (fun _=>False)
  (fun x t h hn=>⟨fun e=> ?_,hmp h (t1 t)⟩) (fun x t i h hn=>⟨fun e=> ?_,hmp h (t2 t i)⟩) (fun x t h _=>⟨fun e=> ?_,hmp h (t3 t)⟩) (fun x t i h _=>⟨fun e=> ?_,hmp h (t4 t i)⟩)
  (fun x p h=>by simpa using V1 hI x p h) (fun t hn=> .inl (by simp only[upd];rw[Qe hn])) (fun t ht=> ?_)
  (fun t v hE hv=> ?_) hI.blen (fun _ _=>rfl) (fun _ _ _ h=>h.elim)
 ·subst e;rw[h4]at h;injection h with h;injection h with h;exact hn h.symm
 ·subst e;rw[h4]at h;injection h with h;cases h
 ·subst e;rw[h4]at h;injection h with h;cases h
 ·subst e;rw[h4]at h;injection h with h;cases h
 ·simp only[upd];split
  ·omega
  ·exact hI.out t ht
 ·subst hE;rw[hx]at hv;injection hv with hv
  subst hv;simp only[upd,QF];refine⟨b,hxb,cur',e,setRow_heap w b cur cur' e (0,0) h1,⟨hsz,Za _⟩,h3,hmp h4 (t1 t),fun i c hc=> ?_⟩;obtain⟨u,g1,g2,g3,p,g4,g5,g6⟩:=hcs i c hc;refine⟨u,g1,g2,QU (Ge.refl β) hS.le c u g3,?_⟩;have:=LU (cur':=cur') (k:=0) (θ:=θ) g6 g4;rw[WP h3,g5]at this;exact this
def Qs:=@Option.some.injEq
def WX:=@List.getElem?_set_ne
def VN:=@List.getElem?_set_self
def Inv.setG [Dr] (hI:Inv num N w0 m0 T β0 σ a w m β ν) (s:Nat) {cs cs':Qf} {k:Blk} (hs:σ.bs[s]? =some cs) (hbm:β[s]? =some k/\k.mp=false) (hne:cs≠[]):
  ∃cur e,w.heap[k.b]? =some (.cells cur e (0,0))/\(cur.size=k.z/\cs.length<=k.z)/\
   (∀(i:Nat) (c:AV),cs[i]? =some c->∃u,cur[i]? =some u/\u.oneCell'=true/\Qa num β w m c u/\Q6 w m ν (.gc s i) c u)/\
   ∀(θ:Pl->Pl) (cur':QW),(∀t,θ (.s t)= .s t)->(∀t i,θ (.c t i)= .c t i)->(∀i,θ (.g i)= .g i)->(∀i j,θ (.gc i j)= .gc i j)->
    cur'.size=k.z->cs'.length<=k.z->
    (∀(i:Nat) (c:AV),cs'[i]? =some c->∃u,cur'[i]? =some u/\u.oneCell'=true/\Qa num β w m c u/\∃p,Q6 w m ν p c u/\θ p= .gc s i/\ν k.b≠some p)->
    Inv num N w0 m0 T β0 {σ with bs:=σ.bs.set s cs'} a (w.setRow k.b cur') m β (ZF ν θ):=by
 obtain⟨hb,hmp0⟩:=hbm;obtain⟨b,z,mp,ty⟩:=k;obtain⟨cur,e,h1,h2,h3,h4,h5⟩:=(hI.boxes s cs _ hs hb hne).1 hmp0;have he9:e=ty:=by
  obtain⟨c2,h9⟩:=(hI.boxes s cs _ hs hb hne).2.2 hmp0;have h8:=h1.symm.trans h9;simp only[Qs,Obj.cells.injEq]at h8;exact h8.2.1
 refine⟨cur,e,h1,h2,h5,fun θ cur' t1 t2 t3 t4 hsz hsl hcs=> ?_⟩;simp only at hmp0 h1 h2 h3 h4 h5 hsz hsl ⊢;have hlt:s < σ.bs.length:=by
  rcases QL s σ.bs.length with h | h
  ·exact h
  ·rw[QT h]at hs;cases hs
 have hS:=Zm.setRow (cur':=cur') (k:=0) h1 (m:=m) (fun i u hi _=>by omega) (by omega);rw[WP h3]at hS;have hmp: ∀{x:Nat} {p:Pl},ν x=some p->θ p=p->ZF ν θ x=some p:=fun {x p} h ht=>by unfold ZF;rw[h];simp[ht]
 refine hI.next hS (fun x hx hxb=>by subst hxb;exact(hI.lt x _ h4).2) (Ge.refl β) (fun _=>False) (fun t=>t=s)
  (fun x t h _=>⟨fun e=> ?_,hmp h (t1 t)⟩) (fun x t i h _=>⟨fun e=> ?_,hmp h (t2 t i)⟩) (fun x t h hn=>⟨fun e=> ?_,hmp h (t3 t)⟩) (fun x t i h hn=>⟨fun e=> ?_,hmp h (t4 t i)⟩)
  (fun x p h=>by simpa using V1 hI x p h) (fun t hn=> .inl rfl) hI.out
  (fun t v hE hv=>hE.elim) (by simpa using hI.blen) (fun i hn=>by simp[WX (fun e=>hn e.symm)]) (fun i cs2 b2 hE h6 h7=> ?_)
 ·subst e;rw[h4]at h;injection h with h;cases h
 ·subst e;rw[h4]at h;injection h with h;cases h
 ·subst e;rw[h4]at h;injection h with h;injection h with h;exact hn h.symm
 ·subst e;rw[h4]at h;injection h with h;cases h
 ·subst hE;rw[hb]at h7;injection h7 with h7
  subst h7;simp only[VN hlt]at h6;injection h6 with h6
  subst h6;refine fun _=>⟨fun _=>⟨cur',e,setRow_heap w b cur cur' e (0,0) h1,⟨hsz,hsl⟩,h3,hmp h4 (t3 i),fun j c hc=> ?_⟩,fun q=>(by rw[hmp0]at q;cases q),fun _=>⟨cur',by rw[<- he9];exact setRow_heap w b cur cur' e (0,0) h1⟩⟩;obtain⟨u,g1,g2,g3,p,g4,g5,g6⟩:=hcs j c hc;refine⟨u,g1,g2,QU (Ge.refl β) hS.le c u g3,?_⟩;have:=LU (cur':=cur') (k:=0) (θ:=θ) g6 g4;rw[WP h3,g5]at this;exact this
def YE:=@List.getElem?_set
def Inv.takeCell [Dr] (hI:Inv num N w0 m0 T β0 σ a w m β ν) (s off:Nat) {cs:Qf} (hs:σ.env s= .bx cs):
  Inv num N w0 m0 T β0 {σ with env:=upd σ.env s (.bx (cs.set off .undef))} a w m β (ZF ν (mv (.c s off) .f)):=by
 have hmp: ∀{x:Nat} {p:Pl},ν x=some p->p≠ .c s off->ZF ν (mv (.c s off) .f) x=some p:=fun {x p} h ht=>V2 h ht;have hN:s < N:=by
  rcases QL s N with h | h
  ·exact h
  ·have:=hI.out s h;rw[hs]at this;cases this
 refine hI.next (X:=fun _=>False) (Zm.refl _ w m) (fun _ _ h=>h.elim) (Ge.refl β) (fun t=>t=s) (fun _=>False)
  (fun _ t h _=>⟨id,hmp h (by simp)⟩) (fun _ t i h hn=>⟨id,hmp h (fun e=>by injection e with e;exact hn e)⟩) (fun _ _ h _=>⟨id,hmp h (by simp)⟩) (fun _ _ _ h _=>⟨id,hmp h (by simp)⟩)
  (V1 hI) (fun t hn=> .inl (by simp only[upd];rw[Qe hn])) (fun t ht=> ?_)
  (fun t v hE hv=> ?_) hI.blen (fun _ _=>rfl) (fun _ _ _ h=>h.elim)
 ·simp only[upd];split
  ·omega
  ·exact hI.out t ht
 ·subst hE;simp only[upd,QF];have h0:=hI.slots t v hv;rw[hs]at h0;obtain⟨b,hxb,cur,e,h1,h2,h3,h4,h5⟩:=h0;refine⟨b,hxb,cur,e,h1,⟨by simpa using h2.1,Za _⟩,h3,hmp h4 (by simp),fun i c hc=> ?_⟩;rw[YE]at hc;split at hc
  ·rename_i hi;subst hi;split at hc
   ·rename_i hlt;injection hc with hc
    subst hc;obtain⟨u,g1,g2,_,_⟩:=h5 off _ (Zr hlt);exact⟨u,g1,g2,by simpa only[Qa]using g2,trivial⟩
   ·cases hc
  ·rename_i hi;obtain⟨u,g1,g2,g3,g4⟩:=h5 i c hc;refine⟨u,g1,g2,g3,?_⟩;have:=X2 (θ:=mv (.c t off) .f) g4;rwa[show mv (.c t off) .f (.c t i)= .c t i by unfold mv;rw[Qe (fun e=>by injection e with _ e;exact hi e.symm)]]at this
def Inv.takeG [Dr] (hI:Inv num N w0 m0 T β0 σ a w m β ν) (s off:Nat) {cs:Qf} {k:Blk} (hs:σ.bs[s]? =some cs) (hbm:β[s]? =some k/\k.mp=false):
  Inv num N w0 m0 T β0 {σ with bs:=σ.bs.set s (cs.set off .undef)} a w m β (ZF ν (mv (.gc s off) .f)):=by
 have hmp: ∀{x:Nat} {p:Pl},ν x=some p->p≠ .gc s off->ZF ν (mv (.gc s off) .f) x=some p:=fun {x p} h ht=>V2 h ht;have hlt:s < σ.bs.length:=by
  rcases QL s σ.bs.length with h | h
  ·exact h
  ·rw[QT h]at hs;cases hs
 refine hI.next (X:=fun _=>False) (Zm.refl _ w m) (fun _ _ h=>h.elim) (Ge.refl β) (fun _=>False) (fun t=>t=s)
  (fun _ t h _=>⟨id,hmp h (by simp)⟩) (fun _ t i h _=>⟨id,hmp h (by simp)⟩) (fun _ _ h _=>⟨id,hmp h (by simp)⟩) (fun _ t i h hn=>⟨id,hmp h (fun e=>by injection e with e;exact hn e)⟩)
  (V1 hI) (fun t hn=> .inl rfl) hI.out
  (fun t v hE hv=>hE.elim) (by simpa using hI.blen) (fun i hn=>by simp[WX (fun e=>hn e.symm)]) (fun i cs2 b2 hE h6 h7=> ?_)
 subst hE;simp only[VN hlt]at h6;injection h6 with h6
 subst h6;have hmp0:b2.mp=false:=by rw[hbm.1]at h7;injection h7 with h7;rw[<- h7];exact hbm.2
 refine fun hne=>⟨fun _=> ?_,fun q=>(by rw[hmp0]at q;cases q),fun _=>(hI.boxes i cs b2 hs h7 (fun e=>by simp[e]at hne)).2.2 hmp0⟩
 ·obtain⟨cur,e,h1,h2,h3,h4,h5⟩:=(hI.boxes i cs b2 hs h7 (fun e=>by simp[e]at hne)).1 hmp0;refine⟨cur,e,h1,by simpa using h2,h3,hmp h4 (by simp),fun j c hc=> ?_⟩;rw[YE]at hc;split at hc
  ·rename_i hi;subst hi;split at hc
   ·rename_i hlt;injection hc with hc
    subst hc;obtain⟨u,g1,g2,_,_⟩:=h5 off _ (Zr hlt);exact⟨u,g1,g2,by simpa only[Qa]using g2,trivial⟩
   ·cases hc
  ·rename_i hi;obtain⟨u,g1,g2,g3,g4⟩:=h5 j c hc;refine⟨u,g1,g2,g3,?_⟩;have:=X2 (θ:=mv (.gc i off) .f) g4;rwa[show mv (.gc i off) .f (.gc i j)= .gc i j by unfold mv;rw[Qe (fun e=>by injection e with _ e;exact hi e.symm)]]at this
def Inv.setFloat [Dr] (hI:Inv num N w0 m0 T β0 σ a w m β ν) {b k:Nat} {cur cur':QW} {e:TypeId} (hb:w.heap[b]? =some (.cells cur e (0,0))) (hν:ν b=some .f)
  (hs: ∀(i:Nat) (u:Value),i < m b->cur[i]? =some u->cur'[i]? =some u) (hk:m b<=k):Inv num N w0 m0 T β0 σ a (w.setRow b cur') (m1 m b k) β ν:=by
 have hne: ∀{x:Nat} {p:Pl},ν x=some p->p≠ .f->¬x=b:=fun {x p} h hp e=>by subst e;rw[hν]at h;injection h with h;exact hp h.symm
 exact hI.next (Zm.setRow hb hs hk) (fun x hx hxb=>by subst hxb;exact(hI.lt x _ hν).2) (Ge.refl β) (fun _=>False) (fun _=>False)
  (fun x t h _=>⟨hne h (by simp),h⟩) (fun x t i h _=>⟨hne h (by simp),h⟩) (fun x t h _=>⟨hne h (by simp),h⟩) (fun x t i h _=>⟨hne h (by simp),h⟩)
  (fun x p h=>by simpa using hI.lt x p h) (fun t hn=> .inl rfl) hI.out (fun t v hE hv=>hE.elim) hI.blen (fun _ _=>rfl) (fun _ _ _ h=>h.elim)
end
end Go.Am
namespace Go.Am
def Ve:AV->Value->Bool
 | .int k n,.int k' n'=>decide (k=k') && decide (n=n')
 | .bool a,.bool b=>a == b
 | .str s,.string b=>decide (s=b.data.toList)
 | .sl _ _ [],.slice none 0 0=>true
 | .gs _ _ 0 0,.slice none 0 0=>true
 | .err true,.nilIface=>true
 | .undef,.pointer none=>true
 | .nlp,.pointer none=>true
 | .undef,.map none=>true
 | _,_=>false
abbrev Q8:=List Value
def Xo:Qf->Q8->Bool
 | [],[]=>true
 | c:: cs,u:: us=>Ve c u && Xo cs us
 | _,_=>false
def P1:AV->Value->Bool
 | .agg cs,.agg us=>Xo cs us.toList
 | c,u=>Ve c u
def okO (num:Z3):AO->Operand->Bool
 | .t n,.tmp t=>decide (n=t)
 | .c (.fn f []),.func g=>decide (num f=some g)
 | .c v,.const u=>P1 v u
 | _,_=>false
abbrev UC:=List Operand
abbrev Wp:=List AO
def Yf (num:Z3):Wp->UC->Bool
 | [],[]=>true
 | x:: xs,y:: ys=>okO num x y && Yf num xs ys
 | _,_=>false
section
variable {P:Program} {num:Nat->Option Nat} {β β':List Blk} {w w':World} {m m':Nat->Nat} {ν ν':Own} {N:Nat} {w0:World} {m0:Nat->Nat} {T:Nat->Prop} {β0:List Blk} {σ σ1:St} {a:Act}
def XL:=@beq_iff_eq
def Q5 {c:AV} {u:Value} (h:Ve c u=true):Qa num β w m c u/\u.oneCell'=true/\(∀p,Q6 w m ν p c u):=by
 unfold Ve at h;split at h
 ·simp only[Qi,Qm]at h;obtain⟨rfl,rfl⟩:=h;exact⟨by simp only[Qa],rfl,fun _=>trivial⟩
 ·simp only[XL]at h;subst h;exact⟨by simp only[Qa],rfl,fun _=>trivial⟩
 ·simp only[Qm]at h;subst h;exact⟨by simp only[Qa],rfl,fun _=>trivial⟩
 ·refine⟨?_,rfl,fun p=> ?_⟩
  ·simp only[Qa];exact⟨none,0,0,rfl,rfl,Za _,by unfold maxLen;omega,.inl trivial⟩
  ·rename_i o sz;cases o
   ·exact trivial
   ·exact .inl ⟨none,0,rfl⟩
 ·refine⟨?_,rfl,fun p=>trivial⟩;simp only[Qa];exact⟨none,0,rfl,Za _,by unfold maxLen;omega,.inl (by simp)⟩
 ·exact⟨by simp[Qa],rfl,fun _=>trivial⟩
 ·exact⟨by simp only[Qa];rfl,rfl,fun _=>trivial⟩
 ·exact⟨by simp only[Qa],rfl,fun _=>trivial⟩
 ·exact⟨by simp only[Qa];rfl,rfl,fun _=>trivial⟩
 ·cases h
def ZX: ∀(cs:Qf) (us:Q8),Xo cs us=true->us.length=cs.length/\∀(i:Nat) (c:AV),cs[i]? =some c->∃u,us[i]? =some u/\Ve c u=true
 | [],[],_=>⟨rfl,fun i c h=>by simp at h⟩
 | c:: cs,u:: us,h=>by
  simp only[Xo,Qi]at h;have ih:=ZX cs us h.2;refine⟨by simp[ih.1],fun i d hd=> ?_⟩;cases i with
  | zero=>simp at hd;subst hd;exact⟨u,rfl,h.1⟩
  | succ i=>simpa using ih.2 i d (by simpa using hd)
 | [],_:: _,h=>by simp[Xo]at h
 | _:: _,[],h=>by simp[Xo]at h
def Hy [Dr] {c:AV} {u:Value} (h:P1 c u=true):Qa num β w m c u/\(∀p,Q6 w m ν p c u):=by
 unfold P1 at h;split at h
 ·rename_i cs us;obtain⟨h1,h2⟩:=ZX cs us.toList h;refine⟨?_,fun _=>trivial⟩;simp only[Qa];refine⟨us,rfl,by simpa using h1,?_⟩;rw[Zp];intro i c hc;obtain⟨u,g1,g2⟩:=h2 i c hc;have:=Q5 (num:=num) (β:=β) (w:=w) (m:=m) (ν:=ν) g2;exact⟨u,by simpa using g1,this.2.1,this.1⟩
 ·have:=Q5 (num:=num) (β:=β) (w:=w) (m:=m) (ν:=ν) h;exact⟨this.1,this.2.2⟩
def Se (c:AV):c.strip.ok=c.ok:=by cases c <;> rfl
def ZK (c:AV) (u:Value) (p:Pl):Q6 w m ν p c.strip u:=by cases c <;> exact trivial
def HY (c:AV):c.strip.strip=c.strip:=by cases c <;> rfl
def Inv.at_ [Dr] (hI:Inv num N w0 m0 T β0 σ a w m β ν) {n:Nat} (hn:σ.env n≠ .undef):n < N/\a.tmps[n]? =some (a.tmps.getD n undef):=by
 have hN:n < N:=by
  rcases QL n N with h | h
  ·exact h
  ·exact absurd (hI.out n h) hn
 have:n < a.tmps.size:=by rw[hI.size];exact hN
 exact⟨hN,by simp[this]⟩
def Inv.val [Dr] (hI:Inv num N w0 m0 T β0 σ a w m β ν) {x:AO} {y:Operand} (ho:okO num x y=true) (hk: (val σ.env x).ok=true):
  Qa num β w m (val σ.env x) (a.eval y)/\∀p,Q6 w m ν p (val σ.env x) (a.eval y):=by
 unfold okO at ho;split at ho
 ·rename_i n t;simp only[Qm]at ho;subst ho;simp only[Am.val,Se]at hk ⊢;have hne:σ.env n≠ .undef:=fun e=>by rw[e]at hk;cases hk
  obtain⟨_,h2⟩:=hI.at_ hne;have h3:=hI.slots n _ h2;rw[QD hk]at h3;refine⟨?_,fun p=>ZK _ _ _⟩;rw[QE];exact h3.1
 ·rename_i f g;simp only[Qm]at ho;simp only[Am.val,Act.eval];refine⟨?_,fun _=>trivial⟩;simp only[Qa];exact⟨g,#[],ho,rfl,rfl,by simp[Z2]⟩
 ·simp only[Am.val,Act.eval];exact Hy ho
 ·cases ho
def ZP:=@List.map_cons
def YG:=@List.all_cons
def Inv.vals [Dr] (hI:Inv num N w0 m0 T β0 σ a w m β ν): ∀{xs:Wp} {ys:UC},Yf num xs ys=true->Yw (xs.map (Am.val σ.env))=true->
  ys.length=xs.length/\∀(i:Nat) (c:AV),(xs.map (Am.val σ.env))[i]? =some c->∃y,ys[i]? =some y/\c.ok=true/\Qa num β w m c (a.eval y)
 | [],[],_,_=>⟨rfl,fun i c h=>by simp at h⟩
 | x:: xs,y:: ys,ho,hk=>by
  simp only[Yf,Qi]at ho;simp only[Yw,ZP,YG,Qi]at hk;have ih:=hI.vals ho.2 hk.2;refine⟨by simp[ih.1],fun i c hc=> ?_⟩;cases i with
  | zero=>simp at hc;subst hc;exact⟨y,rfl,hk.1,(hI.val ho.1 hk.1).1⟩
  | succ i=>simpa using ih.2 i c (by simpa using hc)
 | [],_:: _,h,_=>by simp[Yf]at h
 | _:: _,[],h,_=>by simp[Yf]at h
def Y6 {v:AV} {u:Value} {cs:Qf} (hc:cellsOf v=some cs) (h:Qa num β w m v u):
  v.ok=true/\u.cells.size=cs.length/\∀(i:Nat) (c:AV),cs[i]? =some c->∃x,u.cells[i]? =some x/\x.oneCell'=true/\Qa num β w m c x:=by
 unfold cellsOf at hc;split at hc
 ·injection hc with hc
  subst hc;simp only[Qa]at h;obtain⟨us,rfl,h2,h3⟩:=h;rw[Zp]at h3;exact⟨rfl,h2,fun i c hci=>by simpa[Value.cells]using h3 i c hci⟩
 ·rename_i hna;split at hc
  ·rename_i h1;injection hc with hc
   subst hc;have h2:=Um h1 h;have h4:u.cells= #[u]:=by cases u <;> first | rfl | simp[Value.oneCell']at h2
   refine⟨by cases v <;> first | rfl | simp[AV.one]at h1,by rw[h4];rfl,fun i c hci=> ?_⟩;cases i with
   | zero=>simp at hci;subst hci;exact⟨u,by rw[h4];rfl,h2,by rw[QE];exact h⟩
   | succ i=>simp at hci
  ·cases hc
def Xm:=@List.getElem?_map
def Q0 {cs:Qf} {i:Nat} {c:AV} (h: (cs.map AV.strip)[i]? =some c): ∃d,cs[i]? =some d/\c=d.strip:=by
 rw[Xm]at h;cases hd:cs[i]? with
 | none=>rw[hd]at h;cases h
 | some d=>rw[hd]at h;injection h with h;exact⟨d,rfl,h.symm⟩
end
def Aft [Dr] (num:Z3) (N:Nat) (w0:World) (m0:Q9) (T:Nat->Prop) (β0:Ym) (σ1:St) (a:Act) (v:AV) (k:Value->World->Prop):Prop:=
 ∀(u:Value) (w':World) (m':Q9) (β':Ym) (ν':Own),Inv num N w0 m0 T β0 σ1 a w' m' β' ν'->Wo num β' w' m' ν' .f (fun i=> .fc i) v u->k u w'
section
variable {P:Program} {num:Nat->Option Nat} {β:List Blk} {w w':World} {m:Nat->Nat} {ν:Own} {N:Nat} {w0:World} {m0:Nat->Nat} {T:Nat->Prop} {β0:List Blk} {σ σ1:St} {a:Act}
 {o:Oper} {next:Act->World->Prop} {Q:Exit->Act->World->Prop} {K:ZJ} {v:AV}
def Qj {u:Value} (hr: (execOp a.eval o).run P w= .ok (.value u) w') (h:next (a.put o.dst u) w'):o.wp P a w next Q:=by
 unfold Oper.wp;rw[hr];exact h
def VT (hr: (execOp a.eval o).run P w= .ok .skip w') (h:next (a.put o.dst undef) w'):o.wp P a w next Q:=by
 unfold Oper.wp;rw[hr];exact h
def Aft.same [Dr] (h:Aft num N w0 m0 T β0 σ a v fun u w'=>next (a.put o.dst u) w') (hI:Inv num N w0 m0 T β0 σ a w m β ν) {u:Value} (hk:v.ok=true) (hr:Qa num β w m v u)
  (ho:Q6 w m ν .f v u):next (a.put o.dst u) w:=
 h u w m β ν hI ((QD hk).2 ⟨hr,ho⟩)
def CO [Dr] {x:AO} {y:Operand} (hI:Inv num N w0 m0 T β0 σ a w m β ν) (ho:o.op= .move y\/o.op= .assign y) (hxy:okO num x y=true)
  (he:Qg K (.mov x) σ=some (v,σ1)) (h:Aft num N w0 m0 T β0 σ1 a v fun u w'=>next (a.put o.dst u) w'):o.wp P a w next Q:=by
 simp only[Qg]at he;split at he
 ·rename_i hk;injection he with he
  injection he with h1 h2
  subst h1 h2;have hv:=hI.val hxy hk;refine Qj (u:=a.eval y) (w':=w) (by rcases ho with ho | ho <;> simp[execOp,ho]) (h.same hI hk hv.1 (hv.2 _))
 ·cases he
def CP [Dr] {n:Nat} (hI:Inv num N w0 m0 T β0 σ a w m β ν) (ho:o.op= .move (.tmp n)\/o.op= .assign (.tmp n))
  (he:Qg K (.mvs n) σ=some (v,σ1)) (h:Aft num N w0 m0 T β0 σ1 a v fun u w'=>next (a.put o.dst u) w'):o.wp P a w next Q:=by
 simp only[Qg]at he;split at he
 ·rename_i hk;injection he with he
  injection he with h1 h2
  subst h1 h2;obtain⟨_,h2⟩:=hI.at_ (n:=n) (fun e=>by rw[e]at hk;cases hk);have h3:=hI.slots n _ h2;rw[QD hk]at h3;refine Qj (u:=a.eval (.tmp n)) (w':=w) (by rcases ho with ho | ho <;> simp[execOp,ho]) ?_;refine h _ w m β _ (hI.takeSlot n) ((QD hk).2 ⟨h3.1,?_⟩);have:=X2 (θ:=mv (.s n) .f) h3.2;rwa[show mv (.s n) .f (.s n)= .f by simp[mv]]at this
 ·cases he
def Qhj [Dr] {x:AO} {y:Operand} {t:TypeId} (hI:Inv num N w0 m0 T β0 σ a w m β ν) (ho:o.op= .box t y) (hxy:okO num x y=true)
  (he:Qg K (.box x) σ=some (v,σ1)) (h:Aft num N w0 m0 T β0 σ1 a v fun u w'=>next (a.put o.dst u) w'):o.wp P a w next Q:=by
 simp only[Qg]at he;cases hc:cellsOf (val σ.env x)with
 | none=>rw[hc]at he;cases he
 | some cs=>
  rw[hc]at he;injection he with he
  injection he with h1 h2
  subst h1 h2;have hk: (val σ.env x).ok=true:=by
   cases hv:val σ.env x <;> rw[hv]at hc <;> simp[cellsOf,AV.one]at hc <;> rfl
  have hv:=(hI.val hxy hk).1;obtain⟨_,hz,hcs⟩:=Y6 hc hv;refine Qj (u:= .pointer (some ⟨w.heap.size,0,none⟩)) (w':=w.alloc (.cells (a.eval y).cells t)) (by simp[execOp,ho,Instr.box,newVar,newRow]) ?_;refine h _ _ _ β _ (hI.fresh (a.eval y).cells t 0 .f) ⟨w.heap.size,rfl,(a.eval y).cells,t,heap_alloc_new w _,by simpa using hz,by simp[m1],by simp[ZA],fun i c hci=> ?_⟩;obtain⟨d,hd,rfl⟩:=Q0 hci;obtain⟨u,g1,g2,g3⟩:=hcs i d hd;exact⟨u,g1,g2,by rw[QE];exact QU (Ge.refl β) (Zm.alloc (fun _=>False) w m _ t 0).le d u g3,ZK _ _ _⟩
def VJ (P:Program) (t:TypeId) (zs:Qf):Bool:=
 match P.info? t with
 | some i=>match i.zero with
  | some z=>Xo zs z.cells.toList
  | none=>false
 | none=>false
def Uz {t:TypeId} {zs:Qf} (h:VJ P t zs=true): ∃z:Value,(zeroValue t).run P w= .ok z w/\Xo zs z.cells.toList=true:=by
 unfold VJ at h;split at h
 ·rename_i i hi;split at h
  ·rename_i z hz;exact⟨z,by simp[zeroValue,typeInfo,hi,hz],h⟩
  ·cases h
 ·cases h
def AJ [Dr] {zs:Qf} {t:TypeId} (hI:Inv num N w0 m0 T β0 σ a w m β ν) (ho:o.op= .alloc t) (hz:VJ P t zs=true)
  (he:Qg K (.alloc zs) σ=some (v,σ1)) (h:Aft num N w0 m0 T β0 σ1 a v fun u w'=>next (a.put o.dst u) w'):o.wp P a w next Q:=by
 simp only[Qg]at he;injection he with he
 injection he with h1 h2
 subst h1 h2;obtain⟨z,hr,hc⟩:=Uz (w:=w) hz;obtain⟨hl,hcs⟩:=ZX _ _ hc;refine Qj (u:= .pointer (some ⟨w.heap.size,0,none⟩)) (w':=w.alloc (.cells z.cells t)) (by simp[execOp,ho,Instr.alloc,newVar,newRow,hr]) ?_;refine h _ _ _ β _ (hI.fresh z.cells t 0 .f) ⟨w.heap.size,rfl,z.cells,t,heap_alloc_new w _,by simpa using hl,by simp[m1],by simp[ZA],fun i c hci=> ?_⟩;obtain⟨u,g1,g2⟩:=hcs i c hci;have hg:=Q5 (num:=num) (β:=β) (w:=w.alloc (.cells z.cells t)) (m:=m1 m w.heap.size 0) (ν:=ZA ν w.heap.size .f) g2;exact⟨u,by simpa using g1,hg.2.1,hg.1,hg.2.2 _⟩
def Wq:=@List.getElem?_concat_length
def Inv.toBoxK [Dr] (hI:Inv num N w0 m0 T β0 σ a w m β ν) {k:Blk} {cs:Qf} (hν:ν k.b=some .f)
  (hB:Sz num (β ++ [k]) w m (ZA ν k.b (.g σ.bs.length)) σ.bs.length k cs):
  Inv num N w0 m0 T β0 {σ with bs:=σ.bs ++ [cs]} a w m (β ++ [k]) (ZA ν k.b (.g σ.bs.length)):=by
 have hge:Ge β (β ++ [k]):=Ge.append β _;have hother: ∀{x:Nat} {p:Pl},ν x=some p->p≠ .f->ZA ν k.b (.g σ.bs.length) x=some p:=fun {x p} hx hp=>by
  unfold ZA;split
  ·rename_i hxb;subst hxb;rw[hν]at hx;injection hx with hx;exact absurd hx.symm hp
  ·exact hx
 refine⟨hI.defers,hI.size,hI.out,fun t v hv=> ?_,by simp[hI.blen],fun i cs2 k2 h1 h2 hne=> ?_,fun x p hx=> ?_,hI.step,fun i b hb=>hge i b (hI.ge i b hb)⟩
 ·exact Ra (θ:=id) hge (Le.refl _ _) (fun b hb=>⟨rfl,rfl,hother hb (by simp)⟩) (fun i b hb=>⟨rfl,rfl,hother hb (by simp)⟩) (hI.slots t v hv)
 ·by_cases hi:i < σ.bs.length
  ·rw[ZO hi]at h1;rw[ZO (by rw[hI.blen];exact hi)]at h2;exact YU hge (Le.refl _ _) (fun b hb=>⟨rfl,rfl,hother hb (by simp)⟩) (fun i b hb=>⟨rfl,rfl,hother hb (by simp)⟩) (hI.boxes i cs2 k2 h1 h2 hne)
  ·have hi2:i=σ.bs.length:=by
    rcases QL i (σ.bs ++ [cs]).length with h | h
    ·simp at h;omega
    ·rw[QT h]at h1;cases h1
   subst hi2;simp only[Wq]at h1;rw[<- hI.blen,Wq]at h2;injection h1 with h1
   injection h2 with h2
   subst h1 h2;exact hB
 ·unfold ZA at hx;split at hx
  ·rename_i hxb;subst hxb;exact hI.lt _ _ hν
  ·exact hI.lt x p hx
def Inv.toBox [Dr] (hI:Inv num N w0 m0 T β0 σ a w m β ν) {b:Nat} {cur:QW} {e:TypeId} {cs:Qf} (hb:w.heap[b]? =some (.cells cur e (0,0))) (hν:ν b=some .f) (hm:m b=0)
  (hz:cs.length<=cur.size)
  (hcs: ∀(i:Nat) (c:AV),cs[i]? =some c->∃u,cur[i]? =some u/\u.oneCell'=true/\Qa num β w m c u/\∀p w' m' ν',Q6 w' m' ν' p c u):
  Inv num N w0 m0 T β0 {σ with bs:=σ.bs ++ [cs]} a w m (β ++ [⟨b,cur.size,false,e⟩]) (ZA ν b (.g σ.bs.length)):=by
 refine hI.toBoxK (k:=⟨b,cur.size,false,e⟩) hν ⟨fun _=>⟨cur,e,hb,⟨rfl,hz⟩,hm,by simp[ZA],fun j c hc=> ?_⟩,fun q=>(by cases q),fun _=>⟨cur,hb⟩⟩;obtain⟨u,g1,g2,g3,g4⟩:=hcs j c hc;exact⟨u,g1,g2,QU (Ge.append β _) (Le.refl w m) c u g3,g4 _ _ _ _⟩
def C9 (ν:Own) (b:Nat) (p q:Pl):ZA (ZA ν b p) b q=ZA ν b q:=by
 funext x;unfold ZA;split <;> rfl
def Inv.addG [Dr] (hI:Inv num N w0 m0 T β0 σ a w m β ν) (cur:QW) (e:TypeId) (cs:Qf) (hz:cur.size=cs.length)
  (hcs: ∀(i:Nat) (c:AV),cs[i]? =some c->∃u,cur[i]? =some u/\u.oneCell'=true/\Qa num β w m c u/\∀p w' m' ν',Q6 w' m' ν' p c u):
  Inv num N w0 m0 T β0 {σ with bs:=σ.bs ++ [cs]} a (w.alloc (.cells cur e)) (m1 m w.heap.size 0) (β ++ [⟨w.heap.size,cur.size,false,e⟩]) (ZA ν w.heap.size (.g σ.bs.length)):=by
 have hF:=hI.fresh cur e 0 .f;have:=hF.toBox (cs:=cs) (heap_alloc_new w _) (by simp[ZA]) (by simp[m1]) (by omega) fun i c hc=>by
  obtain⟨u,g1,g2,g3,g4⟩:=hcs i c hc;exact⟨u,g1,g2,QU (Ge.refl β) (Zm.alloc (fun _=>False) w m cur e 0).le c u g3,g4⟩
 rwa[C9]at this
def Inv.kill [Dr] (hI:Inv num N w0 m0 T β0 σ a w m β ν) {id q:Nat} {cs:Qf} {k:Blk} (hs:σ.bs[id]? =some cs) (hk:β[id]? =some k/\k.mp=false) (hne:cs≠[]):
  Inv num N w0 m0 T β0 {σ with bs:=σ.bs.set id []} a w (m1 m k.b q) β (ZA ν k.b .f)/\Le w m w (m1 m k.b q):=by
 obtain⟨cur,e,h1,h2,h3,h4,h5⟩:=(hI.boxes id cs k hs hk.1 hne).1 hk.2;have hlt:id < σ.bs.length:=by
  rcases QL id σ.bs.length with h | h
  ·exact h
  ·rw[QT h]at hs;cases hs
 have hle:Le w m w (m1 m k.b q):=fun x i u h=>by
  obtain⟨g1,g2,_⟩:=Y1 h;have hx:x≠k.b:=fun e=>by subst e;omega
  unfold hg m1;rw[Qe hx,Qh g1];exact g2
 have hS:Zm (· =k.b) w m w (m1 m k.b q):=⟨rfl,rfl,rfl,Za _,fun x _ hx=>⟨rfl,by unfold m1;rw[Qe hx]⟩,hle,fun _=>Za _⟩;have hother: ∀{x:Nat} {p:Pl},ν x=some p->p≠ .g id->¬x=k.b/\ZA ν k.b .f x=some p:=fun {x p} hx hp=>by
  have hne: ¬x=k.b:=fun e=>by subst e;rw[h4]at hx;injection hx with hx;exact hp hx.symm
  exact⟨hne,by unfold ZA;rw[Qe hne];exact hx⟩
 refine⟨hI.next hS (fun x hx hxb=>by subst hxb;exact(hI.lt _ _ h4).2) (Ge.refl β) (fun _=>False) (fun t=>t=id)
  (fun x t h _=>hother h (by simp)) (fun x t i h _=>hother h (by simp)) (fun x t h hn=>hother h (by simpa using hn)) (fun x t i h hn=>hother h (by simp))
  (fun x p h=> ?_) (fun t hn=> .inl rfl) hI.out (fun t v hE hv=>hE.elim) (by simpa using hI.blen) (fun i hn=>by simp[WX (fun e=>hn e.symm)])
  (fun i cs2 b2 hE h6 h7=> ?_),hle⟩
 ·unfold ZA at h;split at h
  ·rename_i hxb;subst hxb;exact hI.lt _ _ h4
  ·exact hI.lt x p h
 ·subst hE;simp only[VN hlt]at h6;injection h6 with h6
  subst h6;exact fun h=>absurd rfl h
def Tw {cs:Qf} {o sz n i:Nat} {x:Qf} (h: (Yi cs o sz n)[i]? =some x):i < n/\x=((cs.drop (o+i*sz)).take sz).map AV.strip:=by
 unfold Yi at h;rw[Xm]at h;cases hi: (List.range n)[i]? with
 | none=>rw[hi]at h;cases h
 | some k=>
  rw[hi]at h;injection h with h
  obtain⟨h1,h2⟩:=List.getElem?_eq_some_iff.1 hi;rw[List.getElem_range]at h2;rw[List.length_range]at h1;subst h2;exact⟨h1,h.symm⟩
def Xn (cs:Qf) (o sz n:Nat): (Yi cs o sz n).length=n:=by simp[Yi]
def Qt:=@Option.bind_some
def Uc:=@Nat.mul_pos
def R4:=@Nat.pos_of_ne_zero
def QX:=@List.length_nil
def ZZ:=@Nat.mul_le_mul_right
def Ws:=@List.getElem?_take
def YM:=@List.getElem?_drop
def SP:=@decide_true
def Inv.frz [Dr] (hI:Inv num N w0 m0 T β0 σ a w m β ν) {n sz:Nat} (he:XW σ n sz=some (v,σ1)):
  ∃m' ν',Inv num N w0 m0 T β0 σ1 a w m' β ν'/\Le w m w m'/\v.ok=true/\Qa num β w m' v (a.tmps.getD n undef)/\Q6 w m' ν' .f v (a.tmps.getD n undef):=by
 unfold XW at he;split at he
 ·rename_i id o sz1 k hn;split at he
  ·rename_i hc;obtain⟨rfl,hsz⟩:=hc;obtain⟨_,h2⟩:=hI.at_ (n:=n) (by rw[hn];simp);have h3:=hI.slots n _ h2;rw[hn]at h3;obtain⟨h3,_⟩:=h3;simp only[Qa]at h3;obtain⟨A,cap,hu,q1,q2,q3⟩:=h3;split at he
   ·rename_i hk0;injection he with he
    injection he with e1 e2
    subst e1 e2 hk0;refine⟨m,_,hI.takeSlot n,Le.refl w m,rfl,?_,trivial⟩;simp only[Qa];exact⟨A,0,cap,hu,rfl,q1,q2,.inl trivial⟩
   ·rename_i hk0;cases hbs:σ.bs[id]? with
    | none=>rw[hbs]at he;cases he
    | some cs=>
     rw[hbs]at he;simp only[Qt]at he;split at he
     ·rename_i hl;injection he with he
      injection he with e1 e2
      subst e1 e2;rcases q3 with q3 | ⟨kb,q3,rfl,q4,_⟩
      ·exact absurd q3.1 hk0
      ·have hkm:0 < k*sz1:=Uc (R4 hk0) hsz;have hne:cs≠[]:=fun e=>by rw[e]at hl;simp only[QX]at hl;omega
       obtain⟨cur,e,p1,p2,p3,p4,p5⟩:=(hI.boxes id cs kb hbs q3.1 hne).1 q3.2;obtain⟨hK,hle⟩:=(hI.takeSlot n).kill (id:=id) (q:=o+k*sz1) hbs q3 hne;refine⟨_,_,hK,hle,rfl,?_,?_⟩
       ·simp only[Qa];refine⟨_,k,cap,hu,Xn _ _ _ _,q1,q2,.inr ⟨kb.b,o,rfl,?_⟩⟩;rw[Yk];intro i x hx;obtain⟨hi,rfl⟩:=Tw hx;have hi2:i*sz1+sz1<=k*sz1:=by rw[<- WI];exact ZZ _ hi
        refine⟨by simp;omega,?_⟩;rw[Zp];intro j c hc;obtain⟨d,hd,rfl⟩:=Q0 hc;rw[Ws]at hd;split at hd
        ·rename_i hj;rw[YM]at hd;obtain⟨u,r1,r2,r3,_⟩:=p5 _ d hd;refine⟨u,?_,r2,by rw[QE];exact QU (Ge.refl β) hle d u r3⟩;unfold hg m1;rw[Qh rfl,Qh (by omega),cell_of_row w kb.b _ cur e (0,0) p1];exact r1
        ·cases hd
       ·by_cases ho:o=0
        ·subst ho;simp only[SP,Q6];refine .inr ⟨kb.b,cap,cur,e,by rw[Xn];exact hu,p1,by omega,by simp[m1,Xn],by simp[ZA]⟩
        ·simp only[ho,decide_false];exact trivial
     ·cases he
  ·split at he
   ·rename_i hz;obtain⟨rfl,rfl⟩:=hz;injection he with he
    injection he with e1 e2
    subst e1 e2;obtain⟨_,h2⟩:=hI.at_ (n:=n) (by rw[hn];simp);have h3:=hI.slots n _ h2;rw[hn]at h3;obtain⟨h3,_⟩:=h3;simp only[Qa]at h3;obtain⟨A,cap,hu,q1,q2,q3⟩:=h3;have hc0:cap=0:=by
     rcases q3 with q3 | ⟨_,_,_,_,h5⟩
     ·simpa using q3.2.1
     ·omega
    subst hc0;refine⟨m,_,hI.takeSlot n,Le.refl w m,rfl,?_,.inl ⟨A,0,hu⟩⟩;simp only[Qa];exact⟨A,0,0,hu,rfl,q1,q2,.inl trivial⟩
   ·cases he
 ·cases he
def Lv [Dr] {cs:Qf} (h:QV cs=true):QV (cs.map AV.strip)=true:=by
 rw[UZ]at h ⊢;intro i c hc;obtain⟨d,hd,rfl⟩:=Q0 hc;rw[Is];exact h i d hd
def QcG [Dr] {x:AO} {y:Operand} {t:TypeId} (hI:Inv num N w0 m0 T β0 σ a w m β ν) (ho:o.op= .box t y) (hxy:okO num x y=true)
  (he:Qg K (.gbox x) σ=some (v,σ1)) (h:Aft num N w0 m0 T β0 σ1 a v fun u w'=>next (a.put o.dst u) w'):o.wp P a w next Q:=by
 simp only[Qg]at he;cases hc:cellsOf (val σ.env x)with
 | none=>rw[hc]at he;cases he
 | some cs=>
  rw[hc]at he
  ·injection he with he
   injection he with h1 h2
   subst h1 h2;have hk: (val σ.env x).ok=true:=by
    cases hv:val σ.env x <;> rw[hv]at hc <;> simp[cellsOf,AV.one]at hc <;> rfl
   have hv:=(hI.val hxy hk).1;obtain⟨_,hz,hcs⟩:=Y6 hc hv;refine Qj (u:= .pointer (some ⟨w.heap.size,0,none⟩)) (w':=w.alloc (.cells (a.eval y).cells t)) (by simp[execOp,ho,Instr.box,newVar,newRow]) ?_;refine h _ _ _ _ _ (hI.addG (a.eval y).cells t (cs.map AV.strip) (by simpa using hz) fun i c hci=> ?_) ?_
   ·obtain⟨d,hd,rfl⟩:=Q0 hci;obtain⟨u,g1,g2,g3⟩:=hcs i d hd;exact⟨u,g1,g2,by rw[QE];exact g3,fun _ _ _ _=>ZK _ _ _⟩
   ·refine(QD rfl).2 ⟨?_,trivial⟩;simp only[Qa];exact⟨⟨w.heap.size,(a.eval y).cells.size,false,t⟩,⟨by rw[<- hI.blen];simp,rfl⟩,rfl⟩
def CN [Dr] {zs:Qf} {t:TypeId} (hI:Inv num N w0 m0 T β0 σ a w m β ν) (ho:o.op= .alloc t) (hz:VJ P t zs=true)
  (he:Qg K (.galloc zs) σ=some (v,σ1)) (h:Aft num N w0 m0 T β0 σ1 a v fun u w'=>next (a.put o.dst u) w'):o.wp P a w next Q:=by
 simp only[Qg]at he
 ·injection he with he
  injection he with h1 h2
  subst h1 h2;obtain⟨z,hr,hc⟩:=Uz (w:=w) hz;obtain⟨hl,hcs⟩:=ZX _ _ hc;refine Qj (u:= .pointer (some ⟨w.heap.size,0,none⟩)) (w':=w.alloc (.cells z.cells t)) (by simp[execOp,ho,Instr.alloc,newVar,newRow,hr]) ?_;refine h _ _ _ _ _ (hI.addG z.cells t zs (by simpa using hl) fun i c hci=> ?_) ?_
  ·obtain⟨u,g1,g2⟩:=hcs i c hci;have hg:=Q5 (num:=num) (β:=β) (w:=w) (m:=m) (ν:=ν) g2;exact⟨u,by simpa using g1,hg.2.1,hg.1,fun p w' m' ν'=>(Q5 (num:=num) (β:=β) (w:=w') (m:=m') (ν:=ν') g2).2.2 p⟩
  ·refine(QD rfl).2 ⟨?_,trivial⟩;simp only[Qa];exact⟨⟨w.heap.size,z.cells.size,false,t⟩,⟨by rw[<- hI.blen];simp,rfl⟩,rfl⟩
def QcF [Dr] {T0:Nat} {zs:Qf} {t:TypeId} (hI:Inv num N w0 m0 T β0 σ a w m β ν) (ho:o.op= .alloc t) (hT:T0=t) (hz:VJ P t zs=true)
  (he:Qg K (.galt T0 zs) σ=some (v,σ1)) (h:Aft num N w0 m0 T β0 σ1 a v fun u w'=>next (a.put o.dst u) w'):o.wp P a w next Q:=by
 subst hT;simp only[Qg]at he;split at he
 ·rename_i h2z;injection he with he
  injection he with h1 h2
  subst h1 h2;obtain⟨z,hr,hc⟩:=Uz (w:=w) hz;obtain⟨hl,hcs⟩:=ZX _ _ hc;refine Qj (u:= .pointer (some ⟨w.heap.size,0,none⟩)) (w':=w.alloc (.cells z.cells T0)) (by simp[execOp,ho,Instr.alloc,newVar,newRow,hr]) ?_;refine h _ _ _ _ _ (hI.addG z.cells T0 zs (by simpa using hl) fun i c hci=> ?_) ?_
  ·obtain⟨u,g1,g2⟩:=hcs i c hci;have hg:=Q5 (num:=num) (β:=β) (w:=w) (m:=m) (ν:=ν) g2;exact⟨u,by simpa using g1,hg.2.1,hg.1,fun p w' m' ν'=>(Q5 (num:=num) (β:=β) (w:=w') (m:=m') (ν:=ν') g2).2.2 p⟩
  ·refine(QD rfl).2 ⟨?_,trivial⟩;simp only[Qa];exact⟨⟨w.heap.size,z.cells.size,false,T0⟩,⟨by rw[<- hI.blen];simp,rfl⟩,rfl,(by have h9:=hl;simp at h9;show z.cells.size=2;omega),rfl⟩
 ·cases he
end
end Go.Am
namespace Go.Am
def Zv (P:Program) (t:TypeId) (sz:Nat):Bool:=match P.info? t with
 | some i=>decide (i.size=sz)
 | none=>false
def YX (P:Program) (t:TypeId) (ag:Bool):Bool:=match P.underlying t with
 | some (.struct _)=>ag
 | some (.array _ _)=>ag
 | some _=> !ag
 | none=>false
def UK (P:Program) (s:TypeId) (f off:Nat):Bool:=match P.underlying s with
 | some (.struct fs)=>match fs[f]? with
  | some fl=>decide (fl.offset=off) && (match P.info? fl.type with
   | some i=>decide (i.size≠0)
   | none=>false)
  | none=>false
 | _=>false
def Vi (a:Act) (q s off:Nat):Prop:=∃b,a.tmps.getD s undef= .pointer (some ⟨b,0,none⟩)/\a.tmps.getD q undef= .pointer (some ⟨b,off,none⟩)
section
variable {P:Program} {num:Nat->Option Nat} {β:List Blk} {w w':World} {m:Nat->Nat} {ν:Own} {N:Nat} {w0:World} {m0:Nat->Nat} {T:Nat->Prop} {β0:List Blk} {σ σ1:St} {a:Act}
 {o:Oper} {next:Act->World->Prop} {Q:Exit->Act->World->Prop} {K:ZJ} {v:AV}
def Zc {t:TypeId} {sz:Nat} (h:Zv P t sz=true): (sizeOf t).run P w= .ok sz w:=by
 unfold Zv at h;split at h
 ·rename_i i hi;simp only[Qm]at h;simp[sizeOf,typeInfo,hi,h]
 ·cases h
def Z6 {t:TypeId} {ag:Bool} (h:YX P t ag=true): (isAgg t).run P w= .ok ag w:=by
 unfold YX at h;split at h
 ·rename_i hu;subst h;simp[isAgg,run_underlying hu]
 ·rename_i hu;subst h;simp[isAgg,run_underlying hu]
 ·rename_i d hu h1 h2;have:ag=false:=by simpa using h
  subst this;simp only[isAgg,Sem.run_bind,run_underlying h2,Result.andThen_ok];rfl
 ·cases h
def ZI (b o n:Nat):Addr.add ⟨b,o,none⟩ n=⟨b,o+n,none⟩:=Addr.add_lit b o n
def Zo:=@Bool.false_eq_true
def QC:=@if_false
def XC:=@List.getElem?_take_of_lt
def Xt [Dr] {t:TypeId} {off sz:Nat} {ag:Bool} (hs:Zv P t sz=true) (ha:YX P t ag=true) {b o:Nat} {cs:Qf} (hrd:Z8 cs off sz ag=some v)
  (hc: ∀(i:Nat) (c:AV),cs[i]? =some c->∃u,w.cell? ⟨b,o+i,none⟩=some u/\u.oneCell'=true/\Qa num β w m c u):
  ∃u,(loadVar t ⟨b,o+off,none⟩).run P w= .ok u w/\v.ok=true/\Qa num β w m v u/\∀p,Q6 w m ν p v u:=by
 unfold Z8 at hrd;split at hrd
 ·rename_i hle;cases ag
  ·simp only[Zo,QC]at hrd;split at hrd
   ·cases hco:cs[off]? with
    | none=>rw[hco]at hrd;cases hrd
    | some c=>
     rw[hco]at hrd;simp only[Qt]at hrd;split at hrd
     ·rename_i h1;injection hrd with hrd
      subst hrd;obtain⟨u,g1,g2,g3⟩:=hc off c hco;refine⟨u,?_,?_,by rw[QE];exact g3,fun p=>ZK _ _ _⟩
      ·simp only[loadVar,Sem.run_bind,Z6 ha,Result.andThen_ok,Zo,QC,run_load,g1]
      ·rw[Se];cases c <;> first | rfl | simp[AV.one]at h1
     ·cases hrd
   ·cases hrd
  ·simp only[QF]at hrd;injection hrd with hrd
   subst hrd;have hget: ∀j,j < sz->∃c,cs[off+j]? =some c:=fun j hj=>⟨_,Zr (by omega)⟩
   let f:Nat->Value:=fun j=>(w.cell? ⟨b,o+off+j,none⟩).getD undef
   have hf: ∀j,j < sz->w.cell? ((⟨b,o+off,none⟩:Addr).add j)=some (f j):=fun j hj=>by
    obtain⟨c,hcj⟩:=hget j hj;obtain⟨u,g1,_,_⟩:=hc _ c hcj;rw[ZI];rw[show o+ (off+j)=o+off+j by omega]at g1;simp[f,g1]
   refine⟨.agg ((List.range sz).map f).toArray,?_,rfl,?_,fun p=>trivial⟩
   ·simp only[loadVar,Sem.run_bind,Z6 ha,Zc hs,Result.andThen_ok,QF];rw[run_loadCells w _ sz f hf];rfl
   ·simp only[Qa];refine⟨_,rfl,by simp;omega,?_⟩;rw[Zp];intro i c hci;obtain⟨d,hd,rfl⟩:=Q0 hci;have hisz:i < sz:=by
     rcases QL i sz with h | h
     ·exact h
     ·rw[QT (by simp;omega)]at hd;cases hd
    rw[XC hisz,YM]at hd;obtain⟨u,g1,g2,g3⟩:=hc _ d hd;refine⟨u,?_,g2,by rw[QE];exact g3⟩;rw[show o+ (off+i)=o+off+i by omega]at g1;simp[f,hisz,g1]
 ·cases hrd
def Inv.box_at [Dr] (hI:Inv num N w0 m0 T β0 σ a w m β ν) {s q off:Nat} {cs:Qf} (hs:σ.env s= .bx cs) (hp:Vi a q s off\/(q=s/\off=0)):
  ∃b cur e,a.tmps[s]? =some (.pointer (some ⟨b,0,none⟩))/\a.eval (.tmp q)= .pointer (some ⟨b,off,none⟩)/\w.heap[b]? =some (.cells cur e (0,0))/\cur.size=cs.length/\
   ∀(i:Nat) (c:AV),cs[i]? =some c->∃u,cur[i]? =some u/\u.oneCell'=true/\Qa num β w m c u/\Q6 w m ν (.c s i) c u:=by
 obtain⟨_,h2⟩:=hI.at_ (n:=s) (by rw[hs];simp);have h3:=hI.slots s _ h2;rw[hs]at h3;obtain⟨b,h4,cur,e,h5,h6,h7,h8,h9⟩:=h3;refine⟨b,cur,e,by rw[h2,h4],?_,h5,h6.1,h9⟩;rcases hp with⟨b2,p1,p2⟩ | ⟨rfl,rfl⟩
 ·rw[h4]at p1;injection p1 with p1
  injection p1 with p1
  injection p1 with p1
  subst p1;exact p2
 ·exact h4
def QP:=@Nat.zero_add
def Qht [Dr] {s q off sz:Nat} {ag:Bool} {t:TypeId} (hI:Inv num N w0 m0 T β0 σ a w m β ν) (ho:o.op= .load t (.tmp q)) (hs:Zv P t sz=true) (ha:YX P t ag=true)
  (hp:Vi a q s off\/(q=s/\off=0)) (he:Qg K (.ldf s off sz ag) σ=some (v,σ1)) (h:Aft num N w0 m0 T β0 σ1 a v fun u w'=>next (a.put o.dst u) w'):o.wp P a w next Q:=by
 simp only[Qg]at he;split at he
 ·rename_i cs hcs;cases hr:Z8 cs off sz ag with
  | none=>rw[hr]at he;cases he
  | some v2=>
   rw[hr]at he;injection he with he
   injection he with h1 h2
   subst h1 h2;obtain⟨b,cur,e,_,hq,hb,hz,hc⟩:=hI.box_at hcs hp;obtain⟨u,g1,g2,g3,g4⟩:=Xt (w:=w) (num:=num) (β:=β) (m:=m) (ν:=ν) (o:=0) (b:=b) hs ha hr (fun i c hi=>by
    obtain⟨u,k1,k2,k3,_⟩:=hc i c hi;exact⟨u,by rw[QP,cell_of_row w b i cur e (0,0) hb];exact k1,k2,k3⟩)
   refine Qj (u:=u) (w':=w) ?_ (h.same hI g2 g3 (g4 _));rw[QP]at g1;simp only[execOp,ho,Instr.loadAt,hq,Instr.sureAddr,Sem.run_bind,Sem.run_pure,Result.andThen_ok,g1]
 ·cases he
def WH:=@Nat.add_zero
def QiV [Dr] {p sz:Nat} {ag:Bool} {t:TypeId} (hI:Inv num N w0 m0 T β0 σ a w m β ν) (ho:o.op= .load t (.tmp p)) (hs:Zv P t sz=true) (ha:YX P t ag=true)
  (he:Qg K (.ld p sz ag) σ=some (v,σ1)) (h:Aft num N w0 m0 T β0 σ1 a v fun u w'=>next (a.put o.dst u) w'):o.wp P a w next Q:=by
 simp only[Qg]at he;split at he
 ·rename_i cs hcs;cases hr:Z8 cs 0 sz ag with
  | none=>rw[hr]at he;cases he
  | some v2=>
   rw[hr]at he;injection he with he
   injection he with h1 h2
   subst h1 h2;obtain⟨_,h2⟩:=hI.at_ (n:=p) (by rw[hcs];simp);have h3:=hI.slots p _ h2;rw[hcs]at h3;obtain⟨h3,_⟩:=h3;simp only[Qa]at h3;obtain⟨b,o2,h4,h5⟩:=h3;rw[Zp]at h5;obtain⟨u,g1,g2,g3,g4⟩:=Xt (w:=w) (num:=num) (β:=β) (m:=m) (ν:=ν) (o:=o2) (b:=b) hs ha hr (fun i c hi=>by
    obtain⟨u,k1,k2,k3⟩:=h5 i c hi;exact⟨u,(Y1 k1).2.1,k2,k3⟩)
   refine Qj (u:=u) (w':=w) ?_ (h.same hI g2 g3 (g4 _));rw[WH]at g1;have hq:a.eval (.tmp p)= .pointer (some ⟨b,o2,none⟩):=h4;simp only[execOp,ho,Instr.loadAt,hq,Instr.sureAddr,Sem.run_bind,Sem.run_pure,Result.andThen_ok,g1]
 ·cases he
def Lf {α:Type} {cs:List α} {i:Nat} {c:α} (h:cs[i]? =some c):cs≠[]:=fun e=>by rw[e]at h;simp at h
def Qhu [Dr] {p sz:Nat} {ag:Bool} {t:TypeId} (hI:Inv num N w0 m0 T β0 σ a w m β ν) (ho:o.op= .load t (.tmp p)) (hs:Zv P t sz=true) (ha:YX P t ag=true)
  (he:Qg K (.ldg p sz ag) σ=some (v,σ1)) (h:Aft num N w0 m0 T β0 σ1 a v fun u w'=>next (a.put o.dst u) w'):o.wp P a w next Q:=by
 simp only[Qg]at he;split at he
 ·rename_i i off hcs;cases hbs:σ.bs[i]? with
  | none=>rw[hbs]at he;cases he
  | some cs=>
   rw[hbs]at he;simp only[Qt]at he;cases hr:Z8 cs off sz ag with
   | none=>rw[hr]at he;cases he
   | some v2=>
    rw[hr]at he;injection he with he
    injection he with h1 h2
    subst h1 h2;obtain⟨_,h2⟩:=hI.at_ (n:=p) (by rw[hcs];simp);have h3:=hI.slots p _ h2;rw[hcs]at h3;obtain⟨h3,_⟩:=h3;simp only[Qa]at h3;obtain⟨⟨b,z,mp,ty⟩,h4,h5⟩:=h3;obtain⟨u,g1,g2,g3,g4⟩:=Xt (w:=w) (num:=num) (β:=β) (m:=m) (ν:=ν) (o:=0) (b:=b) hs ha hr (fun j c hi=>by
     obtain⟨cur,e,k1,k2,_,_,hc⟩:=(hI.boxes i cs _ hbs h4.1 (Lf hi)).1 h4.2;obtain⟨u,c1,c2,c3,_⟩:=hc j c hi;exact⟨u,by rw[QP,cell_of_row w b j cur e (0,0) k1];exact c1,c2,c3⟩)
    refine Qj (u:=u) (w':=w) ?_ (h.same hI g2 g3 (g4 _));rw[QP]at g1;have hq:a.eval (.tmp p)= .pointer (some ⟨b,off,none⟩):=h5;simp only[execOp,ho,Instr.loadAt,hq,Instr.sureAddr,Sem.run_bind,Sem.run_pure,Result.andThen_ok,g1]
 ·cases he
def VG {c:AV} (h:c.one=true):c.ok=true:=by cases c <;> first | rfl | simp[AV.one]at h
def QcJ [Dr] {s q off:Nat} {t:TypeId} (hI:Inv num N w0 m0 T β0 σ a w m β ν) (ho:o.op= .load t (.tmp q)) (ha:YX P t false=true)
  (hp:Vi a q s off\/(q=s/\off=0)) (he:Qg K (.ldfm s off) σ=some (v,σ1)) (h:Aft num N w0 m0 T β0 σ1 a v fun u w'=>next (a.put o.dst u) w'):o.wp P a w next Q:=by
 simp only[Qg]at he;split at he
 ·rename_i cs hcs;cases hr:cs[off]? with
  | none=>rw[hr]at he;cases he
  | some c=>
   rw[hr]at he;simp only[Qt]at he;split at he
   ·rename_i h1c;injection he with he
    injection he with h1 h2
    subst h1 h2;obtain⟨b,cur,e,_,hq,hb,hz,hc⟩:=hI.box_at hcs hp;obtain⟨u,k1,k2,k3,k4⟩:=hc off c hr;have hcell:w.cell? ⟨b,off,none⟩=some u:=by rw[cell_of_row w b off cur e (0,0) hb];exact k1
    refine Qj (u:=u) (w':=w) ?_ ?_
    ·simp only[execOp,ho,Instr.loadAt,hq,Instr.sureAddr,Sem.run_bind,Sem.run_pure,Result.andThen_ok,loadVar,Z6 ha,Zo,QC,run_load,hcell]
    ·refine h u w m β _ (hI.takeCell s off hcs) ((QD (VG h1c)).2 ⟨k3,?_⟩);have:=X2 (θ:=mv (.c s off) .f) k4;rwa[show mv (.c s off) .f (.c s off)= .f by simp[mv]]at this
   ·cases he
 ·cases he
def Qhv [Dr] {p:Nat} {t:TypeId} (hI:Inv num N w0 m0 T β0 σ a w m β ν) (ho:o.op= .load t (.tmp p)) (ha:YX P t false=true)
  (he:Qg K (.ldm p) σ=some (v,σ1)) (h:Aft num N w0 m0 T β0 σ1 a v fun u w'=>next (a.put o.dst u) w'):o.wp P a w next Q:=by
 simp only[Qg]at he;split at he
 ·rename_i i off hcs;cases hbs:σ.bs[i]? with
  | none=>rw[hbs]at he;cases he
  | some cs=>
   rw[hbs]at he;simp only[Qt]at he;cases hr:cs[off]? with
   | none=>rw[hr]at he;cases he
   | some c=>
    rw[hr]at he;simp only[Qt]at he;split at he
    ·rename_i h1c;injection he with he
     injection he with h1 h2
     subst h1 h2;obtain⟨_,h2⟩:=hI.at_ (n:=p) (by rw[hcs];simp);have h3:=hI.slots p _ h2;rw[hcs]at h3;obtain⟨h3,_⟩:=h3;simp only[Qa]at h3;obtain⟨⟨b,z,mp,ty⟩,h4,h5⟩:=h3;obtain⟨cur,e,k1,k2,_,_,hc⟩:=(hI.boxes i cs _ hbs h4.1 (Lf hr)).1 h4.2;obtain⟨u,c1,c2,c3,c4⟩:=hc off c hr;have hcell:w.cell? ⟨b,off,none⟩=some u:=by rw[cell_of_row w b off cur e (0,0) k1];exact c1
     have hq:a.eval (.tmp p)= .pointer (some ⟨b,off,none⟩):=h5;refine Qj (u:=u) (w':=w) ?_ ?_
     ·simp only[execOp,ho,Instr.loadAt,hq,Instr.sureAddr,Sem.run_bind,Sem.run_pure,Result.andThen_ok,loadVar,Z6 ha,Zo,QC,run_load,hcell]
     ·refine h u w m β _ (hI.takeG i off hbs h4) ((QD (VG h1c)).2 ⟨c3,?_⟩);have:=X2 (θ:=mv (.gc i off) .f) c4;rwa[show mv (.gc i off) .f (.gc i off)= .f by simp[mv]]at this
    ·cases he
 ·cases he
def U3 [Dr] {s:TypeId} {f off b o2:Nat} (h:UK P s f off=true): (Instr.fieldAt s (.pointer (some ⟨b,o2,none⟩)) f).run P w= .ok (.pointer (some ⟨b,o2+off,none⟩)) w:=by
 unfold UK at h;split at h
 ·rename_i fs hu;split at h
  ·rename_i fl hf;simp only[Qi,Qm]at h;obtain⟨h1,h2⟩:=h;split at h2
   ·rename_i i hi;simp only[ne_eq,Qm]at h2;simp[Instr.fieldAt,run_underlying hu,hf,Instr.sureAddr,fieldPlace,sizeOf,typeInfo,hi,h2,ZI,h1]
   ·cases h2
  ·cases h
 ·cases h
def LG (P:Program) (t:TypeId) (i:Int) (off:Nat):Bool:=match P.underlying t with
 | some (.array n e)=>decide (0<=i/\i < n) && (match P.info? e with
  | some inf=>decide (i.toNat* inf.size=off)
  | none=>false)
 | _=>false
def I5 [Dr] {s:TypeId} {i:Int} {k:IntKind} {off b o2:Nat} (h:LG P s i off=true): (Instr.indexAt s (.pointer (some ⟨b,o2,none⟩)) (.int k i)).run P w= .ok (.pointer (some ⟨b,o2+off,none⟩)) w:=by
 unfold LG at h;split at h
 ·rename_i n e hu;simp only[Qi,Qm]at h;obtain⟨h1,h2⟩:=h;split at h2
  ·rename_i inf hi;simp only[Qm]at h2;simp[Instr.indexAt,asIntOf,run_underlying hu,Instr.sureAddr,sizeOf,typeInfo,hi,h1,h2,Result.andThen,Addr.add]
  ·cases h2
 ·cases h
def QcD [Dr] {s:TypeId} {q off b o2:Nat} {k:IntKind} {i:Int} (hI:Inv num N w0 m0 T β0 σ a w m β ν) (ho:o.op= .indexAddr s (.tmp q) (.const (.int k i))) (hf:LG P s i off=true)
  {s2 off2:Nat} (hq:a.eval (.tmp q)= .pointer (some ⟨b,o2,none⟩)) (he:Qg K (.fad s2 off2) σ=some (v,σ1))
  (h:Inv num N w0 m0 T β0 σ1 a w m β ν->v= .undef->next (a.put o.dst (.pointer (some ⟨b,o2+off,none⟩))) w):o.wp P a w next Q:=by
 simp only[Qg]at he;split at he
 ·injection he with he
  injection he with h1 h2
  subst h1 h2;have hk:a.eval (.const (.int k i))= .int k i:=rfl;exact Qj (u:= .pointer (some ⟨b,o2+off,none⟩)) (w':=w) (by simp only[execOp,ho,hq,hk,Sem.run_bind,I5 hf,Result.andThen_ok,Sem.run_pure]) (h hI rfl)
 ·cases he
def CL [Dr] {s:TypeId} {q f off b o2:Nat} (hI:Inv num N w0 m0 T β0 σ a w m β ν) (ho:o.op= .fieldAddr s (.tmp q) f) (hf:UK P s f off=true)
  {s2 off2:Nat} (hq:a.eval (.tmp q)= .pointer (some ⟨b,o2,none⟩)) (he:Qg K (.fad s2 off2) σ=some (v,σ1))
  (h:Inv num N w0 m0 T β0 σ1 a w m β ν->v= .undef->next (a.put o.dst (.pointer (some ⟨b,o2+off,none⟩))) w):o.wp P a w next Q:=by
 simp only[Qg]at he;split at he
 ·injection he with he
  injection he with h1 h2
  subst h1 h2;exact Qj (u:= .pointer (some ⟨b,o2+off,none⟩)) (w':=w) (by simp only[execOp,ho,hq,Sem.run_bind,U3 hf,Result.andThen_ok,Sem.run_pure]) (h hI rfl)
 ·cases he
def T1:=@Nat.add_assoc
def QcE [Dr] {s:TypeId} {p f off:Nat} (hI:Inv num N w0 m0 T β0 σ a w m β ν) (ho:o.op= .fieldAddr s (.tmp p) f) (hf:UK P s f off=true)
  (he:Qg K (.fadr p off) σ=some (v,σ1)) (h:Aft num N w0 m0 T β0 σ1 a v fun u w'=>next (a.put o.dst u) w'):o.wp P a w next Q:=by
 simp only[Qg]at he;split at he
 ·rename_i i o2 hcs;injection he with he
  injection he with h1 h2
  subst h1 h2;obtain⟨_,h2⟩:=hI.at_ (n:=p) (by rw[hcs];simp);have h3:=hI.slots p _ h2;rw[hcs]at h3;obtain⟨h3,_⟩:=h3;simp only[Qa]at h3;obtain⟨⟨b,z,mp,ty⟩,h4,h5⟩:=h3;have hq:a.eval (.tmp p)= .pointer (some ⟨b,o2,none⟩):=h5;refine Qj (u:= .pointer (some ⟨b,o2+off,none⟩)) (w':=w) (by simp only[execOp,ho,hq,Sem.run_bind,U3 hf,Result.andThen_ok,Sem.run_pure]) (h.same hI rfl ?_ trivial);simp only[Qa];exact⟨⟨b,z,mp,ty⟩,h4,rfl⟩
 ·rename_i ty i hcs;injection he with he
  injection he with h1 h2
  subst h1 h2;obtain⟨_,h2⟩:=hI.at_ (n:=p) (by rw[hcs];simp);have h3:=hI.slots p _ h2;rw[hcs]at h3;have h4:=((QD (c:= .gt ty i) rfl).1 h3).1;simp only[Qa]at h4;obtain⟨kb,h4,_,_,h5⟩:=h4;have hq:a.eval (.tmp p)= .pointer (some ⟨kb.b,0,none⟩):=h5;refine Qj (u:= .pointer (some ⟨kb.b,0+off,none⟩)) (w':=w) (by simp only[execOp,ho,hq,Sem.run_bind,U3 hf,Result.andThen_ok,Sem.run_pure]) (h.same hI rfl ?_ trivial);simp only[Qa,QP];exact⟨kb,h4,rfl⟩
 ·rename_i cs hcs;injection he with he
  injection he with h1 h2
  subst h1 h2;obtain⟨_,h2⟩:=hI.at_ (n:=p) (by rw[hcs];simp);have h3:=hI.slots p _ h2;rw[hcs]at h3;obtain⟨h3,_⟩:=h3;simp only[Qa]at h3;obtain⟨b,o2,h4,h5⟩:=h3;have hq:a.eval (.tmp p)= .pointer (some ⟨b,o2,none⟩):=h4;refine Qj (u:= .pointer (some ⟨b,o2+off,none⟩)) (w':=w) (by simp only[execOp,ho,hq,Sem.run_bind,U3 hf,Result.andThen_ok,Sem.run_pure]) (h.same hI rfl ?_ trivial);simp only[Qa];refine⟨b,o2+off,rfl,?_⟩;rw[Zp]at h5 ⊢;intro i c hc;rw[YM]at hc;obtain⟨u,g1,g2,g3⟩:=h5 _ c hc;exact⟨u,by rw[T1];exact g1,g2,g3⟩
 ·cases he
end
end Go.Am
