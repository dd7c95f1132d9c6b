/-
  Am4, Am5, Am6.
-/
import Derived.Test.YtmlbijpbecpjoaaGreatDoorG00
set_option linter.all false
namespace Go.Am
section
variable {num:Nat->Option Nat} {β β':List Blk} {w w':World} {m m':Nat->Nat} {ν ν':Own} {N:Nat} {w0:World} {m0:Nat->Nat} {T:Nat->Prop} {β0:List Blk} {σ σ':St} {a:Act}
def m1 (m:ZF) (b k:Nat):ZF:=fun x=>if x=b then k else m x
def Yb (ν:Own) (b:Nat) (p:Pl):Own:=fun x=>if x=b then some p else ν x
def Yg (ν:Own) (θ:Pl->Pl):Own:=fun b=>(ν b).map θ
def Wz {b i:Nat} {u:Value} (h:hg w m b i=some u):i < m b/\w.cell? ⟨b,i,none⟩=some u/\b < w.heap.size:=by
 unfold hg at h;split at h
 ·rename_i hi;exact⟨hi,h,block_lt_of_cell (a:=⟨b,i,none⟩) h⟩
 ·cases h
def Qm:=@if_neg
def Qn:=@if_pos
def ZO.allocO [Dr] (X:Nat->Prop) (w:World) (m:ZF) (ob:Obj) (k:Nat):ZO X w m (w.alloc ob) (m1 m w.heap.size k):=by
 refine⟨rfl,rfl,rfl,by simp,fun b hb _=>⟨Go.RowKit.Below.heap_alloc w _ b hb,by unfold m1;rw[Qm (by omega)]⟩,fun b i u h=> ?_,fun _=>ZJ _⟩;obtain⟨h1,h2,h3⟩:=Wz h;unfold hg m1;rw[Qm (show ¬b=w.heap.size by omega),Qn h1,World.cell?_alloc_lt w _ ⟨b,i,none⟩ h3];exact h2
def ZO.alloc [Dr] (X:Nat->Prop) (w:World) (m:ZF) (cur:Ze) (e:TypeId) (k:Nat):ZO X w m (w.alloc (.cells cur e)) (m1 m w.heap.size k):=ZO.allocO X w m _ k
def ZO.drew [Dr] (X:Nat->Prop) (w:World) (m:ZF):ZO X w m w.drew m:=
 ⟨rfl,rfl,rfl,ZJ _,fun _ _ _=>⟨rfl,rfl⟩,fun _ _ _ h=>h,fun _=>Nat.le_succ _⟩
def ZO.setRow [Dr] {b:Nat} {cur cur':Ze} {e:TypeId} {k:Nat} (hb:w.heap[b]? =some (.cells cur e (0,0)))
  (hs: ∀(i:Nat) (u:Value),i < m b->cur[i]? =some u->cur'[i]? =some u) (hk:m b<=k):ZO (· =b) w m (w.setRow b cur') (m1 m b k):=by
 refine⟨rfl,rfl,rfl,by simp,fun x _ hx=>⟨setRow_other w b x cur' hx,by unfold m1;rw[Qm hx]⟩,fun x i u h=> ?_,fun _=>ZJ _⟩;obtain⟨h1,h2,h3⟩:=Wz h;unfold hg m1;by_cases hx:x=b
 ·subst hx;rw[Qn rfl,Qn (by omega),cell_setRow_same w x i cur cur' e (0,0) hb];rw[cell_of_row w x i cur e (0,0) hb]at h2;exact hs i u h1 h2
 ·rw[Qm hx,Qn h1,cell_setRow_other w b cur' ⟨x,i,none⟩ hx];exact h2
def Zv:=@List.getElem?_eq_getElem
def Inv.next [Dr] {X:Nat->Prop} (hI:Inv num N w0 m0 T β0 σ a w m β ν) (hS:ZO X w m w' m') (hX: ∀b,b < w.heap.size->X b->w0.heap.size<=b\/T b) (hβ:Ge β β')
  (Es Eg:Nat->Prop)
  (hs: ∀b t,ν b=some (.s t)->¬Es t->¬X b/\ν' b=some (.s t)) (hc: ∀b t i,ν b=some (.c t i)->¬Es t->¬X b/\ν' b=some (.c t i))
  (hg: ∀b t,ν b=some (.g t)->¬Eg t->¬X b/\ν' b=some (.g t)) (hgc: ∀b t i,ν b=some (.gc t i)->¬Eg t->¬X b/\ν' b=some (.gc t i))
  (hlt: ∀b p,ν' b=some p->b < w'.heap.size/\(w0.heap.size<=b\/T b))
  (henv: ∀t,¬Es t->σ'.env t=σ.env t\/σ'.env t= .undef) (hout: ∀t,N<=t->σ'.env t= .undef)
  (hEs: ∀t v,Es t->a.tmps[t]? =some v->Uf num β' w' m' ν' (.s t) (fun i=> .c t i) (σ'.env t) v)
  (hbl:β'.length=σ'.bs.length) (hbs: ∀(i:Nat),¬Eg i->σ'.bs[i]? =σ.bs[i]?)
  (hEg: ∀(i:Nat) (cs:Qh) (k:Blk),Eg i->σ'.bs[i]? =some cs->β'[i]? =some k->(cs≠[]->Oi num β' w' m' ν' i k cs)):
  Inv num N w0 m0 T β0 σ' a w' m' β' ν':=by
 have hkeep: ∀b,b < w.heap.size->¬X b->w'.heap[b]? =w.heap[b]? /\m' b=m b:=fun b hb hx=>hS.same b hb hx;refine⟨hI.defers,hI.size,hout,fun t v hv=> ?_,hbl,fun i cs b h1 h2 hne=> ?_,hlt,hI.step.trans hS fun b hb hx=> ?_,fun i b hb=>hβ i b (hI.ge i b hb)⟩
 ·by_cases hE:Es t
  ·exact hEs t v hE hv
  ·rcases henv t hE with h | h
   ·rw[h];refine O5 (θ:=id) hβ hS.le ?_ ?_ (hI.slots t v hv)
    ·intro b hb;have:=hs b t hb hE;have h2:=hkeep b (hI.lt b _ hb).1 this.1;exact⟨h2.1,h2.2,this.2⟩
    ·intro i b hb;have:=hc b t i hb hE;have h2:=hkeep b (hI.lt b _ hb).1 this.1;exact⟨h2.1,h2.2,this.2⟩
   ·rw[h];exact trivial
 ·by_cases hE:Eg i
  ·exact hEg i cs b hE h1 h2 hne
  ·rw[hbs i hE]at h1;have hlt:i < σ.bs.length:=by
    rcases QR i σ.bs.length with h | h
    ·exact h
    ·rw[Q3 h]at h1;cases h1
   have hb0: ∃b0,β[i]? =some b0:=⟨β[i]'(by rw[hI.blen];exact hlt),Zv _⟩;obtain⟨b0,hb0⟩:=hb0;have:b0=b:=by have:=hβ i b0 hb0;rw[h2]at this;injection this with this;exact this.symm
   subst this;refine Wm hβ hS.le ?_ ?_ (hI.boxes i cs b0 h1 hb0 hne)
   ·intro b hb;have:=hg b i hb hE;have h2:=hkeep b (hI.lt b _ hb).1 this.1;exact⟨h2.1,h2.2,this.2⟩
   ·intro j b hb;have:=hgc b i j hb hE;have h2:=hkeep b (hI.lt b _ hb).1 this.1;exact⟨h2.1,h2.2,this.2⟩
 ·rcases hX b (Pj hb hI.step.size) hx with h | h
  ·omega
  ·exact h
def Inv.drew [Dr] (hI:Inv num N w0 m0 T β0 σ a w m β ν):Inv num N w0 m0 T β0 σ a w.drew m β ν:=
 hI.next (X:=fun _=>False) (ZO.drew _ w m) (fun _ _ h=>h.elim) (Ge.refl β) (fun _=>False) (fun _=>False)
  (fun _ _ h _=>⟨id,h⟩) (fun _ _ _ h _=>⟨id,h⟩) (fun _ _ h _=>⟨id,h⟩) (fun _ _ _ h _=>⟨id,h⟩) hI.lt (fun _ _=> .inl rfl) hI.out (fun _ _ h=>h.elim) hI.blen (fun _ _=>rfl) (fun _ _ _ h=>h.elim)
def RJ [Dr] {x:Nat} {p q:Pl} (hI:Inv num N w0 m0 T β0 σ a w m β ν) (hx:ν x=some p):Yb ν w.heap.size q x=some p:=by
 unfold Yb;rw[Qm (by have:=(hI.lt x p hx).1;omega)];exact hx
def Inv.freshO [Dr] (hI:Inv num N w0 m0 T β0 σ a w m β ν) (ob:Obj) (k:Nat) (q:Pl):
  Inv num N w0 m0 T β0 σ a (w.alloc ob) (m1 m w.heap.size k) β (Yb ν w.heap.size q):=
 hI.next (X:=fun _=>False) (ZO.allocO _ w m ob k) (fun _ _ h=>h.elim) (Ge.refl β) (fun _=>False) (fun _=>False)
  (fun _ _ h _=>⟨id,RJ hI h⟩) (fun _ _ _ h _=>⟨id,RJ hI h⟩) (fun _ _ h _=>⟨id,RJ hI h⟩) (fun _ _ _ h _=>⟨id,RJ hI h⟩)
  (fun b p h=>by
   unfold Yb at h;split at h
   ·rename_i hb;subst hb;exact⟨by simp,.inl hI.step.size⟩
   ·have:=hI.lt b p h;exact⟨by simp;omega,this.2⟩)
  (fun _ _=> .inl rfl) hI.out (fun _ _ h=>h.elim) hI.blen (fun _ _=>rfl) (fun _ _ _ h=>h.elim)
def Inv.fresh [Dr] (hI:Inv num N w0 m0 T β0 σ a w m β ν) (cur:Ze) (e:TypeId) (k:Nat) (q:Pl):
  Inv num N w0 m0 T β0 σ a (w.alloc (.cells cur e)) (m1 m w.heap.size k) β (Yb ν w.heap.size q):=hI.freshO _ k q
def mv (p q:Pl):Pl->Pl:=fun x=>if x=p then q else x
def T5 {p q r:Pl} {b:Nat} (h:ν b=some r) (hr:r≠p):Yg ν (mv p q) b=some r:=by
 unfold Yg mv;rw[h];simp[hr]
def T4 [Dr] {θ:Pl->Pl} (hI:Inv num N w0 m0 T β0 σ a w m β ν) (b:Nat) (p:Pl) (h:Yg ν θ b=some p):b < w.heap.size/\(w0.heap.size<=b\/T b):=by
 unfold Yg at h;cases hb:ν b with
 | none=>rw[hb]at h;cases h
 | some q=>exact hI.lt b q hb
def Zl:=@if_true
def Inv.takeSlot [Dr] (hI:Inv num N w0 m0 T β0 σ a w m β ν) (n:Nat):
  Inv num N w0 m0 T β0 {σ with env:=upd σ.env n .undef} a w m β (Yg ν (mv (.s n) .f)):=
 hI.next (X:=fun _=>False) (ZO.refl _ w m) (fun _ _ h=>h.elim) (Ge.refl β) (fun t=>t=n) (fun _=>False)
  (fun _ t h hn=>⟨id,T5 h (by simpa using hn)⟩) (fun _ _ _ h _=>⟨id,T5 h (by simp)⟩) (fun _ _ h _=>⟨id,T5 h (by simp)⟩) (fun _ _ _ h _=>⟨id,T5 h (by simp)⟩)
  (T4 hI) (fun t hn=> .inl (by simp only[upd];rw[Qm hn])) (fun t ht=>by simp only[upd];split <;> first | rfl | exact hI.out t ht)
  (fun t v hE _=>by subst hE;simp only[upd,Zl];exact trivial) hI.blen (fun _ _=>rfl) (fun _ _ _ h=>h.elim)
def VX {θ:Pl->Pl} {p:Pl} {c:AV} {u:Value} (h:Zz w m ν p c u):Zz w m (Yg ν θ) (θ p) c u:=
 Wn (θ:=θ) (fun b hb=>⟨rfl,rfl,by unfold Yg;rw[hb];rfl⟩) h
def A3 (d:Nat):Pl->Pl
 | .f=> .s d
 | .fc i=> .c d i
 | p=>p
def Re {d b:Nat} {p:Pl} (h:ν b=some p) (h1:p≠ .f) (h2: ∀i,p≠ .fc i):Yg ν (A3 d) b=some p:=by
 unfold Yg;rw[h]
 cases p <;> first | rfl | exact absurd rfl h1 | exact absurd rfl (h2 _)
def Fz:=@Array.getElem?_setIfInBounds_self_of_lt
def O6:=@Array.getElem?_setIfInBounds_ne
def Inv.put [Dr] (hI:Inv num N w0 m0 T β0 σ a w m β ν) {v:AV} {u:Value} (hv:Uf num β w m ν .f (fun i=> .fc i) v u) (d:Nat) (hd:d < N):
  Inv num N w0 m0 T β0 {σ with env:=upd σ.env d v} (a.put (some d) u) w m β (Yg ν (A3 d)):=by
 have hI2:Inv num N w0 m0 T β0 {σ with env:=upd σ.env d .undef} a w m β (Yg ν (A3 d)):=
  hI.next (X:=fun _=>False) (ZO.refl _ w m) (fun _ _ h=>h.elim) (Ge.refl β) (fun t=>t=d) (fun _=>False)
   (fun _ t h hn=>⟨id,Re h (by simp) (by simp)⟩) (fun _ _ _ h _=>⟨id,Re h (by simp) (by simp)⟩) (fun _ _ h _=>⟨id,Re h (by simp) (by simp)⟩) (fun _ _ _ h _=>⟨id,Re h (by simp) (by simp)⟩)
   (T4 hI) (fun t hn=> .inl (by simp only[upd];rw[Qm hn])) (fun t ht=>by simp only[upd];split <;> first | rfl | exact hI.out t ht)
   (fun t v hE _=>by subst hE;simp only[upd,Zl];exact trivial) hI.blen (fun _ _=>rfl) (fun _ _ _ h=>h.elim)
 refine⟨hI2.defers,by simpa[Act.put]using hI.size,fun t ht=> ?_,fun t x hx=> ?_,hI2.blen,hI2.boxes,hI2.lt,hI2.step,hI2.ge⟩
 ·simp only[upd];rw[Qm (by omega)];exact hI.out t ht
 ·simp only[Act.put,upd]at hx ⊢;by_cases ht:t=d
  ·subst ht;rw[Fz (by rw[hI.size];exact hd)]at hx;injection hx with hx
   subst hx;rw[Qn rfl];exact O5 (θ:=A3 t) (pl:= .f) (cp:=fun i=> .fc i) (Ge.refl β) (Le.refl w m) (fun b hb=>⟨rfl,rfl,by unfold Yg;rw[hb];rfl⟩) (fun i b hb=>⟨rfl,rfl,by unfold Yg;rw[hb];rfl⟩) hv
  ·rw[O6 (fun e=>ht e.symm)]at hx;rw[Qm ht];have:=hI2.slots t x hx;simp only[upd]at this;rw[Qm ht]at this;exact this
def UC {b:Nat} (h:m b=0):m1 m b 0=m:=by
 funext x;unfold m1;split
 ·rename_i hx;rw[hx,h]
 ·rfl
def HX {b:Nat} {cur':Ze} {k:Nat} {p:Pl} {θ:Pl->Pl} (hp:ν b≠some p) {c:AV} {u:Value} (h:Zz w m ν p c u):Zz (w.setRow b cur') (m1 m b k) (Yg ν θ) (θ p) c u:=by
 refine Wn (θ:=θ) (fun x hx=> ?_) h;have hne:x≠b:=fun e=>by subst e;exact hp hx
 exact⟨setRow_other w b x cur' hne,by unfold m1;rw[Qm hne],by unfold Yg;rw[hx];rfl⟩
def Inv.setBox [Dr] (hI:Inv num N w0 m0 T β0 σ a w m β ν) (s:Nat) {cs cs':Qh} {x:Value} (hs:σ.env s= .bx cs) (hx:a.tmps[s]? =some x):
  ∃b cur e,x= .pointer (some ⟨b,0,none⟩)/\w.heap[b]? =some (.cells cur e (0,0))/\cur.size=cs.length/\
   (∀(i:Nat) (c:AV),cs[i]? =some c->∃u,cur[i]? =some u/\u.oneCell'=true/\Qd num β w m c u/\Zz w m ν (.c s i) c u)/\
   ∀(θ:Pl->Pl) (cur':Ze),(∀t,θ (.s t)= .s t)->(∀t i,θ (.c t i)= .c t i)->(∀i,θ (.g i)= .g i)->(∀i j,θ (.gc i j)= .gc i j)->
    cur'.size=cs'.length->
    (∀(i:Nat) (c:AV),cs'[i]? =some c->∃u,cur'[i]? =some u/\u.oneCell'=true/\Qd num β w m c u/\∃p,Zz w m ν p c u/\θ p= .c s i/\ν b≠some p)->
    Inv num N w0 m0 T β0 {σ with env:=upd σ.env s (.bx cs')} a (w.setRow b cur') m β (Yg ν θ):=by
 have h0:=hI.slots s x hx;rw[hs]at h0;obtain⟨b,hxb,cur,e,h1,h2,h3,h4,h5⟩:=h0;refine⟨b,cur,e,hxb,h1,h2.1,h5,fun θ cur' t1 t2 t3 t4 hsz hcs=> ?_⟩;have hN:s < N:=by
  rcases QR s N with h | h
  ·exact h
  ·have:=hI.out s h;rw[hs]at this;cases this
 have hS:=ZO.setRow (cur':=cur') (k:=0) h1 (m:=m) (fun i u hi _=>by omega) (by omega);rw[UC h3]at hS;have hmp: ∀{x:Nat} {p:Pl},ν x=some p->θ p=p->Yg ν θ x=some p:=fun {x p} h ht=>by unfold Yg;rw[h];simp[ht]
 refine hI.next hS (fun x hx hxb=>by subst hxb;exact(hI.lt x _ h4).2) (Ge.refl β) (fun t=>t=s) (fun _=>False)
  (fun x t h hn=>⟨fun e=> ?_,hmp h (t1 t)⟩) (fun x t i h hn=>⟨fun e=> ?_,hmp h (t2 t i)⟩) (fun x t h _=>⟨fun e=> ?_,hmp h (t3 t)⟩) (fun x t i h _=>⟨fun e=> ?_,hmp h (t4 t i)⟩)
  (fun x p h=>by simpa using T4 hI x p h) (fun t hn=> .inl (by simp only[upd];rw[Qm hn])) (fun t ht=> ?_)
  (fun t v hE hv=> ?_) hI.blen (fun _ _=>rfl) (fun _ _ _ h=>h.elim)
 ·subst e;rw[h4]at h;injection h with h;injection h with h;exact hn h.symm
 ·subst e;rw[h4]at h;injection h with h;cases h
 ·subst e;rw[h4]at h;injection h with h;cases h
 ·subst e;rw[h4]at h;injection h with h;cases h
 ·simp only[upd];split
  ·omega
  ·exact hI.out t ht
 ·subst hE;rw[hx]at hv;injection hv with hv
  subst hv;simp only[upd,Zl];refine⟨b,hxb,cur',e,setRow_heap w b cur cur' e (0,0) h1,⟨hsz,ZJ _⟩,h3,hmp h4 (t1 t),fun i c hc=> ?_⟩;obtain⟨u,g1,g2,g3,p,g4,g5,g6⟩:=hcs i c hc;refine⟨u,g1,g2,Zc (Ge.refl β) hS.le c u g3,?_⟩;have:=HX (cur':=cur') (k:=0) (θ:=θ) g6 g4;rw[UC h3,g5]at this;exact this
def QD:=@Option.some.injEq
def Vs:=@List.getElem?_set_ne
def Sj:=@List.getElem?_set_self
def Inv.setG [Dr] (hI:Inv num N w0 m0 T β0 σ a w m β ν) (s:Nat) {cs cs':Qh} {k:Blk} (hs:σ.bs[s]? =some cs) (hbm:β[s]? =some k/\k.mp=false) (hne:cs≠[]):
  ∃cur e,w.heap[k.b]? =some (.cells cur e (0,0))/\(cur.size=k.z/\cs.length<=k.z)/\
   (∀(i:Nat) (c:AV),cs[i]? =some c->∃u,cur[i]? =some u/\u.oneCell'=true/\Qd num β w m c u/\Zz w m ν (.gc s i) c u)/\
   ∀(θ:Pl->Pl) (cur':Ze),(∀t,θ (.s t)= .s t)->(∀t i,θ (.c t i)= .c t i)->(∀i,θ (.g i)= .g i)->(∀i j,θ (.gc i j)= .gc i j)->
    cur'.size=k.z->cs'.length<=k.z->
    (∀(i:Nat) (c:AV),cs'[i]? =some c->∃u,cur'[i]? =some u/\u.oneCell'=true/\Qd num β w m c u/\∃p,Zz w m ν p c u/\θ p= .gc s i/\ν k.b≠some p)->
    Inv num N w0 m0 T β0 {σ with bs:=σ.bs.set s cs'} a (w.setRow k.b cur') m β (Yg ν θ):=by
 obtain⟨hb,hmp0⟩:=hbm;obtain⟨b,z,mp,ty⟩:=k;obtain⟨cur,e,h1,h2,h3,h4,h5⟩:=(hI.boxes s cs _ hs hb hne).1 hmp0;have he9:e=ty:=by
  obtain⟨c2,h9⟩:=(hI.boxes s cs _ hs hb hne).2.2 hmp0;have h8:=h1.symm.trans h9;simp only[QD,Obj.cells.injEq]at h8;exact h8.2.1
 refine⟨cur,e,h1,h2,h5,fun θ cur' t1 t2 t3 t4 hsz hsl hcs=> ?_⟩;simp only at hmp0 h1 h2 h3 h4 h5 hsz hsl ⊢;have hlt:s < σ.bs.length:=by
  rcases QR s σ.bs.length with h | h
  ·exact h
  ·rw[Q3 h]at hs;cases hs
 have hS:=ZO.setRow (cur':=cur') (k:=0) h1 (m:=m) (fun i u hi _=>by omega) (by omega);rw[UC h3]at hS;have hmp: ∀{x:Nat} {p:Pl},ν x=some p->θ p=p->Yg ν θ x=some p:=fun {x p} h ht=>by unfold Yg;rw[h];simp[ht]
 refine hI.next hS (fun x hx hxb=>by subst hxb;exact(hI.lt x _ h4).2) (Ge.refl β) (fun _=>False) (fun t=>t=s)
  (fun x t h _=>⟨fun e=> ?_,hmp h (t1 t)⟩) (fun x t i h _=>⟨fun e=> ?_,hmp h (t2 t i)⟩) (fun x t h hn=>⟨fun e=> ?_,hmp h (t3 t)⟩) (fun x t i h hn=>⟨fun e=> ?_,hmp h (t4 t i)⟩)
  (fun x p h=>by simpa using T4 hI x p h) (fun t hn=> .inl rfl) hI.out
  (fun t v hE hv=>hE.elim) (by simpa using hI.blen) (fun i hn=>by simp[Vs (fun e=>hn e.symm)]) (fun i cs2 b2 hE h6 h7=> ?_)
 ·subst e;rw[h4]at h;injection h with h;cases h
 ·subst e;rw[h4]at h;injection h with h;cases h
 ·subst e;rw[h4]at h;injection h with h;injection h with h;exact hn h.symm
 ·subst e;rw[h4]at h;injection h with h;cases h
 ·subst hE;rw[hb]at h7;injection h7 with h7
  subst h7;simp only[Sj hlt]at h6;injection h6 with h6
  subst h6;refine fun _=>⟨fun _=>⟨cur',e,setRow_heap w b cur cur' e (0,0) h1,⟨hsz,hsl⟩,h3,hmp h4 (t3 i),fun j c hc=> ?_⟩,fun q=>(by rw[hmp0]at q;cases q),fun _=>⟨cur',by rw[<- he9];exact setRow_heap w b cur cur' e (0,0) h1⟩⟩;obtain⟨u,g1,g2,g3,p,g4,g5,g6⟩:=hcs j c hc;refine⟨u,g1,g2,Zc (Ge.refl β) hS.le c u g3,?_⟩;have:=HX (cur':=cur') (k:=0) (θ:=θ) g6 g4;rw[UC h3,g5]at this;exact this
def Y8:=@List.getElem?_set
def Inv.takeCell [Dr] (hI:Inv num N w0 m0 T β0 σ a w m β ν) (s off:Nat) {cs:Qh} (hs:σ.env s= .bx cs):
  Inv num N w0 m0 T β0 {σ with env:=upd σ.env s (.bx (cs.set off .undef))} a w m β (Yg ν (mv (.c s off) .f)):=by
 have hmp: ∀{x:Nat} {p:Pl},ν x=some p->p≠ .c s off->Yg ν (mv (.c s off) .f) x=some p:=fun {x p} h ht=>T5 h ht;have hN:s < N:=by
  rcases QR s N with h | h
  ·exact h
  ·have:=hI.out s h;rw[hs]at this;cases this
 refine hI.next (X:=fun _=>False) (ZO.refl _ w m) (fun _ _ h=>h.elim) (Ge.refl β) (fun t=>t=s) (fun _=>False)
  (fun _ t h _=>⟨id,hmp h (by simp)⟩) (fun _ t i h hn=>⟨id,hmp h (fun e=>by injection e with e;exact hn e)⟩) (fun _ _ h _=>⟨id,hmp h (by simp)⟩) (fun _ _ _ h _=>⟨id,hmp h (by simp)⟩)
  (T4 hI) (fun t hn=> .inl (by simp only[upd];rw[Qm hn])) (fun t ht=> ?_)
  (fun t v hE hv=> ?_) hI.blen (fun _ _=>rfl) (fun _ _ _ h=>h.elim)
 ·simp only[upd];split
  ·omega
  ·exact hI.out t ht
 ·subst hE;simp only[upd,Zl];have h0:=hI.slots t v hv;rw[hs]at h0;obtain⟨b,hxb,cur,e,h1,h2,h3,h4,h5⟩:=h0;refine⟨b,hxb,cur,e,h1,⟨by simpa using h2.1,ZJ _⟩,h3,hmp h4 (by simp),fun i c hc=> ?_⟩;rw[Y8]at hc;split at hc
  ·rename_i hi;subst hi;split at hc
   ·rename_i hlt;injection hc with hc
    subst hc;obtain⟨u,g1,g2,_,_⟩:=h5 off _ (Zv hlt);exact⟨u,g1,g2,by simpa only[Qd]using g2,trivial⟩
   ·cases hc
  ·rename_i hi;obtain⟨u,g1,g2,g3,g4⟩:=h5 i c hc;refine⟨u,g1,g2,g3,?_⟩;have:=VX (θ:=mv (.c t off) .f) g4;rwa[show mv (.c t off) .f (.c t i)= .c t i by unfold mv;rw[Qm (fun e=>by injection e with _ e;exact hi e.symm)]]at this
def Inv.takeG [Dr] (hI:Inv num N w0 m0 T β0 σ a w m β ν) (s off:Nat) {cs:Qh} {k:Blk} (hs:σ.bs[s]? =some cs) (hbm:β[s]? =some k/\k.mp=false):
  Inv num N w0 m0 T β0 {σ with bs:=σ.bs.set s (cs.set off .undef)} a w m β (Yg ν (mv (.gc s off) .f)):=by
 have hmp: ∀{x:Nat} {p:Pl},ν x=some p->p≠ .gc s off->Yg ν (mv (.gc s off) .f) x=some p:=fun {x p} h ht=>T5 h ht;have hlt:s < σ.bs.length:=by
  rcases QR s σ.bs.length with h | h
  ·exact h
  ·rw[Q3 h]at hs;cases hs
 refine hI.next (X:=fun _=>False) (ZO.refl _ w m) (fun _ _ h=>h.elim) (Ge.refl β) (fun _=>False) (fun t=>t=s)
  (fun _ t h _=>⟨id,hmp h (by simp)⟩) (fun _ t i h _=>⟨id,hmp h (by simp)⟩) (fun _ _ h _=>⟨id,hmp h (by simp)⟩) (fun _ t i h hn=>⟨id,hmp h (fun e=>by injection e with e;exact hn e)⟩)
  (T4 hI) (fun t hn=> .inl rfl) hI.out
  (fun t v hE hv=>hE.elim) (by simpa using hI.blen) (fun i hn=>by simp[Vs (fun e=>hn e.symm)]) (fun i cs2 b2 hE h6 h7=> ?_)
 subst hE;simp only[Sj hlt]at h6;injection h6 with h6
 subst h6;have hmp0:b2.mp=false:=by rw[hbm.1]at h7;injection h7 with h7;rw[<- h7];exact hbm.2
 refine fun hne=>⟨fun _=> ?_,fun q=>(by rw[hmp0]at q;cases q),fun _=>(hI.boxes i cs b2 hs h7 (fun e=>by simp[e]at hne)).2.2 hmp0⟩
 ·obtain⟨cur,e,h1,h2,h3,h4,h5⟩:=(hI.boxes i cs b2 hs h7 (fun e=>by simp[e]at hne)).1 hmp0;refine⟨cur,e,h1,by simpa using h2,h3,hmp h4 (by simp),fun j c hc=> ?_⟩;rw[Y8]at hc;split at hc
  ·rename_i hi;subst hi;split at hc
   ·rename_i hlt;injection hc with hc
    subst hc;obtain⟨u,g1,g2,_,_⟩:=h5 off _ (Zv hlt);exact⟨u,g1,g2,by simpa only[Qd]using g2,trivial⟩
   ·cases hc
  ·rename_i hi;obtain⟨u,g1,g2,g3,g4⟩:=h5 j c hc;refine⟨u,g1,g2,g3,?_⟩;have:=VX (θ:=mv (.gc i off) .f) g4;rwa[show mv (.gc i off) .f (.gc i j)= .gc i j by unfold mv;rw[Qm (fun e=>by injection e with _ e;exact hi e.symm)]]at this
def Inv.setFloat [Dr] (hI:Inv num N w0 m0 T β0 σ a w m β ν) {b k:Nat} {cur cur':Ze} {e:TypeId} (hb:w.heap[b]? =some (.cells cur e (0,0))) (hν:ν b=some .f)
  (hs: ∀(i:Nat) (u:Value),i < m b->cur[i]? =some u->cur'[i]? =some u) (hk:m b<=k):Inv num N w0 m0 T β0 σ a (w.setRow b cur') (m1 m b k) β ν:=by
 have hne: ∀{x:Nat} {p:Pl},ν x=some p->p≠ .f->¬x=b:=fun {x p} h hp e=>by subst e;rw[hν]at h;injection h with h;exact hp h.symm
 exact hI.next (ZO.setRow hb hs hk) (fun x hx hxb=>by subst hxb;exact(hI.lt x _ hν).2) (Ge.refl β) (fun _=>False) (fun _=>False)
  (fun x t h _=>⟨hne h (by simp),h⟩) (fun x t i h _=>⟨hne h (by simp),h⟩) (fun x t h _=>⟨hne h (by simp),h⟩) (fun x t i h _=>⟨hne h (by simp),h⟩)
  (fun x p h=>by simpa using hI.lt x p h) (fun t hn=> .inl rfl) hI.out (fun t v hE hv=>hE.elim) hI.blen (fun _ _=>rfl) (fun _ _ _ h=>h.elim)
end
end Go.Am
namespace Go.Am
def UU:AV->Value->Bool
 | .int k n,.int k' n'=>decide (k=k') && decide (n=n')
 | .bool a,.bool b=>a == b
 | .str s,.string b=>decide (s=b.data.toList)
 | .sl _ _ [],.slice none 0 0=>true
 | .gs _ _ 0 0,.slice none 0 0=>true
 | .err true,.nilIface=>true
 | .undef,.pointer none=>true
 | .nlp,.pointer none=>true
 | .undef,.map none=>true
 | _,_=>false
abbrev ZE:=List Value
def W9:Qh->ZE->Bool
 | [],[]=>true
 | c:: cs,u:: us=>UU c u && W9 cs us
 | _,_=>false
def Lp:AV->Value->Bool
 | .agg cs,.agg us=>W9 cs us.toList
 | c,u=>UU c u
def okO (num:Y0):AO->Operand->Bool
 | .t n,.tmp t=>decide (n=t)
 | .c (.fn f []),.func g=>decide (num f=some g)
 | .c v,.const u=>Lp v u
 | _,_=>false
abbrev SN:=List Operand
abbrev Ug:=List AO
def Xl (num:Y0):Ug->SN->Bool
 | [],[]=>true
 | x:: xs,y:: ys=>okO num x y && Xl num xs ys
 | _,_=>false
section
variable {P:Program} {num:Nat->Option Nat} {β β':List Blk} {w w':World} {m m':Nat->Nat} {ν ν':Own} {N:Nat} {w0:World} {m0:Nat->Nat} {T:Nat->Prop} {β0:List Blk} {σ σ1:St} {a:Act}
def V7:=@beq_iff_eq
def Zu {c:AV} {u:Value} (h:UU c u=true):Qd num β w m c u/\u.oneCell'=true/\(∀p,Zz w m ν p c u):=by
 unfold UU at h;split at h
 ·simp only[Qo,Qv]at h;obtain⟨rfl,rfl⟩:=h;exact⟨by simp only[Qd],rfl,fun _=>trivial⟩
 ·simp only[V7]at h;subst h;exact⟨by simp only[Qd],rfl,fun _=>trivial⟩
 ·simp only[Qv]at h;subst h;exact⟨by simp only[Qd],rfl,fun _=>trivial⟩
 ·refine⟨?_,rfl,fun p=> ?_⟩
  ·simp only[Qd];exact⟨none,0,0,rfl,rfl,ZJ _,by unfold maxLen;omega,.inl trivial⟩
  ·rename_i o sz;cases o
   ·exact trivial
   ·exact .inl ⟨none,0,rfl⟩
 ·refine⟨?_,rfl,fun p=>trivial⟩;simp only[Qd];exact⟨none,0,rfl,ZJ _,by unfold maxLen;omega,.inl (by simp)⟩
 ·exact⟨by simp[Qd],rfl,fun _=>trivial⟩
 ·exact⟨by simp only[Qd];rfl,rfl,fun _=>trivial⟩
 ·exact⟨by simp only[Qd],rfl,fun _=>trivial⟩
 ·exact⟨by simp only[Qd];rfl,rfl,fun _=>trivial⟩
 ·cases h
def YN: ∀(cs:Qh) (us:ZE),W9 cs us=true->us.length=cs.length/\∀(i:Nat) (c:AV),cs[i]? =some c->∃u,us[i]? =some u/\UU c u=true
 | [],[],_=>⟨rfl,fun i c h=>by simp at h⟩
 | c:: cs,u:: us,h=>by
  simp only[W9,Qo]at h;have ih:=YN cs us h.2;refine⟨by simp[ih.1],fun i d hd=> ?_⟩;cases i with
  | zero=>simp at hd;subst hd;exact⟨u,rfl,h.1⟩
  | succ i=>simpa using ih.2 i d (by simpa using hd)
 | [],_:: _,h=>by simp[W9]at h
 | _:: _,[],h=>by simp[W9]at h
def Cg [Dr] {c:AV} {u:Value} (h:Lp c u=true):Qd num β w m c u/\(∀p,Zz w m ν p c u):=by
 unfold Lp at h;split at h
 ·rename_i cs us;obtain⟨h1,h2⟩:=YN cs us.toList h;refine⟨?_,fun _=>trivial⟩;simp only[Qd];refine⟨us,rfl,by simpa using h1,?_⟩;rw[ZQ];intro i c hc;obtain⟨u,g1,g2⟩:=h2 i c hc;have:=Zu (num:=num) (β:=β) (w:=w) (m:=m) (ν:=ν) g2;exact⟨u,by simpa using g1,this.2.1,this.1⟩
 ·have:=Zu (num:=num) (β:=β) (w:=w) (m:=m) (ν:=ν) h;exact⟨this.1,this.2.2⟩
def PT (c:AV):c.strip.ok=c.ok:=by cases c <;> rfl
def Yp (c:AV) (u:Value) (p:Pl):Zz w m ν p c.strip u:=by cases c <;> exact trivial
def LV (c:AV):c.strip.strip=c.strip:=by cases c <;> rfl
def Inv.at_ [Dr] (hI:Inv num N w0 m0 T β0 σ a w m β ν) {n:Nat} (hn:σ.env n≠ .undef):n < N/\a.tmps[n]? =some (a.tmps.getD n undef):=by
 have hN:n < N:=by
  rcases QR n N with h | h
  ·exact h
  ·exact absurd (hI.out n h) hn
 have:n < a.tmps.size:=by rw[hI.size];exact hN
 exact⟨hN,by simp[this]⟩
def Inv.val [Dr] (hI:Inv num N w0 m0 T β0 σ a w m β ν) {x:AO} {y:Operand} (ho:okO num x y=true) (hk: (val σ.env x).ok=true):
  Qd num β w m (val σ.env x) (a.eval y)/\∀p,Zz w m ν p (val σ.env x) (a.eval y):=by
 unfold okO at ho;split at ho
 ·rename_i n t;simp only[Qv]at ho;subst ho;simp only[Am.val,PT]at hk ⊢;have hne:σ.env n≠ .undef:=fun e=>by rw[e]at hk;cases hk
  obtain⟨_,h2⟩:=hI.at_ hne;have h3:=hI.slots n _ h2;rw[QT hk]at h3;refine⟨?_,fun p=>Yp _ _ _⟩;rw[QU];exact h3.1
 ·rename_i f g;simp only[Qv]at ho;simp only[Am.val,Act.eval];refine⟨?_,fun _=>trivial⟩;simp only[Qd];exact⟨g,#[],ho,rfl,rfl,by simp[YV]⟩
 ·simp only[Am.val,Act.eval];exact Cg ho
 ·cases ho
def Yf:=@List.map_cons
def Sh:=@List.all_cons
def Inv.vals [Dr] (hI:Inv num N w0 m0 T β0 σ a w m β ν): ∀{xs:Ug} {ys:SN},Xl num xs ys=true->XH (xs.map (Am.val σ.env))=true->
  ys.length=xs.length/\∀(i:Nat) (c:AV),(xs.map (Am.val σ.env))[i]? =some c->∃y,ys[i]? =some y/\c.ok=true/\Qd num β w m c (a.eval y)
 | [],[],_,_=>⟨rfl,fun i c h=>by simp at h⟩
 | x:: xs,y:: ys,ho,hk=>by
  simp only[Xl,Qo]at ho;simp only[XH,Yf,Sh,Qo]at hk;have ih:=hI.vals ho.2 hk.2;refine⟨by simp[ih.1],fun i c hc=> ?_⟩;cases i with
  | zero=>simp at hc;subst hc;exact⟨y,rfl,hk.1,(hI.val ho.1 hk.1).1⟩
  | succ i=>simpa using ih.2 i c (by simpa using hc)
 | [],_:: _,h,_=>by simp[Xl]at h
 | _:: _,[],h,_=>by simp[Xl]at h
def WF {v:AV} {u:Value} {cs:Qh} (hc:cellsOf v=some cs) (h:Qd num β w m v u):
  v.ok=true/\u.cells.size=cs.length/\∀(i:Nat) (c:AV),cs[i]? =some c->∃x,u.cells[i]? =some x/\x.oneCell'=true/\Qd num β w m c x:=by
 unfold cellsOf at hc;split at hc
 ·injection hc with hc
  subst hc;simp only[Qd]at h;obtain⟨us,rfl,h2,h3⟩:=h;rw[ZQ]at h3;exact⟨rfl,h2,fun i c hci=>by simpa[Value.cells]using h3 i c hci⟩
 ·rename_i hna;split at hc
  ·rename_i h1;injection hc with hc
   subst hc;have h2:=Su h1 h;have h4:u.cells= #[u]:=by cases u <;> first | rfl | simp[Value.oneCell']at h2
   refine⟨by cases v <;> first | rfl | simp[AV.one]at h1,by rw[h4];rfl,fun i c hci=> ?_⟩;cases i with
   | zero=>simp at hci;subst hci;exact⟨u,by rw[h4];rfl,h2,by rw[QU];exact h⟩
   | succ i=>simp at hci
  ·cases hc
def Wb:=@List.getElem?_map
def Zn {cs:Qh} {i:Nat} {c:AV} (h: (cs.map AV.strip)[i]? =some c): ∃d,cs[i]? =some d/\c=d.strip:=by
 rw[Wb]at h;cases hd:cs[i]? with
 | none=>rw[hd]at h;cases h
 | some d=>rw[hd]at h;injection h with h;exact⟨d,rfl,h.symm⟩
end
def Aft [Dr] (num:Y0) (N:Nat) (w0:World) (m0:ZF) (T:Nat->Prop) (β0:Xv) (σ1:St) (a:Act) (v:AV) (k:Value->World->Prop):Prop:=
 ∀(u:Value) (w':World) (m':ZF) (β':Xv) (ν':Own),Inv num N w0 m0 T β0 σ1 a w' m' β' ν'->Uf num β' w' m' ν' .f (fun i=> .fc i) v u->k u w'
section
variable {P:Program} {num:Nat->Option Nat} {β:List Blk} {w w':World} {m:Nat->Nat} {ν:Own} {N:Nat} {w0:World} {m0:Nat->Nat} {T:Nat->Prop} {β0:List Blk} {σ σ1:St} {a:Act}
 {o:Oper} {next:Act->World->Prop} {Q:Exit->Act->World->Prop} {K:Yo} {v:AV}
def Qr {u:Value} (hr: (execOp a.eval o).run P w= .ok (.value u) w') (h:next (a.put o.dst u) w'):o.wp P a w next Q:=by
 unfold Oper.wp;rw[hr];exact h
def TR (hr: (execOp a.eval o).run P w= .ok .skip w') (h:next (a.put o.dst undef) w'):o.wp P a w next Q:=by
 unfold Oper.wp;rw[hr];exact h
def Aft.same [Dr] (h:Aft num N w0 m0 T β0 σ a v fun u w'=>next (a.put o.dst u) w') (hI:Inv num N w0 m0 T β0 σ a w m β ν) {u:Value} (hk:v.ok=true) (hr:Qd num β w m v u)
  (ho:Zz w m ν .f v u):next (a.put o.dst u) w:=
 h u w m β ν hI ((QT hk).2 ⟨hr,ho⟩)
def Qc1 [Dr] {x:AO} {y:Operand} (hI:Inv num N w0 m0 T β0 σ a w m β ν) (ho:o.op= .move y\/o.op= .assign y) (hxy:okO num x y=true)
  (he:Qi K (.mov x) σ=some (v,σ1)) (h:Aft num N w0 m0 T β0 σ1 a v fun u w'=>next (a.put o.dst u) w'):o.wp P a w next Q:=by
 simp only[Qi]at he;split at he
 ·rename_i hk;injection he with he
  injection he with h1 h2
  subst h1 h2;have hv:=hI.val hxy hk;refine Qr (u:=a.eval y) (w':=w) (by rcases ho with ho | ho <;> simp[execOp,ho]) (h.same hI hk hv.1 (hv.2 _))
 ·cases he
def Qc2 [Dr] {n:Nat} (hI:Inv num N w0 m0 T β0 σ a w m β ν) (ho:o.op= .move (.tmp n)\/o.op= .assign (.tmp n))
  (he:Qi K (.mvs n) σ=some (v,σ1)) (h:Aft num N w0 m0 T β0 σ1 a v fun u w'=>next (a.put o.dst u) w'):o.wp P a w next Q:=by
 simp only[Qi]at he;split at he
 ·rename_i hk;injection he with he
  injection he with h1 h2
  subst h1 h2;obtain⟨_,h2⟩:=hI.at_ (n:=n) (fun e=>by rw[e]at hk;cases hk);have h3:=hI.slots n _ h2;rw[QT hk]at h3;refine Qr (u:=a.eval (.tmp n)) (w':=w) (by rcases ho with ho | ho <;> simp[execOp,ho]) ?_;refine h _ w m β _ (hI.takeSlot n) ((QT hk).2 ⟨h3.1,?_⟩);have:=VX (θ:=mv (.s n) .f) h3.2;rwa[show mv (.s n) .f (.s n)= .f by simp[mv]]at this
 ·cases he
def Qm5 [Dr] {x:AO} {y:Operand} {t:TypeId} (hI:Inv num N w0 m0 T β0 σ a w m β ν) (ho:o.op= .box t y) (hxy:okO num x y=true)
  (he:Qi K (.box x) σ=some (v,σ1)) (h:Aft num N w0 m0 T β0 σ1 a v fun u w'=>next (a.put o.dst u) w'):o.wp P a w next Q:=by
 simp only[Qi]at he;cases hc:cellsOf (val σ.env x)with
 | none=>rw[hc]at he;cases he
 | some cs=>
  rw[hc]at he;injection he with he
  injection he with h1 h2
  subst h1 h2;have hk: (val σ.env x).ok=true:=by
   cases hv:val σ.env x <;> rw[hv]at hc <;> simp[cellsOf,AV.one]at hc <;> rfl
  have hv:=(hI.val hxy hk).1;obtain⟨_,hz,hcs⟩:=WF hc hv;refine Qr (u:= .pointer (some ⟨w.heap.size,0,none⟩)) (w':=w.alloc (.cells (a.eval y).cells t)) (by simp[execOp,ho,Instr.box,newVar,newRow]) ?_;refine h _ _ _ β _ (hI.fresh (a.eval y).cells t 0 .f) ⟨w.heap.size,rfl,(a.eval y).cells,t,heap_alloc_new w _,by simpa using hz,by simp[m1],by simp[Yb],fun i c hci=> ?_⟩;obtain⟨d,hd,rfl⟩:=Zn hci;obtain⟨u,g1,g2,g3⟩:=hcs i d hd;exact⟨u,g1,g2,by rw[QU];exact Zc (Ge.refl β) (ZO.alloc (fun _=>False) w m _ t 0).le d u g3,Yp _ _ _⟩
def TF (P:Program) (t:TypeId) (zs:Qh):Bool:=
 match P.info? t with
 | some i=>match i.zero with
  | some z=>W9 zs z.cells.toList
  | none=>false
 | none=>false
def SI {t:TypeId} {zs:Qh} (h:TF P t zs=true): ∃z:Value,(zeroValue t).run P w= .ok z w/\W9 zs z.cells.toList=true:=by
 unfold TF at h;split at h
 ·rename_i i hi;split at h
  ·rename_i z hz;exact⟨z,by simp[zeroValue,typeInfo,hi,hz],h⟩
  ·cases h
 ·cases h
def Qe5 [Dr] {zs:Qh} {t:TypeId} (hI:Inv num N w0 m0 T β0 σ a w m β ν) (ho:o.op= .alloc t) (hz:TF P t zs=true)
  (he:Qi K (.alloc zs) σ=some (v,σ1)) (h:Aft num N w0 m0 T β0 σ1 a v fun u w'=>next (a.put o.dst u) w'):o.wp P a w next Q:=by
 simp only[Qi]at he;injection he with he
 injection he with h1 h2
 subst h1 h2;obtain⟨z,hr,hc⟩:=SI (w:=w) hz;obtain⟨hl,hcs⟩:=YN _ _ hc;refine Qr (u:= .pointer (some ⟨w.heap.size,0,none⟩)) (w':=w.alloc (.cells z.cells t)) (by simp[execOp,ho,Instr.alloc,newVar,newRow,hr]) ?_;refine h _ _ _ β _ (hI.fresh z.cells t 0 .f) ⟨w.heap.size,rfl,z.cells,t,heap_alloc_new w _,by simpa using hl,by simp[m1],by simp[Yb],fun i c hci=> ?_⟩;obtain⟨u,g1,g2⟩:=hcs i c hci;have hg:=Zu (num:=num) (β:=β) (w:=w.alloc (.cells z.cells t)) (m:=m1 m w.heap.size 0) (ν:=Yb ν w.heap.size .f) g2;exact⟨u,by simpa using g1,hg.2.1,hg.1,hg.2.2 _⟩
def YZ:=@List.getElem?_concat_length
def Inv.toBoxK [Dr] (hI:Inv num N w0 m0 T β0 σ a w m β ν) {k:Blk} {cs:Qh} (hν:ν k.b=some .f)
  (hB:Oi num (β ++ [k]) w m (Yb ν k.b (.g σ.bs.length)) σ.bs.length k cs):
  Inv num N w0 m0 T β0 {σ with bs:=σ.bs ++ [cs]} a w m (β ++ [k]) (Yb ν k.b (.g σ.bs.length)):=by
 have hge:Ge β (β ++ [k]):=Ge.append β _;have hother: ∀{x:Nat} {p:Pl},ν x=some p->p≠ .f->Yb ν k.b (.g σ.bs.length) x=some p:=fun {x p} hx hp=>by
  unfold Yb;split
  ·rename_i hxb;subst hxb;rw[hν]at hx;injection hx with hx;exact absurd hx.symm hp
  ·exact hx
 refine⟨hI.defers,hI.size,hI.out,fun t v hv=> ?_,by simp[hI.blen],fun i cs2 k2 h1 h2 hne=> ?_,fun x p hx=> ?_,hI.step,fun i b hb=>hge i b (hI.ge i b hb)⟩
 ·exact O5 (θ:=id) hge (Le.refl _ _) (fun b hb=>⟨rfl,rfl,hother hb (by simp)⟩) (fun i b hb=>⟨rfl,rfl,hother hb (by simp)⟩) (hI.slots t v hv)
 ·by_cases hi:i < σ.bs.length
  ·rw[ZM hi]at h1;rw[ZM (by rw[hI.blen];exact hi)]at h2;exact Wm hge (Le.refl _ _) (fun b hb=>⟨rfl,rfl,hother hb (by simp)⟩) (fun i b hb=>⟨rfl,rfl,hother hb (by simp)⟩) (hI.boxes i cs2 k2 h1 h2 hne)
  ·have hi2:i=σ.bs.length:=by
    rcases QR i (σ.bs ++ [cs]).length with h | h
    ·simp at h;omega
    ·rw[Q3 h]at h1;cases h1
   subst hi2;simp only[YZ]at h1;rw[<- hI.blen,YZ]at h2;injection h1 with h1
   injection h2 with h2
   subst h1 h2;exact hB
 ·unfold Yb at hx;split at hx
  ·rename_i hxb;subst hxb;exact hI.lt _ _ hν
  ·exact hI.lt x p hx
def Inv.toBox [Dr] (hI:Inv num N w0 m0 T β0 σ a w m β ν) {b:Nat} {cur:Ze} {e:TypeId} {cs:Qh} (hb:w.heap[b]? =some (.cells cur e (0,0))) (hν:ν b=some .f) (hm:m b=0)
  (hz:cs.length<=cur.size)
  (hcs: ∀(i:Nat) (c:AV),cs[i]? =some c->∃u,cur[i]? =some u/\u.oneCell'=true/\Qd num β w m c u/\∀p w' m' ν',Zz w' m' ν' p c u):
  Inv num N w0 m0 T β0 {σ with bs:=σ.bs ++ [cs]} a w m (β ++ [⟨b,cur.size,false,e⟩]) (Yb ν b (.g σ.bs.length)):=by
 refine hI.toBoxK (k:=⟨b,cur.size,false,e⟩) hν ⟨fun _=>⟨cur,e,hb,⟨rfl,hz⟩,hm,by simp[Yb],fun j c hc=> ?_⟩,fun q=>(by cases q),fun _=>⟨cur,hb⟩⟩;obtain⟨u,g1,g2,g3,g4⟩:=hcs j c hc;exact⟨u,g1,g2,Zc (Ge.append β _) (Le.refl w m) c u g3,g4 _ _ _ _⟩
def Qdr (ν:Own) (b:Nat) (p q:Pl):Yb (Yb ν b p) b q=Yb ν b q:=by
 funext x;unfold Yb;split <;> rfl
def Inv.addG [Dr] (hI:Inv num N w0 m0 T β0 σ a w m β ν) (cur:Ze) (e:TypeId) (cs:Qh) (hz:cur.size=cs.length)
  (hcs: ∀(i:Nat) (c:AV),cs[i]? =some c->∃u,cur[i]? =some u/\u.oneCell'=true/\Qd num β w m c u/\∀p w' m' ν',Zz w' m' ν' p c u):
  Inv num N w0 m0 T β0 {σ with bs:=σ.bs ++ [cs]} a (w.alloc (.cells cur e)) (m1 m w.heap.size 0) (β ++ [⟨w.heap.size,cur.size,false,e⟩]) (Yb ν w.heap.size (.g σ.bs.length)):=by
 have hF:=hI.fresh cur e 0 .f;have:=hF.toBox (cs:=cs) (heap_alloc_new w _) (by simp[Yb]) (by simp[m1]) (by omega) fun i c hc=>by
  obtain⟨u,g1,g2,g3,g4⟩:=hcs i c hc;exact⟨u,g1,g2,Zc (Ge.refl β) (ZO.alloc (fun _=>False) w m cur e 0).le c u g3,g4⟩
 rwa[Qdr]at this
def Inv.kill [Dr] (hI:Inv num N w0 m0 T β0 σ a w m β ν) {id q:Nat} {cs:Qh} {k:Blk} (hs:σ.bs[id]? =some cs) (hk:β[id]? =some k/\k.mp=false) (hne:cs≠[]):
  Inv num N w0 m0 T β0 {σ with bs:=σ.bs.set id []} a w (m1 m k.b q) β (Yb ν k.b .f)/\Le w m w (m1 m k.b q):=by
 obtain⟨cur,e,h1,h2,h3,h4,h5⟩:=(hI.boxes id cs k hs hk.1 hne).1 hk.2;have hlt:id < σ.bs.length:=by
  rcases QR id σ.bs.length with h | h
  ·exact h
  ·rw[Q3 h]at hs;cases hs
 have hle:Le w m w (m1 m k.b q):=fun x i u h=>by
  obtain⟨g1,g2,_⟩:=Wz h;have hx:x≠k.b:=fun e=>by subst e;omega
  unfold hg m1;rw[Qm hx,Qn g1];exact g2
 have hS:ZO (· =k.b) w m w (m1 m k.b q):=⟨rfl,rfl,rfl,ZJ _,fun x _ hx=>⟨rfl,by unfold m1;rw[Qm hx]⟩,hle,fun _=>ZJ _⟩;have hother: ∀{x:Nat} {p:Pl},ν x=some p->p≠ .g id->¬x=k.b/\Yb ν k.b .f x=some p:=fun {x p} hx hp=>by
  have hne: ¬x=k.b:=fun e=>by subst e;rw[h4]at hx;injection hx with hx;exact hp hx.symm
  exact⟨hne,by unfold Yb;rw[Qm hne];exact hx⟩
 refine⟨hI.next hS (fun x hx hxb=>by subst hxb;exact(hI.lt _ _ h4).2) (Ge.refl β) (fun _=>False) (fun t=>t=id)
  (fun x t h _=>hother h (by simp)) (fun x t i h _=>hother h (by simp)) (fun x t h hn=>hother h (by simpa using hn)) (fun x t i h hn=>hother h (by simp))
  (fun x p h=> ?_) (fun t hn=> .inl rfl) hI.out (fun t v hE hv=>hE.elim) (by simpa using hI.blen) (fun i hn=>by simp[Vs (fun e=>hn e.symm)])
  (fun i cs2 b2 hE h6 h7=> ?_),hle⟩
 ·unfold Yb at h;split at h
  ·rename_i hxb;subst hxb;exact hI.lt _ _ h4
  ·exact hI.lt x p h
 ·subst hE;simp only[Sj hlt]at h6;injection h6 with h6
  subst h6;exact fun h=>absurd rfl h
def V4:=@List.getElem?_eq_some_iff
def Sn {cs:Qh} {o sz n i:Nat} {x:Qh} (h: (ZX cs o sz n)[i]? =some x):i < n/\x=((cs.drop (o+i*sz)).take sz).map AV.strip:=by
 unfold ZX at h;rw[Wb]at h;cases hi: (List.range n)[i]? with
 | none=>rw[hi]at h;cases h
 | some k=>
  rw[hi]at h;injection h with h
  obtain⟨h1,h2⟩:=V4.1 hi;rw[List.getElem_range]at h2;rw[List.length_range]at h1;subst h2;exact⟨h1,h.symm⟩
def WG (cs:Qh) (o sz n:Nat): (ZX cs o sz n).length=n:=by simp[ZX]
def QC:=@Option.bind_some
def Si:=@Nat.mul_pos
def Mk:=@Nat.pos_of_ne_zero
def Yz:=@List.length_nil
def Z5:=@Nat.mul_le_mul_right
def VJ:=@List.getElem?_take
def XJ:=@List.getElem?_drop
def ON:=@decide_true
def Mu:=@decide_false
def Inv.frz [Dr] (hI:Inv num N w0 m0 T β0 σ a w m β ν) {n sz:Nat} (he:Yk σ n sz=some (v,σ1)):
  ∃m' ν',Inv num N w0 m0 T β0 σ1 a w m' β ν'/\Le w m w m'/\v.ok=true/\Qd num β w m' v (a.tmps.getD n undef)/\Zz w m' ν' .f v (a.tmps.getD n undef):=by
 unfold Yk at he;split at he
 ·rename_i id o sz1 k hn;split at he
  ·rename_i hc;obtain⟨rfl,hsz⟩:=hc;obtain⟨_,h2⟩:=hI.at_ (n:=n) (by rw[hn];simp);have h3:=hI.slots n _ h2;rw[hn]at h3;obtain⟨h3,_⟩:=h3;simp only[Qd]at h3;obtain⟨A,cap,hu,q1,q2,q3⟩:=h3;split at he
   ·rename_i hk0;injection he with he
    injection he with e1 e2
    subst e1 e2 hk0;refine⟨m,_,hI.takeSlot n,Le.refl w m,rfl,?_,trivial⟩;simp only[Qd];exact⟨A,0,cap,hu,rfl,q1,q2,.inl trivial⟩
   ·rename_i hk0;cases hbs:σ.bs[id]? with
    | none=>rw[hbs]at he;cases he
    | some cs=>
     rw[hbs]at he;simp only[QC]at he;split at he
     ·rename_i hl;injection he with he
      injection he with e1 e2
      subst e1 e2;rcases q3 with q3 | ⟨kb,q3,rfl,q4,_⟩
      ·exact absurd q3.1 hk0
      ·have hkm:0 < k*sz1:=Si (Mk hk0) hsz;have hne:cs≠[]:=fun e=>by rw[e]at hl;simp only[Yz]at hl;omega
       obtain⟨cur,e,p1,p2,p3,p4,p5⟩:=(hI.boxes id cs kb hbs q3.1 hne).1 q3.2;obtain⟨hK,hle⟩:=(hI.takeSlot n).kill (id:=id) (q:=o+k*sz1) hbs q3 hne;refine⟨_,_,hK,hle,rfl,?_,?_⟩
       ·simp only[Qd];refine⟨_,k,cap,hu,WG _ _ _ _,q1,q2,.inr ⟨kb.b,o,rfl,?_⟩⟩;rw[Xr];intro i x hx;obtain⟨hi,rfl⟩:=Sn hx;have hi2:i*sz1+sz1<=k*sz1:=by rw[<- Vw];exact Z5 _ hi
        refine⟨by simp;omega,?_⟩;rw[ZQ];intro j c hc;obtain⟨d,hd,rfl⟩:=Zn hc;rw[VJ]at hd;split at hd
        ·rename_i hj;rw[XJ]at hd;obtain⟨u,r1,r2,r3,_⟩:=p5 _ d hd;refine⟨u,?_,r2,by rw[QU];exact Zc (Ge.refl β) hle d u r3⟩;unfold hg m1;rw[Qn rfl,Qn (by omega),cell_of_row w kb.b _ cur e (0,0) p1];exact r1
        ·cases hd
       ·by_cases ho:o=0
        ·subst ho;simp only[ON,Zz];refine .inr ⟨kb.b,cap,cur,e,by rw[WG];exact hu,p1,by omega,by simp[m1,WG],by simp[Yb]⟩
        ·simp only[ho,Mu];exact trivial
     ·cases he
  ·split at he
   ·rename_i hz;obtain⟨rfl,rfl⟩:=hz;injection he with he
    injection he with e1 e2
    subst e1 e2;obtain⟨_,h2⟩:=hI.at_ (n:=n) (by rw[hn];simp);have h3:=hI.slots n _ h2;rw[hn]at h3;obtain⟨h3,_⟩:=h3;simp only[Qd]at h3;obtain⟨A,cap,hu,q1,q2,q3⟩:=h3;have hc0:cap=0:=by
     rcases q3 with q3 | ⟨_,_,_,_,h5⟩
     ·simpa using q3.2.1
     ·omega
    subst hc0;refine⟨m,_,hI.takeSlot n,Le.refl w m,rfl,?_,.inl ⟨A,0,hu⟩⟩;simp only[Qd];exact⟨A,0,0,hu,rfl,q1,q2,.inl trivial⟩
   ·cases he
 ·cases he
def Hw [Dr] {cs:Qh} (h:QY cs=true):QY (cs.map AV.strip)=true:=by
 rw[Rb]at h ⊢;intro i c hc;obtain⟨d,hd,rfl⟩:=Zn hc;rw[EZ];exact h i d hd
def Qij [Dr] {x:AO} {y:Operand} {t:TypeId} (hI:Inv num N w0 m0 T β0 σ a w m β ν) (ho:o.op= .box t y) (hxy:okO num x y=true)
  (he:Qi K (.gbox x) σ=some (v,σ1)) (h:Aft num N w0 m0 T β0 σ1 a v fun u w'=>next (a.put o.dst u) w'):o.wp P a w next Q:=by
 simp only[Qi]at he;cases hc:cellsOf (val σ.env x)with
 | none=>rw[hc]at he;cases he
 | some cs=>
  rw[hc]at he
  ·injection he with he
   injection he with h1 h2
   subst h1 h2;have hk: (val σ.env x).ok=true:=by
    cases hv:val σ.env x <;> rw[hv]at hc <;> simp[cellsOf,AV.one]at hc <;> rfl
   have hv:=(hI.val hxy hk).1;obtain⟨_,hz,hcs⟩:=WF hc hv;refine Qr (u:= .pointer (some ⟨w.heap.size,0,none⟩)) (w':=w.alloc (.cells (a.eval y).cells t)) (by simp[execOp,ho,Instr.box,newVar,newRow]) ?_;refine h _ _ _ _ _ (hI.addG (a.eval y).cells t (cs.map AV.strip) (by simpa using hz) fun i c hci=> ?_) ?_
   ·obtain⟨d,hd,rfl⟩:=Zn hci;obtain⟨u,g1,g2,g3⟩:=hcs i d hd;exact⟨u,g1,g2,by rw[QU];exact g3,fun _ _ _ _=>Yp _ _ _⟩
   ·refine(QT rfl).2 ⟨?_,trivial⟩;simp only[Qd];exact⟨⟨w.heap.size,(a.eval y).cells.size,false,t⟩,⟨by rw[<- hI.blen];simp,rfl⟩,rfl⟩
def Qc0 [Dr] {zs:Qh} {t:TypeId} (hI:Inv num N w0 m0 T β0 σ a w m β ν) (ho:o.op= .alloc t) (hz:TF P t zs=true)
  (he:Qi K (.galloc zs) σ=some (v,σ1)) (h:Aft num N w0 m0 T β0 σ1 a v fun u w'=>next (a.put o.dst u) w'):o.wp P a w next Q:=by
 simp only[Qi]at he
 ·injection he with he
  injection he with h1 h2
  subst h1 h2;obtain⟨z,hr,hc⟩:=SI (w:=w) hz;obtain⟨hl,hcs⟩:=YN _ _ hc;refine Qr (u:= .pointer (some ⟨w.heap.size,0,none⟩)) (w':=w.alloc (.cells z.cells t)) (by simp[execOp,ho,Instr.alloc,newVar,newRow,hr]) ?_;refine h _ _ _ _ _ (hI.addG z.cells t zs (by simpa using hl) fun i c hci=> ?_) ?_
  ·obtain⟨u,g1,g2⟩:=hcs i c hci;have hg:=Zu (num:=num) (β:=β) (w:=w) (m:=m) (ν:=ν) g2;exact⟨u,by simpa using g1,hg.2.1,hg.1,fun p w' m' ν'=>(Zu (num:=num) (β:=β) (w:=w') (m:=m') (ν:=ν') g2).2.2 p⟩
  ·refine(QT rfl).2 ⟨?_,trivial⟩;simp only[Qd];exact⟨⟨w.heap.size,z.cells.size,false,t⟩,⟨by rw[<- hI.blen];simp,rfl⟩,rfl⟩
def Qii [Dr] {T0:Nat} {zs:Qh} {t:TypeId} (hI:Inv num N w0 m0 T β0 σ a w m β ν) (ho:o.op= .alloc t) (hT:T0=t) (hz:TF P t zs=true)
  (he:Qi K (.galt T0 zs) σ=some (v,σ1)) (h:Aft num N w0 m0 T β0 σ1 a v fun u w'=>next (a.put o.dst u) w'):o.wp P a w next Q:=by
 subst hT;simp only[Qi]at he;split at he
 ·rename_i h2z;injection he with he
  injection he with h1 h2
  subst h1 h2;obtain⟨z,hr,hc⟩:=SI (w:=w) hz;obtain⟨hl,hcs⟩:=YN _ _ hc;refine Qr (u:= .pointer (some ⟨w.heap.size,0,none⟩)) (w':=w.alloc (.cells z.cells T0)) (by simp[execOp,ho,Instr.alloc,newVar,newRow,hr]) ?_;refine h _ _ _ _ _ (hI.addG z.cells T0 zs (by simpa using hl) fun i c hci=> ?_) ?_
  ·obtain⟨u,g1,g2⟩:=hcs i c hci;have hg:=Zu (num:=num) (β:=β) (w:=w) (m:=m) (ν:=ν) g2;exact⟨u,by simpa using g1,hg.2.1,hg.1,fun p w' m' ν'=>(Zu (num:=num) (β:=β) (w:=w') (m:=m') (ν:=ν') g2).2.2 p⟩
  ·refine(QT rfl).2 ⟨?_,trivial⟩;simp only[Qd];exact⟨⟨w.heap.size,z.cells.size,false,T0⟩,⟨by rw[<- hI.blen];simp,rfl⟩,rfl,(by have h9:=hl;simp at h9;show z.cells.size=2;omega),rfl⟩
 ·cases he
end
end Go.Am
namespace Go.Am
def Z2 (P:Program) (t:TypeId) (sz:Nat):Bool:=match P.info? t with
 | some i=>decide (i.size=sz)
 | none=>false
def Ws (P:Program) (t:TypeId) (ag:Bool):Bool:=match P.underlying t with
 | some (.struct _)=>ag
 | some (.array _ _)=>ag
 | some _=> !ag
 | none=>false
def SU (P:Program) (s:TypeId) (f off:Nat):Bool:=match P.underlying s with
 | some (.struct fs)=>match fs[f]? with
  | some fl=>decide (fl.offset=off) && (match P.info? fl.type with
   | some i=>decide (i.size≠0)
   | none=>false)
  | none=>false
 | _=>false
def U6 (a:Act) (q s off:Nat):Prop:=∃b,a.tmps.getD s undef= .pointer (some ⟨b,0,none⟩)/\a.tmps.getD q undef= .pointer (some ⟨b,off,none⟩)
section
variable {P:Program} {num:Nat->Option Nat} {β:List Blk} {w w':World} {m:Nat->Nat} {ν:Own} {N:Nat} {w0:World} {m0:Nat->Nat} {T:Nat->Prop} {β0:List Blk} {σ σ1:St} {a:Act}
 {o:Oper} {next:Act->World->Prop} {Q:Exit->Act->World->Prop} {K:Yo} {v:AV}
def ZH {t:TypeId} {sz:Nat} (h:Z2 P t sz=true): (sizeOf t).run P w= .ok sz w:=by
 unfold Z2 at h;split at h
 ·rename_i i hi;simp only[Qv]at h;simp[sizeOf,typeInfo,hi,h]
 ·cases h
def YX {t:TypeId} {ag:Bool} (h:Ws P t ag=true): (isAgg t).run P w= .ok ag w:=by
 unfold Ws at h;split at h
 ·rename_i hu;subst h;simp[isAgg,run_underlying hu]
 ·rename_i hu;subst h;simp[isAgg,run_underlying hu]
 ·rename_i d hu h1 h2;have:ag=false:=by simpa using h
  subst this;simp only[isAgg,Sem.run_bind,run_underlying h2,Result.andThen_ok];rfl
 ·cases h
def Ym (b o n:Nat):Addr.add ⟨b,o,none⟩ n=⟨b,o+n,none⟩:=Addr.add_lit b o n
def Z3:=@Bool.false_eq_true
def Zd:=@if_false
def WB:=@List.getElem?_take_of_lt
def Vi [Dr] {t:TypeId} {off sz:Nat} {ag:Bool} (hs:Z2 P t sz=true) (ha:Ws P t ag=true) {b o:Nat} {cs:Qh} (hrd:YY cs off sz ag=some v)
  (hc: ∀(i:Nat) (c:AV),cs[i]? =some c->∃u,w.cell? ⟨b,o+i,none⟩=some u/\u.oneCell'=true/\Qd num β w m c u):
  ∃u,(loadVar t ⟨b,o+off,none⟩).run P w= .ok u w/\v.ok=true/\Qd num β w m v u/\∀p,Zz w m ν p v u:=by
 unfold YY at hrd;split at hrd
 ·rename_i hle;cases ag
  ·simp only[Z3,Zd]at hrd;split at hrd
   ·cases hco:cs[off]? with
    | none=>rw[hco]at hrd;cases hrd
    | some c=>
     rw[hco]at hrd;simp only[QC]at hrd;split at hrd
     ·rename_i h1;injection hrd with hrd
      subst hrd;obtain⟨u,g1,g2,g3⟩:=hc off c hco;refine⟨u,?_,?_,by rw[QU];exact g3,fun p=>Yp _ _ _⟩
      ·simp only[loadVar,Sem.run_bind,YX ha,Result.andThen_ok,Z3,Zd,run_load,g1]
      ·rw[PT];cases c <;> first | rfl | simp[AV.one]at h1
     ·cases hrd
   ·cases hrd
  ·simp only[Zl]at hrd;injection hrd with hrd
   subst hrd;have hget: ∀j,j < sz->∃c,cs[off+j]? =some c:=fun j hj=>⟨_,Zv (by omega)⟩
   let f:Nat->Value:=fun j=>(w.cell? ⟨b,o+off+j,none⟩).getD undef
   have hf: ∀j,j < sz->w.cell? ((⟨b,o+off,none⟩:Addr).add j)=some (f j):=fun j hj=>by
    obtain⟨c,hcj⟩:=hget j hj;obtain⟨u,g1,_,_⟩:=hc _ c hcj;rw[Ym];rw[show o+ (off+j)=o+off+j by omega]at g1;simp[f,g1]
   refine⟨.agg ((List.range sz).map f).toArray,?_,rfl,?_,fun p=>trivial⟩
   ·simp only[loadVar,Sem.run_bind,YX ha,ZH hs,Result.andThen_ok,Zl];rw[run_loadCells w _ sz f hf];rfl
   ·simp only[Qd];refine⟨_,rfl,by simp;omega,?_⟩;rw[ZQ];intro i c hci;obtain⟨d,hd,rfl⟩:=Zn hci;have hisz:i < sz:=by
     rcases QR i sz with h | h
     ·exact h
     ·rw[Q3 (by simp;omega)]at hd;cases hd
    rw[WB hisz,XJ]at hd;obtain⟨u,g1,g2,g3⟩:=hc _ d hd;refine⟨u,?_,g2,by rw[QU];exact g3⟩;rw[show o+ (off+i)=o+off+i by omega]at g1;simp[f,hisz,g1]
 ·cases hrd
def Inv.box_at [Dr] (hI:Inv num N w0 m0 T β0 σ a w m β ν) {s q off:Nat} {cs:Qh} (hs:σ.env s= .bx cs) (hp:U6 a q s off\/(q=s/\off=0)):
  ∃b cur e,a.tmps[s]? =some (.pointer (some ⟨b,0,none⟩))/\a.eval (.tmp q)= .pointer (some ⟨b,off,none⟩)/\w.heap[b]? =some (.cells cur e (0,0))/\cur.size=cs.length/\
   ∀(i:Nat) (c:AV),cs[i]? =some c->∃u,cur[i]? =some u/\u.oneCell'=true/\Qd num β w m c u/\Zz w m ν (.c s i) c u:=by
 obtain⟨_,h2⟩:=hI.at_ (n:=s) (by rw[hs];simp);have h3:=hI.slots s _ h2;rw[hs]at h3;obtain⟨b,h4,cur,e,h5,h6,h7,h8,h9⟩:=h3;refine⟨b,cur,e,by rw[h2,h4],?_,h5,h6.1,h9⟩;rcases hp with⟨b2,p1,p2⟩ | ⟨rfl,rfl⟩
 ·rw[h4]at p1;injection p1 with p1
  injection p1 with p1
  injection p1 with p1
  subst p1;exact p2
 ·exact h4
def Zk:=@Nat.zero_add
def Qnf [Dr] {s q off sz:Nat} {ag:Bool} {t:TypeId} (hI:Inv num N w0 m0 T β0 σ a w m β ν) (ho:o.op= .load t (.tmp q)) (hs:Z2 P t sz=true) (ha:Ws P t ag=true)
  (hp:U6 a q s off\/(q=s/\off=0)) (he:Qi K (.ldf s off sz ag) σ=some (v,σ1)) (h:Aft num N w0 m0 T β0 σ1 a v fun u w'=>next (a.put o.dst u) w'):o.wp P a w next Q:=by
 simp only[Qi]at he;split at he
 ·rename_i cs hcs;cases hr:YY cs off sz ag with
  | none=>rw[hr]at he;cases he
  | some v2=>
   rw[hr]at he;injection he with he
   injection he with h1 h2
   subst h1 h2;obtain⟨b,cur,e,_,hq,hb,hz,hc⟩:=hI.box_at hcs hp;obtain⟨u,g1,g2,g3,g4⟩:=Vi (w:=w) (num:=num) (β:=β) (m:=m) (ν:=ν) (o:=0) (b:=b) hs ha hr (fun i c hi=>by
    obtain⟨u,k1,k2,k3,_⟩:=hc i c hi;exact⟨u,by rw[Zk,cell_of_row w b i cur e (0,0) hb];exact k1,k2,k3⟩)
   refine Qr (u:=u) (w':=w) ?_ (h.same hI g2 g3 (g4 _));rw[Zk]at g1;simp only[execOp,ho,Instr.loadAt,hq,Instr.sureAddr,Sem.run_bind,Sem.run_pure,Result.andThen_ok,g1]
 ·cases he
def Ty:=@Nat.add_zero
def QoL [Dr] {p sz:Nat} {ag:Bool} {t:TypeId} (hI:Inv num N w0 m0 T β0 σ a w m β ν) (ho:o.op= .load t (.tmp p)) (hs:Z2 P t sz=true) (ha:Ws P t ag=true)
  (he:Qi K (.ld p sz ag) σ=some (v,σ1)) (h:Aft num N w0 m0 T β0 σ1 a v fun u w'=>next (a.put o.dst u) w'):o.wp P a w next Q:=by
 simp only[Qi]at he;split at he
 ·rename_i cs hcs;cases hr:YY cs 0 sz ag with
  | none=>rw[hr]at he;cases he
  | some v2=>
   rw[hr]at he;injection he with he
   injection he with h1 h2
   subst h1 h2;obtain⟨_,h2⟩:=hI.at_ (n:=p) (by rw[hcs];simp);have h3:=hI.slots p _ h2;rw[hcs]at h3;obtain⟨h3,_⟩:=h3;simp only[Qd]at h3;obtain⟨b,o2,h4,h5⟩:=h3;rw[ZQ]at h5;obtain⟨u,g1,g2,g3,g4⟩:=Vi (w:=w) (num:=num) (β:=β) (m:=m) (ν:=ν) (o:=o2) (b:=b) hs ha hr (fun i c hi=>by
    obtain⟨u,k1,k2,k3⟩:=h5 i c hi;exact⟨u,(Wz k1).2.1,k2,k3⟩)
   refine Qr (u:=u) (w':=w) ?_ (h.same hI g2 g3 (g4 _));rw[Ty]at g1;have hq:a.eval (.tmp p)= .pointer (some ⟨b,o2,none⟩):=h4;simp only[execOp,ho,Instr.loadAt,hq,Instr.sureAddr,Sem.run_bind,Sem.run_pure,Result.andThen_ok,g1]
 ·cases he
def Ha {α:Type} {cs:List α} {i:Nat} {c:α} (h:cs[i]? =some c):cs≠[]:=fun e=>by rw[e]at h;simp at h
def Qng [Dr] {p sz:Nat} {ag:Bool} {t:TypeId} (hI:Inv num N w0 m0 T β0 σ a w m β ν) (ho:o.op= .load t (.tmp p)) (hs:Z2 P t sz=true) (ha:Ws P t ag=true)
  (he:Qi K (.ldg p sz ag) σ=some (v,σ1)) (h:Aft num N w0 m0 T β0 σ1 a v fun u w'=>next (a.put o.dst u) w'):o.wp P a w next Q:=by
 simp only[Qi]at he;split at he
 ·rename_i i off hcs;cases hbs:σ.bs[i]? with
  | none=>rw[hbs]at he;cases he
  | some cs=>
   rw[hbs]at he;simp only[QC]at he;cases hr:YY cs off sz ag with
   | none=>rw[hr]at he;cases he
   | some v2=>
    rw[hr]at he;injection he with he
    injection he with h1 h2
    subst h1 h2;obtain⟨_,h2⟩:=hI.at_ (n:=p) (by rw[hcs];simp);have h3:=hI.slots p _ h2;rw[hcs]at h3;obtain⟨h3,_⟩:=h3;simp only[Qd]at h3;obtain⟨⟨b,z,mp,ty⟩,h4,h5⟩:=h3;obtain⟨u,g1,g2,g3,g4⟩:=Vi (w:=w) (num:=num) (β:=β) (m:=m) (ν:=ν) (o:=0) (b:=b) hs ha hr (fun j c hi=>by
     obtain⟨cur,e,k1,k2,_,_,hc⟩:=(hI.boxes i cs _ hbs h4.1 (Ha hi)).1 h4.2;obtain⟨u,c1,c2,c3,_⟩:=hc j c hi;exact⟨u,by rw[Zk,cell_of_row w b j cur e (0,0) k1];exact c1,c2,c3⟩)
    refine Qr (u:=u) (w':=w) ?_ (h.same hI g2 g3 (g4 _));rw[Zk]at g1;have hq:a.eval (.tmp p)= .pointer (some ⟨b,off,none⟩):=h5;simp only[execOp,ho,Instr.loadAt,hq,Instr.sureAddr,Sem.run_bind,Sem.run_pure,Result.andThen_ok,g1]
 ·cases he
def TD {c:AV} (h:c.one=true):c.ok=true:=by cases c <;> first | rfl | simp[AV.one]at h
def Qim [Dr] {s q off:Nat} {t:TypeId} (hI:Inv num N w0 m0 T β0 σ a w m β ν) (ho:o.op= .load t (.tmp q)) (ha:Ws P t false=true)
  (hp:U6 a q s off\/(q=s/\off=0)) (he:Qi K (.ldfm s off) σ=some (v,σ1)) (h:Aft num N w0 m0 T β0 σ1 a v fun u w'=>next (a.put o.dst u) w'):o.wp P a w next Q:=by
 simp only[Qi]at he;split at he
 ·rename_i cs hcs;cases hr:cs[off]? with
  | none=>rw[hr]at he;cases he
  | some c=>
   rw[hr]at he;simp only[QC]at he;split at he
   ·rename_i h1c;injection he with he
    injection he with h1 h2
    subst h1 h2;obtain⟨b,cur,e,_,hq,hb,hz,hc⟩:=hI.box_at hcs hp;obtain⟨u,k1,k2,k3,k4⟩:=hc off c hr;have hcell:w.cell? ⟨b,off,none⟩=some u:=by rw[cell_of_row w b off cur e (0,0) hb];exact k1
    refine Qr (u:=u) (w':=w) ?_ ?_
    ·simp only[execOp,ho,Instr.loadAt,hq,Instr.sureAddr,Sem.run_bind,Sem.run_pure,Result.andThen_ok,loadVar,YX ha,Z3,Zd,run_load,hcell]
    ·refine h u w m β _ (hI.takeCell s off hcs) ((QT (TD h1c)).2 ⟨k3,?_⟩);have:=VX (θ:=mv (.c s off) .f) k4;rwa[show mv (.c s off) .f (.c s off)= .f by simp[mv]]at this
   ·cases he
 ·cases he
def Qnh [Dr] {p:Nat} {t:TypeId} (hI:Inv num N w0 m0 T β0 σ a w m β ν) (ho:o.op= .load t (.tmp p)) (ha:Ws P t false=true)
  (he:Qi K (.ldm p) σ=some (v,σ1)) (h:Aft num N w0 m0 T β0 σ1 a v fun u w'=>next (a.put o.dst u) w'):o.wp P a w next Q:=by
 simp only[Qi]at he;split at he
 ·rename_i i off hcs;cases hbs:σ.bs[i]? with
  | none=>rw[hbs]at he;cases he
  | some cs=>
   rw[hbs]at he;simp only[QC]at he;cases hr:cs[off]? with
   | none=>rw[hr]at he;cases he
   | some c=>
    rw[hr]at he;simp only[QC]at he;split at he
    ·rename_i h1c;injection he with he
     injection he with h1 h2
     subst h1 h2;obtain⟨_,h2⟩:=hI.at_ (n:=p) (by rw[hcs];simp);have h3:=hI.slots p _ h2;rw[hcs]at h3;obtain⟨h3,_⟩:=h3;simp only[Qd]at h3;obtain⟨⟨b,z,mp,ty⟩,h4,h5⟩:=h3;obtain⟨cur,e,k1,k2,_,_,hc⟩:=(hI.boxes i cs _ hbs h4.1 (Ha hr)).1 h4.2;obtain⟨u,c1,c2,c3,c4⟩:=hc off c hr;have hcell:w.cell? ⟨b,off,none⟩=some u:=by rw[cell_of_row w b off cur e (0,0) k1];exact c1
     have hq:a.eval (.tmp p)= .pointer (some ⟨b,off,none⟩):=h5;refine Qr (u:=u) (w':=w) ?_ ?_
     ·simp only[execOp,ho,Instr.loadAt,hq,Instr.sureAddr,Sem.run_bind,Sem.run_pure,Result.andThen_ok,loadVar,YX ha,Z3,Zd,run_load,hcell]
     ·refine h u w m β _ (hI.takeG i off hbs h4) ((QT (TD h1c)).2 ⟨c3,?_⟩);have:=VX (θ:=mv (.gc i off) .f) c4;rwa[show mv (.gc i off) .f (.gc i off)= .f by simp[mv]]at this
    ·cases he
 ·cases he
def Rg [Dr] {s:TypeId} {f off b o2:Nat} (h:SU P s f off=true): (Instr.fieldAt s (.pointer (some ⟨b,o2,none⟩)) f).run P w= .ok (.pointer (some ⟨b,o2+off,none⟩)) w:=by
 unfold SU at h;split at h
 ·rename_i fs hu;split at h
  ·rename_i fl hf;simp only[Qo,Qv]at h;obtain⟨h1,h2⟩:=h;split at h2
   ·rename_i i hi;simp only[ne_eq,Qv]at h2;simp[Instr.fieldAt,run_underlying hu,hf,Instr.sureAddr,fieldPlace,sizeOf,typeInfo,hi,h2,Ym,h1]
   ·cases h2
  ·cases h
 ·cases h
def HH (P:Program) (t:TypeId) (i:Int) (off:Nat):Bool:=match P.underlying t with
 | some (.array n e)=>decide (0<=i/\i < n) && (match P.info? e with
  | some inf=>decide (i.toNat* inf.size=off)
  | none=>false)
 | _=>false
def DB [Dr] {s:TypeId} {i:Int} {k:IntKind} {off b o2:Nat} (h:HH P s i off=true): (Instr.indexAt s (.pointer (some ⟨b,o2,none⟩)) (.int k i)).run P w= .ok (.pointer (some ⟨b,o2+off,none⟩)) w:=by
 unfold HH at h;split at h
 ·rename_i n e hu;simp only[Qo,Qv]at h;obtain⟨h1,h2⟩:=h;split at h2
  ·rename_i inf hi;simp only[Qv]at h2;simp[Instr.indexAt,asIntOf,run_underlying hu,Instr.sureAddr,sizeOf,typeInfo,hi,h1,h2,Result.andThen,Addr.add]
  ·cases h2
 ·cases h
def Qig [Dr] {s:TypeId} {q off b o2:Nat} {k:IntKind} {i:Int} (hI:Inv num N w0 m0 T β0 σ a w m β ν) (ho:o.op= .indexAddr s (.tmp q) (.const (.int k i))) (hf:HH P s i off=true)
  {s2 off2:Nat} (hq:a.eval (.tmp q)= .pointer (some ⟨b,o2,none⟩)) (he:Qi K (.fad s2 off2) σ=some (v,σ1))
  (h:Inv num N w0 m0 T β0 σ1 a w m β ν->v= .undef->next (a.put o.dst (.pointer (some ⟨b,o2+off,none⟩))) w):o.wp P a w next Q:=by
 simp only[Qi]at he;split at he
 ·injection he with he
  injection he with h1 h2
  subst h1 h2;have hk:a.eval (.const (.int k i))= .int k i:=rfl;exact Qr (u:= .pointer (some ⟨b,o2+off,none⟩)) (w':=w) (by simp only[execOp,ho,hq,hk,Sem.run_bind,DB hf,Result.andThen_ok,Sem.run_pure]) (h hI rfl)
 ·cases he
def QcY [Dr] {s:TypeId} {q f off b o2:Nat} (hI:Inv num N w0 m0 T β0 σ a w m β ν) (ho:o.op= .fieldAddr s (.tmp q) f) (hf:SU P s f off=true)
  {s2 off2:Nat} (hq:a.eval (.tmp q)= .pointer (some ⟨b,o2,none⟩)) (he:Qi K (.fad s2 off2) σ=some (v,σ1))
  (h:Inv num N w0 m0 T β0 σ1 a w m β ν->v= .undef->next (a.put o.dst (.pointer (some ⟨b,o2+off,none⟩))) w):o.wp P a w next Q:=by
 simp only[Qi]at he;split at he
 ·injection he with he
  injection he with h1 h2
  subst h1 h2;exact Qr (u:= .pointer (some ⟨b,o2+off,none⟩)) (w':=w) (by simp only[execOp,ho,hq,Sem.run_bind,Rg hf,Result.andThen_ok,Sem.run_pure]) (h hI rfl)
 ·cases he
def V6:=@Nat.add_assoc
def Qih [Dr] {s:TypeId} {p f off:Nat} (hI:Inv num N w0 m0 T β0 σ a w m β ν) (ho:o.op= .fieldAddr s (.tmp p) f) (hf:SU P s f off=true)
  (he:Qi K (.fadr p off) σ=some (v,σ1)) (h:Aft num N w0 m0 T β0 σ1 a v fun u w'=>next (a.put o.dst u) w'):o.wp P a w next Q:=by
 simp only[Qi]at he;split at he
 ·rename_i i o2 hcs;injection he with he
  injection he with h1 h2
  subst h1 h2;obtain⟨_,h2⟩:=hI.at_ (n:=p) (by rw[hcs];simp);have h3:=hI.slots p _ h2;rw[hcs]at h3;obtain⟨h3,_⟩:=h3;simp only[Qd]at h3;obtain⟨⟨b,z,mp,ty⟩,h4,h5⟩:=h3;have hq:a.eval (.tmp p)= .pointer (some ⟨b,o2,none⟩):=h5;refine Qr (u:= .pointer (some ⟨b,o2+off,none⟩)) (w':=w) (by simp only[execOp,ho,hq,Sem.run_bind,Rg hf,Result.andThen_ok,Sem.run_pure]) (h.same hI rfl ?_ trivial);simp only[Qd];exact⟨⟨b,z,mp,ty⟩,h4,rfl⟩
 ·rename_i ty i hcs;injection he with he
  injection he with h1 h2
  subst h1 h2;obtain⟨_,h2⟩:=hI.at_ (n:=p) (by rw[hcs];simp);have h3:=hI.slots p _ h2;rw[hcs]at h3;have h4:=((QT (c:= .gt ty i) rfl).1 h3).1;simp only[Qd]at h4;obtain⟨kb,h4,_,_,h5⟩:=h4;have hq:a.eval (.tmp p)= .pointer (some ⟨kb.b,0,none⟩):=h5;refine Qr (u:= .pointer (some ⟨kb.b,0+off,none⟩)) (w':=w) (by simp only[execOp,ho,hq,Sem.run_bind,Rg hf,Result.andThen_ok,Sem.run_pure]) (h.same hI rfl ?_ trivial);simp only[Qd,Zk];exact⟨kb,h4,rfl⟩
 ·rename_i cs hcs;injection he with he
  injection he with h1 h2
  subst h1 h2;obtain⟨_,h2⟩:=hI.at_ (n:=p) (by rw[hcs];simp);have h3:=hI.slots p _ h2;rw[hcs]at h3;obtain⟨h3,_⟩:=h3;simp only[Qd]at h3;obtain⟨b,o2,h4,h5⟩:=h3;have hq:a.eval (.tmp p)= .pointer (some ⟨b,o2,none⟩):=h4;refine Qr (u:= .pointer (some ⟨b,o2+off,none⟩)) (w':=w) (by simp only[execOp,ho,hq,Sem.run_bind,Rg hf,Result.andThen_ok,Sem.run_pure]) (h.same hI rfl ?_ trivial);simp only[Qd];refine⟨b,o2+off,rfl,?_⟩;rw[ZQ]at h5 ⊢;intro i c hc;rw[XJ]at hc;obtain⟨u,g1,g2,g3⟩:=h5 _ c hc;exact⟨u,by rw[V6];exact g1,g2,g3⟩
 ·cases he
end
end Go.Am
