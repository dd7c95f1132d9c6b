/-
  Am4, Am5, Am6.
-/
import Derived.Test.YthlnfdbbneaelaaGreatDoorG00
set_option linter.all false
namespace Go.Am
section
variable {num:Nat->Option Nat} {β β':List Blk} {w w':World} {m m':Nat->Nat} {ν ν':Own} {N:Nat} {w0:World} {m0:Nat->Nat} {T:Nat->Prop} {β0:List Blk} {σ σ':St} {a:Act}
def m1 (m:Xs) (b k:Nat):Xs:=fun x=>if x=b then k else m x
def Y0 (ν:Own) (b:Nat) (p:Pl):Own:=fun x=>if x=b then some p else ν x
def Xj (ν:Own) (θ:Pl->Pl):Own:=fun b=>(ν b).map θ
def Ub {b i u} (h:hg w m b i=some u):i < m b/\w.cell? ⟨b,i,none⟩=some u/\b < w.heap.size:=by
 unfold hg at h;split at h;rename_i d;exact⟨d,h,block_lt_of_cell (a:=⟨b,i,none⟩) h⟩;cases h
def Qb:=@if_neg
def Qe:=@if_pos
def Y2.allocO [Dr] (X w m f k):Y2 X w m (w.alloc f) (m1 m w.heap.size k):=by
 refine⟨rfl,rfl,rfl,by simp,fun b c _=>⟨Go.RowKit.Below.heap_alloc w _ b c,by unfold m1;grind⟩,fun b i u h=> ?_,fun _=>QX _⟩;obtain⟨d,g,e⟩:=Ub h;unfold hg m1;rwa[Qb (show ¬b=w.heap.size by omega),Qe d,World.cell?_alloc_lt w _ ⟨b,i,none⟩ e]
def Y2.alloc [Dr] (X w m b e k):Y2 X w m (w.alloc (.cells b e)) (m1 m w.heap.size k):=Y2.allocO X w m _ k
def Y2.drew [Dr] (X w m):Y2 X w m w.drew m:=
 ⟨rfl,rfl,rfl,QX _,fun _ _ _=>⟨rfl,rfl⟩,fun _ _ _ h=>h,fun _=>Nat.le_succ _⟩
def Y2.setRow [Dr] {b cur cur' e k} (f:w.heap[b]? =some (.cells cur e (0,0)))
  (n: ∀(i:Nat) (u:Value),i < m b->cur[i]? =some u->cur'[i]? =some u) (l:m b<=k):Y2 (· =b) w m (w.setRow b cur') (m1 m b k):=by
 refine⟨rfl,rfl,rfl,by simp,fun x _ d=>⟨setRow_other w b x cur' d,by unfold m1;grind⟩,fun x i u h=> ?_,fun _=>QX _⟩;obtain⟨g,j,o⟩:=Ub h;unfold hg m1;by_cases d:x=b;subst d;rw[Qe rfl,Qe (by omega),cell_setRow_same w x i cur cur' e (0,0) f];rw[cell_of_row w x i cur e (0,0) f]at j;grind;rwa[Qb d,Qe g,cell_setRow_other w b cur' ⟨x,i,none⟩ d]
def Q0:=@List.getElem?_eq_getElem
def Inv.next [Dr] {X} (f:Inv num N w0 m0 T β0 σ a w m β ν) (E:Y2 X w m w' m') (R: ∀b,b < w.heap.size->X b->w0.heap.size<=b\/T b) (q:Ge β β')
  (A D:Nat->Prop)
  (O: ∀b t,ν b=some (.s t)->¬A t->¬X b/\ν' b=some (.s t)) (S: ∀b t i,ν b=some (.c t i)->¬A t->¬X b/\ν' b=some (.c t i))
  (Q: ∀b t,ν b=some (.g t)->¬D t->¬X b/\ν' b=some (.g t)) (J: ∀b t i,ν b=some (.gc t i)->¬D t->¬X b/\ν' b=some (.gc t i))
  (y: ∀b p,ν' b=some p->b < w'.heap.size/\(w0.heap.size<=b\/T b))
  (z: ∀t,¬A t->σ'.env t=σ.env t\/σ'.env t= .undef) (C: ∀t,N<=t->σ'.env t= .undef)
  (V: ∀t v,A t->a.tmps[t]? =some v->Pb num β' w' m' ν' (.s t) (fun i=> .c t i) (σ'.env t) v)
  (H:β'.length=σ'.bs.length) (I: ∀(i:Nat),¬D i->σ'.bs[i]? =σ.bs[i]?)
  (U: ∀(i:Nat) (cs:Qx) (k:Blk),D i->σ'.bs[i]? =some cs->β'[i]? =some k->(cs≠[]->La num β' w' m' ν' i k cs)):
  Inv num N w0 m0 T β0 σ' a w' m' β' ν':=by
 have d: ∀b,b < w.heap.size->¬X b->w'.heap[b]? =w.heap[b]? /\m' b=m b:=fun b e G=>E.same b e G;refine⟨f.defers,f.size,C,fun t v M=> ?_,H,fun i cs b L l K=> ?_,y,f.step.trans E fun b e G=> ?_,fun i b e=>q i b (f.ge i b e)⟩;by_cases x:A t;grind;rcases z t x with h | h;rw[h];refine L6 (θ:=id) q E.le ?_ ?_ (f.slots t v M);intro b e;have:=O b t e x;have l:=d b (f.lt b _ e).1 this.1;exact⟨l.1,l.2,this.2⟩;intro i b e;have:=S b t i e x;have l:=d b (f.lt b _ e).1 this.1;exact⟨l.1,l.2,this.2⟩;rw[h];exact trivial;by_cases x:D i;grind;rw[I i x]at L;have y:i < σ.bs.length:=by grind
 have r: ∃B,β[i]? =some B:=⟨β[i]'(by rwa[f.blen]),Q0 _⟩;obtain⟨B,r⟩:=r;have:B=b:=by have:=q i B r;grind
 subst this;refine V3 q E.le ?_ ?_ (f.boxes i cs B L r K);intro b e;have:=Q b i e x;have l:=d b (f.lt b _ e).1 this.1;exact⟨l.1,l.2,this.2⟩;intro j b e;have:=J b i j e x;have l:=d b (f.lt b _ e).1 this.1;exact⟨l.1,l.2,this.2⟩;rcases R b (Lz e f.step.size) G with h | h;omega;exact h
def Inv.drew [Dr] (b:Inv num N w0 m0 T β0 σ a w m β ν):Inv num N w0 m0 T β0 σ a w.drew m β ν:=
 b.next (X:=fun _=>False) (Y2.drew _ w m) (fun _ _ h=>h.elim) (Ge.refl β) (fun _=>False) (fun _=>False)
  (fun _ _ h _=>⟨id,h⟩) (fun _ _ _ h _=>⟨id,h⟩) (fun _ _ h _=>⟨id,h⟩) (fun _ _ _ h _=>⟨id,h⟩) b.lt (fun _ _=> .inl rfl) b.out (fun _ _ h=>h.elim) b.blen (fun _ _=>rfl) (fun _ _ _ h=>h.elim)
def NC [Dr] {x p q} (b:Inv num N w0 m0 T β0 σ a w m β ν) (c:ν x=some p):Y0 ν w.heap.size q x=some p:=by
 unfold Y0;rwa[Qb (by have:=(b.lt x p c).1;omega)]
def Inv.freshO [Dr] (c:Inv num N w0 m0 T β0 σ a w m β ν) (d k q):
  Inv num N w0 m0 T β0 σ a (w.alloc d) (m1 m w.heap.size k) β (Y0 ν w.heap.size q):=
 c.next (X:=fun _=>False) (Y2.allocO _ w m d k) (fun _ _ h=>h.elim) (Ge.refl β) (fun _=>False) (fun _=>False)
  (fun _ _ h _=>⟨id,NC c h⟩) (fun _ _ _ h _=>⟨id,NC c h⟩) (fun _ _ h _=>⟨id,NC c h⟩) (fun _ _ _ h _=>⟨id,NC c h⟩)
  (fun b p h=>by
   unfold Y0 at h;split at h;rename_i e;subst e;exact⟨by simp,.inl c.step.size⟩;have:=c.lt b p h;exact⟨by simp;omega,this.2⟩)
  (fun _ _=> .inl rfl) c.out (fun _ _ h=>h.elim) c.blen (fun _ _=>rfl) (fun _ _ _ h=>h.elim)
def Inv.fresh [Dr] (d:Inv num N w0 m0 T β0 σ a w m β ν) (b e k q):
  Inv num N w0 m0 T β0 σ a (w.alloc (.cells b e)) (m1 m w.heap.size k) β (Y0 ν w.heap.size q):=d.freshO _ k q
def mv (p q:Pl):Pl->Pl:=fun x=>if x=p then q else x
def R3 {p q r b} (h:ν b=some r) (c:r≠p):Xj ν (mv p q) b=some r:=by
 unfold Xj mv;grind
def R2 [Dr] {θ} (d:Inv num N w0 m0 T β0 σ a w m β ν) (b p) (h:Xj ν θ b=some p):b < w.heap.size/\(w0.heap.size<=b\/T b):=by
 unfold Xj at h;rcases c:ν b with _ | q;grind;exact d.lt b q c
def QT:=@if_true
def Inv.takeSlot [Dr] (b:Inv num N w0 m0 T β0 σ a w m β ν) (n):
  Inv num N w0 m0 T β0 {σ with env:=upd σ.env n .undef} a w m β (Xj ν (mv (.s n) .f)):=
 b.next (X:=fun _=>False) (Y2.refl _ w m) (fun _ _ h=>h.elim) (Ge.refl β) (fun t=>t=n) (fun _=>False)
  (fun _ t h g=>⟨id,R3 h (by grind)⟩) (fun _ _ _ h _=>⟨id,R3 h (by simp)⟩) (fun _ _ h _=>⟨id,R3 h (by simp)⟩) (fun _ _ _ h _=>⟨id,R3 h (by simp)⟩)
  (R2 b) (fun t g=> .inl (by simp only[upd];grind)) (fun t e=>by simp only[upd];split <;> first | rfl | exact b.out t e)
  (fun t v d _=>by subst d;simp only[upd,QT];exact trivial) b.blen (fun _ _=>rfl) (fun _ _ _ h=>h.elim)
def UU {θ} {p} {c} {u} (h:Yr w m ν p c u):Yr w m (Xj ν θ) (θ p) c u:=
 V4 (θ:=θ) (fun b d=>⟨rfl,rfl,by unfold Xj;grind⟩) h
def QfH (d:Nat):Pl->Pl
 | .f=> .s d
 | .fc i=> .c d i
 | p=>p
def OL {d b p} (h:ν b=some p) (c:p≠ .f) (e: ∀i,p≠ .fc i):Xj ν (QfH d) b=some p:=by
 unfold Xj;rw[h];cases p <;> first | rfl | exact absurd rfl c | grind
def QhQ:=@Array.getElem?_setIfInBounds_self_of_lt
def Ls:=@Array.getElem?_setIfInBounds_ne
def Inv.put [Dr] (l:Inv num N w0 m0 T β0 σ a w m β ν) {v u} (s:Pb num β w m ν .f (fun i=> .fc i) v u) (d) (z:d < N):
  Inv num N w0 m0 T β0 {σ with env:=upd σ.env d v} (a.put (some d) u) w m β (Xj ν (QfH d)):=by
 have g:Inv num N w0 m0 T β0 {σ with env:=upd σ.env d .undef} a w m β (Xj ν (QfH d)):=l.next (X:=fun _=>False) (Y2.refl _ w m) (fun _ _ h=>h.elim) (Ge.refl β) (fun t=>t=d) (fun _=>False) (fun _ t h r=>⟨id,OL h (by simp) (by simp)⟩) (fun _ _ _ h _=>⟨id,OL h (by simp) (by simp)⟩) (fun _ _ h _=>⟨id,OL h (by simp) (by simp)⟩) (fun _ _ _ h _=>⟨id,OL h (by simp) (by simp)⟩) (R2 l) (fun t r=> .inl (by simp only[upd];grind)) (fun t j=>by simp only[upd];split <;> first | rfl | exact l.out t j) (fun t v q _=>by subst q;simp only[upd,QT];exact trivial) l.blen (fun _ _=>rfl) (fun _ _ _ h=>h.elim);refine⟨g.defers,by simpa[Act.put]using l.size,fun t j=> ?_,fun t x p=> ?_,g.blen,g.boxes,g.lt,g.step,g.ge⟩;simp only[upd];rw[Qb (by omega)];exact l.out t j;simp only[Act.put,upd]at p ⊢;by_cases j:t=d;subst j;rw[QhQ (by grind)]at p;cases p;rw[Qe rfl];exact L6 (θ:=QfH t) (pl:= .f) (cp:=fun i=> .fc i) (Ge.refl β) (Le.refl w m) (fun b y=>⟨rfl,rfl,by unfold Xj;grind⟩) (fun i b y=>⟨rfl,rfl,by unfold Xj;grind⟩) s;rw[Ls (fun e=>j e.symm)]at p;rw[Qb j];have:=g.slots t x p;simp only[upd]at this;grind
def RU {b} (h:m b=0):m1 m b 0=m:=by
 funext x;unfold m1;grind
def Bg {b} {cur'} {k} {p} {θ} (d:ν b≠some p) {c} {u} (h:Yr w m ν p c u):Yr (w.setRow b cur') (m1 m b k) (Xj ν θ) (θ p) c u:=by
 refine V4 (θ:=θ) (fun x f=> ?_) h;exact⟨setRow_other w b x cur' (fun e=>by grind),by unfold m1;grind,by unfold Xj;grind⟩
def Inv.setBox [Dr] (r:Inv num N w0 m0 T β0 σ a w m β ν) (s) {D cs' x} (R:σ.env s= .bx D) (z:a.tmps[s]? =some x):
  ∃b f e,x= .pointer (some ⟨b,0,none⟩)/\w.heap[b]? =some (.cells f e (0,0))/\f.size=D.length/\
   (∀i c,D[i]? =some c->∃u,f[i]? =some u/\u.oneCell'=true/\Qh num β w m c u/\Yr w m ν (.c s i) c u)/\
   ∀o d,(∀t,o (.s t)= .s t)->(∀t i,o (.c t i)= .c t i)->(∀i,o (.g i)= .g i)->(∀i j,o (.gc i j)= .gc i j)->
    d.size=cs'.length->
    (∀i c,cs'[i]? =some c->∃u,d[i]? =some u/\u.oneCell'=true/\Qh num β w m c u/\∃p,Yr w m ν p c u/\o p= .c s i/\ν b≠some p)->
    Inv num N w0 m0 T β0 {σ with env:=upd σ.env s (.bx cs')} a (w.setRow b d) m β (Xj ν o):=by
 have L:=r.slots s x z;rw[R]at L;obtain⟨b,q,f,e,y,Z,C,H,W⟩:=L;refine⟨b,f,e,q,y,Z.1,W,fun o d I U M O E A=> ?_⟩;have hN:s < N:=by rcases Zt s N with h | h;exact h;have:=r.out s h;grind
 have B:=Y2.setRow (cur':=d) (k:=0) y (m:=m) (fun i u hi _=>by omega) (by omega);rw[RU C]at B;have l: ∀{x:Nat} {p:Pl},ν x=some p->o p=p->Xj ν o x=some p:=fun {x p} h J=>by unfold Xj;grind
 refine r.next B (fun x z q=>by subst q;exact(r.lt x _ H).2) (Ge.refl β) (fun t=>t=s) (fun _=>False) (fun x t h G=>⟨fun e=> ?_,l h (I t)⟩) (fun x t i h G=>⟨fun e=> ?_,l h (U t i)⟩) (fun x t h _=>⟨fun e=> ?_,l h (M t)⟩) (fun x t i h _=>⟨fun e=> ?_,l h (O t i)⟩) (fun x p h=>by simpa using R2 r x p h) (fun t G=> .inl (by simp only[upd];grind)) (fun t J=> ?_) (fun t v hE K=> ?_) r.blen (fun _ _=>rfl) (fun _ _ _ h=>h.elim);grind;grind;grind;grind;simp only[upd];split;omega;exact r.out t J;subst hE;rw[z]at K;cases K;simp only[upd,QT];refine⟨b,q,d,e,setRow_heap w b f d e (0,0) y,⟨E,QX _⟩,C,l H (I t),fun i c hc=> ?_⟩;obtain⟨u,X,P,V,p,Q,S,Y⟩:=A i c hc;refine⟨u,X,P,ZU (Ge.refl β) B.le c u V,?_⟩;have:=Bg (cur':=d) (k:=0) (θ:=o) Y Q;rwa[RU C,S]at this
def Pe:=@List.getElem?_set_self
def Inv.setG [Dr] (o:Inv num N w0 m0 T β0 σ a w m β ν) (s) {cs cs' k} (hs:σ.bs[s]? =some cs) (J:β[s]? =some k/\k.mp=false) (E:cs≠[]):
  ∃cur e,w.heap[k.b]? =some (.cells cur e (0,0))/\(cur.size=k.z/\cs.length<=k.z)/\
   (∀i c,cs[i]? =some c->∃u,cur[i]? =some u/\u.oneCell'=true/\Qh num β w m c u/\Yr w m ν (.gc s i) c u)/\
   ∀l d,(∀t,l (.s t)= .s t)->(∀t i,l (.c t i)= .c t i)->(∀i,l (.g i)= .g i)->(∀i j,l (.gc i j)= .gc i j)->
    d.size=k.z->cs'.length<=k.z->
    (∀i c,cs'[i]? =some c->∃u,d[i]? =some u/\u.oneCell'=true/\Qh num β w m c u/\∃p,Yr w m ν p c u/\l p= .gc s i/\ν k.b≠some p)->
    Inv num N w0 m0 T β0 {σ with bs:=σ.bs.set s cs'} a (w.setRow k.b d) m β (Xj ν l):=by
 obtain⟨P,n⟩:=J;obtain⟨b,z,mp⟩:=k;obtain⟨cur,e,A,V,B,H,O⟩:=(o.boxes s cs _ hs P E).1 n;refine⟨cur,e,A,V,O,fun l d Z t2 Q Y y r L=> ?_⟩;simp only at n A V B H O y r ⊢;have I:s < σ.bs.length:=by grind
 have G:=Y2.setRow (cur':=d) (k:=0) A (m:=m) (fun i u hi _=>by omega) (by omega);rw[RU B]at G;have f: ∀{x:Nat} {p:Pl},ν x=some p->l p=p->Xj ν l x=some p:=fun {x p} h ht=>by unfold Xj;grind
 refine o.next G (fun x hx D=>by subst D;exact(o.lt x _ H).2) (Ge.refl β) (fun _=>False) (fun t=>t=s) (fun x t h _=>⟨fun e=> ?_,f h (Z t)⟩) (fun x t i h _=>⟨fun e=> ?_,f h (t2 t i)⟩) (fun x t h K=>⟨fun e=> ?_,f h (Q t)⟩) (fun x t i h K=>⟨fun e=> ?_,f h (Y t i)⟩) (fun x p h=>by simpa using R2 o x p h) (fun t K=> .inl rfl) o.out (fun t v C hv=>C.elim) (by simpa using o.blen) (fun i K=>by grind) (fun i cs2 b2 C U M=> ?_);grind;grind;grind;grind;subst C;rw[P]at M;cases M;simp only[Pe I]at U;cases U;refine fun _=>⟨fun _=>⟨d,e,setRow_heap w b cur d e (0,0) A,⟨y,r⟩,B,f H (Q i),fun j c hc=> ?_⟩,fun q=>by grind⟩;obtain⟨u,X,W,g3,p,g4,g5,g6⟩:=L j c hc;refine⟨u,X,W,ZU (Ge.refl β) G.le c u g3,?_⟩;have:=Bg (cur':=d) (k:=0) (θ:=l) g6 g4;rwa[RU B,g5]at this
def Qy:=@List.getElem?_set
def Inv.takeCell [Dr] (j:Inv num N w0 m0 T β0 σ a w m β ν) (s d) {C} (M:σ.env s= .bx C):
  Inv num N w0 m0 T β0 {σ with env:=upd σ.env s (.bx (C.set d .undef))} a w m β (Xj ν (mv (.c s d) .f)):=by
 have g: ∀{x:Nat} {p:Pl},ν x=some p->p≠ .c s d->Xj ν (mv (.c s d) .f) x=some p:=fun {x p} h n=>R3 h n;have Q:s < N:=by rcases Zt s N with h | h;exact h;have:=j.out s h;grind
 refine j.next (X:=fun _=>False) (Y2.refl _ w m) (fun _ _ h=>h.elim) (Ge.refl β) (fun t=>t=s) (fun _=>False) (fun _ t h _=>⟨id,g h (by simp)⟩) (fun _ t i h G=>⟨id,g h (fun e=>by grind)⟩) (fun _ _ h _=>⟨id,g h (by simp)⟩) (fun _ _ _ h _=>⟨id,g h (by simp)⟩) (R2 j) (fun t G=> .inl (by simp only[upd];grind)) (fun t n=> ?_) (fun t v O K=> ?_) j.blen (fun _ _=>rfl) (fun _ _ _ h=>h.elim);simp only[upd];split;omega;exact j.out t n;subst O;simp only[upd,QT];have E:=j.slots t v K;rw[M]at E;obtain⟨b,z,A,e,J,R,L,P,D⟩:=E;refine⟨b,z,A,e,J,⟨by grind,QX _⟩,L,g P (by simp),fun i c k=> ?_⟩;rw[Qy]at k;split at k;rename_i B;subst B;split at k;rename_i y;cases k;obtain⟨u,r,l,_,_⟩:=D d _ (Q0 y);exact⟨u,r,l,by simpa only[Qh]using l,trivial⟩;grind;rename_i B;obtain⟨u,r,l,I,H⟩:=D i c k;refine⟨u,r,l,I,?_⟩;have:=UU (θ:=mv (.c t d) .f) H;rwa[show mv (.c t d) .f (.c t i)= .c t i by unfold mv;grind]at this
def Inv.takeG [Dr] (l:Inv num N w0 m0 T β0 σ a w m β ν) (s b) {y k} (Q:σ.bs[s]? =some y) (K:β[s]? =some k/\k.mp=false):
  Inv num N w0 m0 T β0 {σ with bs:=σ.bs.set s (y.set b .undef)} a w m β (Xj ν (mv (.gc s b) .f)):=by
 have d: ∀{x:Nat} {p:Pl},ν x=some p->p≠ .gc s b->Xj ν (mv (.gc s b) .f) x=some p:=fun {x p} h H=>R3 h H;have g:s < σ.bs.length:=by grind
 refine l.next (X:=fun _=>False) (Y2.refl _ w m) (fun _ _ h=>h.elim) (Ge.refl β) (fun _=>False) (fun t=>t=s) (fun _ t h _=>⟨id,d h (by simp)⟩) (fun _ t i h _=>⟨id,d h (by simp)⟩) (fun _ _ h _=>⟨id,d h (by simp)⟩) (fun _ t i h B=>⟨id,d h (fun e=>by grind)⟩) (R2 l) (fun t B=> .inl rfl) l.out (fun t v A V=>A.elim) (by simpa using l.blen) (fun i B=>by grind) (fun i R G A C S=> ?_);subst A;simp only[Pe g]at C;cases C;refine fun J=>⟨fun _=> ?_,fun q=>by grind⟩;obtain⟨r,e,L,U,O,I,D⟩:=(l.boxes i y G Q S (fun e=>by grind)).1 (by grind);refine⟨r,e,L,by grind,O,d I (by simp),fun j c n=> ?_⟩;rw[Qy]at n;split at n;rename_i E;subst E;split at n;rename_i g;cases n;obtain⟨u,z,o,_,_⟩:=D b _ (Q0 g);exact⟨u,z,o,by simpa only[Qh]using o,trivial⟩;grind;rename_i E;obtain⟨u,z,o,M,P⟩:=D j c n;refine⟨u,z,o,M,?_⟩;have:=UU (θ:=mv (.gc i b) .f) P;rwa[show mv (.gc i b) .f (.gc i j)= .gc i j by unfold mv;grind]at this
def Inv.setFloat [Dr] (d:Inv num N w0 m0 T β0 σ a w m β ν) {b k g cur' e} (o:w.heap[b]? =some (.cells g e (0,0))) (l:ν b=some .f)
  (q: ∀(i:Nat) (u:Value),i < m b->g[i]? =some u->cur'[i]? =some u) (n:m b<=k):Inv num N w0 m0 T β0 σ a (w.setRow b cur') (m1 m b k) β ν:=by
 have c: ∀{x:Nat} {p:Pl},ν x=some p->p≠ .f->¬x=b:=fun {x p} h s e=>by grind
 exact d.next (Y2.setRow o q n) (fun x z j=>by subst j;exact(d.lt x _ l).2) (Ge.refl β) (fun _=>False) (fun _=>False) (fun x t h _=>⟨c h (by simp),h⟩) (fun x t i h _=>⟨c h (by simp),h⟩) (fun x t h _=>⟨c h (by simp),h⟩) (fun x t i h _=>⟨c h (by simp),h⟩) (fun x p h=>by simpa using d.lt x p h) (fun t y=> .inl rfl) d.out (fun t v r A=>r.elim) d.blen (fun _ _=>rfl) (fun _ _ _ h=>h.elim)
end
end Go.Am
namespace Go.Am
def Sf:AV->Value->Bool
 | .int k n,.int k' n'=>decide (k=k') && decide (n=n')
 | .bool a,.bool b=>a == b
 | .str s,.string b=>decide (s=b.data.toList)
 | .sl _ _ [],.slice none 0 0=>true
 | .gs _ _ 0 0,.slice none 0 0=>true
 | .err true,.nilIface=>true
 | .undef,.pointer none=>true
 | .undef,.map none=>true
 | _,_=>false
abbrev WM:=List Value
def VX:Qx->WM->Bool
 | [],[]=>true
 | c:: cs,u:: us=>Sf c u && VX cs us
 | _,_=>false
def IE:AV->Value->Bool
 | .agg cs,.agg us=>VX cs us.toList
 | c,u=>Sf c u
def okO (num:WL):AO->Operand->Bool
 | .t n,.tmp t=>decide (n=t)
 | .c (.fn f []),.func g=>decide (num f=some g)
 | .c v,.const u=>IE v u
 | _,_=>false
def Wh (num:WL):List AO->List Operand->Bool
 | [],[]=>true
 | x:: xs,y:: ys=>okO num x y && Wh num xs ys
 | _,_=>false
section
variable {P:Program} {num:Nat->Option Nat} {β β':List Blk} {w w':World} {m m':Nat->Nat} {ν ν':Own} {N:Nat} {w0:World} {m0:Nat->Nat} {T:Nat->Prop} {β0:List Blk} {σ σ1:St} {a:Act}
def UG:=@beq_iff_eq
def YS {c u} (h:Sf c u=true):Qh num β w m c u/\u.oneCell'=true/\(∀p,Yr w m ν p c u):=by
 unfold Sf at h;split at h;simp only[Qr,QM]at h;obtain⟨rfl,rfl⟩:=h;exact⟨by simp only[Qh],rfl,fun _=>trivial⟩;simp only[UG]at h;subst h;exact⟨by simp only[Qh],rfl,fun _=>trivial⟩;simp only[QM]at h;subst h;exact⟨by simp only[Qh],rfl,fun _=>trivial⟩;refine⟨?_,rfl,fun p=> ?_⟩;simp only[Qh];grind;rename_i o b;cases o;exact trivial;exact .inl ⟨none,rfl⟩;refine⟨?_,rfl,fun p=>trivial⟩;simp only[Qh];simp;exact⟨by simp[Qh],rfl,fun _=>trivial⟩;exact⟨by simp only[Qh];rfl,rfl,fun _=>trivial⟩;exact⟨by simp only[Qh];rfl,rfl,fun _=>trivial⟩;cases h
def WE: ∀b d,VX b d=true->d.length=b.length/\∀(i:Nat) c,b[i]? =some c->∃u,d[i]? =some u/\Sf c u=true
 | [],[],_=>⟨rfl,fun i c h=>by grind⟩
 | c:: b,u:: d,h=>by
  simp only[VX,Qr]at h;have e:=WE b d h.2;grind
 | [],_:: _,h=>by simp[VX]at h
 | _:: _,[],h=>by simp[VX]at h
def QbW [Dr] {c u} (h:IE c u=true):Qh num β w m c u/\(∀p,Yr w m ν p c u):=by
 unfold IE at h;split at h;rename_i e b;obtain⟨k,f⟩:=WE e b.toList h;refine⟨?_,fun _=>trivial⟩;simp only[Qh];refine⟨b,rfl,by omega,?_⟩;rw[Y1];intro i c d;obtain⟨u,j,g⟩:=f i c d;have:=YS (num:=num) (β:=β) (w:=w) (m:=m) (ν:=ν) g;grind;have:=YS (num:=num) (β:=β) (w:=w) (m:=m) (ν:=ν) h;grind
def MD (c:AV):c.strip.ok=c.ok:=by cases c <;> rfl
def Xr (c:AV) (u p):Yr w m ν p c.strip u:=by cases c <;> exact trivial
def OP (c:AV):c.strip.strip=c.strip:=by cases c <;> rfl
def Inv.at_ [Dr] (d:Inv num N w0 m0 T β0 σ a w m β ν) {n} (e:σ.env n≠ .undef):n < N/\a.tmps[n]? =some (a.tmps.getD n undef):=by
 have f:n < N:=by rcases Zt n N with h | h;exact h;exact absurd (d.out n h) e
 have:n < a.tmps.size:=by rwa[d.size]
 simp_all
def Inv.val [Dr] (d:Inv num N w0 m0 T β0 σ a w m β ν) {x y} (b:okO num x y=true) (c: (val σ.env x).ok=true):
  Qh num β w m (val σ.env x) (a.eval y)/\∀p,Yr w m ν p (val σ.env x) (a.eval y):=by
 unfold okO at b;split at b;rename_i n t;simp only[QM]at b;subst b;simp only[Am.val,MD]at c ⊢;obtain⟨_,i⟩:=d.at_ (fun e=>by rw[e]at c;cases c);have h:=d.slots n _ i;rw[Zr c]at h;refine⟨?_,fun p=>Xr _ _ _⟩;rw[Zg];exact h.1;rename_i f g;simp only[QM]at b;simp only[Am.val,Act.eval];refine⟨?_,fun _=>trivial⟩;simp only[Qh];exact⟨g,#[],b,rfl,rfl,by simp[XM]⟩;simp only[Am.val,Act.eval];exact QbW b;grind
def ZI:=@List.map_cons
def Mb:=@List.all_cons
def Inv.vals [Dr] (g:Inv num N w0 m0 T β0 σ a w m β ν): ∀{b d},Wh num b d=true->VD (b.map (Am.val σ.env))=true->
  d.length=b.length/\∀(i:Nat) c,(b.map (Am.val σ.env))[i]? =some c->∃y,d[i]? =some y/\c.ok=true/\Qh num β w m c (a.eval y)
 | [],[],_,_=>⟨rfl,fun i c h=>by grind⟩
 | x:: b,y:: d,f,e=>by
  simp only[Wh,Qr]at f;simp only[VD,ZI,Mb,Qr]at e;have k:=g.vals f.2 e.2;refine⟨by grind,fun i c j=> ?_⟩;cases i with | zero=>simp at j;subst j;exact⟨y,rfl,e.1,(g.val f.1 e.1).1⟩ | succ i=>grind
 | [],_:: _,h,_=>by simp[Wh]at h
 | _:: _,[],h,_=>by simp[Wh]at h
def V6 {v u f} (d:cellsOf v=some f) (h:Qh num β w m v u):
  v.ok=true/\u.cells.size=f.length/\∀(i:Nat) c,f[i]? =some c->∃x,u.cells[i]? =some x/\x.oneCell'=true/\Qh num β w m c x:=by
 unfold cellsOf at d;split at d;cases d;simp only[Qh]at h;obtain⟨o,rfl,e,j⟩:=h;rw[Y1]at j;exact⟨rfl,e,fun i c b=>by simpa[Value.cells]using j i c b⟩;rename_i k;split at d;rename_i g;cases d;have e:=NB g h;have l:u.cells= #[u]:=by cases u <;> first | rfl | simp[Value.oneCell']at e
 refine⟨by cases v <;> first | rfl | simp[AV.one]at g,by grind,fun i c b=> ?_⟩;cases i with | zero=>simp at b;subst b;simp_all | succ i=>grind
 grind
def ZE {b:Qx} {i:Nat} {c} (h: (b.map AV.strip)[i]? =some c): ∃d,b[i]? =some d/\c=d.strip:=by
 grind
end
def Aft [Dr] (num:WL) (N:Nat) (w0:World) (m0:Xs) (T:Nat->Prop) (β0:UH) (σ1:St) (a:Act) (v:AV) (k:Value->World->Prop):Prop:=
 ∀(u:Value) (w':World) (m':Xs) (β':UH) (ν':Own),Inv num N w0 m0 T β0 σ1 a w' m' β' ν'->Pb num β' w' m' ν' .f (fun i=> .fc i) v u->k u w'
section
variable {P:Program} {num:Nat->Option Nat} {β:List Blk} {w w':World} {m:Nat->Nat} {ν:Own} {N:Nat} {w0:World} {m0:Nat->Nat} {T:Nat->Prop} {β0:List Blk} {σ σ1:St} {a:Act}
 {o:Oper} {next:Act->World->Prop} {Q:Exit->Act->World->Prop} {K:Vd} {v:AV}
def QE {u} (d: (execOp a.eval o).run P w= .ok (.value u) w') (h:next (a.put o.dst u) w'):o.wp P a w next Q:=by
 unfold Oper.wp;rwa[d]
def Rz (b: (execOp a.eval o).run P w= .ok .skip w') (h:next (a.put o.dst undef) w'):o.wp P a w next Q:=by
 unfold Oper.wp;rwa[b]
def Aft.same [Dr] (h:Aft num N w0 m0 T β0 σ a v fun u w'=>next (a.put o.dst u) w') (d:Inv num N w0 m0 T β0 σ a w m β ν) {u} (c:v.ok=true) (b:Qh num β w m v u)
  (e:Yr w m ν .f v u):next (a.put o.dst u) w:=
 h u w m β ν d ((Zr c).2 ⟨b,e⟩)
def QiB [Dr] {x y} (g:Inv num N w0 m0 T β0 σ a w m β ν) (b:o.op= .move y\/o.op= .assign y) (c:okO num x y=true)
  (d:Qk K (.mov x) σ=some (v,σ1)) (h:Aft num N w0 m0 T β0 σ1 a v fun u w'=>next (a.put o.dst u) w'):o.wp P a w next Q:=by
 simp only[Qk]at d;split at d;rename_i f;cases d;have e:=g.val c f;refine QE (u:=a.eval y) (w':=w) (by rcases b with b | b <;> simp[execOp,b]) (h.same g f e.1 (e.2 _));grind
def QiC [Dr] {n:Nat} (d:Inv num N w0 m0 T β0 σ a w m β ν) (c:o.op= .move (.tmp n)\/o.op= .assign (.tmp n))
  (g:Qk K (.mvs n) σ=some (v,σ1)) (h:Aft num N w0 m0 T β0 σ1 a v fun u w'=>next (a.put o.dst u) w'):o.wp P a w next Q:=by
 simp only[Qk]at g;split at g;rename_i b;cases g;obtain⟨_,j⟩:=d.at_ (n:=n) (fun e=>by rw[e]at b;cases b);have i:=d.slots n _ j;rw[Zr b]at i;refine QE (u:=a.eval (.tmp n)) (w':=w) (by rcases c with c | c <;> simp[execOp,c]) ?_;refine h _ w m β _ (d.takeSlot n) ((Zr b).2 ⟨i.1,?_⟩);have:=UU (θ:=mv (.s n) .f) i.2;rwa[show mv (.s n) .f (.s n)= .f by simp[mv]]at this;grind
def QtV [Dr] {x y t} (n:Inv num N w0 m0 T β0 σ a w m β ν) (p:o.op= .box t y) (e:okO num x y=true)
  (k:Qk K (.box x) σ=some (v,σ1)) (h:Aft num N w0 m0 T β0 σ1 a v fun u w'=>next (a.put o.dst u) w'):o.wp P a w next Q:=by
 simp only[Qk]at k;rcases b:cellsOf (val σ.env x)with _ | B;grind;rw[b]at k;cases k;have l:=(n.val e (by cases l:val σ.env x <;> rw[l]at b <;> simp[cellsOf,AV.one]at b <;> rfl)).1;obtain⟨_,C,g⟩:=V6 b l;refine QE (u:= .pointer (some ⟨w.heap.size,0,none⟩)) (w':=w.alloc (.cells (a.eval y).cells t)) (by simp[execOp,p,Instr.box,newVar,newRow]) ?_;refine h _ _ _ β _ (n.fresh (a.eval y).cells t 0 .f) ⟨w.heap.size,rfl,(a.eval y).cells,t,heap_alloc_new w _,by grind,by simp[m1],by simp[Y0],fun i c j=> ?_⟩;obtain⟨d,r,rfl⟩:=ZE j;obtain⟨u,A,s,z⟩:=g i d r;exact⟨u,A,s,by rw[Zg];exact ZU (Ge.refl β) (Y2.alloc (fun _=>False) w m _ t 0).le d u z,Xr _ _ _⟩
def Nk (P:Program) (t:TypeId) (zs:Qx):Bool:=
 match P.info? t with
 | some i=>match i.zero with
  | some z=>VX zs z.cells.toList
  | none=>false
 | none=>false
def NI {t b} (h:Nk P t b=true): ∃z:Value,(zeroValue t).run P w= .ok z w/\VX b z.cells.toList=true:=by
 unfold Nk at h;split at h;rename_i i d;split at h;rename_i z c;exact⟨z,by simp[zeroValue,typeInfo,d,c],h⟩;cases h;cases h
def Qlx [Dr] {e t} (r:Inv num N w0 m0 T β0 σ a w m β ν) (n:o.op= .alloc t) (p:Nk P t e=true)
  (g:Qk K (.alloc e) σ=some (v,σ1)) (h:Aft num N w0 m0 T β0 σ1 a v fun u w'=>next (a.put o.dst u) w'):o.wp P a w next Q:=by
 simp only[Qk]at g;cases g;obtain⟨z,k,j⟩:=NI (w:=w) p;obtain⟨s,d⟩:=WE _ _ j;refine QE (u:= .pointer (some ⟨w.heap.size,0,none⟩)) (w':=w.alloc (.cells z.cells t)) (by simp[execOp,n,Instr.alloc,newVar,newRow,k]) ?_;refine h _ _ _ β _ (r.fresh z.cells t 0 .f) ⟨w.heap.size,rfl,z.cells,t,heap_alloc_new w _,by grind,by simp[m1],by simp[Y0],fun i c b=> ?_⟩;obtain⟨u,y,l⟩:=d i c b;have x:=YS (num:=num) (β:=β) (w:=w.alloc (.cells z.cells t)) (m:=m1 m w.heap.size 0) (ν:=Y0 ν w.heap.size .f) l;grind
def Yv:=@List.getElem?_concat_length
def Inv.toBoxK [Dr] (d:Inv num N w0 m0 T β0 σ a w m β ν) {k cs} (n:ν k.b=some .f)
  (E:La num (β ++ [k]) w m (Y0 ν k.b (.g σ.bs.length)) σ.bs.length k cs):
  Inv num N w0 m0 T β0 {σ with bs:=σ.bs ++ [cs]} a w m (β ++ [k]) (Y0 ν k.b (.g σ.bs.length)):=by
 have h:Ge β (β ++ [k]):=Ge.append β _;have c: ∀{x:Nat} {p:Pl},ν x=some p->p≠ .f->Y0 ν k.b (.g σ.bs.length) x=some p:=fun {x p} j D=>by unfold Y0;grind
 refine⟨d.defers,d.size,d.out,fun t v A=> ?_,by simp[d.blen],fun i y C q z r=> ?_,fun x p j=> ?_,d.step,fun i b e=>h i b (d.ge i b e)⟩;exact L6 (θ:=id) h (Le.refl _ _) (fun b e=>⟨rfl,rfl,c e (by simp)⟩) (fun i b e=>⟨rfl,rfl,c e (by simp)⟩) (d.slots t v A);by_cases B:i < σ.bs.length;rw[Y3 B]at q;rw[Y3 (by rwa[d.blen])]at z;exact V3 h (Le.refl _ _) (fun b e=>⟨rfl,rfl,c e (by simp)⟩) (fun i b e=>⟨rfl,rfl,c e (by simp)⟩) (d.boxes i y C q z r);have l:i=σ.bs.length:=by grind
 subst l;simp only[Yv]at q;rw[<- d.blen,Yv]at z;grind;unfold Y0 at j;split at j;rename_i s;subst s;exact d.lt _ _ n;exact d.lt x p j
def Inv.toBox [Dr] (A:Inv num N w0 m0 T β0 σ a w m β ν) {b cur e cs} (s:w.heap[b]? =some (.cells cur e (0,0))) (d:ν b=some .f) (t:m b=0)
  (x:cs.length<=cur.size)
  (h: ∀(i:Nat) (c:AV),cs[i]? =some c->∃u,cur[i]? =some u/\u.oneCell'=true/\Qh num β w m c u/\∀p w' m' ν',Yr w' m' ν' p c u):
  Inv num N w0 m0 T β0 {σ with bs:=σ.bs ++ [cs]} a w m (β ++ [⟨b,cur.size,false⟩]) (Y0 ν b (.g σ.bs.length)):=by
 refine A.toBoxK (k:=⟨b,cur.size,false⟩) d ⟨fun _=>⟨cur,e,s,⟨rfl,x⟩,t,by simp[Y0],fun j c r=> ?_⟩,fun q=>by cases q⟩;obtain⟨u,l,y,z,B⟩:=h j c r;exact⟨u,l,y,ZU (Ge.append β _) (Le.refl w m) c u z,B _ _ _ _⟩
def Qje (ν b p q):Y0 (Y0 ν b p) b q=Y0 ν b q:=by
 funext x;unfold Y0;grind
def Inv.addG [Dr] (n:Inv num N w0 m0 T β0 σ a w m β ν) (b e cs) (r:b.size=cs.length)
  (d: ∀(i:Nat) (c:AV),cs[i]? =some c->∃u,b[i]? =some u/\u.oneCell'=true/\Qh num β w m c u/\∀p w' m' ν',Yr w' m' ν' p c u):
  Inv num N w0 m0 T β0 {σ with bs:=σ.bs ++ [cs]} a (w.alloc (.cells b e)) (m1 m w.heap.size 0) (β ++ [⟨w.heap.size,b.size,false⟩]) (Y0 ν w.heap.size (.g σ.bs.length)):=by
 have:=(n.fresh b e 0 .f).toBox (cs:=cs) (heap_alloc_new w _) (by simp[Y0]) (by simp[m1]) (by omega) fun i c j=>by obtain⟨u,q,l,h,k⟩:=d i c j;exact⟨u,q,l,ZU (Ge.refl β) (Y2.alloc (fun _=>False) w m b e 0).le c u h,k⟩
 rwa[Qje]at this
def Inv.kill [Dr] (l:Inv num N w0 m0 T β0 σ a w m β ν) {id q s k} (C:σ.bs[id]? =some s) (z:β[id]? =some k/\k.mp=false) (d:s≠[]):
  Inv num N w0 m0 T β0 {σ with bs:=σ.bs.set id []} a w (m1 m k.b q) β (Y0 ν k.b .f)/\Le w m w (m1 m k.b q):=by
 obtain⟨G,e,J,S,O,A,L⟩:=(l.boxes id s k C z.1 d).1 z.2;have E:id < σ.bs.length:=by grind
 have n:Le w m w (m1 m k.b q):=fun x i u h=>by obtain⟨U,I,_⟩:=Ub h;(have y:x≠k.b:=fun e=>by grind);unfold hg m1;grind
 have c: ∀{x:Nat} {p:Pl},ν x=some p->p≠ .g id->¬x=k.b/\Y0 ν k.b .f x=some p:=fun {x p} y H=>by(have d: ¬x=k.b:=fun e=>by grind);exact⟨d,by unfold Y0;grind⟩
 refine⟨l.next (⟨rfl,rfl,rfl,QX _,fun x _ y=>⟨rfl,by unfold m1;grind⟩,n,fun _=>QX _⟩) (fun x y j=>by subst j;exact(l.lt _ _ A).2) (Ge.refl β) (fun _=>False) (fun t=>t=id) (fun x t h _=>c h (by simp)) (fun x t i h _=>c h (by simp)) (fun x t h r=>c h (by grind)) (fun x t i h r=>c h (by simp)) (fun x p h=> ?_) (fun t r=> .inl rfl) l.out (fun t v B M=>B.elim) (by simpa using l.blen) (fun i r=>by grind) (fun i D W B V R=> ?_),n⟩;unfold Y0 at h;split at h;rename_i j;subst j;exact l.lt _ _ A;exact l.lt x p h;grind
def Pu {c o b n i x} (h: (ZW c o b n)[i]? =some x):i < n/\x=((c.drop (o+i*b)).take b).map AV.strip:=by
 unfold ZW at h;grind
def Vu (c o b n): (ZW c o b n).length=n:=by simp[ZW]
def QO:=@Option.bind_some
def TK:=@Nat.mul_pos
def Ph:=@Nat.pos_of_ne_zero
def Yy:=@Nat.mul_le_mul_right
def Tn:=@List.getElem?_take
def Vf:=@List.getElem?_drop
def JG:=@decide_false
def Inv.frz [Dr] (p:Inv num N w0 m0 T β0 σ a w m β ν) {n sz} (b:Z8 σ n sz=some (v,σ1)):
  ∃m' ν',Inv num N w0 m0 T β0 σ1 a w m' β ν'/\Le w m w m'/\v.ok=true/\Qh num β w m' v (a.tmps.getD n undef)/\Yr w m' ν' .f v (a.tmps.getD n undef):=by
 unfold Z8 at b;split at b;rename_i J o l k U;split at b;rename_i G;obtain⟨rfl,L⟩:=G;obtain⟨_,H⟩:=p.at_ (n:=n) (by grind);have g:=p.slots n _ H;rw[U]at g;obtain⟨g,_⟩:=g;simp only[Qh]at g;obtain⟨A,h,E,O,V,s⟩:=g;split at b;rename_i r;injection b with b;injection b with Z e2;subst Z e2 r;refine⟨m,_,p.takeSlot n,Le.refl w m,rfl,?_,trivial⟩;simp only[Qh];grind;rename_i r;rcases t:σ.bs[J]? with _ | S;grind;rw[t]at b;simp only[QO]at b;split at b;rename_i hl;cases b;rcases s with s | ⟨D,s,rfl,q4,_⟩;omega;have hkm:=TK (Ph r) L;have z:S≠[]:=fun e=>by grind
 obtain⟨B,e,M,p2,p3,p4,p5⟩:=(p.boxes J S D t s.1 z).1 s.2;obtain⟨X,y⟩:=(p.takeSlot n).kill (id:=J) (q:=o+k*l) t s z;refine⟨_,_,X,y,rfl,?_,?_⟩;simp only[Qh];refine⟨_,k,h,E,Vu _ _ _ _,O,V,.inr ⟨D.b,o,rfl,?_⟩⟩;rw[Vk];intro i x hx;obtain⟨hi,rfl⟩:=Pu hx;have W:i*l+l<=k*l:=by rw[<- U6];exact Yy _ hi
 refine⟨by grind,?_⟩;rw[Y1];intro j c G;obtain⟨d,C,rfl⟩:=ZE G;rw[Tn]at C;split at C;rename_i hj;rw[Vf]at C;obtain⟨u,r1,Y,r3,_⟩:=p5 _ d C;refine⟨u,?_,Y,by rw[Zg];exact ZU (Ge.refl β) y d u r3⟩;unfold hg m1;rwa[Qe rfl,Qe (by omega),cell_of_row w D.b _ B e (0,0) M];grind;by_cases R:o=0;subst R;simp only[decide_true,Yr];refine .inr ⟨D.b,h,B,e,by rwa[Vu],M,by omega,by simp[m1,Vu],by simp[Y0]⟩;simp only[R,JG];exact trivial;grind;split at b;rename_i hz;obtain⟨rfl,rfl⟩:=hz;cases b;obtain⟨_,H⟩:=p.at_ (n:=n) (by grind);have g:=p.slots n _ H;rw[U]at g;obtain⟨g,_⟩:=g;simp only[Qh]at g;obtain⟨A,h,E,O,V,s⟩:=g;have I:h=0:=by omega
 subst I;refine⟨m,_,p.takeSlot n,Le.refl w m,rfl,?_,.inl ⟨A,E⟩⟩;simp only[Qh];grind;grind;grind
def DU [Dr] {b} (h:Q3 b=true):Q3 (b.map AV.strip)=true:=by
 rw[OG]at h ⊢;intro i c e;obtain⟨d,f,rfl⟩:=ZE e;rw[A3];grind
def QpH [Dr] {x y t} (k:Inv num N w0 m0 T β0 σ a w m β ν) (r:o.op= .box t y) (e:okO num x y=true)
  (l:Qk K (.gbox x) σ=some (v,σ1)) (h:Aft num N w0 m0 T β0 σ1 a v fun u w'=>next (a.put o.dst u) w'):o.wp P a w next Q:=by
 simp only[Qk]at l;rcases b:cellsOf (val σ.env x)with _ | n;grind;rw[b]at l;cases l;have g:=(k.val e (by cases g:val σ.env x <;> rw[g]at b <;> simp[cellsOf,AV.one]at b <;> rfl)).1;obtain⟨_,A,f⟩:=V6 b g;refine QE (u:= .pointer (some ⟨w.heap.size,0,none⟩)) (w':=w.alloc (.cells (a.eval y).cells t)) (by simp[execOp,r,Instr.box,newVar,newRow]) ?_;refine h _ _ _ _ _ (k.addG (a.eval y).cells t (n.map AV.strip) (by grind) fun i c j=> ?_) ?_;obtain⟨d,p,rfl⟩:=ZE j;obtain⟨u,z,s,B⟩:=f i d p;exact⟨u,z,s,by simp_all,fun _ _ _ _=>Xr _ _ _⟩;refine(Zr rfl).2 ⟨?_,trivial⟩;simp only[Qh];exact⟨⟨w.heap.size,(a.eval y).cells.size,false⟩,⟨by rw[<- k.blen];simp,rfl⟩,rfl⟩
def QiA [Dr] {b t} (f:Inv num N w0 m0 T β0 σ a w m β ν) (r:o.op= .alloc t) (s:Nk P t b=true)
  (j:Qk K (.galloc b) σ=some (v,σ1)) (h:Aft num N w0 m0 T β0 σ1 a v fun u w'=>next (a.put o.dst u) w'):o.wp P a w next Q:=by
 simp only[Qk]at j;cases j;obtain⟨z,l,n⟩:=NI (w:=w) s;obtain⟨x,e⟩:=WE _ _ n;refine QE (u:= .pointer (some ⟨w.heap.size,0,none⟩)) (w':=w.alloc (.cells z.cells t)) (by simp[execOp,r,Instr.alloc,newVar,newRow,l]) ?_;refine h _ _ _ _ _ (f.addG z.cells t b (by omega) fun i c d=> ?_) ?_;obtain⟨u,y,g⟩:=e i c d;have k:=YS (num:=num) (β:=β) (w:=w) (m:=m) (ν:=ν) g;exact⟨u,by grind,k.2.1,k.1,fun p w' m' ν'=>(YS (num:=num) (β:=β) (w:=w') (m:=m') (ν:=ν') g).2.2 p⟩;refine(Zr rfl).2 ⟨?_,trivial⟩;simp only[Qh];exact⟨⟨w.heap.size,z.cells.size,false⟩,⟨by rw[<- f.blen];simp,rfl⟩,rfl⟩
end
end Go.Am
namespace Go.Am
def YJ (P:Program) (t:TypeId) (sz:Nat):Bool:=match P.info? t with
 | some i=>decide (i.size=sz)
 | none=>false
def Up (P:Program) (t:TypeId) (ag:Bool):Bool:=match P.underlying t with
 | some (.struct _)=>ag
 | some (.array _ _)=>ag
 | some _=> !ag
 | none=>false
def Of (P:Program) (s:TypeId) (f off:Nat):Bool:=match P.underlying s with
 | some (.struct fs)=>match fs[f]? with
  | some fl=>decide (fl.offset=off) && (match P.info? fl.type with
   | some i=>decide (i.size≠0)
   | none=>false)
  | none=>false
 | _=>false
def Sx (a:Act) (q s off:Nat):Prop:=∃b,a.tmps.getD s undef= .pointer (some ⟨b,0,none⟩)/\a.tmps.getD q undef= .pointer (some ⟨b,off,none⟩)
section
variable {P:Program} {num:Nat->Option Nat} {β:List Blk} {w w':World} {m:Nat->Nat} {ν:Own} {N:Nat} {w0:World} {m0:Nat->Nat} {T:Nat->Prop} {β0:List Blk} {σ σ1:St} {a:Act}
 {o:Oper} {next:Act->World->Prop} {Q:Exit->Act->World->Prop} {K:Vd} {v:AV}
def Yp {t b} (h:YJ P t b=true): (sizeOf t).run P w= .ok b w:=by
 unfold YJ at h;split at h;rename_i i c;simp only[QM]at h;simp[sizeOf,typeInfo,c,h];cases h
def Wk {t c} (h:Up P t c=true): (isAgg t).run P w= .ok c w:=by
 unfold Up at h;split at h;rename_i b;subst h;simp[isAgg,run_underlying b];rename_i b;subst h;simp[isAgg,run_underlying b];rename_i d b f e;have:c=false:=by simpa using h
 subst this;simp only[isAgg,Sem.run_bind,run_underlying e,Result.andThen_ok];rfl;cases h
def Wf (b o n):Addr.add ⟨b,o,none⟩ n=⟨b,o+n,none⟩:=Addr.add_lit b o n
def Xn:=@Bool.false_eq_true
def ZT:=@if_false
def VV:=@List.getElem?_take_of_lt
def Ud [Dr] {t g l B} (L:YJ P t l=true) (C:Up P t B=true) {b o s} (e:XF s g l B=some v)
  (z: ∀(i:Nat) (c:AV),s[i]? =some c->∃u,w.cell? ⟨b,o+i,none⟩=some u/\u.oneCell'=true/\Qh num β w m c u):
  ∃u,(loadVar t ⟨b,o+g,none⟩).run P w= .ok u w/\v.ok=true/\Qh num β w m v u/\∀p,Yr w m ν p v u:=by
 unfold XF at e;split at e;rename_i H;cases B;simp only[Xn,ZT]at e;split at e;rcases n:s[g]? with _ | c;rw[n]at e;cases e;rw[n]at e;simp only[QO]at e;split at e;rename_i G;cases e;obtain⟨u,q,E,J⟩:=z g c n;refine⟨u,?_,?_,by rwa[Zg],fun p=>Xr _ _ _⟩;simp only[loadVar,Sem.run_bind,Wk C,Result.andThen_ok,Xn,ZT,run_load,q];rw[MD];cases c <;> first | rfl | simp[AV.one]at G
 cases e;cases e;simp only[QT]at e;cases e;have r: ∀j,j < l->∃c,s[g+j]? =some c:=fun j D=>⟨_,Q0 (by omega)⟩;let f:Nat->Value:=fun j=>(w.cell? ⟨b,o+g+j,none⟩).getD undef;have I: ∀j,j < l->w.cell? ((⟨b,o+g,none⟩:Addr).add j)=some (f j):=fun j D=>by obtain⟨c,A⟩:=r j D;obtain⟨u,q,_,_⟩:=z _ c A;rw[Wf];rw[show o+ (g+j)=o+g+j by omega]at q;simp[f,q]
 refine⟨.agg ((List.range l).map f).toArray,?_,rfl,?_,fun p=>trivial⟩;simp only[loadVar,Sem.run_bind,Wk C,Yp L,Result.andThen_ok,QT];rw[run_loadCells w _ l f I];rfl;simp only[Qh];refine⟨_,rfl,by simp;omega,?_⟩;rw[Y1];intro i c y;obtain⟨d,x,rfl⟩:=ZE y;have k:i < l:=by rcases Zt i l with h | h;exact h;rw[ZF (by simp;omega)]at x;cases x
 rw[VV k,Vf]at x;obtain⟨u,q,E,J⟩:=z _ d x;refine⟨u,?_,E,by rwa[Zg]⟩;rw[show o+ (g+i)=o+g+i by omega]at q;simp[f,k,q];cases e
def Inv.box_at [Dr] (h:Inv num N w0 m0 T β0 σ a w m β ν) {s q off g} (j:σ.env s= .bx g) (r:Sx a q s off\/(q=s/\off=0)):
  ∃b d e,a.tmps[s]? =some (.pointer (some ⟨b,0,none⟩))/\a.eval (.tmp q)= .pointer (some ⟨b,off,none⟩)/\w.heap[b]? =some (.cells d e (0,0))/\d.size=g.length/\
   ∀i c,g[i]? =some c->∃u,d[i]? =some u/\u.oneCell'=true/\Qh num β w m c u/\Yr w m ν (.c s i) c u:=by
 obtain⟨_,k⟩:=h.at_ (n:=s) (by rw[j];simp);have l:=h.slots s _ k;rw[j]at l;obtain⟨b,f,d,e,z,t,B,A,x⟩:=l;refine⟨b,d,e,by rw[k,f],?_,z,t.1,x⟩;rcases r with⟨C,p,y⟩ | ⟨rfl,rfl⟩;rw[f]at p;cases p;exact y;exact f
def Z1:=@Nat.zero_add
def Qt2 [Dr] {s q d g:Nat} {k t} (p:Inv num N w0 m0 T β0 σ a w m β ν) (E:o.op= .load t (.tmp q)) (y:YJ P t g=true) (A:Up P t k=true)
  (x:Sx a q s d\/(q=s/\d=0)) (f:Qk K (.ldf s d g k) σ=some (v,σ1)) (h:Aft num N w0 m0 T β0 σ1 a v fun u w'=>next (a.put o.dst u) w'):o.wp P a w next Q:=by
 simp only[Qk]at f;split at f;rename_i B j;rcases l:XF B d g k with _ | R;rw[l]at f;cases f;rw[l]at f;cases f;obtain⟨b,n,e,_,H,C,S,z⟩:=p.box_at j x;obtain⟨u,r,G,L,M⟩:=Ud (w:=w) (num:=num) (β:=β) (m:=m) (ν:=ν) (o:=0) (b:=b) y A l (fun i c I=>by obtain⟨u,O,D,J,_⟩:=z i c I;exact⟨u,by rwa[Z1,cell_of_row w b i n e (0,0) C],D,J⟩);refine QE (u:=u) (w':=w) ?_ (h.same p G L (M _));rw[Z1]at r;simp only[execOp,E,Instr.loadAt,H,Instr.sureAddr,Sem.run_bind,Sem.run_pure,Result.andThen_ok,r];cases f
def Pn:=@Nat.add_zero
def QvZ [Dr] {p g:Nat} {l t} (j:Inv num N w0 m0 T β0 σ a w m β ν) (E:o.op= .load t (.tmp p)) (L:YJ P t g=true) (J:Up P t l=true)
  (d:Qk K (.ld p g l) σ=some (v,σ1)) (h:Aft num N w0 m0 T β0 σ1 a v fun u w'=>next (a.put o.dst u) w'):o.wp P a w next Q:=by
 simp only[Qk]at d;split at d;rename_i H f;rcases k:XF H 0 g l with _ | O;rw[k]at d;cases d;rw[k]at d;cases d;obtain⟨_,M⟩:=j.at_ (n:=p) (by rw[f];simp);have e:=j.slots p _ M;rw[f]at e;obtain⟨e,_⟩:=e;simp only[Qh]at e;obtain⟨b,s,B,r⟩:=e;rw[Y1]at r;obtain⟨u,q,C,I,G⟩:=Ud (w:=w) (num:=num) (β:=β) (m:=m) (ν:=ν) (o:=s) (b:=b) L J k (fun i c D=>by obtain⟨u,y,A,z⟩:=r i c D;exact⟨u,(Ub y).2.1,A,z⟩);refine QE (u:=u) (w':=w) ?_ (h.same j C I (G _));rw[Pn]at q;have x:a.eval (.tmp p)= .pointer (some ⟨b,s,none⟩):=B;simp only[execOp,E,Instr.loadAt,x,Instr.sureAddr,Sem.run_bind,Sem.run_pure,Result.andThen_ok,q];cases d
def Dn {d:Type} {b} {i:Nat} {c:d} (h:b[i]? =some c):b≠[]:=fun e=>by rw[e]at h;simp at h
def Qt3 [Dr] {p r:Nat} {x t} (q:Inv num N w0 m0 T β0 σ a w m β ν) (J:o.op= .load t (.tmp p)) (M:YJ P t r=true) (L:Up P t x=true)
  (d:Qk K (.ldg p r x) σ=some (v,σ1)) (h:Aft num N w0 m0 T β0 σ1 a v fun u w'=>next (a.put o.dst u) w'):o.wp P a w next Q:=by
 simp only[Qk]at d;split at d;rename_i i k g;rcases f:σ.bs[i]? with _ | D;rw[f]at d;cases d;rw[f]at d;simp only[QO]at d;rcases s:XF D k r x with _ | Y;rw[s]at d;cases d;rw[s]at d;cases d;obtain⟨_,V⟩:=q.at_ (n:=p) (by rw[g];simp);have l:=q.slots p _ V;rw[g]at l;obtain⟨l,_⟩:=l;simp only[Qh]at l;obtain⟨⟨b,z,X⟩,A,W⟩:=l;obtain⟨u,B,I,O,R⟩:=Ud (w:=w) (num:=num) (β:=β) (m:=m) (ν:=ν) (o:=0) (b:=b) M L s (fun j c C=>by obtain⟨y,e,U,Z,_,_,S⟩:=(q.boxes i D _ f A.1 (Dn C)).1 A.2;obtain⟨u,c1,E,G,_⟩:=S j c C;exact⟨u,by rwa[Z1,cell_of_row w b j y e (0,0) U],E,G⟩);refine QE (u:=u) (w':=w) ?_ (h.same q I O (R _));rw[Z1]at B;have H:a.eval (.tmp p)= .pointer (some ⟨b,k,none⟩):=W;simp only[execOp,J,Instr.loadAt,H,Instr.sureAddr,Sem.run_bind,Sem.run_pure,Result.andThen_ok,B];cases d
def Nc {c:AV} (h:c.one=true):c.ok=true:=by cases c <;> first | rfl | simp[AV.one]at h
def QpJ [Dr] {s q d:Nat} {t} (p:Inv num N w0 m0 T β0 σ a w m β ν) (G:o.op= .load t (.tmp q)) (y:Up P t false=true)
  (r:Sx a q s d\/(q=s/\d=0)) (g:Qk K (.ldfm s d) σ=some (v,σ1)) (h:Aft num N w0 m0 T β0 σ1 a v fun u w'=>next (a.put o.dst u) w'):o.wp P a w next Q:=by
 simp only[Qk]at g;split at g;rename_i z j;rcases k:z[d]? with _ | c;rw[k]at g;cases g;rw[k]at g;simp only[QO]at g;split at g;rename_i l;injection g with g;injection g with D E;subst D E;obtain⟨b,n,e,_,H,A,J,x⟩:=p.box_at j r;obtain⟨u,L,I,B,C⟩:=x d c k;have i:w.cell? ⟨b,d,none⟩=some u:=by rwa[cell_of_row w b d n e (0,0) A]
 refine QE (u:=u) (w':=w) ?_ ?_;simp only[execOp,G,Instr.loadAt,H,Instr.sureAddr,Sem.run_bind,Sem.run_pure,Result.andThen_ok,loadVar,Wk y,Xn,ZT,run_load,i];refine h u w m β _ (p.takeCell s d j) ((Zr (Nc l)).2 ⟨B,?_⟩);have:=UU (θ:=mv (.c s d) .f) C;rwa[show mv (.c s d) .f (.c s d)= .f by simp[mv]]at this;cases g;cases g
def Qt4 [Dr] {p:Nat} {t} (r:Inv num N w0 m0 T β0 σ a w m β ν) (G:o.op= .load t (.tmp p)) (J:Up P t false=true)
  (g:Qk K (.ldm p) σ=some (v,σ1)) (h:Aft num N w0 m0 T β0 σ1 a v fun u w'=>next (a.put o.dst u) w'):o.wp P a w next Q:=by
 simp only[Qk]at g;split at g;rename_i i d l;rcases j:σ.bs[i]? with _ | C;rw[j]at g;cases g;rw[j]at g;simp only[QO]at g;rcases s:C[d]? with _ | c;rw[s]at g;cases g;rw[s]at g;simp only[QO]at g;split at g;rename_i x;injection g with g;injection g with E A;subst E A;obtain⟨_,A⟩:=r.at_ (n:=p) (by rw[l];simp);have q:=r.slots p _ A;rw[l]at q;obtain⟨q,_⟩:=q;simp only[Qh]at q;obtain⟨⟨b,z,V⟩,y,M⟩:=q;obtain⟨B,e,L,U,_,_,H⟩:=(r.boxes i C _ j y.1 (Dn s)).1 y.2;obtain⟨u,S,R,I,D⟩:=H d c s;have k:w.cell? ⟨b,d,none⟩=some u:=by rwa[cell_of_row w b d B e (0,0) L]
 have O:a.eval (.tmp p)= .pointer (some ⟨b,d,none⟩):=M;refine QE (u:=u) (w':=w) ?_ ?_;simp only[execOp,G,Instr.loadAt,O,Instr.sureAddr,Sem.run_bind,Sem.run_pure,Result.andThen_ok,loadVar,Wk J,Xn,ZT,run_load,k];refine h u w m β _ (r.takeG i d j y) ((Zr (Nc x)).2 ⟨I,?_⟩);have:=UU (θ:=mv (.gc i d) .f) D;rwa[show mv (.gc i d) .f (.gc i d)= .f by simp[mv]]at this;cases g;cases g
def Lo [Dr] {s f c b e} (h:Of P s f c=true): (Instr.fieldAt s (.pointer (some ⟨b,e,none⟩)) f).run P w= .ok (.pointer (some ⟨b,e+c,none⟩)) w:=by
 unfold Of at h;split at h;rename_i q k;split at h;rename_i p l;simp only[Qr,QM]at h;obtain⟨j,d⟩:=h;split at d;rename_i i g;simp only[ne_eq,QM]at d;simp[Instr.fieldAt,run_underlying k,l,Instr.sureAddr,fieldPlace,sizeOf,typeInfo,g,d,Wf,j];cases d;cases h;cases h
def D7 (P:Program) (t:TypeId) (i:Int) (off:Nat):Bool:=match P.underlying t with
 | some (.array n e)=>decide (0<=i/\i < n) && (match P.info? e with
  | some inf=>decide (i.toNat* inf.size=off)
  | none=>false)
 | _=>false
def Qbf [Dr] {s i k c b f} (h:D7 P s i c=true): (Instr.indexAt s (.pointer (some ⟨b,f,none⟩)) (.int k i)).run P w= .ok (.pointer (some ⟨b,f+c,none⟩)) w:=by
 unfold D7 at h;split at h;rename_i n e l;simp only[Qr,QM]at h;obtain⟨g,d⟩:=h;split at d;rename_i j p;simp only[QM]at d;simp[Instr.indexAt,asIntOf,run_underlying l,Instr.sureAddr,sizeOf,typeInfo,p,g,d,Result.andThen,Addr.add];cases d;cases h
def QpF [Dr] {s} {q c b f:Nat} {k i} (l:Inv num N w0 m0 T β0 σ a w m β ν) (n:o.op= .indexAddr s (.tmp q) (.const (.int k i))) (p:D7 P s i c=true)
  {j d} (g:a.eval (.tmp q)= .pointer (some ⟨b,f,none⟩)) (e:Qk K (.fad j d) σ=some (v,σ1))
  (h:Inv num N w0 m0 T β0 σ1 a w m β ν->v= .undef->next (a.put o.dst (.pointer (some ⟨b,f+c,none⟩))) w):o.wp P a w next Q:=by
 simp only[Qk]at e;split at e;cases e;have r:a.eval (.const (.int k i))= .int k i:=rfl;exact QE (u:= .pointer (some ⟨b,f+c,none⟩)) (w':=w) (by simp only[execOp,n,g,r,Sem.run_bind,Qbf p,Result.andThen_ok,Sem.run_pure]) (h l rfl);cases e
def Qiy [Dr] {s} {q f off b e:Nat} (i:Inv num N w0 m0 T β0 σ a w m β ν) (j:o.op= .fieldAddr s (.tmp q) f) (k:Of P s f off=true)
  {l c} (g:a.eval (.tmp q)= .pointer (some ⟨b,e,none⟩)) (d:Qk K (.fad l c) σ=some (v,σ1))
  (h:Inv num N w0 m0 T β0 σ1 a w m β ν->v= .undef->next (a.put o.dst (.pointer (some ⟨b,e+off,none⟩))) w):o.wp P a w next Q:=by
 simp only[Qk]at d;split at d;cases d;exact QE (u:= .pointer (some ⟨b,e+off,none⟩)) (w':=w) (by simp only[execOp,j,g,Sem.run_bind,Lo k,Result.andThen_ok,Sem.run_pure]) (h i rfl);cases d
def TI:=@Nat.add_assoc
def QpG [Dr] {s} {p f d:Nat} (j:Inv num N w0 m0 T β0 σ a w m β ν) (B:o.op= .fieldAddr s (.tmp p) f) (A:Of P s f d=true)
  (l:Qk K (.fadr p d) σ=some (v,σ1)) (h:Aft num N w0 m0 T β0 σ1 a v fun u w'=>next (a.put o.dst u) w'):o.wp P a w next Q:=by
 simp only[Qk]at l;split at l;rename_i i k e;cases l;obtain⟨_,t⟩:=j.at_ (n:=p) (by rw[e];simp);have g:=j.slots p _ t;rw[e]at g;obtain⟨g,_⟩:=g;simp only[Qh]at g;obtain⟨⟨b,z,E⟩,x,q⟩:=g;have r:a.eval (.tmp p)= .pointer (some ⟨b,k,none⟩):=q;refine QE (u:= .pointer (some ⟨b,k+d,none⟩)) (w':=w) (by simp only[execOp,B,r,Sem.run_bind,Lo A,Result.andThen_ok,Sem.run_pure]) (h.same j rfl ?_ trivial);simp only[Qh];exact⟨⟨b,z,E⟩,x,rfl⟩;rename_i G e;cases l;obtain⟨_,t⟩:=j.at_ (n:=p) (by rw[e];simp);have g:=j.slots p _ t;rw[e]at g;obtain⟨g,_⟩:=g;simp only[Qh]at g;obtain⟨b,k,x,q⟩:=g;have r:a.eval (.tmp p)= .pointer (some ⟨b,k,none⟩):=x;refine QE (u:= .pointer (some ⟨b,k+d,none⟩)) (w':=w) (by simp only[execOp,B,r,Sem.run_bind,Lo A,Result.andThen_ok,Sem.run_pure]) (h.same j rfl ?_ trivial);simp only[Qh];refine⟨b,k+d,rfl,?_⟩;rw[Y1]at q ⊢;intro i c y;rw[Vf]at y;obtain⟨u,H,C,D⟩:=q _ c y;exact⟨u,by rwa[TI],C,D⟩;cases l
end
end Go.Am
