/-
  AmM.
-/
import Derived.Test.YthlnfdbbneaelaaGreatDoorG03
import Derived.Laws.MakeOwn
import Derived.Laws.IdiomStrings
set_option linter.all false
namespace Go.Am
def Qak (P:Program) (s:Bool) (kt:TypeId):Bool:=match P.underlying kt with
 | some (.int _)=> !s
 | some .string=>s
 | _=>false
def QgC (P:Program) (t:TypeId) (z:AV):Bool:=match P.info? t with
 | some i=>(match i.zero with
  | some z2=>Sf z z2
  | none=>false)
 | none=>false
def QfP (P:Program) (s:Bool) (t:TypeId):Bool:=match P.underlying t with
 | some (.map kt _)=>Qak P s kt
 | _=>false
def lkT (P:Program) (s:Bool) (t:TypeId) (z:AV):Bool:=match P.underlying t with
 | some (.map kt et)=>Qak P s kt && QgC P et z
 | _=>false
section
variable {P:Program} {num:Nat->Option Nat} {β β':List Blk} {w w':World} {m m':Nat->Nat} {ν ν':Own} {N:Nat} {w0:World} {m0:Nat->Nat} {T:Nat->Prop} {β0:List Blk} {σ σ1:St} {a:Act}
 {o:Oper} {next:Act->World->Prop} {Q:Exit->Act->World->Prop} {K:Vd} {v:AV}
def QeC (num:WL) (β:UH) (w:World) (m:Xs) (c:AV) (e:MapEntry):Prop:=∃k v,c= .agg [k,v]/\Qh num β w m k e.key/\Qh num β w m v e.val
def Cf (s:Bool) (d:TypeDesc):Prop:=(s=false/\∃k,d= .int k)\/(s=true/\d= .string)
def IK {s c} (h:Qak P s c=true): ∃d,P.underlying c=some d/\Cf s d:=by
 unfold Qak at h;split at h;rename_i k b;exact⟨_,b,.inl ⟨by simpa using h,k,rfl⟩⟩;rename_i b;exact⟨_,b,.inr ⟨h,rfl⟩⟩;cases h
def ER (a b:Zq): ((⟨a.toArray⟩:ByteArray) == ⟨b.toArray⟩)=(a == b):=by
 show(a.toArray == b.toArray)=_;simp
def RO [Dr] {s d} (j:Cf s d) {q k b u x} (h:Ny s q k=some b) (f:Qh num β w m q u) (g:Qh num β w m k x):Instr.sameNow d u x=some b/\(b=true->x=u):=by
 unfold Ny at h;split at h;split at h;rename_i e;subst e;injection h with h;simp only[Qh]at f g;subst f g;rcases j with⟨_,l,rfl⟩ | ⟨i,_⟩;refine⟨by simp only[Instr.sameNow,QT,h],fun c=> ?_⟩;subst h;simp only[UG]at c;rw[c];cases i;cases h;injection h with h;simp only[Qh]at f g;subst f g;rcases j with⟨i,_⟩ | ⟨_,rfl⟩;cases i;refine⟨by simp only[Instr.sameNow,ER,h],fun c=> ?_⟩;subst h;simp only[UG]at c;rw[c];cases h
def IJ {s q} (h:Oi s q=true): (s=false/\∃k n,q= .int k n)\/(s=true/\∃x,q= .str x):=by
 unfold Oi at h;split at h;exact .inl ⟨rfl,_,_,rfl⟩;exact .inr ⟨rfl,_,rfl⟩;cases h
def Tz {s q k b} (h:Ny s q k=some b):Oi s q=true:=by
 unfold Ny at h;split at h;rfl;rfl;cases h
def K5 [Dr] {s q u} (h:Oi s q=true) (b:Qh num β w m q u) (n):Instr.sameBits n u u=true:=by
 rcases IJ h with⟨_,k,x,rfl⟩ | ⟨_,x,rfl⟩;simp only[Qh]at b;subst b;simp[Instr.sameBits];simp only[Qh]at b;subst b;simp[Instr.sameBits,ER]
def N7:=@List.getElem?_cons_zero
def QV:=@Option.some.injEq
def Hx [Dr] {s d} (z:Cf s d) {q u} (y:Qh num β w m q u): ∀l b f r,l.length=b.length->
  (∀(i:Nat) c,l[i]? =some c->∃e,b[i]? =some e/\QeC num β w m c e)->Wu s l q=some r->
  (r=none/\Instr.findNow d u b f=some none)\/∃v j x,r=some v/\Instr.findNow d u b f=some (some (j,x))/\Qh num β w m v x
 | [],b,f,r,p,_,h=>by
  rcases b with _ | ⟨e,b⟩;simp only[Wu]at h;split at h;injection h with h;exact .inl ⟨h.symm,rfl⟩;cases h;simp at p
 | c:: l,[],f,r,p,_,h=>by simp at p
 | c:: l,e:: b,f,r,p,B,h=>by
  obtain⟨G,n,k,v,rfl,A,E⟩:=B 0 c rfl;simp only[N7,QV]at n;subst n;simp only[Wu]at h;split at h;rename_i g;obtain⟨t,D⟩:=RO z g y A;injection h with h;refine .inr ⟨v,f,e.val,h.symm,?_,E⟩;simp only[Instr.findNow,t];rename_i g;obtain⟨t,D⟩:=RO z g y A;simp only[Instr.findNow,t];exact(Hx z y l b (f+1) r (by simpa using p) (fun i c C=>by have:=B (i+1) c (by simpa using C);simpa using this) h);cases h
def Qeu [Dr] {s d} (z:Cf s d) {q v u} (A:Qh num β w m q u): ∀f b l n,f.length=b.length->
  (∀(i:Nat) c,f[i]? =some c->∃e,b[i]? =some e/\QeC num β w m c e)->MG s f q v=some n->
  Oi s q=true/\((Instr.findNow d u b l=some none/\n=f ++ [.agg [q,v]])\/∃j x e,Instr.findNow d u b l=some (some (l+j,x))/\b[j]? =some e/\e.key=u/\n=f.set j (.agg [q,v]))
 | [],b,l,n,r,_,h=>by
  rcases b with _ | ⟨e,b⟩;simp only[MG]at h;split at h;rename_i t;injection h with h;exact⟨t,.inl ⟨rfl,h.symm⟩⟩;cases h;simp at r
 | c:: f,[],l,n,r,_,h=>by simp at r
 | c:: f,e:: b,l,n,r,H,h=>by
  obtain⟨U,p,k,V,rfl,E,S⟩:=H 0 c rfl;simp only[N7,QV]at p;subst p;simp only[MG]at h;split at h;rename_i g;obtain⟨D,G⟩:=RO z g A E;injection h with h;refine⟨Tz g,.inr ⟨0,e.val,e,?_,rfl,G rfl,h.symm⟩⟩;simp only[Instr.findNow,D,Pn];rename_i g;obtain⟨D,G⟩:=RO z g A E;rcases y:MG s f q v with _ | M;rw[y]at h;cases h;rw[y]at h;injection h with h;obtain⟨t,R⟩:=Qeu z A f b (l+1) M (by simpa using r) (fun i c J=>by have:=H (i+1) c (by simpa using J);simpa using this) y;refine⟨t,?_⟩;simp only[Instr.findNow,D];rcases R with⟨B,C⟩ | ⟨j,x,I,B,C,L,O⟩;exact .inl ⟨B,by rw[<- h,C];rfl⟩;exact .inr ⟨j+1,x,I,by rw[B];congr 3;omega,by simpa using C,L,by rw[<- h,O];rfl⟩;cases h
def MA [Dr] {s c} (h:Qak P s c=true) (b n u): (Instr.checkKey b (n+1) c u).run P w= .ok () w:=by
 obtain⟨d,f,e⟩:=IK h;rcases e with⟨_,k,rfl⟩ | ⟨_,rfl⟩ <;> simp[Instr.checkKey,run_underlying f]
def TX {s:Bool} {c d} (e:P.underlying c=some d) {u b r} (h:Instr.findNow d u b 0=some r): (Instr.findKey c u b).run P w= .ok r w:=by
 simp[Instr.findKey,run_underlying e,h]
def Tw {r c b} (d:w.heap[r]? =some (.map c b)): (getObj r).run P w= .ok (.map c b) w:=by
 simp[getObj,Sem.run,d]
def PO {r d b} (c) (e:w.heap[r]? =some (.map d b)): (setObj r c).run P w= .ok () {w with heap:=w.heap.setIfInBounds r c}:=by
 simp[setObj,Sem.run,e]
def DI {t z} (h:QgC P t z=true): ∃b:Value,(zeroValue t).run P w= .ok b w/\Sf z b=true:=by
 unfold QgC at h;split at h;rename_i i c;split at h;rename_i b d;exact⟨b,by simp[zeroValue,typeInfo,c,d],h⟩;cases h;cases h
def Qgc [Dr] {s ok t z} (h:lkT P s t z=true) {b g n p q u r} (B:w.heap[b]? =some (.map n g)) (L:p.length=n.size)
  (E: ∀(i:Nat) (c:AV),p[i]? =some c->∃(e:MapEntry) (k v:AV),n[i]? =some e/\c= .agg [k,v]/\Qh num β w m k e.key/\Qh num β w m v e.val) (H:Qh num β w m q u) (U:Wu s p q=some r):
  ∃x,(Instr.lookup t (.map (some b)) u ok).run P w= .ok (if ok then .tuple #[x,.bool r.isSome]else x) w/\Qh num β w m (r.getD z) x:=by
 unfold lkT at h;split at h;rename_i Y X D;simp only[Qr]at h;obtain⟨d,C,O⟩:=IK h.1;obtain⟨W,M,y⟩:=DI (w:=w) h.2;have l:=fun b=>MA (w:=w) h.1 b 9999 u;rcases Hx O H p n.toList 0 r (by simpa using L) (fun i c G=>by obtain⟨e,k,v,J,S,V,R⟩:=E i c G;exact⟨e,by simpa using J,k,v,S,V,R⟩) U with⟨rfl,A⟩ | ⟨v,j,x,rfl,A,I⟩;have f:=TX (s:=s) (P:=P) (w:=w) C A;refine⟨W,?_,(YS (ν:=fun _=>none) y).1⟩;cases ok <;> simp[Instr.lookup,run_underlying D,Tw B,l,f,M];have f:=TX (s:=s) (P:=P) (w:=w) C A;refine⟨x,?_,I⟩;cases ok <;> simp[Instr.lookup,run_underlying D,Tw B,l,f];cases h
def Ju:=@Array.getElem?_push
def PU.push {d b} (h:PU d b) (e) (g:e.born=b):PU (d.push e) (b+1):=by
 refine⟨by simp[h.1],fun i x c=> ?_⟩;rw[Ju]at c;split at c;rename_i f;injection c with c;subst c f;rw[g,h.1];exact h.2 i x c
def Pf:=@Array.getElem?_modify
def PU.modify {g b} (h:PU g b) (j f) (k: ∀e,(f e).born=e.born):PU (g.modify j f) b:=by
 refine⟨by simp[h.1],fun i x c=> ?_⟩;rw[Pf]at c;split at c;rcases d:g[i]? with _ | e;rw[d]at c;cases c;rw[d]at c;cases c;rw[k];exact h.2 i e d;exact h.2 i x c
def Um:=@Array.getElem?_eq_getElem
def PU.find {c b} (h:PU c b) {j} (d:j < c.size):c.findIdx? (fun e=>(e.born:Int) == (j:Int))=some j:=by
 rw[Array.findIdx?_eq_some_iff_getElem];refine⟨d,?_,fun k f=> ?_⟩;simp[h.2 j c[j] (Um d)];have:=h.2 k c[k] (Um (by omega));simp[this];omega
def Lv:=@List.getElem?_append
def X9:=@List.mem_of_getElem?
def N6:=@Array.getElem?_eq_some_iff
def D1 [Dr] {s t} (C:QfP P s t=true) {b f p r M q v u x} (L:w.heap[b]? =some (.map p f)) (U:r.length=p.size) (Y:PU p f)
  (R: ∀(i:Nat) (c:AV),r[i]? =some c->∃(e:MapEntry) (k v:AV),p[i]? =some e/\c= .agg [k,v]/\Qh num β w m k e.key/\Qh num β w m v e.val) (J:Qh num β w m q u) (X:Qh num β w m v x) (hf:MG s r q v=some M):
  Oi s q=true/\∃n l,(Instr.mapUpdate t (.map (some b)) u x).run P w= .ok () {w with heap:=w.heap.setIfInBounds b (.map n l)}/\(M.length=n.size/\PU n l)/\
   (∀(i:Nat) c,M[i]? =some c->(∃(e:MapEntry) (k v:AV),n[i]? =some e/\c= .agg [k,v]/\Qh num β w m k e.key/\Qh num β w m v e.val)/\(c∈r\/c= .agg [q,v])):=by
 unfold QfP at C;split at C;rename_i kt et W;obtain⟨d,Z,hK⟩:=IK C;have E:=fun b=>MA (w:=w) C b 9999 u;obtain⟨I,h⟩:=Qeu hK (v:=v) J r p.toList 0 M (by simpa using U) (fun i c g=>by obtain⟨e,k,v,S,H,G,D⟩:=R i c g;exact⟨e,by simpa using S,k,v,H,G,D⟩) hf;refine⟨I,?_⟩;rcases h with⟨O,rfl⟩ | ⟨j,y,e,O,he,V,rfl⟩;have z:=TX (s:=s) (P:=P) (w:=w) Z O;refine⟨p.push {key:=u,val:=x,born:=f},f+1,?_,⟨by simp[U],Y.push _ rfl⟩,fun i c g=> ?_⟩;simp[Instr.mapUpdate,run_underlying W,Tw L,E,z,PO _ L];rw[Lv]at g;split at g;rename_i hi;obtain⟨e,k,v,S,H,G,D⟩:=R i c g;refine⟨⟨e,k,v,?_,H,G,D⟩,.inl (X9 g)⟩;rwa[Ju,Qb (by omega)];rename_i hi;have h0:i - r.length=0:=by rcases Jv (i - r.length)with h | h;exact h;rw[ZF (by simp;omega)]at g;cases g
 rw[h0]at g;simp only[N7,QV]at g;refine⟨⟨{key:=u,val:=x,born:=f},q,v,?_,g.symm,J,X⟩,.inr g.symm⟩;rw[Ju,Qe (by omega)];rw[Z1]at O;have z:=TX (s:=s) (P:=P) (w:=w) Z O;have B:p[j]? =some e:=by simpa using he
 have hjl:=(N6.1 B).1;refine⟨p.modify j fun e=>{e with key:=u,val:=x},f,?_,⟨by simp[U],Y.modify j _ fun _=>rfl⟩,fun i c g=> ?_⟩;simp[Instr.mapUpdate,run_underlying W,Tw L,E,z,B,V,Instr.keyThatStays,(K5 I J 10000),PO _ L];rw[Qy]at g;split at g;rename_i A;subst A;split at g;injection g with g;refine⟨⟨{e with key:=u,val:=x},q,v,?_,g.symm,J,X⟩,.inr g.symm⟩;simp[Pf,B];cases g;rename_i A;obtain⟨e3,k,v3,S,H,G,D⟩:=R i c g;refine⟨⟨e3,k,v3,?_,H,G,D⟩,.inl (X9 g)⟩;rwa[Pf,Qb A];cases C
def Y2.setMap [Dr] {b j c} (k) (n:w.heap[b]? =some (.map j c)) (l:m b=0):Y2 (· =b) w m {w with heap:=w.heap.setIfInBounds b k} m:=by
 refine⟨rfl,rfl,rfl,by simp,fun x _ d=>⟨by simp[Ls (fun e=>d e.symm)],rfl⟩,fun x i u h=> ?_,fun _=>QX _⟩;obtain⟨g,f,p⟩:=Ub h;have d: ¬b=x:=fun e=>by subst e;omega
 unfold hg;rw[Qe g];unfold World.cell? at f ⊢;simp only[Ls d]at f ⊢;exact f
def Un:=@List.getElem?_set_ne
def Inv.setM [Dr] (n:Inv num N w0 m0 T β0 σ a w m β ν) (s) {B k} (G:σ.bs[s]? =some B) (g:β[s]? =some k/\k.mp=true) (H:B≠[]):
  ∃(l:Array MapEntry) (d:Nat) (z:Qx),w.heap[k.b]? =some (.map l d)/\B= .undef:: z/\(z.length=l.size/\PU l d)/\
   (∀(i:Nat) c,z[i]? =some c->∃(e:MapEntry) (k v:AV),l[i]? =some e/\c= .agg [k,v]/\Qh num β w m k e.key/\Qh num β w m v e.val)/\
   ∀y f b,(y.length=f.size/\PU f b)->
    (∀(i:Nat) c,y[i]? =some c->∃(e:MapEntry) (k v:AV),f[i]? =some e/\c= .agg [k,v]/\Qh num β w m k e.key/\Qh num β w m v e.val)->
    Inv num N w0 m0 T β0 {σ with bs:=σ.bs.set s (.undef:: y)} a {w with heap:=w.heap.setIfInBounds k.b (.map f b)} m β ν:=by
 obtain⟨l,d,z,D,R,r,V,U,h6⟩:=(n.boxes s B k G g.1 H).2 g.2;refine⟨l,d,z,D,V,U,h6,fun y f b Z E=> ?_⟩;have I:s < σ.bs.length:=by rcases Zt s σ.bs.length with h | h;exact h;rw[ZF h]at G;cases G
 have J:=Y2.setMap (.map f b) D R;refine n.next J (fun x hx C=>by subst C;exact(n.lt _ _ r).2) (Ge.refl β) (fun _=>False) (fun t=>t=s) (fun x t h _=>⟨fun e=> ?_,h⟩) (fun x t i h _=>⟨fun e=> ?_,h⟩) (fun x t h A=>⟨fun e=> ?_,h⟩) (fun x t i h A=>⟨fun e=> ?_,h⟩) (fun x p h=>by simpa using n.lt x p h) (fun t A=> .inl rfl) n.out (fun t v L hv=>L.elim) (by simpa using n.blen) (fun i A=>by simp[Un (fun e=>A e.symm)]) (fun i cs2 b2 L M O=> ?_);subst e;rw[r]at h;injection h with h;cases h;subst e;rw[r]at h;injection h with h;cases h;subst e;rw[r]at h;injection h with h;injection h with h;exact A h.symm;subst e;rw[r]at h;injection h with h;cases h;subst L;rw[g.1]at O;cases O;simp only[Pe I]at M;cases M;refine fun _=>⟨fun(q:k.mp=false)=>(by rw[g.2]at q;cases q),fun _=>⟨f,b,y,by simp[((N6.1 D).1)],R,r,rfl,Z,fun j c Y=> ?_⟩⟩;obtain⟨e,x,v,g1,W,S,X⟩:=E j c Y;exact⟨e,x,v,g1,W,ZU (Ge.refl β) J.le x _ S,ZU (Ge.refl β) J.le v _ X⟩
def Qt7 [Dr] {t} (b:Inv num N w0 m0 T β0 σ a w m β ν) (g:o.op= .makeMap t none)
  (d:Qk K .mkm σ=some (v,σ1)) (h:Aft num N w0 m0 T β0 σ1 a v fun u w'=>next (a.put o.dst u) w'):o.wp P a w next Q:=by
 simp only[Qk]at d;cases d;refine QE (u:= .map (some w.heap.size)) (w':=w.alloc (.map #[] 0)) (by simp[execOp,g,show(Instr.makeMap t none).run P w= .ok (.map (some w.heap.size)) (w.alloc (.map #[] 0))from rfl]) (h _ _ _ _ _ ((b.freshO (.map #[] 0) 0 .f).toBoxK (k:=⟨w.heap.size,0,true⟩) (cs:=[.undef]) (by simp[Y0]) ⟨fun(q:true=false)=>(by cases q),fun _=>⟨#[],0,[],heap_alloc_new w _,by simp[m1],by simp[Y0],rfl,⟨rfl,rfl,fun i e h=>by simp at h⟩,fun i c j=>by simp at j⟩⟩) ((Zr rfl).2 ⟨?_,trivial⟩));simp only[Qh];exact⟨⟨w.heap.size,0,true⟩,⟨by rw[<- b.blen];simp,rfl⟩,rfl⟩
def Gr:=@List.drop_succ_cons
def GI:=@List.drop_zero
def Qt5 [Dr] {s ok x i z t x2 i2} (hI:Inv num N w0 m0 T β0 σ a w m β ν) (ho:o.op= .lookup t x2 i2 ok) (hL:lkT P s t z=true) (hx:okO num x x2=true) (hi:okO num i i2=true)
  (he:Qk K (.lkm s ok x i z) σ=some (v,σ1)) (h:Aft num N w0 m0 T β0 σ1 a v fun u w'=>next (a.put o.dst u) w'):o.wp P a w next Q:=by
 simp only[Qk]at he;split at he; · rename_i id hid;cases hbs:σ.bs[id]? with | none=>rw[hbs]at he;cases he | some cs=>rw[hbs]at he;simp only[QO]at he;split at he;cases he; · rename_i hne;cases hf:Wu s (cs.drop 1) (val σ.env i)with | none=>rw[hf]at he;cases he | some r=>rw[hf]at he;simp only[QO]at he;split at he;(case isFalse=>cases he);rename_i hyk;cases he;(have hk: (val σ.env i).ok=true:=by(have:Oi s (val σ.env i)=true:=by generalize val σ.env i=q at hf;generalize cs.drop 1=xs at hf;rcases xs with _ | ⟨c,xs⟩;simp only[Wu]at hf;split at hf;assumption;cases hf;unfold Wu at hf;split at hf;rename_i hh;cases hh;split at hf;rename_i hke;exact Tz hke;rename_i hke;exact Tz hke;cases hf;cases hf);rcases IJ this with⟨_,k,n,e⟩ | ⟨_,y,e⟩ <;> rw[e] <;> rfl);have hmx:=(hI.val hx (by rw[hid];rfl)).1;rw[hid]at hmx;simp only[Qh]at hmx;obtain⟨kb,hkb,hmv⟩:=hmx;obtain⟨es,clock,xs,g1,g2,g3,g4,_⟩:=hI.setM id hbs hkb hne;rw[g2]at hf;simp only[Gr,GI]at hf;obtain⟨y,k1,k2⟩:=Qgc (ok:=ok) hL g1 g3.1 g4 ((hI.val hi hk).1) hf;refine QE (u:=if ok then .tuple #[y,.bool r.isSome]else y) (w':=w) (by simp[execOp,ho,hmv,k1]) ?_;cases ok;simp only[Xn,ZT];exact h _ w m β ν hI ((Zr hyk).2 ⟨by rwa[Zg],Xr _ _ _⟩);simp only[QT];refine h _ w m β ν hI ((Zr rfl).2 ⟨?_,trivial⟩);simp only;refine⟨_,rfl,rfl,?_⟩;simp only[VK];exact⟨⟨y,rfl,by rwa[Zg]⟩,⟨.bool r.isSome,by simp,by simp only[Qh]⟩,trivial⟩
 cases he
def BF:=@Bool.not_eq_false
def Qud [Dr] {s x k y t S O J} (B:Inv num N w0 m0 T β0 σ a w m β ν) (W:o.op= .mapUpdate t S O J) (hL:QfP P s t=true) (X:okO num x S=true) (hk:okO num k O=true) (hy:okO num y J=true)
  (f:Qk K (.upm s x k y) σ=some (v,σ1)) (h: ∀w' m' β' ν',Inv num N w0 m0 T β0 σ1 a w' m' β' ν'->v= .undef->next (a.put o.dst undef) w'):o.wp P a w next Q:=by
 simp only[Qk]at f;split at f;rename_i M r;rcases p:σ.bs[M]? with _ | R;rw[p]at f;cases f;rw[p]at f;simp only[QO]at f;split at f;cases f;rename_i g;simp only[not_or,BF]at g;obtain⟨g,A⟩:=g;rcases b:MG s (R.drop 1) (val σ.env k) (val σ.env y).strip with _ | ys;rw[b]at f;cases f;rw[b]at f;cases f;have H:Oi s (val σ.env k)=true:=by generalize val σ.env k=q at b;generalize (val σ.env y).strip=vv at b;generalize R.drop 1=D at b;rcases D with _ | ⟨c,D⟩;simp only[MG]at b;split at b;assumption;cases b;unfold MG at b;split at b;rename_i hh;cases hh;split at b;rename_i j;exact Tz j;rename_i j;exact Tz j;cases b;cases b
 have I: (val σ.env k).ok=true:=by rcases IJ H with⟨_,k,n,e⟩ | ⟨_,y,e⟩ <;> rw[e] <;> rfl
 have hyr:=(B.val hy (Nc A)).1;have l:=(B.val X (by rw[r];rfl)).1;rw[r]at l;simp only[Qh]at l;obtain⟨V,C,E⟩:=l;obtain⟨es,G,D,g1,g2,L,Y,u⟩:=B.setM M p C g;rw[g2]at b;simp only[Gr,GI]at b;obtain⟨_,z,d,U,r2,r3⟩:=D1 (x:=a.eval J) hL g1 L.1 L.2 Y ((B.val hk I).1) (by rwa[Zg]) b;refine Rz (w':={w with heap:=w.heap.setIfInBounds V.b (.map z d)}) (by simp[execOp,W,E,U]) (h _ m β ν (u ys z d r2 (fun i c Z=>(r3 i c Z).1)) rfl);cases f
def Dc [Dr] {s d} (t:Cf s d) {q u} (r:Qh num β w m q u): ∀f j g v,f.length=j.length->
  (∀(i:Nat) c,f[i]? =some c->∃e,j[i]? =some e/\QeC num β w m c e)->Wu s f q=some (some v)->
  ∃e,Instr.findNow d u j g=some (some (g+Oh s f q,e.val))/\j[Oh s f q]? =some e/\e.key=u/\Qh num β w m v e.val
 | [],j,g,v,n,_,h=>by
  simp only[Wu]at h;split at h <;> cases h
 | c:: f,[],g,v,n,_,h=>by simp at n
 | c:: f,e:: j,g,v,n,x,h=>by
  obtain⟨I,l,k,J,rfl,y,C⟩:=x 0 c rfl;simp only[N7,QV]at l;subst l;simp only[Wu]at h;split at h;rename_i b;obtain⟨p,z⟩:=RO t b r y;cases h;refine⟨e,?_,by simp[Oh,b],z rfl,C⟩;simp only[Instr.findNow,p,Oh,b,Pn];rename_i b;obtain⟨p,z⟩:=RO t b r y;obtain⟨D,E,H,G,B⟩:=Dc t r f j (g+1) v (by simpa using n) (fun i c A=>by have:=x (i+1) c (by simpa using A);simpa using this) h;refine⟨D,?_,by simpa[Oh,b]using H,G,B⟩;simp only[Instr.findNow,p,Oh,b];rw[E,show g+1+Oh s f q=g+ (Oh s f q+1) by omega];cases h
def Qfy {s d q r} (h:Wu s d q=some r):Oi s q=true:=by
 rcases d with _ | ⟨c,d⟩;simp only[Wu]at h;split at h;assumption;cases h;unfold Wu at h;split at h;rename_i e;cases e;split at h;rename_i b;exact Tz b;rename_i b;exact Tz b;cases h;cases h
def Gs:=@Array.ext_getElem?
def Qcb {b:Array MapEntry} {j e u} (h:b[j]? =some e) (c:e.key=u):b.modify j (fun e=>{e with key:=u})=b:=by
 apply Gs;intro i;rw[Pf];split;rename_i d;subst d;rw[h];subst c;rfl;rfl
def Pd:=@Array.getElem?_eq_none
def Qt9 [Dr] {s x k z t x2 O} (Y:Inv num N w0 m0 T β0 σ a w m β ν) (ho:o.op= .mapEntry t x2 O) (D:lkT P s t z=true) (hx:okO num x x2=true) (hk:okO num k O=true)
  (g:Qk K (.mpe s x k z) σ=some (v,σ1)) (h:Aft num N w0 m0 T β0 σ1 a v fun u w'=>next (a.put o.dst u) w'):o.wp P a w next Q:=by
 simp only[Qk]at g;split at g; · rename_i id S;cases E:σ.bs[id]? with | none=>rw[E]at g;cases g | some cs=>rw[E]at g;simp only[QO]at g;split at g;cases g; · rename_i hne;cases G:Wu s (cs.drop 1) (val σ.env k)with | none=>rw[G]at g;cases g | some r=>rw[G]at g;have X:=Qfy G;(have hko: (val σ.env k).ok=true:=by rcases IJ X with⟨_,k,n,e⟩ | ⟨_,y,e⟩ <;> rw[e] <;> rfl);have p:=(Y.val hk hko).1;have C:=(Y.val hx (by rw[S];rfl)).1;rw[S]at C;simp only[Qh]at C;obtain⟨kb,L,V⟩:=C;obtain⟨I,f,A,R,g2,q,g4,J⟩:=Y.setM id E L hne;rw[g2]at G g;simp only[Gr,GI]at G g;unfold lkT at D;split at D;(case h_2=>cases D);rename_i kt et hm;simp only[Qr]at D;obtain⟨d,hd,hK⟩:=IK D.1;have M:=fun b=>MA (w:=w) D.1 b 9999 (a.eval O);(have W: ∀(i:Nat) (c:AV),A[i]? =some c->∃e,I.toList[i]? =some e/\QeC num β w m c e:=fun i c l=>by obtain⟨e,k,v,h1,h2,h3,h4⟩:=g4 i c l;exact⟨e,by simpa using h1,k,v,h2,h3,h4⟩);rcases r with _ | r;simp only[Zy,Gt,Xn,ZT,QV,Zm]at g;obtain⟨rfl,rfl⟩:=g;obtain⟨Z,hz,U⟩:=DI (w:=w) D.2;have hzr:=(YS (num:=num) (β:=β) (w:=w) (m:=m) (ν:=fun _=>none) U).1;rcases Hx hK p A I.toList 0 none (by simpa using q.1) W G with⟨_,hn⟩ | ⟨v,j,x,h0,_⟩;have B:=TX (s:=s) (P:=P) (w:=w) hd hn;refine QE (u:= .tuple #[Z,goInt f]) (w':={w with heap:=w.heap.setIfInBounds kb.b (.map (I.push {key:=a.eval O,val:=Z,born:=f}) (f+1))}) ?_ ?_;simp[execOp,ho,V,Instr.mapEntry,run_underlying hm,Tw R,M,B,hz,PO _ R];refine h _ _ m β ν (J (A ++ [.agg [val σ.env k,z.strip]]) _ _ ⟨by simp[q.1],q.2.push _ rfl⟩ fun i c l=> ?_) ((Zr rfl).2 ⟨?_,trivial⟩);rw[Lv]at l;split at l;rename_i hi;obtain⟨e,k,v,h1,h2,h3,h4⟩:=g4 i c l;refine⟨e,k,v,?_,h2,h3,h4⟩;rwa[Ju,Qb (by have:=q.1;omega)];rename_i hi;(have h0:i - A.length=0:=by rcases Jv (i - A.length)with h | h;exact h;rw[ZF (by simp;omega)]at l;cases l);rw[h0]at l;simp only[N7,QV]at l;refine⟨{key:=a.eval O,val:=Z,born:=f},_,_,?_,l.symm,p,by rwa[Zg]⟩;rw[Ju,Qe (by have:=q.1;omega)];simp only[Qh];refine⟨_,rfl,rfl,?_⟩;simp only[VK];refine⟨⟨Z,rfl,by rw[Zg];exact(YS (ν:=fun _=>none) U).1⟩,⟨goInt f,by simp,?_⟩,trivial⟩;simp only[Qh,goInt];rw[q.2.1,<- q.1];cases h0;simp only[Zy,Option.isSome_some,QT,Pj,QV,Zm]at g;obtain⟨rfl,rfl⟩:=g;obtain⟨e,q1,q2,q3,q4⟩:=Dc hK p A I.toList 0 r (by simpa using q.1) W G;rw[Z1]at q1;have B:=TX (s:=s) (P:=P) (w:=w) hd q1;(have H:I[Oh s A (val σ.env k)]? =some e:=by simpa using q2);(have hst:w.heap.setIfInBounds kb.b (.map I f)=w.heap:=by apply Gs;intro i;rw[Array.getElem?_setIfInBounds];split;rename_i hi;subst hi;split;exact R.symm;rename_i hlt;rw[Pd (by omega)];rfl);refine QE (u:= .tuple #[e.val,goInt (Oh s A (val σ.env k))]) (w':=w) ?_ ?_;simp[execOp,ho,V,Instr.mapEntry,run_underlying hm,Tw R,M,B,H,q3,(q.2.2 _ e H),Instr.keyThatStays,(K5 X p 10000),(Qcb H q3),PO _ R,hst];refine h _ w m β ν Y ((Zr rfl).2 ⟨?_,trivial⟩);simp only[Qh];refine⟨_,rfl,rfl,?_⟩;simp only[VK];exact⟨⟨e.val,rfl,by rwa[Zg]⟩,⟨goInt (Oh s A (val σ.env k)),by simp,by simp only[Qh,goInt]⟩,trivial⟩
 cases g
def Bz:=@Int.toNat_of_nonneg
def Qlv [Dr] {x B y t O H z} (hI:Inv num N w0 m0 T β0 σ a w m β ν) (ho:o.op= .entryStore t O H z) (hx:x.ok=true->Qh num β w m x (a.eval O)) (Z:B.ok=true->Qh num β w m B (a.eval H)) (V:y.ok=true->Qh num β w m y (a.eval z))
  (b:OC σ x B y=some (v,σ1)) (h: ∀w' m' β' ν',Inv num N w0 m0 T β0 σ1 a w' m' β' ν'->v= .undef->next (a.put o.dst undef) w'):o.wp P a w next Q:=by
 unfold OC at b;split at b;rename_i L n;rcases l:σ.bs[L]? with _ | cs;rw[l]at b;cases b;rw[l]at b;simp only[QO]at b;split at b;cases b;rename_i d;simp only[not_or,BF,Int.not_lt]at d;obtain⟨d,p,G⟩:=d;split at b;rename_i k v0 g;cases b;have hyr:=V (Nc p);have s:=Z rfl;simp only[Qh]at s;have q:=hx rfl;simp only[Qh]at q;obtain⟨Y,A,D⟩:=q;obtain⟨R,j,xs,J,W,C,I,u⟩:=hI.setM L l A d;rw[W]at g h;simp only[Gr,GI]at g h;obtain⟨e,k',v',M,e2,e3,e4⟩:=I _ _ g;cases e2;have r:=C.2.find ((N6.1 M).1);rw[Bz G]at r;refine Rz (w':={w with heap:=w.heap.setIfInBounds Y.b (.map (R.modify n.toNat fun e=>{e with val:=a.eval z}) j)}) ?_ ?_;simp[execOp,ho,D,s,Instr.entryStore,Tw J,asInt,asIntOf,r,PO _ J,Result.andThen];refine h _ m β ν (u _ _ _ ⟨by simp[C.1],C.2.modify _ _ fun _=>rfl⟩ fun i c f=> ?_) trivial;rw[Qy]at f;split at f;rename_i E;subst E;split at f;injection f with f;exact⟨{e with val:=a.eval z},k,y.strip,by simp[Pf,M],f.symm,e3,by rwa[Zg]⟩;cases f;rename_i E;obtain⟨e',X,v3,q1,q2,U,S⟩:=I i c f;refine⟨e',X,v3,?_,q2,U,S⟩;rwa[Pf,Qb E];cases b;cases b
def QpD [Dr] {x j} {n i:Nat} {t f g} (q:Inv num N w0 m0 T β0 σ a w m β ν) (l:o.op= .entryStore t f g (.tmp n)) (s:okO num x f=true) (k:okO num j g=true)
  (b:Qk K (.ensf x j n i) σ=some (v,σ1)) (h: ∀w' m' β' ν',Inv num N w0 m0 T β0 σ1 a w' m' β' ν'->v= .undef->next (a.put o.dst undef) w'):o.wp P a w next Q:=by
 simp only[Qk]at b;rcases c:Z8 σ n i with _ | p;rw[c]at b;cases b;rw[c]at b;simp only[QO]at b;obtain⟨m',ν',e,z,y,r,u⟩:=q.frz (v:=p.1) (σ1:=p.2) c;exact Qlv e l (fun d=>(e.val s d).1) (fun d=>(e.val k d).1) (fun _=>r) b h
def QfB (P:Program) (s:TypeId) (f off sz:Nat) (ag:Bool):Bool:=match P.underlying s with
 | some (.struct fs)=>(match fs[f]? with
  | some fl=>decide (fl.offset=off) && YJ P fl.type sz && Up P fl.type ag
  | none=>false)
 | _=>false
def Qmq {t e j r} (B:YJ P t j=true) (s:Up P t r=true) {l n} (b:XF n e j r=some v) (E:l.size=n.length)
  (y: ∀(i:Nat) (c:AV),n[i]? =some c->∃u,l[i]? =some u/\u.oneCell'=true/\Qh num β w m c u):
  ∃u,(part t l e).run P w= .ok u w/\v.ok=true/\Qh num β w m v u/\∀p,Yr w m ν p v u:=by
 unfold XF at b;split at b;rename_i C;cases r;simp only[Xn,ZT]at b;split at b;rcases f:n[e]? with _ | c;rw[f]at b;cases b;rw[f]at b;simp only[QO]at b;split at b;rename_i D;cases b;obtain⟨u,z,x,A⟩:=y e c f;refine⟨u,?_,by rw[MD];exact Nc D,by rwa[Zg],fun p=>Xr _ _ _⟩;simp only[part,Sem.run_bind,Wk s,Result.andThen_ok,Xn,ZT,z,Sem.run_pure];cases b;cases b;simp only[QT]at b;cases b;refine⟨.agg (l.extract e (e+j)),?_,rfl,?_,fun p=>trivial⟩;simp only[part,Sem.run_bind,Wk s,Yp B,Result.andThen_ok,QT,Sem.run_pure];simp only[Qh];refine⟨_,rfl,by simp;omega,?_⟩;rw[Y1];intro i c q;obtain⟨d,k,rfl⟩:=ZE q;have g:i < j:=by rcases Zt i j with h | h;exact h;rw[ZF (by simp;omega)]at k;cases k
 rw[VV g,Vf]at k;obtain⟨u,z,x,A⟩:=y _ d k;refine⟨u,?_,x,by rwa[Zg]⟩;simp only[Z1];rwa[Array.getElem?_extract,Qe (by omega)];cases b
def QtZ [Dr] {d p f r x t z} (y:Inv num N w0 m0 T β0 σ a w m β ν) (D:o.op= .field t z f) (b:QfB P t f d p r=true) (G:okO num x z=true)
  (e:Qk K (.fld d p r x) σ=some (v,σ1)) (h:Aft num N w0 m0 T β0 σ1 a v fun u w'=>next (a.put o.dst u) w'):o.wp P a w next Q:=by
 simp only[Qk]at e;split at e;rename_i J g;rcases k:XF J d p r with _ | U;rw[k]at e;cases e;rw[k]at e;cases e;have n:=(y.val G (by rw[g];rfl)).1;rw[g]at n;simp only[Qh]at n;obtain⟨O,M,j,s⟩:=n;rw[Y1]at s;unfold QfB at b;split at b;rename_i R q;split at b;rename_i S l;simp only[Qr,QM]at b;obtain⟨⟨rfl,I⟩,C⟩:=b;obtain⟨u,A,E,B,L⟩:=Qmq (P:=P) (w:=w) (num:=num) (β:=β) (m:=m) (ν:=ν) I C k j (fun i c H=>by simpa using s i c H);refine QE (u:=u) (w':=w) ?_ (h.same y E B (L _));simp[execOp,D,Instr.field,run_underlying q,l,M,asAgg,A];cases b;cases b;cases e
def mkT (P:Program) (t:TypeId) (bytes sz:Nat) (zs:Qx):Bool:=match P.underlying t with
 | some (.slice e)=>(match P.info? e with
  | some i=>decide (i.bytes=bytes) && decide (i.size=sz) && (match i.zero with
   | some z=>VX zs z.cells.toList
   | none=>false)
  | none=>false)
 | _=>false
def SC:=@List.replicate_succ
def BI:=@Nat.mod_eq_of_lt
def Hy {e:Type} (b): ∀n j (c:e),(List.replicate n b).flatten[j]? =some c->b[j % b.length]? =some c
 | 0,j,c,h=>by simp at h
 | n+1,j,c,h=>by
  rw[SC,To,Lv]at h;split at h;rename_i d;rwa[BI d];rename_i d;have:=Hy b n (j - b.length) c h;rwa[<- Nat.mod_eq_sub_mod (by omega)]at this
def JH:=@Int.mul_comm
def Qt6 [Dr] {b S g x t D} (L:Inv num N w0 m0 T β0 σ a w m β ν) (X:o.op= .makeSlice t D D) (d:mkT P t b S g=true) (Y:okO num x D=true)
  (l:Qk K (.mkg b S g x) σ=some (v,σ1)) (h:Aft num N w0 m0 T β0 σ1 a v fun u w'=>next (a.put o.dst u) w'):o.wp P a w next Q:=by
 simp only[Qk]at l;split at l;rename_i k n V;split at l;rename_i hc;obtain⟨M,hb,h63,G,C⟩:=hc;cases l;have s:=(L.val Y (by rw[V];rfl)).1;rw[V]at s;simp only[Qh]at s;unfold mkT at d;split at d;rename_i e A;split at d;rename_i i Z;simp only[Qr,QM]at d;obtain⟨⟨rfl,rfl⟩,H⟩:=d;split at H;rename_i z y;obtain⟨hl,J⟩:=WE _ _ H;have E: (List.replicate n.toNat g).flatten.length=n.toNat* i.size:=by simp[C]
 have r:=size_madeCells z.cells (n.toNat* i.size);refine QE (u:= .slice (some ⟨w.heap.size,0,none⟩) n.toNat n.toNat) (w':=w.alloc (.cells (madeCells z.cells (n.toNat* i.size)) e)) (by simp[execOp,X,s,(run_make w t e i z A Z y k k n n M (Int.le_refl _) (by(have: ((n.toNat* i.bytes:Nat):Int)<=140737488355328:=by omega);rw[Int.natCast_mul,Bz M]at this;rw[JH];omega) (by omega))]) ?_;refine h _ _ _ _ _ (L.addG (madeCells z.cells (n.toNat* i.size)) e _ (by rw[r,E]) fun j c I=> ?_) ((Zr rfl).2 ⟨?_,trivial⟩);obtain⟨u,O,W⟩:=J _ c (Hy g n.toNat j c I);have U:=YS (num:=num) (β:=β) (w:=w) (m:=m) (ν:=ν) W;refine⟨u,?_,U.2.1,U.1,fun p w' m' ν'=>(YS (num:=num) (β:=β) (w:=w') (m:=m') (ν:=ν') W).2.2 p⟩;have B:g.length=z.cells.size:=by have R:=hl;simp at R;exact R.symm
 have q:j % z.cells.size < z.cells.size:=WU _ (by omega);rw[B]at O;have f:z.cells[j % z.cells.size]? =some u:=by simpa using O
 rw[Um q]at f;injection f with f;unfold madeCells;rw[Array.getElem?_map,Array.getElem?_range,Qe (by rcases Zt j (List.replicate n.toNat g).flatten.length with h | h;omega;rw[ZF h]at I;cases I)];simp only[Zy,QV];rwa[Po z.cells _ q];simp only[Qh];exact⟨_,n.toNat,rfl,QX _,by unfold maxLen;omega,.inr ⟨⟨w.heap.size,(madeCells z.cells (n.toNat* i.size)).size,false⟩,⟨by rw[<- L.blen];simp,rfl⟩,rfl,by simp[r],G⟩⟩;cases H;cases d;cases d;cases l;cases l
def Qe6 (P:Program) (s t:TypeId):Bool:=match P.underlying s,P.underlying t with
 | some (.slice e),some .string=>(match P.underlying e with | some (.int .u8)=>true | _=>false)
 | _,_=>false
def Bp:=@Option.map_eq_some_iff
def DA: ∀{f l},KS f=some l->l.length=f.length/\∀(i:Nat) b,l[i]? =some b->f[i]? =some [.int .u8 (b.toNat:Int)]
 | [],l,h=>by
  simp only[KS,QV]at h;subst h;exact⟨rfl,fun i b d=>by simp at d⟩
 | x:: r,l,h=>by
  simp only[KS]at h;obtain⟨b,d,h⟩:=Option.bind_eq_some_iff.1 h;obtain⟨q,g,rfl⟩:=Bp.1 h;obtain⟨j,p⟩:=DA g;refine⟨by simp[j],fun i c e=> ?_⟩;cases i with | succ i=>simpa using p i c (by simpa using e) | zero=>simp only[N7,QV]at e;subst e;unfold Qh4 at d;split at d;rename_i n;split at d;rename_i s;simp only[QV]at d;subst d;(have: ((UInt8.ofNat n.toNat).toNat:Int)=n:=by(have k: (UInt8.ofNat n.toNat).toNat=n.toNat % 256:=by simp);rw[k];omega);rw[this];rfl;cases d;cases d
def GP:=@Nat.mul_one
def QpB [Dr] {x D t l} (C:Inv num N w0 m0 T β0 σ a w m β ν) (M:o.op= .convert t l D) (p:Qe6 P t l=true) (I:okO num x D=true)
  (k:Qk K (.bstr x) σ=some (v,σ1)) (h:Aft num N w0 m0 T β0 σ1 a v fun u w'=>next (a.put o.dst u) w'):o.wp P a w next Q:=by
 simp only[Qk]at k;split at k;rename_i X W B;obtain⟨s,z,k⟩:=Bp.1 k;cases k;obtain⟨V,H⟩:=DA z;have y:=(C.val I (by rw[B];rfl)).1;rw[B]at y;simp only[Qh]at y;obtain⟨A,U,c,L,r,G,R,i⟩:=y;unfold Qe6 at p;split at p;rename_i e f g;split at p;rename_i d;refine QE (u:= .string ⟨s.toArray⟩) (w':=w) ?_ (h.same C rfl (by simp only[Qh]) trivial);simp only[execOp,M,Sem.run_bind,Sem.run_pure];rw[L];rcases i with rfl | ⟨b,J,rfl,E⟩;simp only[KS,QV]at z;subst z;simp only[Xy]at r;subst r;rcases A with _ | A;have:=run_convert_bytes_string w t l e none 0 c f d g;simp only[this,Conv.bytesToString,Sem.run_pure,Result.andThen_ok];rfl;have:=run_convert_bytes_back w t l e A c [] f d g (fun j q=>by simp at q);simp only[Xy]at this;simp only[this,Result.andThen_ok];have:=run_convert_bytes_back w t l e ⟨b,J,none⟩ c s f d g (fun j q=>by rw[Vk]at E;obtain⟨_,n⟩:=E j _ (H j s[j] (Q0 q));simp only[XM,Qh,GP]at n;obtain⟨⟨u,S,_,O⟩,_⟩:=n;subst O;rw[Wf];exact(Ub S).2.1);rw[V,r]at this;simp only[this,Result.andThen_ok];cases p;cases p;cases k
def QbY (i): ∀b c,Wl i b=some c->c.length=b.length:=by
 intro b;induction b with | nil=>intro c h;simp[Wl]at h;subst h;rfl | cons v b f=>intro c h;simp only[Wl]at h;split at h;rename_i e g j d;split at h;cases h;simp[f g d];cases h;cases h
def Qi9 {num}: ∀b c,Wh num b c=true->b.length=c.length:=by
 intro b;induction b with | nil=>intro c d;cases c <;> simp[Wh]at d ⊢ | cons x g f=>intro c d;rcases c with _ | ⟨y,e⟩;simp[Wh]at d;simp only[Wh,Qr]at d;simp[f e d.2]
def Qt8 [Dr] {b S l x t C} (V:Inv num N w0 m0 T β0 σ a w m β ν) (Y:o.op= .makeSlice t C C) (d:mkT P t b S l=true) (X:okO num x C=true)
  (p:Qk K (.mkp b S l x) σ=some (v,σ1)) (h:Aft num N w0 m0 T β0 σ1 a v fun u w'=>next (a.put o.dst u) w'):o.wp P a w next Q:=by
 simp only[Qk]at p;split at p;rename_i k n M;split at p;rename_i hc;obtain⟨J,hb,h63,H,B⟩:=hc;cases p;have s:=(V.val X (by rw[M];rfl)).1;rw[M]at s;simp only[Qh]at s;unfold mkT at d;split at d;rename_i e D;split at d;rename_i i W;simp only[Qr,QM]at d;obtain⟨⟨rfl,rfl⟩,G⟩:=d;split at G;rename_i z y;obtain⟨Z,I⟩:=WE _ _ G;have r: (List.replicate n.toNat l).flatten.length=n.toNat* i.size:=by simp[B]
 refine QE (u:= .slice (some ⟨w.heap.size,0,none⟩) n.toNat n.toNat) (w':=w.alloc (.cells (madeCells z.cells (n.toNat* i.size)) e)) (by simp[execOp,Y,s,(run_make w t e i z D W y k k n n J (Int.le_refl _) (by(have: ((n.toNat* i.bytes:Nat):Int)<=140737488355328:=by omega);rw[Int.natCast_mul,Bz J]at this;rw[JH];omega) (by omega))]) ?_;refine h _ _ _ β _ (V.fresh (madeCells z.cells (n.toNat* i.size)) e 0 .f) ?_;simp only[Pb];refine⟨w.heap.size,n.toNat,rfl,⟨by unfold maxLen;omega,H,r.symm⟩,_,e,heap_alloc_new w _,⟨by rw[(size_madeCells z.cells (n.toNat* i.size)),r],QX _⟩,by simp[m1],by simp[Y0],fun j c E=> ?_⟩;obtain⟨u,R,L⟩:=I _ c (Hy l n.toNat j c E);have U:=YS (num:=num) (β:=β) (w:=w) (m:=m) (ν:=ν) L;refine⟨u,?_,U.2.1,ZU (Ge.refl β) (Y2.alloc (fun _=>False) w m (madeCells z.cells (n.toNat* i.size)) e 0).le c u U.1,(YS (num:=num) (β:=β) (w:=w.alloc (.cells (madeCells z.cells (n.toNat* i.size)) e)) (m:=m1 m w.heap.size 0) (ν:=Y0 ν w.heap.size .f) L).2.2 _⟩;have A:l.length=z.cells.size:=by have O:=Z;simp at O;exact O.symm
 have q:j % z.cells.size < z.cells.size:=WU _ (by omega);rw[A]at R;have g:z.cells[j % z.cells.size]? =some u:=by simpa using R
 rw[Um q]at g;injection g with g;unfold madeCells;rw[Array.getElem?_map,Array.getElem?_range,Qe (by rcases Zt j (List.replicate n.toNat l).flatten.length with h | h;omega;rw[ZF h]at E;cases E)];simp only[Zy,QV];rwa[Po z.cells _ q];cases G;cases d;cases d;cases p;cases p
def Inv.setSlot [Dr] (b:Inv num N w0 m0 T β0 σ a w m β ν) {n c u} (f:a.tmps[n]? =some u) (j:n < N) (g:Pb num β w m ν (.s n) (fun i=> .c n i) c u):
  Inv num N w0 m0 T β0 {σ with env:=upd σ.env n c} a w m β ν:=by
 refine⟨b.defers,b.size,fun t h=> ?_,fun t x d=> ?_,b.blen,b.boxes,b.lt,b.step,b.ge⟩;simp only[upd];rw[Qb (by omega)];exact b.out t h;simp only[upd];split;rename_i e;subst e;rw[f]at d;cases d;exact g;exact b.slots t x d
def QpE [Dr] {n:Nat} (C:Inv num N w0 m0 T β0 σ a w m β ν) (O:o.op= .extract (.tmp n) 0)
  (p:Qk K (.extm n) σ=some (v,σ1)) (h:Aft num N w0 m0 T β0 σ1 a v fun u w'=>next (a.put o.dst u) w'):o.wp P a w next Q:=by
 simp only[Qk]at p;split at p;rename_i l x q e;cases p;obtain⟨R,I⟩:=C.at_ (n:=n) (by rw[e];simp);have H:=C.slots n _ I;rw[e,Zr rfl]at H;obtain⟨d,k⟩:=H;have b:=UU (θ:=mv (.s n) .f) k;rw[show mv (.s n) .f (.s n)= .f by simp[mv]]at b;have D:=(C.takeSlot n).setSlot (n:=n) (c:= .tup (.sl false l x:: q)) I R ((Zr rfl).2 ⟨((Zg (.otup l x q) _).2 d),trivial⟩);have y: (upd (upd σ.env n .undef) n (.tup (.sl false l x:: q)))=upd σ.env n (.tup (.sl false l x:: q)):=by funext j;simp only[upd];split <;> rfl
 simp only[y]at D;simp only[Qh]at d;obtain⟨S,G,U,⟨J,E,M⟩,V⟩:=d;obtain⟨g,i,t,r,L⟩:=b;have A:g=S:=by rw[G]at t;injection t with t;exact t.symm
 subst A;have z:i=J:=by rw[E]at r;injection r with r;exact r.symm
 subst z;have B:a.eval (.tmp n)= .tuple g:=G;refine QE (u:=i) (w':=w) (by simp[execOp,O,B,Instr.extract,E]) (h _ _ _ _ _ D ((Zr rfl).2 ⟨?_,L⟩));simp only[Qh];exact M;cases p
def QnQ {c} (h:c.noOwn=true) (p w m ν u):Yr w m ν p c u:=by
 cases c with | sl o b d=>rcases o with _ | _;exact trivial;simp[AV.noOwn]at h | otup _ _ _=>simp[AV.noOwn]at h | _=>exact trivial
def QlB [Dr] {n H d J t} (A:Inv num N w0 m0 T β0 σ a w m β ν) (U:o.op= .build t J.toArray)
  (ht:Qbt P num t H d J=true)
  (l:Qk K (.mkstP n H d) σ=some (v,σ1)) (h:Aft num N w0 m0 T β0 σ1 a v fun u w'=>next (a.put o.dst u) w'):o.wp P a w next Q:=by
 simp only[Qk]at l;split at l;rename_i f g z;split at l;rename_i G;obtain⟨hN,O⟩:=A.at_ (n:=n) (by rw[z];simp);have M:=A.slots n _ O;rw[z]at M;obtain⟨b,k,hu,⟨E,y,r⟩,C,e,g1,R,g3,V,S⟩:=M;have q:g.length / f=k:=by rw[<- r,Nat.mul_div_cancel _ y]
 have L:=((A.takeSlot n).toBox (cs:=g) g1 (by unfold Xj mv;rw[V];simp) g3 (by omega) (fun i c I=>by obtain⟨u,Z,q2,W,_⟩:=S i c I;refine⟨u,Z,q2,W,fun p w' m' ν'=> ?_⟩;exact QnQ (X0.1 G c (X9 I)) p w' m' ν' u)).setSlot (n:=n) (c:= .gs σ.bs.length 0 f (g.length / f)) O hN ((Zr rfl).2 ⟨by simp only[Qh];refine⟨some ⟨b,0,none⟩,k,by rwa[q],by rw[q];exact QX _,E,.inr ⟨⟨b,C.size,false⟩,⟨?_,rfl⟩,rfl,?_,y⟩⟩;rw[<- A.blen,Yv];simp only[Z1];rw[r,R.1],trivial⟩);have B: (upd (upd σ.env n .undef) n (.gs σ.bs.length 0 f (g.length / f)))=upd σ.env n (.gs σ.bs.length 0 f (g.length / f)):=by funext j;simp only[upd];split <;> rfl
 simp only[B]at L;rcases D:UM H (d.map fun p=>(p.1,p.2.1,val (upd σ.env n (.gs σ.bs.length 0 f (g.length / f))) p.2.2))with _ | c;rw[D]at l;cases l;rw[D]at l;cases l;refine Qdr (K:=K) (v:= .agg c) (σ1:={env:=upd σ.env n (.gs σ.bs.length 0 f (g.length / f)),bs:=σ.bs ++ [g]}) L U ht (by simp only[Qk,D];rfl) fun u w' m' β' ν' X Y=> ?_;have s:=X.takeSlot n;have x: (upd (upd σ.env n (.gs σ.bs.length 0 f (g.length / f))) n .undef)=upd σ.env n .undef:=by funext j;simp only[upd];split <;> rfl
 simp only[x]at s;exact h u w' m' β' _ s ((Zr rfl).2 ⟨Y.1,trivial⟩);cases l;cases l
def Mc:=@List.map_map
def Vg:=@Function.comp_def
def QpO [Dr] {f d ps t} (H:Inv num N w0 m0 T β0 σ a w m β ν) (ho:o.op= .buildSlice t ps.length (ps.zipIdx.map fun p=>(p.2,p.1)).toArray)
  (q:NE P t f ps.length=true) (J:Wh num d ps=true)
  (y:Qk K (.mksg f d) σ=some (v,σ1)) (h:Aft num N w0 m0 T β0 σ1 a v fun u w'=>next (a.put o.dst u) w'):o.wp P a w next Q:=by
 simp only[Qk]at y;rcases A:Wl f (d.map (val σ.env))with _ | E;rw[A]at y;cases y;rw[A]at y;cases y;have hL:=Qi9 d ps J;have L:E.length=ps.length:=by rw[QbY _ _ _ A];simpa using hL
 unfold NE at q;split at q;rename_i e hu;simp only[Qr,QM]at q;obtain⟨⟨⟨g,l⟩,I⟩,s⟩:=q;split at l;rename_i i M;obtain⟨z,Y⟩:=Gg.1 l;have hsz:i.size=f:=by unfold YJ at g;rw[M]at g;simpa using g
 obtain⟨C,k⟩: ∃C:Vw,C=(if ps.length*f=0 then #[]else z.cells):=⟨_,rfl⟩;obtain⟨b,B,O,_,V⟩:=Kj H f ps.length d ps 0 ((Array.range (ps.length*f)).map (C[· % C.size]!)) E J A (by simp) (by omega);have R:XN num β w m E (fun i=>b[i]?) 0 f:=by rw[Vk];intro S x hx;obtain⟨D,G⟩:=V S x hx;refine⟨D,?_⟩;rw[Y1];intro j c hc;obtain⟨u,U,X,W⟩:=G j c hc;refine⟨u,?_,X,W⟩;rwa[Z1]at U ⊢
 refine QE (u:= .slice (some ⟨w.heap.size,0,none⟩) ps.length ps.length) (w':=w.alloc (.cells b e)) ?_ ?_;have n: (Array.map (fun x:Nat×Operand=>(x.fst,a.eval x.snd)) (ps.zipIdx.map fun p=>(p.2,p.1)).toArray).toList=(ps.zipIdx 0).map fun p=>(p.2,a.eval p.1):=by simp[Mc,Vg]
 simp only[execOp,ho,Instr.buildSlice,Sem.run_bind,run_underlying hu,Result.andThen_ok,Yp g];rw[Qb (by omega)];by_cases r:ps.length*f=0;rw[Qe r]at k;simp only[r,QT,Sem.run_bind,Sem.run_pure,Result.andThen_ok,n];rw[k,r]at B;rw[B];simp[newRow];rw[Qb r]at k;simp only[r,ZT,Sem.run_pure,Sem.run_bind,Result.andThen_ok,zeroValue,typeInfo,run_program,M,Y,n];rw[k]at B;rw[B];simp[newRow];refine h _ _ _ _ _ (H.addG b e _ (by rw[O,UX R,L]) fun j c Z=> ?_) ((Zr rfl).2 ⟨?_,trivial⟩);obtain⟨u,D,G,g3,g4⟩:=OW R j c Z;exact⟨u,by simpa using D,G,g3,g4⟩;simp only[Qh];have:ps.length<=2 ^ 24:=Y8 (Jq _ s) I;exact⟨_,ps.length,by rw[L],by omega,by unfold maxLen;omega,.inr ⟨⟨w.heap.size,b.size,false⟩,⟨by rw[<- H.blen];simp,rfl⟩,rfl,by simp[O],s⟩⟩;cases l;cases q
def QpK [Dr] {s q p W r fz:Nat} {t} (hI:Inv num N w0 m0 T β0 σ a w m β ν) (ho:o.op= .load t (.tmp q)) (hs:YJ P t W=true) (ha:Up P t true=true)
  (hp:Sx a q s p\/(q=s/\p=0)) (g:Qk K (.ldfz s p W r fz) σ=some (v,σ1)) (h:Aft num N w0 m0 T β0 σ1 a v fun u w'=>next (a.put o.dst u) w'):o.wp P a w next Q:=by
 simp only[Qk]at g;split at g;rename_i Z V;split at g;rename_i id Y l k C;obtain⟨b,y,e,_,hq,X,hz,R⟩:=hI.box_at V hp;obtain⟨uf,f1,f2,f3,_⟩:=R r _ C;have hf3:=f3;simp only[Qh]at f3;obtain⟨A,J,hu,q1,q2,D⟩:=f3;have hfol:r < Z.length:=by rcases Zt r Z.length with h | h;exact h;rw[ZF h]at C;cases C
 split at g;rename_i E;obtain⟨rfl,hsz,B⟩:=E;rcases z:σ.bs[id]? with _ | c2;rw[z]at g;cases g;rw[z]at g;simp only[QO]at g;split at g;rename_i hl;rcases G:XF (Z.set r (.sl false l (ZW c2 Y l k))) p W true with _ | v2;rw[G]at g;cases g;rw[G]at g;cases g;rcases D with D | ⟨S,D,rfl,q4,_⟩;exact absurd D.1 B;have hkm:=TK (Ph B) hsz;have M:c2≠[]:=fun e=>by rw[e]at hl;simp only[Xy]at hl;omega
 obtain⟨U,e2,p1,p2,p3,p4,p5⟩:=(hI.boxes id c2 S z D.1 M).1 D.2;obtain⟨hK,I⟩:=(hI.takeCell s r V).kill (id:=id) (q:=Y+k*l) z D M;obtain⟨u,O,g2,g3,g4⟩:=Ud (w:=w) (num:=num) (β:=β) (m:=m1 m S.b (Y+k*l)) (ν:=Y0 (Xj ν (mv (.c s r) .f)) S.b .f) (o:=0) (b:=b) hs ha G (fun j c n=>by rw[Qy]at n;split at n;rename_i H;subst H;simp only[QV]at n;subst n;refine⟨uf,by rwa[Z1,cell_of_row w b r y e (0,0) X],f2,?_⟩;simp only[Qh];refine⟨_,k,J,hu,Vu _ _ _ _,q1,q2,.inr ⟨S.b,Y,rfl,?_⟩⟩;rw[Vk];intro i x hx;obtain⟨hi,rfl⟩:=Pu hx;(have hi2:i*l+l<=k*l:=by rw[<- U6];exact Yy _ hi);refine⟨by simp;omega,?_⟩;rw[Y1];intro j c R;obtain⟨d,L,rfl⟩:=ZE R;rw[Tn]at L;split at L;rename_i n;rw[Vf]at L;obtain⟨u,r1,r2,r3,_⟩:=p5 _ d L;refine⟨u,?_,r2,by rw[Zg];exact ZU (Ge.refl β) I d u r3⟩;unfold hg m1;rwa[Qe rfl,Qe (by omega),cell_of_row w S.b _ U e2 (0,0) p1];cases L;obtain⟨u,c1,c3,c4,_⟩:=R j c n;exact⟨u,by rwa[Z1,cell_of_row w b j y e (0,0) X],c3,ZU (Ge.refl β) I c u c4⟩);rw[Z1]at O;refine QE (u:=u) (w':=w) ?_ (h u w _ β _ hK ((Zr g2).2 ⟨g3,g4 _⟩));simp only[execOp,ho,Instr.loadAt,hq,Instr.sureAddr,Sem.run_bind,Sem.run_pure,Result.andThen_ok,O];cases g;split at g;rename_i B;subst B;rcases G:XF (Z.set r (.sl false fz [])) p W true with _ | v2;rw[G]at g;cases g;rw[G]at g;cases g;obtain⟨u,O,g2,g3,g4⟩:=Ud (w:=w) (num:=num) (β:=β) (m:=m) (ν:=ν) (o:=0) (b:=b) hs ha G (fun j c n=>by rw[Qy]at n;split at n;rename_i H;subst H;simp only[QV]at n;subst n;refine⟨uf,by rwa[Z1,cell_of_row w b r y e (0,0) X],f2,?_⟩;simp only[Qh];exact⟨_,0,J,hu,rfl,q1,q2,.inl trivial⟩;obtain⟨u,c1,c3,c4,_⟩:=R j c n;exact⟨u,by rwa[Z1,cell_of_row w b j y e (0,0) X],c3,c4⟩);rw[Z1]at O;refine QE (u:=u) (w':=w) ?_ (h u w m β ν hI ((Zr g2).2 ⟨g3,g4 _⟩));simp only[execOp,ho,Instr.loadAt,hq,Instr.sureAddr,Sem.run_bind,Sem.run_pure,Result.andThen_ok,O];cases g;cases g;cases g
end
end Go.Am
