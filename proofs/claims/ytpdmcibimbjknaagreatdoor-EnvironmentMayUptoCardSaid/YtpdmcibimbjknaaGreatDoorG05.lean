/-
  AmM.
-/
import Derived.Test.YtpdmcibimbjknaaGreatDoorG04
import Derived.Laws.MakeOwn
set_option linter.unusedVariables false
set_option linter.unusedSimpArgs false
namespace Go.Am
def Ha (P:Program) (s:Bool) (kt:TypeId):Bool:=match P.underlying kt with
 | some (.int _)=> !s
 | some .string=>s
 | _=>false
def Dm (P:Program) (t:TypeId) (z:AV):Bool:=match P.info? t with
 | some i=>(match i.zero with
  | some z2=>WV z z2
  | none=>false)
 | none=>false
def EJ (P:Program) (s:Bool) (t:TypeId):Bool:=match P.underlying t with
 | some (.map kt _)=>Ha P s kt
 | _=>false
def lkT (P:Program) (s:Bool) (t:TypeId) (z:AV):Bool:=match P.underlying t with
 | some (.map kt et)=>Ha P s kt && Dm P et z
 | _=>false
section
variable {P:Program} {num:Nat→Option Nat} {β β':List Blk} {w w':World} {m m':Nat→Nat} {ν ν':Own} {N:Nat} {w0:World} {m0:Nat→Nat} {T:Nat→Prop} {β0:List Blk} {σ σ1:St} {a:Act}
 {o:Oper} {next:Act→World→Prop} {Q:Exit→Act→World→Prop} {K:ZJ} {v:AV}
def QgA (num:Nat→Option Nat) (β:List Blk) (w:World) (m:Nat→Nat) (c:AV) (e:MapEntry):Prop:=∃k v,c= .agg [k,v]∧Qd num β w m k e.key∧Qd num β w m v e.val
def FT (s:Bool) (d:TypeDesc):Prop:=(s=false∧∃k,d= .int k)∨(s=true∧d= .string)
theorem Ln {s:Bool} {kt:TypeId} (h:Ha P s kt=true): ∃d,P.underlying kt=some d∧FT s d:=by
 unfold Ha at h;split at h
 ·rename_i k hk;exact⟨_,hk,.inl ⟨by simpa using h,k,rfl⟩⟩
 ·rename_i hk;exact⟨_,hk,.inr ⟨h,rfl⟩⟩
 ·cases h
theorem LA (a b:List UInt8): ((⟨a.toArray⟩:ByteArray) == ⟨b.toArray⟩)=(a == b):=by
 show(a.toArray == b.toArray)=_;simp
theorem TW [Dr] {s:Bool} {d:TypeDesc} (hd:FT s d) {q k:AV} {b:Bool} {u x:Value} (h:O3 s q k=some b) (hq:Qd num β w m q u) (hk:Qd num β w m k x):Instr.sameNow d u x=some b∧(b=true→x=u):=by
 unfold O3 at h;split at h
 ·split at h
  ·rename_i e;subst e;injection h with h
   simp only[Qd]at hq hk;subst hq hk;rcases hd with⟨_,k0,rfl⟩ | ⟨h0,_⟩
   ·refine⟨by simp only[Instr.sameNow,if_true,h],fun hb=> ?_⟩;subst h;simp only[beq_iff_eq]at hb;rw[hb]
   ·cases h0
  ·cases h
 ·injection h with h
  simp only[Qd]at hq hk;subst hq hk;rcases hd with⟨h0,_⟩ | ⟨_,rfl⟩
  ·cases h0
  ·refine⟨by simp only[Instr.sameNow,LA,h],fun hb=> ?_⟩;subst h;simp only[beq_iff_eq]at hb;rw[hb]
 ·cases h
theorem Lm {s:Bool} {q:AV} (h:Sd s q=true): (s=false∧∃k n,q= .int k n)∨(s=true∧∃x,q= .str x):=by
 unfold Sd at h;split at h
 ·exact .inl ⟨rfl,_,_,rfl⟩
 ·exact .inr ⟨rfl,_,rfl⟩
 ·cases h
theorem V0 {s:Bool} {q k:AV} {b:Bool} (h:O3 s q k=some b):Sd s q=true:=by
 unfold O3 at h;split at h
 ·rfl
 ·rfl
 ·cases h
theorem Kq [Dr] {s:Bool} {q:AV} {u:Value} (h:Sd s q=true) (hq:Qd num β w m q u) (n:Nat):Instr.sameBits n u u=true:=by
 rcases Lm h with⟨_,k,x,rfl⟩ | ⟨_,x,rfl⟩
 ·simp only[Qd]at hq;subst hq;simp[Instr.sameBits]
 ·simp only[Qd]at hq;subst hq;simp[Instr.sameBits,LA]
theorem IX [Dr] {s:Bool} {d:TypeDesc} (hd:FT s d) {q:AV} {u:Value} (hq:Qd num β w m q u): ∀(xs:List AV) (es:List MapEntry) (i0:Nat) (r:Option AV),xs.length=es.length→
  (∀(i:Nat) (c:AV),xs[i]? =some c→∃e,es[i]? =some e∧QgA num β w m c e)→Us s xs q=some r→
  (r=none∧Instr.findNow d u es i0=some none)∨∃v j x,r=some v∧Instr.findNow d u es i0=some (some (j,x))∧Qd num β w m v x
 | [],es,i0,r,hl,_,h=>by
  cases es with
  | nil=>
   simp only[Us]at h;split at h
   ·injection h with h
    exact .inl ⟨h.symm,rfl⟩
   ·cases h
  | cons e es=>simp at hl
 | c:: xs,[],i0,r,hl,_,h=>by simp at hl
 | c:: xs,e:: es,i0,r,hl,hr,h=>by
  obtain⟨e1,he1,k,v,rfl,hk,hv⟩:=hr 0 c rfl;simp only[List.getElem?_cons_zero,Option.some.injEq]at he1;subst he1;simp only[Us]at h;split at h
  ·rename_i hke;obtain⟨g1,g2⟩:=TW hd hke hq hk;injection h with h
   refine .inr ⟨v,i0,e.val,h.symm,?_,hv⟩;simp only[Instr.findNow,g1]
  ·rename_i hke;obtain⟨g1,g2⟩:=TW hd hke hq hk;have ih:=IX hd hq xs es (i0+1) r (by simpa using hl) (fun i c hc=>by
    have:=hr (i+1) c (by simpa using hc);simpa using this) h
   simp only[Instr.findNow,g1];exact ih
  ·cases h
theorem FC [Dr] {s:Bool} {d:TypeDesc} (hd:FT s d) {q v:AV} {u:Value} (hq:Qd num β w m q u): ∀(xs:List AV) (es:List MapEntry) (i0:Nat) (ys:List AV),xs.length=es.length→
  (∀(i:Nat) (c:AV),xs[i]? =some c→∃e,es[i]? =some e∧QgA num β w m c e)→TM s xs q v=some ys→
  Sd s q=true∧((Instr.findNow d u es i0=some none∧ys=xs ++ [.agg [q,v]])∨∃j x e,Instr.findNow d u es i0=some (some (i0+j,x))∧es[j]? =some e∧e.key=u∧ys=xs.set j (.agg [q,v]))
 | [],es,i0,ys,hl,_,h=>by
  cases es with
  | nil=>
   simp only[TM]at h;split at h
   ·rename_i hb;injection h with h
    exact⟨hb,.inl ⟨rfl,h.symm⟩⟩
   ·cases h
  | cons e es=>simp at hl
 | c:: xs,[],i0,ys,hl,_,h=>by simp at hl
 | c:: xs,e:: es,i0,ys,hl,hr,h=>by
  obtain⟨e1,he1,k,v2,rfl,hk,hv⟩:=hr 0 c rfl;simp only[List.getElem?_cons_zero,Option.some.injEq]at he1;subst he1;simp only[TM]at h;split at h
  ·rename_i hke;obtain⟨g1,g2⟩:=TW hd hke hq hk;injection h with h
   refine⟨V0 hke,.inr ⟨0,e.val,e,?_,rfl,g2 rfl,h.symm⟩⟩;simp only[Instr.findNow,g1,Nat.add_zero]
  ·rename_i hke;obtain⟨g1,g2⟩:=TW hd hke hq hk;cases hu:TM s xs q v with
   | none=>rw[hu]at h;cases h
   | some zs=>
    rw[hu]at h;injection h with h
    obtain⟨hb,ih⟩:=FC hd hq xs es (i0+1) zs (by simpa using hl) (fun i c hc=>by
     have:=hr (i+1) c (by simpa using hc);simpa using this) hu
    refine⟨hb,?_⟩;simp only[Instr.findNow,g1];rcases ih with⟨h1,h2⟩ | ⟨j,x,e2,h1,h2,h3,h4⟩
    ·exact .inl ⟨h1,by rw[← h,h2];rfl⟩
    ·exact .inr ⟨j+1,x,e2,by rw[h1];congr 3;omega,by simpa using h2,h3,by rw[← h,h4];rfl⟩
  ·cases h
theorem OB [Dr] {s:Bool} {kt:TypeId} (h:Ha P s kt=true) (b:Bool) (n:Nat) (u:Value): (Instr.checkKey b (n+1) kt u).run P w= .ok () w:=by
 obtain⟨d,hd,hk⟩:=Ln h;rcases hk with⟨_,k,rfl⟩ | ⟨_,rfl⟩ <;> simp[Instr.checkKey,run_underlying hd]
theorem Uy {s:Bool} {kt:TypeId} {d:TypeDesc} (hd:P.underlying kt=some d) {u:Value} {es:List MapEntry} {r:Option (Nat×Value)} (h:Instr.findNow d u es 0=some r): (Instr.findKey kt u es).run P w= .ok r w:=by
 simp[Instr.findKey,run_underlying hd,h]
theorem UT {r:Nat} {es:Array MapEntry} {clock:Nat} (hb:w.heap[r]? =some (.map es clock)): (getObj r).run P w= .ok (.map es clock) w:=by
 simp[getObj,Sem.run,hb]
theorem MK {r:Nat} {es:Array MapEntry} {clock:Nat} (ob:Obj) (hb:w.heap[r]? =some (.map es clock)): (setObj r ob).run P w= .ok () {w with heap:=w.heap.setIfInBounds r ob}:=by
 simp[setObj,Sem.run,hb]
theorem AN {t:TypeId} {z:AV} (h:Dm P t z=true): ∃z2:Value,(zeroValue t).run P w= .ok z2 w∧WV z z2=true:=by
 unfold Dm at h;split at h
 ·rename_i i hi;split at h
  ·rename_i z2 hz;exact⟨z2,by simp[zeroValue,typeInfo,hi,hz],h⟩
  ·cases h
 ·cases h
theorem EZ [Dr] {s ok:Bool} {t:TypeId} {z:AV} (hL:lkT P s t z=true) {b clock:Nat} {es:Array MapEntry} {xs:List AV} {q:AV} {u:Value} {r:Option AV} (hb:w.heap[b]? =some (.map es clock)) (hl:xs.length=es.size)
  (hr: ∀(i:Nat) (c:AV),xs[i]? =some c→∃(e:MapEntry) (k v:AV),es[i]? =some e∧c= .agg [k,v]∧Qd num β w m k e.key∧Qd num β w m v e.val) (hq:Qd num β w m q u) (hf:Us s xs q=some r):
  ∃x,(Instr.lookup t (.map (some b)) u ok).run P w= .ok (if ok then .tuple #[x,.bool r.isSome]else x) w∧Qd num β w m (r.getD z) x:=by
 unfold lkT at hL;split at hL
 ·rename_i kt et hm;simp only[Bool.and_eq_true]at hL;obtain⟨d,hd,hK⟩:=Ln hL.1;obtain⟨z2,hz,hcz⟩:=AN (w:=w) hL.2;have hce:=fun b=>OB (w:=w) hL.1 b 9999 u;rcases IX hK hq xs es.toList 0 r (by simpa using hl) (fun i c hc=>by
   obtain⟨e,k,v,h1,h2,h3,h4⟩:=hr i c hc;exact⟨e,by simpa using h1,k,v,h2,h3,h4⟩) hf with⟨rfl,hn⟩ | ⟨v,j,x,rfl,hn,hv⟩
  ·have hfk:=Uy (s:=s) (P:=P) (w:=w) hd hn;refine⟨z2,?_,(Zz (ν:=fun _=>none) hcz).1⟩;cases ok <;> simp[Instr.lookup,run_underlying hm,UT hb,hce,hfk,hz]
  ·have hfk:=Uy (s:=s) (P:=P) (w:=w) hd hn;refine⟨x,?_,hv⟩;cases ok <;> simp[Instr.lookup,run_underlying hm,UT hb,hce,hfk]
 ·cases hL
theorem Km [Dr] {s:Bool} {t:TypeId} (hL:EJ P s t=true) {b clock:Nat} {es:Array MapEntry} {xs ys:List AV} {q v:AV} {u x:Value} (hb:w.heap[b]? =some (.map es clock)) (hl:xs.length=es.size)
  (hr: ∀(i:Nat) (c:AV),xs[i]? =some c→∃(e:MapEntry) (k v:AV),es[i]? =some e∧c= .agg [k,v]∧Qd num β w m k e.key∧Qd num β w m v e.val) (hq:Qd num β w m q u) (hx:Qd num β w m v x) (hf:TM s xs q v=some ys):
  Sd s q=true∧∃es2 clock2,(Instr.mapUpdate t (.map (some b)) u x).run P w= .ok () {w with heap:=w.heap.setIfInBounds b (.map es2 clock2)}∧ys.length=es2.size∧
   (∀(i:Nat) (c:AV),ys[i]? =some c→(∃(e:MapEntry) (k v:AV),es2[i]? =some e∧c= .agg [k,v]∧Qd num β w m k e.key∧Qd num β w m v e.val)∧(c∈xs∨c= .agg [q,v])):=by
 unfold EJ at hL;split at hL
 ·rename_i kt et hm;obtain⟨d,hd,hK⟩:=Ln hL;have hce:=fun b=>OB (w:=w) hL b 9999 u;obtain⟨hkb,h⟩:=FC hK (v:=v) hq xs es.toList 0 ys (by simpa using hl) (fun i c hc=>by
   obtain⟨e,k,v,h1,h2,h3,h4⟩:=hr i c hc;exact⟨e,by simpa using h1,k,v,h2,h3,h4⟩) hf
  refine⟨hkb,?_⟩;rcases h with⟨hn,rfl⟩ | ⟨j,y,e,hn,he,hek,rfl⟩
  ·have hfk:=Uy (s:=s) (P:=P) (w:=w) hd hn;refine⟨es.push {key:=u,val:=x,born:=clock},clock+1,?_,by simp[hl],fun i c hc=> ?_⟩
   ·simp[Instr.mapUpdate,run_underlying hm,UT hb,hce,hfk,MK _ hb]
   ·rw[List.getElem?_append]at hc;split at hc
    ·rename_i hi;obtain⟨e,k,v,h1,h2,h3,h4⟩:=hr i c hc;refine⟨⟨e,k,v,?_,h2,h3,h4⟩,.inl (List.mem_of_getElem? hc)⟩;rw[Array.getElem?_push,if_neg (by omega)];exact h1
    ·rename_i hi;have h0:i - xs.length=0:=by
      rcases Nat.eq_zero_or_pos (i - xs.length)with h | h
      ·exact h
      ·rw[List.getElem?_eq_none (by simp;omega)]at hc;cases hc
     rw[h0]at hc;simp only[List.getElem?_cons_zero,Option.some.injEq]at hc;refine⟨⟨{key:=u,val:=x,born:=clock},q,v,?_,hc.symm,hq,hx⟩,.inr hc.symm⟩;rw[Array.getElem?_push,if_pos (by omega)]
  ·rw[Nat.zero_add]at hn;have hfk:=Uy (s:=s) (P:=P) (w:=w) hd hn;have he2:es[j]? =some e:=by simpa using he
   have hjl:j < es.size:=(Array.getElem?_eq_some_iff.1 he2).1;have hsb:=Kq hkb hq 10000;refine⟨es.modify j fun e=>{e with key:=u,val:=x},clock,?_,by simp[hl],fun i c hc=> ?_⟩
   ·simp[Instr.mapUpdate,run_underlying hm,UT hb,hce,hfk,he2,hek,Instr.keyThatStays,hsb,MK _ hb]
   ·rw[List.getElem?_set]at hc;split at hc
    ·rename_i hji;subst hji;split at hc
     ·injection hc with hc
      refine⟨⟨{e with key:=u,val:=x},q,v,?_,hc.symm,hq,hx⟩,.inr hc.symm⟩;simp[Array.getElem?_modify,he2]
     ·cases hc
    ·rename_i hji;obtain⟨e3,k,v3,h1,h2,h3,h4⟩:=hr i c hc;refine⟨⟨e3,k,v3,?_,h2,h3,h4⟩,.inl (List.mem_of_getElem? hc)⟩;rw[Array.getElem?_modify,if_neg hji];exact h1
 ·cases hL
theorem Zs.setMap [Dr] {b:Nat} {es:Array MapEntry} {clock:Nat} (ob:Obj) (hb:w.heap[b]? =some (.map es clock)) (hm:m b=0):Zs (· =b) w m {w with heap:=w.heap.setIfInBounds b ob} m:=by
 refine⟨rfl,rfl,rfl,by simp,fun x _ hx=>⟨by simp[Array.getElem?_setIfInBounds_ne (fun e=>hx e.symm)],rfl⟩,fun x i u h=> ?_,fun _=>Nat.le_refl _⟩;obtain⟨h1,h2,h3⟩:=XG h;have hx: ¬b=x:=fun e=>by subst e;omega
 unfold hg;rw[if_pos h1];unfold World.cell? at h2 ⊢;simp only[Array.getElem?_setIfInBounds_ne hx]at h2 ⊢;exact h2
theorem Inv.setM [Dr] (hI:Inv num N w0 m0 T β0 σ a w m β ν) (s:Nat) {cs:List AV} {k:Blk} (hs:σ.bs[s]? =some cs) (hbm:β[s]? =some k∧k.mp=true) (hne:cs≠[]):
  ∃(es:Array MapEntry) (clock:Nat) (xs:List AV),w.heap[k.b]? =some (.map es clock)∧cs= .undef:: xs∧xs.length=es.size∧
   (∀(i:Nat) (c:AV),xs[i]? =some c→∃(e:MapEntry) (k v:AV),es[i]? =some e∧c= .agg [k,v]∧Qd num β w m k e.key∧Qd num β w m v e.val)∧
   ∀(ys:List AV) (es2:Array MapEntry) (clock2:Nat),ys.length=es2.size→
    (∀(i:Nat) (c:AV),ys[i]? =some c→∃(e:MapEntry) (k v:AV),es2[i]? =some e∧c= .agg [k,v]∧Qd num β w m k e.key∧Qd num β w m v e.val)→
    Inv num N w0 m0 T β0 {σ with bs:=σ.bs.set s (.undef:: ys)} a {w with heap:=w.heap.setIfInBounds k.b (.map es2 clock2)} m β ν:=by
 obtain⟨es,clock,xs,h1,h2,h3,h4,h5,h6⟩:=(hI.boxes s cs k hs hbm.1 hne).2 hbm.2;refine⟨es,clock,xs,h1,h4,h5,h6,fun ys es2 clock2 hl hys=> ?_⟩;have hlt:s < σ.bs.length:=by
  rcases Nat.lt_or_ge s σ.bs.length with h | h
  ·exact h
  ·rw[List.getElem?_eq_none h]at hs;cases hs
 have hbl:k.b < w.heap.size:=(Array.getElem?_eq_some_iff.1 h1).1;have hS:=Zs.setMap (.map es2 clock2) h1 h2;refine hI.next hS (fun x hx hxb=>by subst hxb;exact(hI.lt _ _ h3).2) (Ge.refl β) (fun _=>False) (fun t=>t=s)
  (fun x t h _=>⟨fun e=> ?_,h⟩) (fun x t i h _=>⟨fun e=> ?_,h⟩) (fun x t h hn=>⟨fun e=> ?_,h⟩) (fun x t i h hn=>⟨fun e=> ?_,h⟩)
  (fun x p h=>by simpa using hI.lt x p h) (fun t hn=> .inl rfl) hI.out
  (fun t v hE hv=>hE.elim) (by simpa using hI.blen) (fun i hn=>by simp[List.getElem?_set_ne (fun e=>hn e.symm)]) (fun i cs2 b2 hE h7 h8=> ?_)
 ·subst e;rw[h3]at h;injection h with h;cases h
 ·subst e;rw[h3]at h;injection h with h;cases h
 ·subst e;rw[h3]at h;injection h with h;injection h with h;exact hn h.symm
 ·subst e;rw[h3]at h;injection h with h;cases h
 ·subst hE;rw[hbm.1]at h8;injection h8 with h8
  subst h8;simp only[List.getElem?_set_self hlt]at h7;injection h7 with h7
  subst h7;refine fun _=>⟨fun(q:k.mp=false)=>(by rw[hbm.2]at q;cases q),fun _=>⟨es2,clock2,ys,by simp[hbl],h2,h3,rfl,hl,fun j c hc=> ?_⟩⟩;obtain⟨e,x,v,g1,g2,g3,g4⟩:=hys j c hc;exact⟨e,x,v,g1,g2,QV (Ge.refl β) hS.le x _ g3,QV (Ge.refl β) hS.le v _ g4⟩
theorem Qhk [Dr] {t:TypeId} (hI:Inv num N w0 m0 T β0 σ a w m β ν) (ho:o.op= .makeMap t none)
  (he:Qg K .mkm σ=some (v,σ1)) (h:Aft num N w0 m0 T β0 σ1 a v fun u w'=>next (a.put o.dst u) w'):o.wp P a w next Q:=by
 simp only[Qg]at he;injection he with he
 injection he with h1 h2
 subst h1 h2;have hF:=hI.freshO (.map #[] 0) 0 .f;have hB:=hF.toBoxK (k:=⟨w.heap.size,0,true⟩) (cs:=[.undef]) (by simp[Zy])
  ⟨fun(q:true=false)=>(by cases q),fun _=>⟨#[],0,[],heap_alloc_new w _,by simp[m1],by simp[Zy],rfl,rfl,fun i c hc=>by simp at hc⟩⟩
 refine Qp (u:= .map (some w.heap.size)) (w':=w.alloc (.map #[] 0)) (by simp[execOp,ho,show(Instr.makeMap t none).run P w= .ok (.map (some w.heap.size)) (w.alloc (.map #[] 0))from rfl]) (h _ _ _ _ _ hB ((QX rfl).2 ⟨?_,trivial⟩));simp only[Qd];exact⟨⟨w.heap.size,0,true⟩,⟨by rw[← hI.blen];simp,rfl⟩,rfl⟩
theorem Qhi [Dr] {s ok:Bool} {x i:AO} {z:AV} {t:TypeId} {x2 i2:Operand} (hI:Inv num N w0 m0 T β0 σ a w m β ν) (ho:o.op= .lookup t x2 i2 ok) (hL:lkT P s t z=true) (hx:okO num x x2=true) (hi:okO num i i2=true)
  (he:Qg K (.lkm s ok x i z) σ=some (v,σ1)) (h:Aft num N w0 m0 T β0 σ1 a v fun u w'=>next (a.put o.dst u) w'):o.wp P a w next Q:=by
 simp only[Qg]at he;split at he
 ·rename_i id hid;cases hbs:σ.bs[id]? with
  | none=>rw[hbs]at he;cases he
  | some cs=>
   rw[hbs]at he;simp only[Option.bind_some]at he;split at he
   ·cases he
   ·rename_i hne;cases hf:Us s (cs.drop 1) (val σ.env i)with
    | none=>rw[hf]at he;cases he
    | some r=>
     rw[hf]at he;simp only[Option.bind_some]at he;split at he
     case isFalse=>cases he
     rename_i hyk;injection he with he
     injection he with h1 h2
     subst h1 h2;have hk: (val σ.env i).ok=true:=by
      have:Sd s (val σ.env i)=true:=by
       generalize val σ.env i=q at hf;generalize cs.drop 1=xs at hf;cases xs with
       | nil=>
        simp only[Us]at hf;split at hf
        ·assumption
        ·cases hf
       | cons c xs=>
        unfold Us at hf;split at hf
        ·rename_i hh;cases hh
        ·split at hf
         ·rename_i hke;exact V0 hke
         ·rename_i hke;exact V0 hke
         ·cases hf
        ·cases hf
      rcases Lm this with⟨_,k,n,e⟩ | ⟨_,y,e⟩ <;> rw[e] <;> rfl
     have hix:=(hI.val hi hk).1;have hmx:=(hI.val hx (by rw[hid];rfl)).1;rw[hid]at hmx;simp only[Qd]at hmx;obtain⟨kb,hkb,hmv⟩:=hmx;obtain⟨es,clock,xs,g1,g2,g3,g4,_⟩:=hI.setM id hbs hkb hne;rw[g2]at hf;simp only[List.drop_succ_cons,List.drop_zero]at hf;obtain⟨y,k1,k2⟩:=EZ (ok:=ok) hL g1 g3 g4 hix hf;refine Qp (u:=if ok then .tuple #[y,.bool r.isSome]else y) (w':=w) (by simp[execOp,ho,hmv,k1]) ?_;cases ok
     ·simp only[Bool.false_eq_true,if_false];exact h _ w m β ν hI ((QX hyk).2 ⟨by rw[QM];exact k2,ZS _ _ _⟩)
     ·simp only[if_true];refine h _ w m β ν hI ((QX rfl).2 ⟨?_,trivial⟩);simp only;refine⟨_,rfl,rfl,?_⟩;simp only[RepT];exact⟨⟨y,rfl,by rw[QM];exact k2⟩,⟨.bool r.isSome,by simp,by simp only[Qd]⟩,trivial⟩
 ·cases he
theorem Qhq [Dr] {s:Bool} {x k y:AO} {t:TypeId} {x2 k2 y2:Operand} (hI:Inv num N w0 m0 T β0 σ a w m β ν) (ho:o.op= .mapUpdate t x2 k2 y2) (hL:EJ P s t=true) (hx:okO num x x2=true) (hk:okO num k k2=true) (hy:okO num y y2=true)
  (he:Qg K (.upm s x k y) σ=some (v,σ1)) (h: ∀w' m' β' ν',Inv num N w0 m0 T β0 σ1 a w' m' β' ν'→v= .undef→next (a.put o.dst undef) w'):o.wp P a w next Q:=by
 simp only[Qg]at he;split at he
 ·rename_i id hid;cases hbs:σ.bs[id]? with
  | none=>rw[hbs]at he;cases he
  | some cs=>
   rw[hbs]at he;simp only[Option.bind_some]at he;split at he
   ·cases he
   ·rename_i hne;simp only[not_or,Bool.not_eq_false]at hne;obtain⟨hne,hone⟩:=hne;cases hf:TM s (cs.drop 1) (val σ.env k) (val σ.env y).strip with
    | none=>rw[hf]at he;cases he
    | some ys=>
     rw[hf]at he;injection he with he
     injection he with h1 h2
     subst h1 h2;have hkk:Sd s (val σ.env k)=true:=by
      generalize val σ.env k=q at hf;generalize (val σ.env y).strip=vv at hf;generalize cs.drop 1=xs at hf;cases xs with
      | nil=>
       simp only[TM]at hf;split at hf
       ·assumption
       ·cases hf
      | cons c xs=>
       unfold TM at hf;split at hf
       ·rename_i hh;cases hh
       ·split at hf
        ·rename_i hke;exact V0 hke
        ·rename_i hke;exact V0 hke
        ·cases hf
       ·cases hf
     have hko: (val σ.env k).ok=true:=by rcases Lm hkk with⟨_,k,n,e⟩ | ⟨_,y,e⟩ <;> rw[e] <;> rfl
     have hkr:=(hI.val hk hko).1;have hyr:=(hI.val hy (TC hone)).1;have hmx:=(hI.val hx (by rw[hid];rfl)).1;rw[hid]at hmx;simp only[Qd]at hmx;obtain⟨kb,hkb,hmv⟩:=hmx;obtain⟨es,clock,xs,g1,g2,g3,g4,hfin⟩:=hI.setM id hbs hkb hne;rw[g2]at hf;simp only[List.drop_succ_cons,List.drop_zero]at hf;obtain⟨_,es2,clock2,r1,r2,r3⟩:=Km (x:=a.eval y2) hL g1 g3 g4 hkr (by rw[QM];exact hyr) hf;refine Uo (w':={w with heap:=w.heap.setIfInBounds kb.b (.map es2 clock2)}) (by simp[execOp,ho,hmv,r1]) (h _ m β ν (hfin ys es2 clock2 r2 (fun i c hc=>(r3 i c hc).1)) rfl)
 ·cases he
def Er (P:Program) (s:TypeId) (f off sz:Nat) (ag:Bool):Bool:=match P.underlying s with
 | some (.struct fs)=>(match fs[f]? with
  | some fl=>decide (fl.offset=off) && Zw P fl.type sz && Xn P fl.type ag
  | none=>false)
 | _=>false
theorem Qbe {t:TypeId} {off sz:Nat} {ag:Bool} (hs:Zw P t sz=true) (ha:Xn P t ag=true) {us:Array Value} {cs:List AV} (hrd:Z0 cs off sz ag=some v) (hl:us.size=cs.length)
  (hc: ∀(i:Nat) (c:AV),cs[i]? =some c→∃u,us[i]? =some u∧u.oneCell'=true∧Qd num β w m c u):
  ∃u,(part t us off).run P w= .ok u w∧v.ok=true∧Qd num β w m v u∧∀p,Q6 w m ν p v u:=by
 unfold Z0 at hrd;split at hrd
 ·rename_i hle;cases ag
  ·simp only[Bool.false_eq_true,if_false]at hrd;split at hrd
   ·cases hco:cs[off]? with
    | none=>rw[hco]at hrd;cases hrd
    | some c=>
     rw[hco]at hrd;simp only[Option.bind_some]at hrd;split at hrd
     ·rename_i h1;injection hrd with hrd
      subst hrd;obtain⟨u,g1,g2,g3⟩:=hc off c hco;refine⟨u,?_,by rw[TJ];exact TC h1,by rw[QM];exact g3,fun p=>ZS _ _ _⟩;simp only[part,Sem.run_bind,Z5 ha,Result.andThen_ok,Bool.false_eq_true,if_false,g1,Sem.run_pure]
     ·cases hrd
   ·cases hrd
  ·simp only[if_true]at hrd;injection hrd with hrd
   subst hrd;refine⟨.agg (us.extract off (off+sz)),?_,rfl,?_,fun p=>trivial⟩
   ·simp only[part,Sem.run_bind,Z5 ha,Q4 hs,Result.andThen_ok,if_true,Sem.run_pure]
   ·simp only[Qd];refine⟨_,rfl,by simp;omega,?_⟩;rw[Zp];intro i c hci;obtain⟨d,hd,rfl⟩:=Q0 hci;have hisz:i < sz:=by
     rcases Nat.lt_or_ge i sz with h | h
     ·exact h
     ·rw[List.getElem?_eq_none (by simp;omega)]at hd;cases hd
    rw[List.getElem?_take_of_lt hisz,List.getElem?_drop]at hd;obtain⟨u,g1,g2,g3⟩:=hc _ d hd;refine⟨u,?_,g2,by rw[QM];exact g3⟩;simp only[Nat.zero_add];rw[Array.getElem?_extract,if_pos (by omega)];exact g1
 ·cases hrd
theorem Qhc [Dr] {off sz f:Nat} {ag:Bool} {x:AO} {t:TypeId} {x2:Operand} (hI:Inv num N w0 m0 T β0 σ a w m β ν) (ho:o.op= .field t x2 f) (hF:Er P t f off sz ag=true) (hx:okO num x x2=true)
  (he:Qg K (.fld off sz ag x) σ=some (v,σ1)) (h:Aft num N w0 m0 T β0 σ1 a v fun u w'=>next (a.put o.dst u) w'):o.wp P a w next Q:=by
 simp only[Qg]at he;split at he
 ·rename_i cs hcs;cases hr:Z0 cs off sz ag with
  | none=>rw[hr]at he;cases he
  | some v2=>
   rw[hr]at he;injection he with he
   injection he with h1 h2
   subst h1 h2;have hv:=(hI.val hx (by rw[hcs];rfl)).1;rw[hcs]at hv;simp only[Qd]at hv;obtain⟨us,hu,hsz,hc⟩:=hv;rw[Zp]at hc;unfold Er at hF;split at hF
   ·rename_i fs hun;split at hF
    ·rename_i fl hfl;simp only[Bool.and_eq_true,decide_eq_true_eq]at hF;obtain⟨⟨rfl,hs⟩,ha⟩:=hF;obtain⟨u,g1,g2,g3,g4⟩:=Qbe (P:=P) (w:=w) (num:=num) (β:=β) (m:=m) (ν:=ν) hs ha hr hsz (fun i c hi=>by simpa using hc i c hi);refine Qp (u:=u) (w':=w) ?_ (h.same hI g2 g3 (g4 _));simp[execOp,ho,Instr.field,run_underlying hun,hfl,hu,asAgg,g1]
    ·cases hF
   ·cases hF
 ·cases he
def mkT (P:Program) (t:TypeId) (bytes sz:Nat) (zs:List AV):Bool:=match P.underlying t with
 | some (.slice e)=>(match P.info? e with
  | some i=>decide (i.bytes=bytes) && decide (i.size=sz) && (match i.zero with
   | some z=>Xy zs z.cells.toList
   | none=>false)
  | none=>false)
 | _=>false
theorem NF {α:Type} (zs:List α): ∀(n j:Nat) (c:α),(List.replicate n zs).flatten[j]? =some c→zs[j % zs.length]? =some c
 | 0,j,c,h=>by simp at h
 | n+1,j,c,h=>by
  rw[List.replicate_succ,List.flatten_cons,List.getElem?_append]at h;split at h
  ·rename_i hj;rw[Nat.mod_eq_of_lt hj];exact h
  ·rename_i hj;have:=NF zs n (j - zs.length) c h;rwa[← Nat.mod_eq_sub_mod (by omega)]at this
theorem Qhj [Dr] {bytes sz:Nat} {zs:List AV} {x:AO} {t:TypeId} {x2:Operand} (hI:Inv num N w0 m0 T β0 σ a w m β ν) (ho:o.op= .makeSlice t x2 x2) (hM:mkT P t bytes sz zs=true) (hx:okO num x x2=true)
  (he:Qg K (.mkg bytes sz zs x) σ=some (v,σ1)) (h:Aft num N w0 m0 T β0 σ1 a v fun u w'=>next (a.put o.dst u) w'):o.wp P a w next Q:=by
 simp only[Qg]at he;split at he
 ·rename_i k n hn;split at he
  ·rename_i hc;obtain⟨h0,hb,h63,hsz,hzl⟩:=hc;injection he with he
   injection he with h1 h2
   subst h1 h2;have hv:=(hI.val hx (by rw[hn];rfl)).1;rw[hn]at hv;simp only[Qd]at hv;unfold mkT at hM;split at hM
   ·rename_i e hun;split at hM
    ·rename_i i hi;simp only[Bool.and_eq_true,decide_eq_true_eq]at hM;obtain⟨⟨rfl,rfl⟩,hz⟩:=hM;split at hz
     ·rename_i z hzz;obtain⟨hl,hcs⟩:=YM _ _ hz;have hrun:=run_make w t e i z hun hi hzz k k n n h0 (Int.le_refl _) (by
       have: ((n.toNat* i.bytes:Nat):Int)≤140737488355328:=by omega
       rw[Int.natCast_mul,Int.toNat_of_nonneg h0]at this;rw[Int.mul_comm];omega) (by omega)
      have hfl: (List.replicate n.toNat zs).flatten.length=n.toNat* i.size:=by simp[hzl]
      have hms:=size_madeCells z.cells (n.toNat* i.size);refine Qp (u:= .slice (some ⟨w.heap.size,0,none⟩) n.toNat n.toNat) (w':=w.alloc (.cells (madeCells z.cells (n.toNat* i.size)) e)) (by simp[execOp,ho,hv,hrun]) ?_;refine h _ _ _ _ _ (hI.addG (madeCells z.cells (n.toNat* i.size)) e _ (by rw[hms,hfl]) fun j c hj=> ?_) ((QX rfl).2 ⟨?_,trivial⟩)
      ·have hjl:j < n.toNat* i.size:=by
        rcases Nat.lt_or_ge j (List.replicate n.toNat zs).flatten.length with h | h
        ·omega
        ·rw[List.getElem?_eq_none h]at hj;cases hj
       have hj2:=NF zs n.toNat j c hj;obtain⟨u,g1,g2⟩:=hcs _ c hj2;have hg:=Zz (num:=num) (β:=β) (w:=w) (m:=m) (ν:=ν) g2;refine⟨u,?_,hg.2.1,hg.1,fun p w' m' ν'=>(Zz (num:=num) (β:=β) (w:=w') (m:=m') (ν:=ν') g2).2.2 p⟩;have hzs:zs.length=z.cells.size:=by have h9:=hl;simp at h9;exact h9.symm
       have hlt:j % z.cells.size < z.cells.size:=Nat.mod_lt _ (by omega);rw[hzs]at g1;have g1':z.cells[j % z.cells.size]? =some u:=by simpa using g1
       rw[Array.getElem?_eq_getElem hlt]at g1';injection g1' with g1'
       unfold madeCells;rw[Array.getElem?_map,Array.getElem?_range,if_pos hjl];simp only[Option.map_some,Option.some.injEq];rw[getElem!_pos z.cells _ hlt];exact g1'
      ·simp only[Qd];exact⟨_,n.toNat,rfl,Nat.le_refl _,by unfold maxLen;omega,.inr ⟨⟨w.heap.size,(madeCells z.cells (n.toNat* i.size)).size,false⟩,⟨by rw[← hI.blen];simp,rfl⟩,rfl,by simp[hms],hsz⟩⟩
     ·cases hz
    ·cases hM
   ·cases hM
  ·cases he
 ·cases he
theorem Qhl [Dr] {bytes sz:Nat} {zs:List AV} {x:AO} {t:TypeId} {x2:Operand} (hI:Inv num N w0 m0 T β0 σ a w m β ν) (ho:o.op= .makeSlice t x2 x2) (hM:mkT P t bytes sz zs=true) (hx:okO num x x2=true)
  (he:Qg K (.mkz bytes sz zs x) σ=some (v,σ1)) (h:Aft num N w0 m0 T β0 σ1 a v fun u w'=>next (a.put o.dst u) w'):o.wp P a w next Q:=by
 simp only[Qg]at he;split at he
 ·rename_i k n hn;split at he
  ·rename_i hc;obtain⟨h0,hb,h63,hsz,hzl⟩:=hc;injection he with he
   injection he with h1 h2
   subst h1 h2;have hv:=(hI.val hx (by rw[hn];rfl)).1;rw[hn]at hv;simp only[Qd]at hv;unfold mkT at hM;split at hM
   ·rename_i e hun;split at hM
    ·rename_i i hi;simp only[Bool.and_eq_true,decide_eq_true_eq]at hM;obtain⟨⟨rfl,rfl⟩,hz⟩:=hM;split at hz
     ·rename_i z hzz;obtain⟨hl,hcs⟩:=YM _ _ hz;have hrun:=run_make w t e i z hun hi hzz k k n n h0 (Int.le_refl _) (by
       have: ((n.toNat* i.bytes:Nat):Int)≤140737488355328:=by omega
       rw[Int.natCast_mul,Int.toNat_of_nonneg h0]at this;rw[Int.mul_comm];omega) (by omega)
      have hms:=size_madeCells z.cells (n.toNat* i.size);refine Qp (u:= .slice (some ⟨w.heap.size,0,none⟩) n.toNat n.toNat) (w':=w.alloc (.cells (madeCells z.cells (n.toNat* i.size)) e)) (by simp[execOp,ho,hv,hrun]) ?_;refine h _ _ _ β _ (hI.fresh (madeCells z.cells (n.toNat* i.size)) e (n.toNat* i.size) .f) ((QX rfl).2 ⟨?_,trivial⟩);simp only[Qd];refine⟨_,_,_,rfl,by simp,Nat.le_refl _,by unfold maxLen;omega,.inr ⟨w.heap.size,0,rfl,?_⟩⟩;rw[Y3];intro i2 x hx2;have hil:i2 < n.toNat:=by
       rcases Nat.lt_or_ge i2 (List.replicate n.toNat zs).length with h | h
       ·simpa using h
       ·rw[List.getElem?_eq_none h]at hx2;cases hx2
      rw[List.getElem?_replicate,if_pos hil]at hx2;injection hx2 with hx2
      subst hx2;refine⟨hzl,?_⟩;rw[Zp];intro j c hj;have hjl:j < i.size:=by
       rcases Nat.lt_or_ge j zs.length with h | h
       ·omega
       ·rw[List.getElem?_eq_none h]at hj;cases hj
      obtain⟨u,g1,g2⟩:=hcs _ c hj;have hg2:=Zz (num:=num) (β:=β) (w:=w) (m:=m) (ν:=ν) g2;have hzs:zs.length=z.cells.size:=by have h9:=hl;simp at h9;exact h9.symm
      have hle: (i2+1)*i.size≤n.toNat* i.size:=Nat.mul_le_mul_right _ hil;rw[Nat.succ_mul]at hle;refine⟨u,?_,hg2.2.1,QV (Ge.refl β) (Zs.alloc (fun _=>False) w m _ e _).le c u hg2.1⟩;unfold hg;rw[if_pos (by simp[m1];omega),cell_of_row _ _ _ _ e (0,0) (heap_alloc_new w _)];have hlt:j < z.cells.size:=by omega
      have g1':z.cells[j]? =some u:=by simpa using g1
      rw[Array.getElem?_eq_getElem hlt]at g1';injection g1' with g1'
      unfold madeCells;rw[Array.getElem?_map,Array.getElem?_range,if_pos (by omega)];simp only[Option.map_some,Option.some.injEq];have hmod: (0+i2*i.size+j) % z.cells.size=j:=by
       rw[Nat.zero_add,← hzs,hzl,Nat.mul_comm,Nat.mul_add_mod,Nat.mod_eq_of_lt hjl]
      rw[hmod,getElem!_pos z.cells _ hlt];exact g1'
     ·cases hz
    ·cases hM
   ·cases hM
  ·cases he
 ·cases he
theorem H6 (sz:Nat): ∀(vs:List AV) (xs:List (List AV)),Yx sz vs=some xs→xs.length=vs.length:=by
 intro vs
 induction vs with
 | nil=>intro xs h;simp[Yx]at h;subst h;rfl
 | cons v vs ih=>
  intro xs h;simp only[Yx]at h;split at h
  ·rename_i e es h1 h2;split at h
   ·injection h with h;subst h;simp[ih es h2]
   ·cases h
  ·cases h
theorem BU {num:Nat→Option Nat}: ∀(parts:List AO) (ps:List Operand),Ys num parts ps=true→parts.length=ps.length:=by
 intro parts
 induction parts with
 | nil=>intro ps hp;cases ps <;> simp[Ys]at hp ⊢
 | cons x xs ih=>intro ps hp;cases ps with
  | nil=>simp[Ys]at hp
  | cons y ys=>simp only[Ys,Bool.and_eq_true]at hp;simp[ih ys hp.2]
theorem Qd8 [Dr] {sz:Nat} {parts:List AO} {ps:List Operand} {t:TypeId} (hI:Inv num N w0 m0 T β0 σ a w m β ν) (ho:o.op= .buildSlice t ps.length (ps.zipIdx.map fun p=>(p.2,p.1)).toArray)
  (ht:UY P t sz ps.length=true) (hp:Ys num parts ps=true)
  (he:Qg K (.mksg sz parts) σ=some (v,σ1)) (h:Aft num N w0 m0 T β0 σ1 a v fun u w'=>next (a.put o.dst u) w'):o.wp P a w next Q:=by
 simp only[Qg]at he;cases hr:Yx sz (parts.map (val σ.env))with
 | none=>rw[hr]at he;cases he
 | some xs=>
  rw[hr]at he;injection he with he
  injection he with h1 h2
  subst h1 h2;have hL:=BU parts ps hp;have hX:xs.length=ps.length:=by rw[H6 _ _ _ hr];simpa using hL
  unfold UY at ht;split at ht
  ·rename_i e hu;simp only[Bool.and_eq_true,decide_eq_true_eq]at ht;obtain⟨⟨⟨ht1,ht2⟩,ht3⟩,ht4⟩:=ht;split at ht2
   ·rename_i i hi;obtain⟨z,hz⟩:=Option.isSome_iff_exists.1 ht2;have hsz:i.size=sz:=by unfold Zw at ht1;rw[hi]at ht1;simpa using ht1
    obtain⟨zc,hzc⟩: ∃zc:Array Value,zc=(if ps.length*sz=0 then #[]else z.cells):=⟨_,rfl⟩;obtain⟨cells',f1,f2,_,f4⟩:=Pn hI sz ps.length parts ps 0 ((Array.range (ps.length*sz)).map (zc[· % zc.size]!)) xs hp hr (by simp) (by omega);have hE:RepE num β w m xs (fun i=>cells'[i]?) 0 sz:=by
     rw[Y3];intro i2 x hx;obtain⟨g1,g2⟩:=f4 i2 x hx;refine⟨g1,?_⟩;rw[Zp];intro j c hc;obtain⟨u,k1,k2,k3⟩:=g2 j c hc;refine⟨u,?_,k2,k3⟩;rw[Nat.zero_add]at k1 ⊢;exact k1
    refine Qp (u:= .slice (some ⟨w.heap.size,0,none⟩) ps.length ps.length) (w':=w.alloc (.cells cells' e)) ?_ ?_
    ·have hps: (Array.map (fun x:Nat×Operand=>(x.fst,a.eval x.snd)) (ps.zipIdx.map fun p=>(p.2,p.1)).toArray).toList=(ps.zipIdx 0).map fun p=>(p.2,a.eval p.1):=by
      simp[List.map_map,Function.comp_def]
     simp only[execOp,ho,Instr.buildSlice,Sem.run_bind,run_underlying hu,Result.andThen_ok,Q4 ht1];rw[if_neg (by omega)];by_cases h0:ps.length*sz=0
     ·rw[if_pos h0]at hzc;simp only[h0,if_true,Sem.run_bind,Sem.run_pure,Result.andThen_ok,hps];rw[hzc,h0]at f1;rw[f1];simp[newRow]
     ·rw[if_neg h0]at hzc;simp only[h0,if_false,Sem.run_pure,Sem.run_bind,Result.andThen_ok,zeroValue,typeInfo,run_program,hi,hz,hps];rw[hzc]at f1;rw[f1];simp[newRow]
    ·refine h _ _ _ _ _ (hI.addG cells' e _ (by rw[f2,Wc hE,hX]) fun j c hj=> ?_) ((QX rfl).2 ⟨?_,trivial⟩)
     ·obtain⟨u,g1,g2,g3,g4⟩:=UC hE j c hj;exact⟨u,by simpa using g1,g2,g3,g4⟩
     ·simp only[Qd];have:ps.length≤2 ^ 24:=Nat.le_trans (Nat.le_mul_of_pos_right _ ht4) ht3;exact⟨_,ps.length,by rw[hX],by omega,by unfold maxLen;omega,.inr ⟨⟨w.heap.size,cells'.size,false⟩,⟨by rw[← hI.blen];simp,rfl⟩,rfl,by simp[f2],ht4⟩⟩
   ·cases ht2
  ·cases ht
theorem Qd4 [Dr] {s q off sz fo fz:Nat} {t:TypeId} (hI:Inv num N w0 m0 T β0 σ a w m β ν) (ho:o.op= .load t (.tmp q)) (hs:Zw P t sz=true) (ha:Xn P t true=true)
  (hp:W9 a q s off∨(q=s∧off=0)) (he:Qg K (.ldfz s off sz fo fz) σ=some (v,σ1)) (h:Aft num N w0 m0 T β0 σ1 a v fun u w'=>next (a.put o.dst u) w'):o.wp P a w next Q:=by
 simp only[Qg]at he;split at he
 ·rename_i cs hcs;split at he
  ·rename_i id of sz1 k hfo;obtain⟨b,cur,e,_,hq,hb,hz,hc⟩:=hI.box_at hcs hp;obtain⟨uf,f1,f2,f3,_⟩:=hc fo _ hfo;have hf3:=f3;simp only[Qd]at f3;obtain⟨A,cap,hu,q1,q2,q3⟩:=f3;have hfol:fo < cs.length:=by
    rcases Nat.lt_or_ge fo cs.length with h | h
    ·exact h
    ·rw[List.getElem?_eq_none h]at hfo;cases hfo
   split at he
   ·rename_i hcond;obtain⟨rfl,hsz,hk0⟩:=hcond;cases hbs:σ.bs[id]? with
    | none=>rw[hbs]at he;cases he
    | some c2=>
     rw[hbs]at he;simp only[Option.bind_some]at he;split at he
     ·rename_i hl;cases hr:Z0 (cs.set fo (.sl false sz1 (ZL c2 of sz1 k))) off sz true with
      | none=>rw[hr]at he;cases he
      | some v2=>
       rw[hr]at he;injection he with he
       injection he with h1 h2
       subst h1 h2;rcases q3 with q3 | ⟨kb,q3,rfl,q4,_⟩
       ·exact absurd q3.1 hk0
       ·have hkm:0 < k*sz1:=Nat.mul_pos (Nat.pos_of_ne_zero hk0) hsz;have hne:c2≠[]:=fun e=>by rw[e]at hl;simp only[List.length_nil]at hl;omega
        obtain⟨cur2,e2,p1,p2,p3,p4,p5⟩:=(hI.boxes id c2 kb hbs q3.1 hne).1 q3.2;obtain⟨hK,hle⟩:=(hI.takeCell s fo hcs).kill (id:=id) (q:=of+k*sz1) hbs q3 hne;obtain⟨u,g1,g2,g3,g4⟩:=XH (w:=w) (num:=num) (β:=β) (m:=m1 m kb.b (of+k*sz1)) (ν:=Zy (ZI ν (mv (.c s fo) .f)) kb.b .f) (o:=0) (b:=b) hs ha hr (fun j c hj=>by
         rw[List.getElem?_set]at hj;split at hj
         ·rename_i hje;subst hje
          ·simp only[Option.some.injEq]at hj;subst hj;refine⟨uf,by rw[Nat.zero_add,cell_of_row w b fo cur e (0,0) hb];exact f1,f2,?_⟩;simp only[Qd];refine⟨_,k,cap,hu,Xc _ _ _ _,q1,q2,.inr ⟨kb.b,of,rfl,?_⟩⟩;rw[Y3];intro i x hx;obtain⟨hi,rfl⟩:=VZ hx;have hi2:i*sz1+sz1≤k*sz1:=by rw[← Nat.succ_mul];exact Nat.mul_le_mul_right _ hi
           refine⟨by simp;omega,?_⟩;rw[Zp];intro j c hc;obtain⟨d,hd,rfl⟩:=Q0 hc;rw[List.getElem?_take]at hd;split at hd
           ·rename_i hj;rw[List.getElem?_drop]at hd;obtain⟨u,r1,r2,r3,_⟩:=p5 _ d hd;refine⟨u,?_,r2,by rw[QM];exact QV (Ge.refl β) hle d u r3⟩;unfold hg m1;rw[if_pos rfl,if_pos (by omega),cell_of_row w kb.b _ cur2 e2 (0,0) p1];exact r1
           ·cases hd
         ·obtain⟨u,c1,c3,c4,_⟩:=hc j c hj;exact⟨u,by rw[Nat.zero_add,cell_of_row w b j cur e (0,0) hb];exact c1,c3,QV (Ge.refl β) hle c u c4⟩)
        rw[Nat.zero_add]at g1;refine Qp (u:=u) (w':=w) ?_ (h u w _ β _ hK ((QX g2).2 ⟨g3,g4 _⟩));simp only[execOp,ho,Instr.loadAt,hq,Instr.sureAddr,Sem.run_bind,Sem.run_pure,Result.andThen_ok,g1]
     ·cases he
   ·split at he
    ·rename_i hk0;subst hk0;cases hr:Z0 (cs.set fo (.sl false fz [])) off sz true with
     | none=>rw[hr]at he;cases he
     | some v2=>
      rw[hr]at he;injection he with he
      injection he with h1 h2
      subst h1 h2;obtain⟨u,g1,g2,g3,g4⟩:=XH (w:=w) (num:=num) (β:=β) (m:=m) (ν:=ν) (o:=0) (b:=b) hs ha hr (fun j c hj=>by
       rw[List.getElem?_set]at hj;split at hj
       ·rename_i hje;subst hje
        ·simp only[Option.some.injEq]at hj;subst hj;refine⟨uf,by rw[Nat.zero_add,cell_of_row w b fo cur e (0,0) hb];exact f1,f2,?_⟩;simp only[Qd];exact⟨_,0,cap,hu,rfl,q1,q2,.inl trivial⟩
       ·obtain⟨u,c1,c3,c4,_⟩:=hc j c hj;exact⟨u,by rw[Nat.zero_add,cell_of_row w b j cur e (0,0) hb];exact c1,c3,c4⟩)
      rw[Nat.zero_add]at g1;refine Qp (u:=u) (w':=w) ?_ (h u w m β ν hI ((QX g2).2 ⟨g3,g4 _⟩));simp only[execOp,ho,Instr.loadAt,hq,Instr.sureAddr,Sem.run_bind,Sem.run_pure,Result.andThen_ok,g1]
    ·cases he
  ·cases he
 ·cases he
end
end Go.Am
