/-
  AmM.
-/
import Derived.Test.YtmlbijpbecpjoaaGreatDoorG04
import Derived.Laws.MakeOwn
import Derived.Laws.IdiomStrings
set_option linter.all false
namespace Go.Am
def Da (P:Program) (s:Bool) (kt:TypeId):Bool:=match P.underlying kt with
 | some (.int _)=> !s
 | some .string=>s
 | _=>false
def QaM (P:Program) (t:TypeId) (z:AV):Bool:=match P.info? t with
 | some i=>(match i.zero with
  | some z2=>UU z z2
  | none=>false)
 | none=>false
def Qad (P:Program) (s:Bool) (t:TypeId):Bool:=match P.underlying t with
 | some (.map kt _)=>Da P s kt
 | _=>false
def lkT (P:Program) (s:Bool) (t:TypeId) (z:AV):Bool:=match P.underlying t with
 | some (.map kt et)=>Da P s kt && QaM P et z
 | _=>false
section
variable {P:Program} {num:Nat->Option Nat} {β β':List Blk} {w w':World} {m m':Nat->Nat} {ν ν':Own} {N:Nat} {w0:World} {m0:Nat->Nat} {T:Nat->Prop} {β0:List Blk} {σ σ1:St} {a:Act}
 {o:Oper} {next:Act->World->Prop} {Q:Exit->Act->World->Prop} {K:Yo} {v:AV}
def BU (num:Y0) (β:Xv) (w:World) (m:ZF) (c:AV) (e:MapEntry):Prop:=∃k v,c= .agg [k,v]/\Qd num β w m k e.key/\Qd num β w m v e.val
def HW (s:Bool) (d:TypeDesc):Prop:=(s=false/\∃k,d= .int k)\/(s=true/\d= .string)
def Lv {s:Bool} {kt:TypeId} (h:Da P s kt=true): ∃d,P.underlying kt=some d/\HW s d:=by
 unfold Da at h;split at h
 ·rename_i k hk;exact⟨_,hk,.inl ⟨by simpa using h,k,rfl⟩⟩
 ·rename_i hk;exact⟨_,hk,.inr ⟨h,rfl⟩⟩
 ·cases h
def Iy (a b:Qu): ((⟨a.toArray⟩:ByteArray) == ⟨b.toArray⟩)=(a == b):=by
 show(a.toArray == b.toArray)=_;simp
def TY [Dr] {s:Bool} {d:TypeDesc} (hd:HW s d) {q k:AV} {b:Bool} {u x:Value} (h:Nw s q k=some b) (hq:Qd num β w m q u) (hk:Qd num β w m k x):Instr.sameNow d u x=some b/\(b=true->x=u):=by
 unfold Nw at h;split at h
 ·split at h
  ·rename_i e;subst e;injection h with h
   simp only[Qd]at hq hk;subst hq hk;rcases hd with⟨_,k0,rfl⟩ | ⟨h0,_⟩
   ·refine⟨by simp only[Instr.sameNow,Zl,h],fun hb=> ?_⟩;subst h;simp only[V7]at hb;rw[hb]
   ·cases h0
  ·cases h
 ·injection h with h
  simp only[Qd]at hq hk;subst hq hk;rcases hd with⟨h0,_⟩ | ⟨_,rfl⟩
  ·cases h0
  ·refine⟨by simp only[Instr.sameNow,Iy,h],fun hb=> ?_⟩;subst h;simp only[V7]at hb;rw[hb]
 ·cases h
def Lu {s:Bool} {q:AV} (h:PF s q=true): (s=false/\∃k n,q= .int k n)\/(s=true/\∃x,q= .str x):=by
 unfold PF at h;split at h
 ·exact .inl ⟨rfl,_,_,rfl⟩
 ·exact .inr ⟨rfl,_,rfl⟩
 ·cases h
def Un {s:Bool} {q k:AV} {b:Bool} (h:Nw s q k=some b):PF s q=true:=by
 unfold Nw at h;split at h
 ·rfl
 ·rfl
 ·cases h
def N1 [Dr] {s:Bool} {q:AV} {u:Value} (h:PF s q=true) (hq:Qd num β w m q u) (n:Nat):Instr.sameBits n u u=true:=by
 rcases Lu h with⟨_,k,x,rfl⟩ | ⟨_,x,rfl⟩
 ·simp only[Qd]at hq;subst hq;simp[Instr.sameBits]
 ·simp only[Qd]at hq;subst hq;simp[Instr.sameBits,Iy]
def Zt:=@List.getElem?_cons_zero
def Kd [Dr] {s:Bool} {d:TypeDesc} (hd:HW s d) {q:AV} {u:Value} (hq:Qd num β w m q u): ∀(xs:Qh) (es:List MapEntry) (i0:Nat) (r:WU),xs.length=es.length->
  (∀(i:Nat) (c:AV),xs[i]? =some c->∃e,es[i]? =some e/\BU num β w m c e)->Vc s xs q=some r->
  (r=none/\Instr.findNow d u es i0=some none)\/∃v j x,r=some v/\Instr.findNow d u es i0=some (some (j,x))/\Qd num β w m v x
 | [],es,i0,r,hl,_,h=>by
  cases es with
  | nil=>
   simp only[Vc]at h;split at h
   ·injection h with h
    exact .inl ⟨h.symm,rfl⟩
   ·cases h
  | cons e es=>simp at hl
 | c:: xs,[],i0,r,hl,_,h=>by simp at hl
 | c:: xs,e:: es,i0,r,hl,hr,h=>by
  obtain⟨e1,he1,k,v,rfl,hk,hv⟩:=hr 0 c rfl;simp only[Zt,QD]at he1;subst he1;simp only[Vc]at h;split at h
  ·rename_i hke;obtain⟨g1,g2⟩:=TY hd hke hq hk;injection h with h
   refine .inr ⟨v,i0,e.val,h.symm,?_,hv⟩;simp only[Instr.findNow,g1]
  ·rename_i hke;obtain⟨g1,g2⟩:=TY hd hke hq hk;have ih:=Kd hd hq xs es (i0+1) r (by simpa using hl) (fun i c hc=>by
    have:=hr (i+1) c (by simpa using hc);simpa using this) h
   simp only[Instr.findNow,g1];exact ih
  ·cases h
def BQ [Dr] {s:Bool} {d:TypeDesc} (hd:HW s d) {q v:AV} {u:Value} (hq:Qd num β w m q u): ∀(xs:Qh) (es:List MapEntry) (i0:Nat) (ys:Qh),xs.length=es.length->
  (∀(i:Nat) (c:AV),xs[i]? =some c->∃e,es[i]? =some e/\BU num β w m c e)->PW s xs q v=some ys->
  PF s q=true/\((Instr.findNow d u es i0=some none/\ys=xs ++ [.agg [q,v]])\/∃j x e,Instr.findNow d u es i0=some (some (i0+j,x))/\es[j]? =some e/\e.key=u/\ys=xs.set j (.agg [q,v]))
 | [],es,i0,ys,hl,_,h=>by
  cases es with
  | nil=>
   simp only[PW]at h;split at h
   ·rename_i hb;injection h with h
    exact⟨hb,.inl ⟨rfl,h.symm⟩⟩
   ·cases h
  | cons e es=>simp at hl
 | c:: xs,[],i0,ys,hl,_,h=>by simp at hl
 | c:: xs,e:: es,i0,ys,hl,hr,h=>by
  obtain⟨e1,he1,k,v2,rfl,hk,hv⟩:=hr 0 c rfl;simp only[Zt,QD]at he1;subst he1;simp only[PW]at h;split at h
  ·rename_i hke;obtain⟨g1,g2⟩:=TY hd hke hq hk;injection h with h
   refine⟨Un hke,.inr ⟨0,e.val,e,?_,rfl,g2 rfl,h.symm⟩⟩;simp only[Instr.findNow,g1,Ty]
  ·rename_i hke;obtain⟨g1,g2⟩:=TY hd hke hq hk;cases hu:PW s xs q v with
   | none=>rw[hu]at h;cases h
   | some zs=>
    rw[hu]at h;injection h with h
    obtain⟨hb,ih⟩:=BQ hd hq xs es (i0+1) zs (by simpa using hl) (fun i c hc=>by
     have:=hr (i+1) c (by simpa using hc);simpa using this) hu
    refine⟨hb,?_⟩;simp only[Instr.findNow,g1];rcases ih with⟨h1,h2⟩ | ⟨j,x,e2,h1,h2,h3,h4⟩
    ·exact .inl ⟨h1,by rw[<- h,h2];rfl⟩
    ·exact .inr ⟨j+1,x,e2,by rw[h1];congr 3;omega,by simpa using h2,h3,by rw[<- h,h4];rfl⟩
  ·cases h
def PN [Dr] {s:Bool} {kt:TypeId} (h:Da P s kt=true) (b:Bool) (n:Nat) (u:Value): (Instr.checkKey b (n+1) kt u).run P w= .ok () w:=by
 obtain⟨d,hd,hk⟩:=Lv h;rcases hk with⟨_,k,rfl⟩ | ⟨_,rfl⟩ <;> simp[Instr.checkKey,run_underlying hd]
def UE {s:Bool} {kt:TypeId} {d:TypeDesc} (hd:P.underlying kt=some d) {u:Value} {es:List MapEntry} {r:Option (Nat×Value)} (h:Instr.findNow d u es 0=some r): (Instr.findKey kt u es).run P w= .ok r w:=by
 simp[Instr.findKey,run_underlying hd,h]
def Um {r:Nat} {es:SM} {clock:Nat} (hb:w.heap[r]? =some (.map es clock)): (getObj r).run P w= .ok (.map es clock) w:=by
 simp[getObj,Sem.run,hb]
def SD {r:Nat} {es:SM} {clock:Nat} (ob:Obj) (hb:w.heap[r]? =some (.map es clock)): (setObj r ob).run P w= .ok () {w with heap:=w.heap.setIfInBounds r ob}:=by
 simp[setObj,Sem.run,hb]
def Hj {t:TypeId} {z:AV} (h:QaM P t z=true): ∃z2:Value,(zeroValue t).run P w= .ok z2 w/\UU z z2=true:=by
 unfold QaM at h;split at h
 ·rename_i i hi;split at h
  ·rename_i z2 hz;exact⟨z2,by simp[zeroValue,typeInfo,hi,hz],h⟩
  ·cases h
 ·cases h
def Qau [Dr] {s ok:Bool} {t:TypeId} {z:AV} (hL:lkT P s t z=true) {b clock:Nat} {es:SM} {xs:Qh} {q:AV} {u:Value} {r:WU} (hb:w.heap[b]? =some (.map es clock)) (hl:xs.length=es.size)
  (hr: ∀(i:Nat) (c:AV),xs[i]? =some c->∃(e:MapEntry) (k v:AV),es[i]? =some e/\c= .agg [k,v]/\Qd num β w m k e.key/\Qd num β w m v e.val) (hq:Qd num β w m q u) (hf:Vc s xs q=some r):
  ∃x,(Instr.lookup t (.map (some b)) u ok).run P w= .ok (if ok then .tuple #[x,.bool r.isSome]else x) w/\Qd num β w m (r.getD z) x:=by
 unfold lkT at hL;split at hL
 ·rename_i kt et hm;simp only[Qo]at hL;obtain⟨d,hd,hK⟩:=Lv hL.1;obtain⟨z2,hz,hcz⟩:=Hj (w:=w) hL.2;have hce:=fun b=>PN (w:=w) hL.1 b 9999 u;rcases Kd hK hq xs es.toList 0 r (by simpa using hl) (fun i c hc=>by
   obtain⟨e,k,v,h1,h2,h3,h4⟩:=hr i c hc;exact⟨e,by simpa using h1,k,v,h2,h3,h4⟩) hf with⟨rfl,hn⟩ | ⟨v,j,x,rfl,hn,hv⟩
  ·have hfk:=UE (s:=s) (P:=P) (w:=w) hd hn;refine⟨z2,?_,(Zu (ν:=fun _=>none) hcz).1⟩;cases ok <;> simp[Instr.lookup,run_underlying hm,Um hb,hce,hfk,hz]
  ·have hfk:=UE (s:=s) (P:=P) (w:=w) hd hn;refine⟨x,?_,hv⟩;cases ok <;> simp[Instr.lookup,run_underlying hm,Um hb,hce,hfk]
 ·cases hL
def Mj:=@Array.getElem?_push
def SJ.push {es:SM} {clock:Nat} (h:SJ es clock) (e:MapEntry) (he:e.born=clock):SJ (es.push e) (clock+1):=by
 refine⟨by simp[h.1],fun i x hx=> ?_⟩;rw[Mj]at hx;split at hx
 ·rename_i hi;injection hx with hx
  subst hx hi;rw[he,h.1]
 ·exact h.2 i x hx
def TG:=@Array.getElem?_modify
def SJ.modify {es:SM} {clock:Nat} (h:SJ es clock) (j:Nat) (f:MapEntry->MapEntry) (hf: ∀e,(f e).born=e.born):SJ (es.modify j f) clock:=by
 refine⟨by simp[h.1],fun i x hx=> ?_⟩;rw[TG]at hx;split at hx
 ·cases he:es[i]? with
  | none=>rw[he]at hx;cases hx
  | some e=>
   rw[he]at hx;injection hx with hx
   subst hx;rw[hf];exact h.2 i e he
 ·exact h.2 i x hx
def Wa:=@Array.getElem?_eq_getElem
def SJ.find {es:SM} {clock:Nat} (h:SJ es clock) {j:Nat} (hj:j < es.size):es.findIdx? (fun e=>(e.born:Int) == (j:Int))=some j:=by
 rw[Array.findIdx?_eq_some_iff_getElem];refine⟨hj,?_,fun k hk=> ?_⟩
 ·simp[h.2 j es[j] (Wa hj)]
 ·have:=h.2 k es[k] (Wa (by omega));simp[this];omega
def OD:=@List.getElem?_append
def Pa:=@Array.getElem?_eq_some_iff
def HB [Dr] {s:Bool} {t:TypeId} (hL:Qad P s t=true) {b clock:Nat} {es:SM} {xs ys:Qh} {q v:AV} {u x:Value} (hb:w.heap[b]? =some (.map es clock)) (hl:xs.length=es.size) (hB:SJ es clock)
  (hr: ∀(i:Nat) (c:AV),xs[i]? =some c->∃(e:MapEntry) (k v:AV),es[i]? =some e/\c= .agg [k,v]/\Qd num β w m k e.key/\Qd num β w m v e.val) (hq:Qd num β w m q u) (hx:Qd num β w m v x) (hf:PW s xs q v=some ys):
  PF s q=true/\∃es2 clock2,(Instr.mapUpdate t (.map (some b)) u x).run P w= .ok () {w with heap:=w.heap.setIfInBounds b (.map es2 clock2)}/\(ys.length=es2.size/\SJ es2 clock2)/\
   (∀(i:Nat) (c:AV),ys[i]? =some c->(∃(e:MapEntry) (k v:AV),es2[i]? =some e/\c= .agg [k,v]/\Qd num β w m k e.key/\Qd num β w m v e.val)/\(c∈xs\/c= .agg [q,v])):=by
 unfold Qad at hL;split at hL
 ·rename_i kt et hm;obtain⟨d,hd,hK⟩:=Lv hL;have hce:=fun b=>PN (w:=w) hL b 9999 u;obtain⟨hkb,h⟩:=BQ hK (v:=v) hq xs es.toList 0 ys (by simpa using hl) (fun i c hc=>by
   obtain⟨e,k,v,h1,h2,h3,h4⟩:=hr i c hc;exact⟨e,by simpa using h1,k,v,h2,h3,h4⟩) hf
  refine⟨hkb,?_⟩;rcases h with⟨hn,rfl⟩ | ⟨j,y,e,hn,he,hek,rfl⟩
  ·have hfk:=UE (s:=s) (P:=P) (w:=w) hd hn;refine⟨es.push {key:=u,val:=x,born:=clock},clock+1,?_,⟨by simp[hl],hB.push _ rfl⟩,fun i c hc=> ?_⟩
   ·simp[Instr.mapUpdate,run_underlying hm,Um hb,hce,hfk,SD _ hb]
   ·rw[OD]at hc;split at hc
    ·rename_i hi;obtain⟨e,k,v,h1,h2,h3,h4⟩:=hr i c hc;refine⟨⟨e,k,v,?_,h2,h3,h4⟩,.inl (WC hc)⟩;rw[Mj,Qm (by omega)];exact h1
    ·rename_i hi;have h0:i - xs.length=0:=by
      rcases KT (i - xs.length)with h | h
      ·exact h
      ·rw[Q3 (by simp;omega)]at hc;cases hc
     rw[h0]at hc;simp only[Zt,QD]at hc;refine⟨⟨{key:=u,val:=x,born:=clock},q,v,?_,hc.symm,hq,hx⟩,.inr hc.symm⟩;rw[Mj,Qn (by omega)]
  ·rw[Zk]at hn;have hfk:=UE (s:=s) (P:=P) (w:=w) hd hn;have he2:es[j]? =some e:=by simpa using he
   have hjl:j < es.size:=(Pa.1 he2).1;have hsb:=N1 hkb hq 10000;refine⟨es.modify j fun e=>{e with key:=u,val:=x},clock,?_,⟨by simp[hl],hB.modify j _ fun _=>rfl⟩,fun i c hc=> ?_⟩
   ·simp[Instr.mapUpdate,run_underlying hm,Um hb,hce,hfk,he2,hek,Instr.keyThatStays,hsb,SD _ hb]
   ·rw[Y8]at hc;split at hc
    ·rename_i hji;subst hji;split at hc
     ·injection hc with hc
      refine⟨⟨{e with key:=u,val:=x},q,v,?_,hc.symm,hq,hx⟩,.inr hc.symm⟩;simp[TG,he2]
     ·cases hc
    ·rename_i hji;obtain⟨e3,k,v3,h1,h2,h3,h4⟩:=hr i c hc;refine⟨⟨e3,k,v3,?_,h2,h3,h4⟩,.inl (WC hc)⟩;rw[TG,Qm hji];exact h1
 ·cases hL
def ZO.setMap [Dr] {b:Nat} {es:SM} {clock:Nat} (ob:Obj) (hb:w.heap[b]? =some (.map es clock)) (hm:m b=0):ZO (· =b) w m {w with heap:=w.heap.setIfInBounds b ob} m:=by
 refine⟨rfl,rfl,rfl,by simp,fun x _ hx=>⟨by simp[O6 (fun e=>hx e.symm)],rfl⟩,fun x i u h=> ?_,fun _=>ZJ _⟩;obtain⟨h1,h2,h3⟩:=Wz h;have hx: ¬b=x:=fun e=>by subst e;omega
 unfold hg;rw[Qn h1];unfold World.cell? at h2 ⊢;simp only[O6 hx]at h2 ⊢;exact h2
def Inv.setM [Dr] (hI:Inv num N w0 m0 T β0 σ a w m β ν) (s:Nat) {cs:Qh} {k:Blk} (hs:σ.bs[s]? =some cs) (hbm:β[s]? =some k/\k.mp=true) (hne:cs≠[]):
  ∃(es:SM) (clock:Nat) (xs:Qh),w.heap[k.b]? =some (.map es clock)/\cs= .undef:: xs/\(xs.length=es.size/\SJ es clock)/\
   (∀(i:Nat) (c:AV),xs[i]? =some c->∃(e:MapEntry) (k v:AV),es[i]? =some e/\c= .agg [k,v]/\Qd num β w m k e.key/\Qd num β w m v e.val)/\
   ∀(ys:Qh) (es2:SM) (clock2:Nat),(ys.length=es2.size/\SJ es2 clock2)->
    (∀(i:Nat) (c:AV),ys[i]? =some c->∃(e:MapEntry) (k v:AV),es2[i]? =some e/\c= .agg [k,v]/\Qd num β w m k e.key/\Qd num β w m v e.val)->
    Inv num N w0 m0 T β0 {σ with bs:=σ.bs.set s (.undef:: ys)} a {w with heap:=w.heap.setIfInBounds k.b (.map es2 clock2)} m β ν:=by
 obtain⟨es,clock,xs,h1,h2,h3,h4,h5,h6⟩:=(hI.boxes s cs k hs hbm.1 hne).2.1 hbm.2;refine⟨es,clock,xs,h1,h4,h5,h6,fun ys es2 clock2 hl hys=> ?_⟩;have hlt:s < σ.bs.length:=by
  rcases QR s σ.bs.length with h | h
  ·exact h
  ·rw[Q3 h]at hs;cases hs
 have hbl:k.b < w.heap.size:=(Pa.1 h1).1;have hS:=ZO.setMap (.map es2 clock2) h1 h2;refine hI.next hS (fun x hx hxb=>by subst hxb;exact(hI.lt _ _ h3).2) (Ge.refl β) (fun _=>False) (fun t=>t=s)
  (fun x t h _=>⟨fun e=> ?_,h⟩) (fun x t i h _=>⟨fun e=> ?_,h⟩) (fun x t h hn=>⟨fun e=> ?_,h⟩) (fun x t i h hn=>⟨fun e=> ?_,h⟩)
  (fun x p h=>by simpa using hI.lt x p h) (fun t hn=> .inl rfl) hI.out
  (fun t v hE hv=>hE.elim) (by simpa using hI.blen) (fun i hn=>by simp[Vs (fun e=>hn e.symm)]) (fun i cs2 b2 hE h7 h8=> ?_)
 ·subst e;rw[h3]at h;injection h with h;cases h
 ·subst e;rw[h3]at h;injection h with h;cases h
 ·subst e;rw[h3]at h;injection h with h;injection h with h;exact hn h.symm
 ·subst e;rw[h3]at h;injection h with h;cases h
 ·subst hE;rw[hbm.1]at h8;injection h8 with h8
  subst h8;simp only[Sj hlt]at h7;injection h7 with h7
  subst h7;refine fun _=>⟨fun(q:k.mp=false)=>(by rw[hbm.2]at q;cases q),fun _=>⟨es2,clock2,ys,by simp[hbl],h2,h3,rfl,hl,fun j c hc=> ?_⟩,fun(q:k.mp=false)=>(by rw[hbm.2]at q;cases q)⟩;obtain⟨e,x,v,g1,g2,g3,g4⟩:=hys j c hc;exact⟨e,x,v,g1,g2,Zc (Ge.refl β) hS.le x _ g3,Zc (Ge.refl β) hS.le v _ g4⟩
def Qnl [Dr] {t:TypeId} (hI:Inv num N w0 m0 T β0 σ a w m β ν) (ho:o.op= .makeMap t none)
  (he:Qi K .mkm σ=some (v,σ1)) (h:Aft num N w0 m0 T β0 σ1 a v fun u w'=>next (a.put o.dst u) w'):o.wp P a w next Q:=by
 simp only[Qi]at he;injection he with he
 injection he with h1 h2
 subst h1 h2;have hF:=hI.freshO (.map #[] 0) 0 .f;have hB:=hF.toBoxK (k:=⟨w.heap.size,0,true,0⟩) (cs:=[.undef]) (by simp[Yb])
  ⟨fun(q:true=false)=>(by cases q),fun _=>⟨#[],0,[],heap_alloc_new w _,by simp[m1],by simp[Yb],rfl,⟨rfl,rfl,fun i e h=>by simp at h⟩,fun i c hc=>by simp at hc⟩,fun(q:true=false)=>(by cases q)⟩
 refine Qr (u:= .map (some w.heap.size)) (w':=w.alloc (.map #[] 0)) (by simp[execOp,ho,show(Instr.makeMap t none).run P w= .ok (.map (some w.heap.size)) (w.alloc (.map #[] 0))from rfl]) (h _ _ _ _ _ hB ((QT rfl).2 ⟨?_,trivial⟩));simp only[Qd];exact⟨⟨w.heap.size,0,true,0⟩,⟨by rw[<- hI.blen];simp,rfl⟩,rfl⟩
def KR:=@List.drop_succ_cons
def K3:=@List.drop_zero
def Qnj [Dr] {s ok:Bool} {x i:AO} {z:AV} {t:TypeId} {x2 i2:Operand} (hI:Inv num N w0 m0 T β0 σ a w m β ν) (ho:o.op= .lookup t x2 i2 ok) (hL:lkT P s t z=true) (hx:okO num x x2=true) (hi:okO num i i2=true)
  (he:Qi K (.lkm s ok x i z) σ=some (v,σ1)) (h:Aft num N w0 m0 T β0 σ1 a v fun u w'=>next (a.put o.dst u) w'):o.wp P a w next Q:=by
 simp only[Qi]at he;split at he
 ·rename_i id hid;cases hbs:σ.bs[id]? with
  | none=>rw[hbs]at he;cases he
  | some cs=>
   rw[hbs]at he;simp only[QC]at he;split at he
   ·cases he
   ·rename_i hne;cases hf:Vc s (cs.drop 1) (val σ.env i)with
    | none=>rw[hf]at he;cases he
    | some r=>
     rw[hf]at he;simp only[QC]at he;split at he
     case isFalse=>cases he
     rename_i hyk;injection he with he
     injection he with h1 h2
     subst h1 h2;have hk: (val σ.env i).ok=true:=by
      have:PF s (val σ.env i)=true:=by
       generalize val σ.env i=q at hf;generalize cs.drop 1=xs at hf;cases xs with
       | nil=>
        simp only[Vc]at hf;split at hf
        ·assumption
        ·cases hf
       | cons c xs=>
        unfold Vc at hf;split at hf
        ·rename_i hh;cases hh
        ·split at hf
         ·rename_i hke;exact Un hke
         ·rename_i hke;exact Un hke
         ·cases hf
        ·cases hf
      rcases Lu this with⟨_,k,n,e⟩ | ⟨_,y,e⟩ <;> rw[e] <;> rfl
     have hix:=(hI.val hi hk).1;have hmx:=(hI.val hx (by rw[hid];rfl)).1;rw[hid]at hmx;simp only[Qd]at hmx;obtain⟨kb,hkb,hmv⟩:=hmx;obtain⟨es,clock,xs,g1,g2,g3,g4,_⟩:=hI.setM id hbs hkb hne;rw[g2]at hf;simp only[KR,K3]at hf;obtain⟨y,k1,k2⟩:=Qau (ok:=ok) hL g1 g3.1 g4 hix hf;refine Qr (u:=if ok then .tuple #[y,.bool r.isSome]else y) (w':=w) (by simp[execOp,ho,hmv,k1]) ?_;cases ok
     ·simp only[Z3,Zd];exact h _ w m β ν hI ((QT hyk).2 ⟨by rw[QU];exact k2,Yp _ _ _⟩)
     ·simp only[Zl];refine h _ w m β ν hI ((QT rfl).2 ⟨?_,trivial⟩);simp only;refine⟨_,rfl,rfl,?_⟩;simp only[X5];exact⟨⟨y,rfl,by rw[QU];exact k2⟩,⟨.bool r.isSome,by simp,by simp only[Qd]⟩,trivial⟩
 ·cases he
def Qnt [Dr] {s:Bool} {x k y:AO} {t:TypeId} {x2 k2 y2:Operand} (hI:Inv num N w0 m0 T β0 σ a w m β ν) (ho:o.op= .mapUpdate t x2 k2 y2) (hL:Qad P s t=true) (hx:okO num x x2=true) (hk:okO num k k2=true) (hy:okO num y y2=true)
  (he:Qi K (.upm s x k y) σ=some (v,σ1)) (h: ∀w' m' β' ν',Inv num N w0 m0 T β0 σ1 a w' m' β' ν'->v= .undef->next (a.put o.dst undef) w'):o.wp P a w next Q:=by
 simp only[Qi]at he;split at he
 ·rename_i id hid;cases hbs:σ.bs[id]? with
  | none=>rw[hbs]at he;cases he
  | some cs=>
   rw[hbs]at he;simp only[QC]at he;split at he
   ·cases he
   ·rename_i hne;simp only[not_or,Bool.not_eq_false]at hne;obtain⟨hne,hone⟩:=hne;cases hf:PW s (cs.drop 1) (val σ.env k) (val σ.env y).strip with
    | none=>rw[hf]at he;cases he
    | some ys=>
     rw[hf]at he;injection he with he
     injection he with h1 h2
     subst h1 h2;have hkk:PF s (val σ.env k)=true:=by
      generalize val σ.env k=q at hf;generalize (val σ.env y).strip=vv at hf;generalize cs.drop 1=xs at hf;cases xs with
      | nil=>
       simp only[PW]at hf;split at hf
       ·assumption
       ·cases hf
      | cons c xs=>
       unfold PW at hf;split at hf
       ·rename_i hh;cases hh
       ·split at hf
        ·rename_i hke;exact Un hke
        ·rename_i hke;exact Un hke
        ·cases hf
       ·cases hf
     have hko: (val σ.env k).ok=true:=by rcases Lu hkk with⟨_,k,n,e⟩ | ⟨_,y,e⟩ <;> rw[e] <;> rfl
     have hkr:=(hI.val hk hko).1;have hyr:=(hI.val hy (TD hone)).1;have hmx:=(hI.val hx (by rw[hid];rfl)).1;rw[hid]at hmx;simp only[Qd]at hmx;obtain⟨kb,hkb,hmv⟩:=hmx;obtain⟨es,clock,xs,g1,g2,g3,g4,hfin⟩:=hI.setM id hbs hkb hne;rw[g2]at hf;simp only[KR,K3]at hf;obtain⟨_,es2,clock2,r1,r2,r3⟩:=HB (x:=a.eval y2) hL g1 g3.1 g3.2 g4 hkr (by rw[QU];exact hyr) hf;refine TR (w':={w with heap:=w.heap.setIfInBounds kb.b (.map es2 clock2)}) (by simp[execOp,ho,hmv,r1]) (h _ m β ν (hfin ys es2 clock2 r2 (fun i c hc=>(r3 i c hc).1)) rfl)
 ·cases he
def I0 [Dr] {s:Bool} {d:TypeDesc} (hd:HW s d) {q:AV} {u:Value} (hq:Qd num β w m q u): ∀(xs:Qh) (es:List MapEntry) (i0:Nat) (v:AV),xs.length=es.length->
  (∀(i:Nat) (c:AV),xs[i]? =some c->∃e,es[i]? =some e/\BU num β w m c e)->Vc s xs q=some (some v)->
  ∃e,Instr.findNow d u es i0=some (some (i0+SX s xs q,e.val))/\es[SX s xs q]? =some e/\e.key=u/\Qd num β w m v e.val
 | [],es,i0,v,hl,_,h=>by
  simp only[Vc]at h;split at h <;> cases h
 | c:: xs,[],i0,v,hl,_,h=>by simp at hl
 | c:: xs,e:: es,i0,v,hl,hr,h=>by
  obtain⟨e1,he1,k,v0,rfl,hk,hv⟩:=hr 0 c rfl;simp only[Zt,QD]at he1;subst he1;simp only[Vc]at h;split at h
  ·rename_i hke;obtain⟨g1,g2⟩:=TY hd hke hq hk;injection h with h
   injection h with h
   subst h;refine⟨e,?_,by simp[SX,hke],g2 rfl,hv⟩;simp only[Instr.findNow,g1,SX,hke,Ty]
  ·rename_i hke;obtain⟨g1,g2⟩:=TY hd hke hq hk;obtain⟨e2,h1,h2,h3,h4⟩:=I0 hd hq xs es (i0+1) v (by simpa using hl) (fun i c hc=>by
    have:=hr (i+1) c (by simpa using hc);simpa using this) h
   refine⟨e2,?_,by simpa[SX,hke]using h2,h3,h4⟩;simp only[Instr.findNow,g1,SX,hke];rw[h1,show i0+1+SX s xs q=i0+ (SX s xs q+1) by omega]
  ·cases h
def AY {s:Bool} {xs:Qh} {q:AV} {r:WU} (h:Vc s xs q=some r):PF s q=true:=by
 cases xs with
 | nil=>
  simp only[Vc]at h;split at h
  ·assumption
  ·cases h
 | cons c xs=>
  unfold Vc at h;split at h
  ·rename_i hh;cases hh
  ·split at h
   ·rename_i hke;exact Un hke
   ·rename_i hke;exact Un hke
   ·cases h
  ·cases h
def Ml:=@Array.ext_getElem?
def Ct {es:SM} {j:Nat} {e:MapEntry} {u:Value} (h:es[j]? =some e) (hk:e.key=u):es.modify j (fun e=>{e with key:=u})=es:=by
 apply Ml;intro i;rw[TG];split
 ·rename_i hi;subst hi;rw[h];subst hk;rfl
 ·rfl
def VI:=@Array.getElem?_eq_none
def Qno [Dr] {s:Bool} {x k:AO} {z:AV} {t:TypeId} {x2 k2:Operand} (hI:Inv num N w0 m0 T β0 σ a w m β ν) (ho:o.op= .mapEntry t x2 k2) (hL:lkT P s t z=true) (hx:okO num x x2=true) (hk:okO num k k2=true)
  (he:Qi K (.mpe s x k z) σ=some (v,σ1)) (h:Aft num N w0 m0 T β0 σ1 a v fun u w'=>next (a.put o.dst u) w'):o.wp P a w next Q:=by
 simp only[Qi]at he;split at he
 ·rename_i id hid;cases hbs:σ.bs[id]? with
  | none=>rw[hbs]at he;cases he
  | some cs=>
   rw[hbs]at he;simp only[QC]at he;split at he
   ·cases he
   ·rename_i hne;cases hf:Vc s (cs.drop 1) (val σ.env k)with
    | none=>rw[hf]at he;cases he
    | some r=>
     rw[hf]at he;have hkb:=AY hf;have hko: (val σ.env k).ok=true:=by rcases Lu hkb with⟨_,k,n,e⟩ | ⟨_,y,e⟩ <;> rw[e] <;> rfl
     have hkr:=(hI.val hk hko).1;have hmx:=(hI.val hx (by rw[hid];rfl)).1;rw[hid]at hmx;simp only[Qd]at hmx;obtain⟨kb,hkb2,hmv⟩:=hmx;obtain⟨es,clock,xs,g1,g2,g3,g4,hfin⟩:=hI.setM id hbs hkb2 hne;rw[g2]at hf he;simp only[KR,K3]at hf he;unfold lkT at hL;split at hL
     case h_2=>cases hL
     rename_i kt et hm;simp only[Qo]at hL;obtain⟨d,hd,hK⟩:=Lv hL.1;have hce:=fun b=>PN (w:=w) hL.1 b 9999 (a.eval k2);have hr': ∀(i:Nat) (c:AV),xs[i]? =some c->∃e,es.toList[i]? =some e/\BU num β w m c e:=fun i c hc=>by
      obtain⟨e,k,v,h1,h2,h3,h4⟩:=g4 i c hc;exact⟨e,by simpa using h1,k,v,h2,h3,h4⟩
     cases r with
     | some r=>
      simp only[QS,Option.isSome_some,Zl,Sg,QD,QV]at he;obtain⟨rfl,rfl⟩:=he;obtain⟨e,q1,q2,q3,q4⟩:=I0 hK hkr xs es.toList 0 r (by simpa using g3.1) hr' hf;rw[Zk]at q1;have hfk:=UE (s:=s) (P:=P) (w:=w) hd q1;have q2':es[SX s xs (val σ.env k)]? =some e:=by simpa using q2
      have hb:=g3.2.2 _ e q2';have hsb:=N1 hkb hkr 10000;have hsm:=Ct q2' q3;have hst:w.heap.setIfInBounds kb.b (.map es clock)=w.heap:=by
       apply Ml;intro i;rw[Array.getElem?_setIfInBounds];split
       ·rename_i hi;subst hi;split
        ·exact g1.symm
        ·rename_i hlt;rw[VI (by omega)]
       ·rfl
      refine Qr (u:= .tuple #[e.val,goInt (SX s xs (val σ.env k))]) (w':=w) ?_ ?_
      ·simp[execOp,ho,hmv,Instr.mapEntry,run_underlying hm,Um g1,hce,hfk,q2',q3,hb,Instr.keyThatStays,hsb,hsm,SD _ g1,hst]
      ·refine h _ w m β ν hI ((QT rfl).2 ⟨?_,trivial⟩);simp only[Qd];refine⟨_,rfl,rfl,?_⟩;simp only[X5];exact⟨⟨e.val,rfl,by rw[QU];exact q4⟩,⟨goInt (SX s xs (val σ.env k)),by simp,by simp only[Qd,goInt]⟩,trivial⟩
     | none=>
      simp only[QS,KV,Z3,Zd,QD,QV]at he;obtain⟨rfl,rfl⟩:=he;obtain⟨z2,hz,hcz⟩:=Hj (w:=w) hL.2;have hzr:=(Zu (num:=num) (β:=β) (w:=w) (m:=m) (ν:=fun _=>none) hcz).1;rcases Kd hK hkr xs es.toList 0 none (by simpa using g3.1) hr' hf with⟨_,hn⟩ | ⟨v,j,x,h0,_⟩
      ·have hfk:=UE (s:=s) (P:=P) (w:=w) hd hn;refine Qr (u:= .tuple #[z2,goInt clock]) (w':={w with heap:=w.heap.setIfInBounds kb.b (.map (es.push {key:=a.eval k2,val:=z2,born:=clock}) (clock+1))}) ?_ ?_
       ·simp[execOp,ho,hmv,Instr.mapEntry,run_underlying hm,Um g1,hce,hfk,hz,SD _ g1]
       ·refine h _ _ m β ν (hfin (xs ++ [.agg [val σ.env k,z.strip]]) _ _ ⟨by simp[g3.1],g3.2.push _ rfl⟩ fun i c hc=> ?_) ((QT rfl).2 ⟨?_,trivial⟩)
        ·rw[OD]at hc;split at hc
         ·rename_i hi;obtain⟨e,k,v,h1,h2,h3,h4⟩:=g4 i c hc;refine⟨e,k,v,?_,h2,h3,h4⟩;rw[Mj,Qm (by have:=g3.1;omega)];exact h1
         ·rename_i hi;have h0:i - xs.length=0:=by
           rcases KT (i - xs.length)with h | h
           ·exact h
           ·rw[Q3 (by simp;omega)]at hc;cases hc
          rw[h0]at hc;simp only[Zt,QD]at hc;refine⟨{key:=a.eval k2,val:=z2,born:=clock},_,_,?_,hc.symm,hkr,by rw[QU];exact hzr⟩;rw[Mj,Qn (by have:=g3.1;omega)]
        ·simp only[Qd];refine⟨_,rfl,rfl,?_⟩;simp only[X5];refine⟨⟨z2,rfl,by rw[QU];exact(Zu (ν:=fun _=>none) hcz).1⟩,⟨goInt clock,by simp,?_⟩,trivial⟩;simp only[Qd,goInt];rw[g3.2.1,<- g3.1]
      ·cases h0
 ·cases he
def KS:=@Int.toNat_of_nonneg
def EP [Dr] {x st y:AV} {t:TypeId} {x2 s2 y2:Operand} (hI:Inv num N w0 m0 T β0 σ a w m β ν) (ho:o.op= .entryStore t x2 s2 y2) (hx:x.ok=true->Qd num β w m x (a.eval x2)) (hs:st.ok=true->Qd num β w m st (a.eval s2)) (hy:y.ok=true->Qd num β w m y (a.eval y2))
  (he:Sq σ x st y=some (v,σ1)) (h: ∀w' m' β' ν',Inv num N w0 m0 T β0 σ1 a w' m' β' ν'->v= .undef->next (a.put o.dst undef) w'):o.wp P a w next Q:=by
 unfold Sq at he;split at he
 ·rename_i id n;cases hbs:σ.bs[id]? with
  | none=>rw[hbs]at he;cases he
  | some cs=>
   rw[hbs]at he;simp only[QC]at he;split at he
   ·cases he
   ·rename_i hne;simp only[not_or,Bool.not_eq_false,Int.not_lt]at hne;obtain⟨hne,hone,hn0⟩:=hne;split at he
    ·rename_i k v0 hkv;injection he with he
     injection he with h1 h2
     subst h1 h2;have hyr:=hy (TD hone);have hsr:=hs rfl;simp only[Qd]at hsr;have hmx:=hx rfl;simp only[Qd]at hmx;obtain⟨kb,hkb,hmv⟩:=hmx;obtain⟨es,clock,xs,g1,g2,g3,g4,hfin⟩:=hI.setM id hbs hkb hne;rw[g2]at hkv h;simp only[KR,K3]at hkv h;obtain⟨e,k',v',e1,e2,e3,e4⟩:=g4 _ _ hkv;injection e2 with e2
     injection e2 with e5 e2
     subst e5;have hlt:n.toNat < es.size:=(Pa.1 e1).1;have hfi:=g3.2.find hlt;rw[KS hn0]at hfi;refine TR (w':={w with heap:=w.heap.setIfInBounds kb.b (.map (es.modify n.toNat fun e=>{e with val:=a.eval y2}) clock)}) ?_ ?_
     ·simp[execOp,ho,hmv,hsr,Instr.entryStore,Um g1,asInt,asIntOf,hfi,SD _ g1,Result.andThen]
     ·refine h _ m β ν (hfin _ _ _ ⟨by simp[g3.1],g3.2.modify _ _ fun _=>rfl⟩ fun i c hc=> ?_) trivial;rw[Y8]at hc;split at hc
      ·rename_i hi;subst hi;split at hc
       ·injection hc with hc
        exact⟨{e with val:=a.eval y2},k,y.strip,by simp[TG,e1],hc.symm,e3,by rw[QU];exact hyr⟩
       ·cases hc
      ·rename_i hi;obtain⟨e',k3,v3,q1,q2,q3,q4⟩:=g4 i c hc;refine⟨e',k3,v3,?_,q2,q3,q4⟩;rw[TG,Qm hi];exact q1
    ·cases he
 ·cases he
def Qm7 [Dr] {x st y:AO} {t:TypeId} {x2 s2 y2:Operand} (hI:Inv num N w0 m0 T β0 σ a w m β ν) (ho:o.op= .entryStore t x2 s2 y2) (hx:okO num x x2=true) (hs:okO num st s2=true) (hy:okO num y y2=true)
  (he:Qi K (.ens x st y) σ=some (v,σ1)) (h: ∀w' m' β' ν',Inv num N w0 m0 T β0 σ1 a w' m' β' ν'->v= .undef->next (a.put o.dst undef) w'):o.wp P a w next Q:=
 EP hI ho (fun hk=>(hI.val hx hk).1) (fun hk=>(hI.val hs hk).1) (fun hk=>(hI.val hy hk).1) he h
def Qie [Dr] {x st:AO} {n sz:Nat} {t:TypeId} {x2 s2:Operand} (hI:Inv num N w0 m0 T β0 σ a w m β ν) (ho:o.op= .entryStore t x2 s2 (.tmp n)) (hx:okO num x x2=true) (hs:okO num st s2=true)
  (he:Qi K (.ensf x st n sz) σ=some (v,σ1)) (h: ∀w' m' β' ν',Inv num N w0 m0 T β0 σ1 a w' m' β' ν'->v= .undef->next (a.put o.dst undef) w'):o.wp P a w next Q:=by
 simp only[Qi]at he;cases hf:Yk σ n sz with
 | none=>rw[hf]at he;cases he
 | some p=>
  rw[hf]at he;simp only[QC]at he;obtain⟨m',ν',h1,h2,h3,h4,h5⟩:=hI.frz (v:=p.1) (σ1:=p.2) hf;exact EP h1 ho (fun hk=>(h1.val hx hk).1) (fun hk=>(h1.val hs hk).1) (fun _=>h4) he h
def AZ (P:Program) (s:TypeId) (f off sz:Nat) (ag:Bool):Bool:=match P.underlying s with
 | some (.struct fs)=>(match fs[f]? with
  | some fl=>decide (fl.offset=off) && Z2 P fl.type sz && Ws P fl.type ag
  | none=>false)
 | _=>false
def QfL {t:TypeId} {off sz:Nat} {ag:Bool} (hs:Z2 P t sz=true) (ha:Ws P t ag=true) {us:Ze} {cs:Qh} (hrd:YY cs off sz ag=some v) (hl:us.size=cs.length)
  (hc: ∀(i:Nat) (c:AV),cs[i]? =some c->∃u,us[i]? =some u/\u.oneCell'=true/\Qd num β w m c u):
  ∃u,(part t us off).run P w= .ok u w/\v.ok=true/\Qd num β w m v u/\∀p,Zz w m ν p v u:=by
 unfold YY at hrd;split at hrd
 ·rename_i hle;cases ag
  ·simp only[Z3,Zd]at hrd;split at hrd
   ·cases hco:cs[off]? with
    | none=>rw[hco]at hrd;cases hrd
    | some c=>
     rw[hco]at hrd;simp only[QC]at hrd;split at hrd
     ·rename_i h1;injection hrd with hrd
      subst hrd;obtain⟨u,g1,g2,g3⟩:=hc off c hco;refine⟨u,?_,by rw[PT];exact TD h1,by rw[QU];exact g3,fun p=>Yp _ _ _⟩;simp only[part,Sem.run_bind,YX ha,Result.andThen_ok,Z3,Zd,g1,Sem.run_pure]
     ·cases hrd
   ·cases hrd
  ·simp only[Zl]at hrd;injection hrd with hrd
   subst hrd;refine⟨.agg (us.extract off (off+sz)),?_,rfl,?_,fun p=>trivial⟩
   ·simp only[part,Sem.run_bind,YX ha,ZH hs,Result.andThen_ok,Zl,Sem.run_pure]
   ·simp only[Qd];refine⟨_,rfl,by simp;omega,?_⟩;rw[ZQ];intro i c hci;obtain⟨d,hd,rfl⟩:=Zn hci;have hisz:i < sz:=by
     rcases QR i sz with h | h
     ·exact h
     ·rw[Q3 (by simp;omega)]at hd;cases hd
    rw[WB hisz,XJ]at hd;obtain⟨u,g1,g2,g3⟩:=hc _ d hd;refine⟨u,?_,g2,by rw[QU];exact g3⟩;simp only[Zk];rw[Array.getElem?_extract,Qn (by omega)];exact g1
 ·cases hrd
def Qnc [Dr] {off sz f:Nat} {ag:Bool} {x:AO} {t:TypeId} {x2:Operand} (hI:Inv num N w0 m0 T β0 σ a w m β ν) (ho:o.op= .field t x2 f) (hF:AZ P t f off sz ag=true) (hx:okO num x x2=true)
  (he:Qi K (.fld off sz ag x) σ=some (v,σ1)) (h:Aft num N w0 m0 T β0 σ1 a v fun u w'=>next (a.put o.dst u) w'):o.wp P a w next Q:=by
 simp only[Qi]at he;split at he
 ·rename_i cs hcs;cases hr:YY cs off sz ag with
  | none=>rw[hr]at he;cases he
  | some v2=>
   rw[hr]at he;injection he with he
   injection he with h1 h2
   subst h1 h2;have hv:=(hI.val hx (by rw[hcs];rfl)).1;rw[hcs]at hv;simp only[Qd]at hv;obtain⟨us,hu,hsz,hc⟩:=hv;rw[ZQ]at hc;unfold AZ at hF;split at hF
   ·rename_i fs hun;split at hF
    ·rename_i fl hfl;simp only[Qo,Qv]at hF;obtain⟨⟨rfl,hs⟩,ha⟩:=hF;obtain⟨u,g1,g2,g3,g4⟩:=QfL (P:=P) (w:=w) (num:=num) (β:=β) (m:=m) (ν:=ν) hs ha hr hsz (fun i c hi=>by simpa using hc i c hi);refine Qr (u:=u) (w':=w) ?_ (h.same hI g2 g3 (g4 _));simp[execOp,ho,Instr.field,run_underlying hun,hfl,hu,asAgg,g1]
    ·cases hF
   ·cases hF
 ·cases he
def mkT (P:Program) (t:TypeId) (bytes sz:Nat) (zs:Qh):Bool:=match P.underlying t with
 | some (.slice e)=>(match P.info? e with
  | some i=>decide (i.bytes=bytes) && decide (i.size=sz) && (match i.zero with
   | some z=>W9 zs z.cells.toList
   | none=>false)
  | none=>false)
 | _=>false
def OG:=@List.replicate_succ
def FT:=@Nat.mod_eq_of_lt
def Nt {α:Type} (zs:List α): ∀(n j:Nat) (c:α),(List.replicate n zs).flatten[j]? =some c->zs[j % zs.length]? =some c
 | 0,j,c,h=>by simp at h
 | n+1,j,c,h=>by
  rw[OG,Tw,OD]at h;split at h
  ·rename_i hj;rw[FT hj];exact h
  ·rename_i hj;have:=Nt zs n (j - zs.length) c h;rwa[<- Nat.mod_eq_sub_mod (by omega)]at this
def Mr:=@Int.natCast_mul
def KU:=@Array.getElem?_map
def KO:=@Array.getElem?_range
def Qnk [Dr] {bytes sz:Nat} {zs:Qh} {x:AO} {t:TypeId} {x2:Operand} (hI:Inv num N w0 m0 T β0 σ a w m β ν) (ho:o.op= .makeSlice t x2 x2) (hM:mkT P t bytes sz zs=true) (hx:okO num x x2=true)
  (he:Qi K (.mkg bytes sz zs x) σ=some (v,σ1)) (h:Aft num N w0 m0 T β0 σ1 a v fun u w'=>next (a.put o.dst u) w'):o.wp P a w next Q:=by
 simp only[Qi]at he;split at he
 ·rename_i k n hn;split at he
  ·rename_i hc;obtain⟨h0,hb,h63,hsz,hzl⟩:=hc;injection he with he
   injection he with h1 h2
   subst h1 h2;have hv:=(hI.val hx (by rw[hn];rfl)).1;rw[hn]at hv;simp only[Qd]at hv;unfold mkT at hM;split at hM
   ·rename_i e hun;split at hM
    ·rename_i i hi;simp only[Qo,Qv]at hM;obtain⟨⟨rfl,rfl⟩,hz⟩:=hM;split at hz
     ·rename_i z hzz;obtain⟨hl,hcs⟩:=YN _ _ hz;have hrun:=run_make w t e i z hun hi hzz k k n n h0 (Int.le_refl _) (by
       have: ((n.toNat* i.bytes:Nat):Int)<=140737488355328:=by omega
       rw[Mr,KS h0]at this;rw[Int.mul_comm];omega) (by omega)
      have hfl: (List.replicate n.toNat zs).flatten.length=n.toNat* i.size:=by simp[hzl]
      have hms:=size_madeCells z.cells (n.toNat* i.size);refine Qr (u:= .slice (some ⟨w.heap.size,0,none⟩) n.toNat n.toNat) (w':=w.alloc (.cells (madeCells z.cells (n.toNat* i.size)) e)) (by simp[execOp,ho,hv,hrun]) ?_;refine h _ _ _ _ _ (hI.addG (madeCells z.cells (n.toNat* i.size)) e _ (by rw[hms,hfl]) fun j c hj=> ?_) ((QT rfl).2 ⟨?_,trivial⟩)
      ·have hjl:j < n.toNat* i.size:=by
        rcases QR j (List.replicate n.toNat zs).flatten.length with h | h
        ·omega
        ·rw[Q3 h]at hj;cases hj
       have hj2:=Nt zs n.toNat j c hj;obtain⟨u,g1,g2⟩:=hcs _ c hj2;have hg:=Zu (num:=num) (β:=β) (w:=w) (m:=m) (ν:=ν) g2;refine⟨u,?_,hg.2.1,hg.1,fun p w' m' ν'=>(Zu (num:=num) (β:=β) (w:=w') (m:=m') (ν:=ν') g2).2.2 p⟩;have hzs:zs.length=z.cells.size:=by have h9:=hl;simp at h9;exact h9.symm
       have hlt:j % z.cells.size < z.cells.size:=Ps _ (by omega);rw[hzs]at g1;have g1':z.cells[j % z.cells.size]? =some u:=by simpa using g1
       rw[Wa hlt]at g1';injection g1' with g1'
       unfold madeCells;rw[KU,KO,Qn hjl];simp only[QS,QD];rw[Vl z.cells _ hlt];exact g1'
      ·simp only[Qd];exact⟨_,n.toNat,rfl,ZJ _,by unfold maxLen;omega,.inr ⟨⟨w.heap.size,(madeCells z.cells (n.toNat* i.size)).size,false,e⟩,⟨by rw[<- hI.blen];simp,rfl⟩,rfl,by simp[hms],hsz⟩⟩
     ·cases hz
    ·cases hM
   ·cases hM
  ·cases he
 ·cases he
def As (P:Program) (s t:TypeId):Bool:=match P.underlying s,P.underlying t with
 | some (.slice e),some .string=>(match P.underlying e with | some (.int .u8)=>true | _=>false)
 | _,_=>false
def FC:=@Option.bind_eq_some_iff
def Pd:=@Option.map_eq_some_iff
def Lh: ∀{xs:Qa} {l:Qu},Oh xs=some l->l.length=xs.length/\∀(i:Nat) (b:UInt8),l[i]? =some b->xs[i]? =some [.int .u8 (b.toNat:Int)]
 | [],l,h=>by
  simp only[Oh,QD]at h;subst h;exact⟨rfl,fun i b hb=>by simp at hb⟩
 | x:: r,l,h=>by
  simp only[Oh]at h;obtain⟨b,hb,h⟩:=FC.1 h;obtain⟨l2,hl2,rfl⟩:=Pd.1 h;obtain⟨e1,e2⟩:=Lh hl2;refine⟨by simp[e1],fun i c hc=> ?_⟩;cases i with
  | succ i=>simpa using e2 i c (by simpa using hc)
  | zero=>
   simp only[Zt,QD]at hc;subst hc;unfold QcI at hb;split at hb
   ·rename_i n;split at hb
    ·rename_i hn;simp only[QD]at hb;subst hb;have: ((UInt8.ofNat n.toNat).toNat:Int)=n:=by
      have h1: (UInt8.ofNat n.toNat).toNat=n.toNat % 256:=by simp
      rw[h1];omega
     rw[this];rfl
    ·cases hb
   ·cases hb
def Rp:=@Nat.mul_one
def Qic [Dr] {x:AO} {x':Operand} {t t2:TypeId} (hI:Inv num N w0 m0 T β0 σ a w m β ν) (ho:o.op= .convert t t2 x') (ht:As P t t2=true) (hx:okO num x x'=true)
  (he:Qi K (.bstr x) σ=some (v,σ1)) (h:Aft num N w0 m0 T β0 σ1 a v fun u w'=>next (a.put o.dst u) w'):o.wp P a w next Q:=by
 simp only[Qi]at he;split at he
 ·rename_i ow xs hb;obtain⟨s,hs,he⟩:=Pd.1 he;injection he with h1 h2
  subst h1 h2;obtain⟨e1,e2⟩:=Lh hs;have g1:=(hI.val hx (by rw[hb];rfl)).1;rw[hb]at g1;simp only[Qd]at g1;obtain⟨A,len,cap,hA,hl,hlc,hcm,hcase⟩:=g1;unfold As at ht;split at ht
  ·rename_i e hu1 hu2;split at ht
   ·rename_i hu3;refine Qr (u:= .string ⟨s.toArray⟩) (w':=w) ?_ (h.same hI rfl (by simp only[Qd]) trivial);simp only[execOp,ho,Sem.run_bind,Sem.run_pure];rw[hA];rcases hcase with rfl | ⟨b,o2,rfl,hE⟩
    ·simp only[Oh,QD]at hs;subst hs;simp only[Yz]at hl;subst hl;cases A with
     | none=>
      have:=run_convert_bytes_string w t t2 e none 0 cap hu1 hu3 hu2;simp only[this,Conv.bytesToString,Sem.run_pure,Result.andThen_ok];rfl
     | some A=>
      have:=run_convert_bytes_back w t t2 e A cap [] hu1 hu3 hu2 (fun j hj=>by simp at hj);simp only[Yz]at this;simp only[this,Result.andThen_ok]
    ·have:=run_convert_bytes_back w t t2 e ⟨b,o2,none⟩ cap s hu1 hu3 hu2 (fun j hj=>by
      have hj2:=e2 j s[j] (Zv hj);rw[Xr]at hE;obtain⟨_,hE2⟩:=hE j _ hj2;simp only[YV,Qd,Rp]at hE2;obtain⟨⟨u,hu,_,hv⟩,_⟩:=hE2;subst hv;rw[Ym];exact(Wz hu).2.1)
     rw[e1,hl]at this;simp only[this,Result.andThen_ok]
   ·cases ht
  ·cases ht
 ·cases he
def Qnn [Dr] {bytes sz:Nat} {zs:Qh} {x:AO} {t:TypeId} {x2:Operand} (hI:Inv num N w0 m0 T β0 σ a w m β ν) (ho:o.op= .makeSlice t x2 x2) (hM:mkT P t bytes sz zs=true) (hx:okO num x x2=true)
  (he:Qi K (.mkz bytes sz zs x) σ=some (v,σ1)) (h:Aft num N w0 m0 T β0 σ1 a v fun u w'=>next (a.put o.dst u) w'):o.wp P a w next Q:=by
 simp only[Qi]at he;split at he
 ·rename_i k n hn;split at he
  ·rename_i hc;obtain⟨h0,hb,h63,hsz,hzl⟩:=hc;injection he with he
   injection he with h1 h2
   subst h1 h2;have hv:=(hI.val hx (by rw[hn];rfl)).1;rw[hn]at hv;simp only[Qd]at hv;unfold mkT at hM;split at hM
   ·rename_i e hun;split at hM
    ·rename_i i hi;simp only[Qo,Qv]at hM;obtain⟨⟨rfl,rfl⟩,hz⟩:=hM;split at hz
     ·rename_i z hzz;obtain⟨hl,hcs⟩:=YN _ _ hz;have hrun:=run_make w t e i z hun hi hzz k k n n h0 (Int.le_refl _) (by
       have: ((n.toNat* i.bytes:Nat):Int)<=140737488355328:=by omega
       rw[Mr,KS h0]at this;rw[Int.mul_comm];omega) (by omega)
      have hms:=size_madeCells z.cells (n.toNat* i.size);refine Qr (u:= .slice (some ⟨w.heap.size,0,none⟩) n.toNat n.toNat) (w':=w.alloc (.cells (madeCells z.cells (n.toNat* i.size)) e)) (by simp[execOp,ho,hv,hrun]) ?_;refine h _ _ _ β _ (hI.fresh (madeCells z.cells (n.toNat* i.size)) e (n.toNat* i.size) .f) ((QT rfl).2 ⟨?_,trivial⟩);simp only[Qd];refine⟨_,_,_,rfl,by simp,ZJ _,by unfold maxLen;omega,.inr ⟨w.heap.size,0,rfl,?_⟩⟩;rw[Xr];intro i2 x hx2;have hil:i2 < n.toNat:=by
       rcases QR i2 (List.replicate n.toNat zs).length with h | h
       ·simpa using h
       ·rw[Q3 h]at hx2;cases hx2
      rw[FB,Qn hil]at hx2;injection hx2 with hx2
      subst hx2;refine⟨hzl,?_⟩;rw[ZQ];intro j c hj;have hjl:j < i.size:=by
       rcases QR j zs.length with h | h
       ·omega
       ·rw[Q3 h]at hj;cases hj
      obtain⟨u,g1,g2⟩:=hcs _ c hj;have hg2:=Zu (num:=num) (β:=β) (w:=w) (m:=m) (ν:=ν) g2;have hzs:zs.length=z.cells.size:=by have h9:=hl;simp at h9;exact h9.symm
      have hle: (i2+1)*i.size<=n.toNat* i.size:=Z5 _ hil;rw[Vw]at hle;refine⟨u,?_,hg2.2.1,Zc (Ge.refl β) (ZO.alloc (fun _=>False) w m _ e _).le c u hg2.1⟩;unfold hg;rw[Qn (by simp[m1];omega),cell_of_row _ _ _ _ e (0,0) (heap_alloc_new w _)];have hlt:j < z.cells.size:=by omega
      have g1':z.cells[j]? =some u:=by simpa using g1
      rw[Wa hlt]at g1';injection g1' with g1'
      unfold madeCells;rw[KU,KO,Qn (by omega)];simp only[QS,QD];have hmod: (0+i2*i.size+j) % z.cells.size=j:=by
       rw[Zk,<- hzs,hzl,Nat.mul_comm,Nat.mul_add_mod,FT hjl]
      rw[hmod,Vl z.cells _ hlt];exact g1'
     ·cases hz
    ·cases hM
   ·cases hM
  ·cases he
 ·cases he
def Cj (sz:Nat): ∀(vs:Qh) (xs:Qa),Xy sz vs=some xs->xs.length=vs.length:=by
 intro vs
 induction vs with
 | nil=>intro xs h;simp[Xy]at h;subst h;rfl
 | cons v vs ih=>
  intro xs h;simp only[Xy]at h;split at h
  ·rename_i e es h1 h2;split at h
   ·injection h with h;subst h;simp[ih es h2]
   ·cases h
  ·cases h
def Qdq {num:Y0}: ∀(parts:Ug) (ps:SN),Xl num parts ps=true->parts.length=ps.length:=by
 intro parts
 induction parts with
 | nil=>intro ps hp;cases ps <;> simp[Xl]at hp ⊢
 | cons x xs ih=>intro ps hp;cases ps with
  | nil=>simp[Xl]at hp
  | cons y ys=>simp only[Xl,Qo]at hp;simp[ih ys hp.2]
def Qnm [Dr] {bytes sz:Nat} {zs:Qh} {x:AO} {t:TypeId} {x2:Operand} (hI:Inv num N w0 m0 T β0 σ a w m β ν) (ho:o.op= .makeSlice t x2 x2) (hM:mkT P t bytes sz zs=true) (hx:okO num x x2=true)
  (he:Qi K (.mkp bytes sz zs x) σ=some (v,σ1)) (h:Aft num N w0 m0 T β0 σ1 a v fun u w'=>next (a.put o.dst u) w'):o.wp P a w next Q:=by
 simp only[Qi]at he;split at he
 ·rename_i k n hn;split at he
  ·rename_i hc;obtain⟨h0,hb,h63,hsz,hzl⟩:=hc;injection he with he
   injection he with h1 h2
   subst h1 h2;have hv:=(hI.val hx (by rw[hn];rfl)).1;rw[hn]at hv;simp only[Qd]at hv;unfold mkT at hM;split at hM
   ·rename_i e hun;split at hM
    ·rename_i i hi;simp only[Qo,Qv]at hM;obtain⟨⟨rfl,rfl⟩,hz⟩:=hM;split at hz
     ·rename_i z hzz;obtain⟨hl,hcs⟩:=YN _ _ hz;have hrun:=run_make w t e i z hun hi hzz k k n n h0 (Int.le_refl _) (by
       have: ((n.toNat* i.bytes:Nat):Int)<=140737488355328:=by omega
       rw[Mr,KS h0]at this;rw[Int.mul_comm];omega) (by omega)
      have hfl: (List.replicate n.toNat zs).flatten.length=n.toNat* i.size:=by simp[hzl]
      have hms:=size_madeCells z.cells (n.toNat* i.size);have hS:=ZO.alloc (fun _=>False) w m (madeCells z.cells (n.toNat* i.size)) e 0;refine Qr (u:= .slice (some ⟨w.heap.size,0,none⟩) n.toNat n.toNat) (w':=w.alloc (.cells (madeCells z.cells (n.toNat* i.size)) e)) (by simp[execOp,ho,hv,hrun]) ?_;refine h _ _ _ β _ (hI.fresh (madeCells z.cells (n.toNat* i.size)) e 0 .f) ?_;simp only[Uf];refine⟨w.heap.size,n.toNat,rfl,⟨by unfold maxLen;omega,hsz,hfl.symm⟩,_,e,heap_alloc_new w _,⟨by rw[hms,hfl],ZJ _⟩,by simp[m1],by simp[Yb],fun j c hj=> ?_⟩;have hjl:j < n.toNat* i.size:=by
       rcases QR j (List.replicate n.toNat zs).flatten.length with h | h
       ·omega
       ·rw[Q3 h]at hj;cases hj
      have hj2:=Nt zs n.toNat j c hj;obtain⟨u,g1,g2⟩:=hcs _ c hj2;have hg:=Zu (num:=num) (β:=β) (w:=w) (m:=m) (ν:=ν) g2;refine⟨u,?_,hg.2.1,Zc (Ge.refl β) hS.le c u hg.1,(Zu (num:=num) (β:=β) (w:=w.alloc (.cells (madeCells z.cells (n.toNat* i.size)) e)) (m:=m1 m w.heap.size 0) (ν:=Yb ν w.heap.size .f) g2).2.2 _⟩;have hzs:zs.length=z.cells.size:=by have h9:=hl;simp at h9;exact h9.symm
      have hlt:j % z.cells.size < z.cells.size:=Ps _ (by omega);rw[hzs]at g1;have g1':z.cells[j % z.cells.size]? =some u:=by simpa using g1
      rw[Wa hlt]at g1';injection g1' with g1'
      unfold madeCells;rw[KU,KO,Qn hjl];simp only[QS,QD];rw[Vl z.cells _ hlt];exact g1'
     ·cases hz
    ·cases hM
   ·cases hM
  ·cases he
 ·cases he
def Inv.setSlot [Dr] (hI:Inv num N w0 m0 T β0 σ a w m β ν) {n:Nat} {c:AV} {u:Value} (hn:a.tmps[n]? =some u) (hN:n < N) (hs:Uf num β w m ν (.s n) (fun i=> .c n i) c u):
  Inv num N w0 m0 T β0 {σ with env:=upd σ.env n c} a w m β ν:=by
 refine⟨hI.defers,hI.size,fun t ht=> ?_,fun t x hx=> ?_,hI.blen,hI.boxes,hI.lt,hI.step,hI.ge⟩
 ·simp only[upd];rw[Qm (by omega)];exact hI.out t ht
 ·simp only[upd];split
  ·rename_i e;subst e;rw[hn]at hx;injection hx with hx
   subst hx;exact hs
  ·exact hI.slots t x hx
def Qif [Dr] {n:Nat} (hI:Inv num N w0 m0 T β0 σ a w m β ν) (ho:o.op= .extract (.tmp n) 0)
  (he:Qi K (.extm n) σ=some (v,σ1)) (h:Aft num N w0 m0 T β0 σ1 a v fun u w'=>next (a.put o.dst u) w'):o.wp P a w next Q:=by
 simp only[Qi]at he;split at he
 ·rename_i sz xs vs hcs;injection he with he
  injection he with h1 h2
  subst h1 h2;obtain⟨hN,h2⟩:=hI.at_ (n:=n) (by rw[hcs];simp);have h3:=hI.slots n _ h2;rw[hcs,QT rfl]at h3;obtain⟨hrep,hown⟩:=h3;have hT:=hI.takeSlot n;have hown2:=VX (θ:=mv (.s n) .f) hown;rw[show mv (.s n) .f (.s n)= .f by simp[mv]]at hown2;have hrep2:Qd num β w m (.tup (.sl false sz xs:: vs)) (a.tmps.getD n undef):=(QU (.otup sz xs vs) _).2 hrep;have hS:=hT.setSlot (n:=n) (c:= .tup (.sl false sz xs:: vs)) h2 hN ((QT rfl).2 ⟨hrep2,trivial⟩);have hup: (upd (upd σ.env n .undef) n (.tup (.sl false sz xs:: vs)))=upd σ.env n (.tup (.sl false sz xs:: vs)):=by
   funext j;simp only[upd];split <;> rfl
  simp only[hup]at hS;simp only[Qd]at hrep;obtain⟨us,e1,e2,⟨u0,e3,e4⟩,e5⟩:=hrep;obtain⟨us',u0',f1,f2,f3⟩:=hown2;have hus:us'=us:=by rw[e1]at f1;injection f1 with f1;exact f1.symm
  subst hus;have hu0:u0'=u0:=by rw[e3]at f2;injection f2 with f2;exact f2.symm
  subst hu0;have hev:a.eval (.tmp n)= .tuple us':=e1;refine Qr (u:=u0') (w':=w) (by simp[execOp,ho,hev,Instr.extract,e3]) (h _ _ _ _ _ hS ((QT rfl).2 ⟨?_,f3⟩));simp only[Qd];exact e4
 ·cases he
def CO {c:AV} (h:c.noOwn=true) (p:Pl) (w:World) (m:ZF) (ν:Own) (u:Value):Zz w m ν p c u:=by
 cases c with
 | sl o sz xs=>
  cases o with
  | false=>exact trivial
  | true=>simp[AV.noOwn]at h
 | otup _ _ _=>simp[AV.noOwn]at h
 | _=>exact trivial
def Qe9 [Dr] {n:Nat} {zs:Qh} {parts:List (Nat×Nat×AO)} {ps:List (Nat×Operand)} {t:TypeId} (hI:Inv num N w0 m0 T β0 σ a w m β ν) (ho:o.op= .build t ps.toArray)
  (ht:DQ P num t zs parts ps=true)
  (he:Qi K (.mkstP n zs parts) σ=some (v,σ1)) (h:Aft num N w0 m0 T β0 σ1 a v fun u w'=>next (a.put o.dst u) w'):o.wp P a w next Q:=by
 simp only[Qi]at he;split at he
 ·rename_i sz cs hcs;split at he
  ·rename_i hno;obtain⟨hN,h2⟩:=hI.at_ (n:=n) (by rw[hcs];simp);have h3:=hI.slots n _ h2;rw[hcs]at h3;obtain⟨b,k,hu,⟨hk1,hk2,hk3⟩,cur,e,g1,g2,g3,g4,g5⟩:=h3;have hT:=hI.takeSlot n;have hν:Yg ν (mv (.s n) .f) b=some .f:=by unfold Yg mv;rw[g4];simp
   have hB:=hT.toBox (cs:=cs) g1 hν g3 (by omega) (fun i c hc=>by
    obtain⟨u,q1,q2,q3,_⟩:=g5 i c hc;refine⟨u,q1,q2,q3,fun p w' m' ν'=> ?_⟩;have hc2:=XK.1 hno c (WC hc);exact CO hc2 p w' m' ν' u)
   have hdiv:cs.length / sz=k:=by rw[<- hk3,Nat.mul_div_cancel _ hk2]
   have hG:=hB.setSlot (n:=n) (c:= .gs σ.bs.length 0 sz (cs.length / sz)) h2 hN ((QT rfl).2 ⟨by
    simp only[Qd];refine⟨some ⟨b,0,none⟩,k,by rw[hdiv];exact hu,by rw[hdiv];exact ZJ _,hk1,.inr ⟨⟨b,cur.size,false,e⟩,⟨?_,rfl⟩,rfl,?_,hk2⟩⟩
    ·rw[<- hI.blen,YZ]
    ·simp only[Zk];rw[hk3,g2.1],trivial⟩)
   have hup: (upd (upd σ.env n .undef) n (.gs σ.bs.length 0 sz (cs.length / sz)))=upd σ.env n (.gs σ.bs.length 0 sz (cs.length / sz)):=by
    funext j;simp only[upd];split <;> rfl
   simp only[hup]at hG;cases hr:VQ zs (parts.map fun p=>(p.1,p.2.1,val (upd σ.env n (.gs σ.bs.length 0 sz (cs.length / sz))) p.2.2))with
   | none=>rw[hr]at he;cases he
   | some c=>
    rw[hr]at he;injection he with he
    injection he with h1 h2
    subst h1 h2;refine Bv (K:=K) (v:= .agg c) (σ1:={env:=upd σ.env n (.gs σ.bs.length 0 sz (cs.length / sz)),bs:=σ.bs ++ [cs]}) hG ho ht (by simp only[Qi,hr];rfl) fun u w' m' β' ν' k1 k2=> ?_;have hT2:=k1.takeSlot n;have hup2: (upd (upd σ.env n (.gs σ.bs.length 0 sz (cs.length / sz))) n .undef)=upd σ.env n .undef:=by
     funext j;simp only[upd];split <;> rfl
    simp only[hup2]at hT2;exact h u w' m' β' _ hT2 ((QT rfl).2 ⟨k2.1,trivial⟩)
  ·cases he
 ·cases he
def Qis [Dr] {sz:Nat} {parts:Ug} {ps:SN} {t:TypeId} (hI:Inv num N w0 m0 T β0 σ a w m β ν) (ho:o.op= .buildSlice t ps.length (ps.zipIdx.map fun p=>(p.2,p.1)).toArray)
  (ht:RM P t sz ps.length=true) (hp:Xl num parts ps=true)
  (he:Qi K (.mksg sz parts) σ=some (v,σ1)) (h:Aft num N w0 m0 T β0 σ1 a v fun u w'=>next (a.put o.dst u) w'):o.wp P a w next Q:=by
 simp only[Qi]at he;cases hr:Xy sz (parts.map (val σ.env))with
 | none=>rw[hr]at he;cases he
 | some xs=>
  rw[hr]at he;injection he with he
  injection he with h1 h2
  subst h1 h2;have hL:=Qdq parts ps hp;have hX:xs.length=ps.length:=by rw[Cj _ _ _ hr];simpa using hL
  unfold RM at ht;split at ht
  ·rename_i e hu;simp only[Qo,Qv]at ht;obtain⟨⟨⟨ht1,ht2⟩,ht3⟩,ht4⟩:=ht;split at ht2
   ·rename_i i hi;obtain⟨z,hz⟩:=KH.1 ht2;have hsz:i.size=sz:=by unfold Z2 at ht1;rw[hi]at ht1;simpa using ht1
    obtain⟨zc,hzc⟩: ∃zc:Ze,zc=(if ps.length*sz=0 then #[]else z.cells):=⟨_,rfl⟩;obtain⟨cells',f1,f2,_,f4⟩:=Nr hI sz ps.length parts ps 0 ((Array.range (ps.length*sz)).map (zc[· % zc.size]!)) xs hp hr (by simp) (by omega);have hE:Y5 num β w m xs (fun i=>cells'[i]?) 0 sz:=by
     rw[Xr];intro i2 x hx;obtain⟨g1,g2⟩:=f4 i2 x hx;refine⟨g1,?_⟩;rw[ZQ];intro j c hc;obtain⟨u,k1,k2,k3⟩:=g2 j c hc;refine⟨u,?_,k2,k3⟩;rw[Zk]at k1 ⊢;exact k1
    refine Qr (u:= .slice (some ⟨w.heap.size,0,none⟩) ps.length ps.length) (w':=w.alloc (.cells cells' e)) ?_ ?_
    ·have hps: (Array.map (fun x:Nat×Operand=>(x.fst,a.eval x.snd)) (ps.zipIdx.map fun p=>(p.2,p.1)).toArray).toList=(ps.zipIdx 0).map fun p=>(p.2,a.eval p.1):=by
      simp[Mw,Y1]
     simp only[execOp,ho,Instr.buildSlice,Sem.run_bind,run_underlying hu,Result.andThen_ok,ZH ht1];rw[Qm (by omega)];by_cases h0:ps.length*sz=0
     ·rw[Qn h0]at hzc;simp only[h0,Zl,Sem.run_bind,Sem.run_pure,Result.andThen_ok,hps];rw[hzc,h0]at f1;rw[f1];simp[newRow]
     ·rw[Qm h0]at hzc;simp only[h0,Zd,Sem.run_pure,Sem.run_bind,Result.andThen_ok,zeroValue,typeInfo,run_program,hi,hz,hps];rw[hzc]at f1;rw[f1];simp[newRow]
    ·refine h _ _ _ _ _ (hI.addG cells' e _ (by rw[f2,V1 hE,hX]) fun j c hj=> ?_) ((QT rfl).2 ⟨?_,trivial⟩)
     ·obtain⟨u,g1,g2,g3,g4⟩:=Rk hE j c hj;exact⟨u,by simpa using g1,g2,g3,g4⟩
     ·simp only[Qd];have:ps.length<=2 ^ 24:=Uu (Oz _ ht4) ht3;exact⟨_,ps.length,by rw[hX],by omega,by unfold maxLen;omega,.inr ⟨⟨w.heap.size,cells'.size,false,e⟩,⟨by rw[<- hI.blen];simp,rfl⟩,rfl,by simp[f2],ht4⟩⟩
   ·cases ht2
  ·cases ht
def Qin [Dr] {s q off sz fo fz:Nat} {t:TypeId} (hI:Inv num N w0 m0 T β0 σ a w m β ν) (ho:o.op= .load t (.tmp q)) (hs:Z2 P t sz=true) (ha:Ws P t true=true)
  (hp:U6 a q s off\/(q=s/\off=0)) (he:Qi K (.ldfz s off sz fo fz) σ=some (v,σ1)) (h:Aft num N w0 m0 T β0 σ1 a v fun u w'=>next (a.put o.dst u) w'):o.wp P a w next Q:=by
 simp only[Qi]at he;split at he
 ·rename_i cs hcs;split at he
  ·rename_i id of sz1 k hfo;obtain⟨b,cur,e,_,hq,hb,hz,hc⟩:=hI.box_at hcs hp;obtain⟨uf,f1,f2,f3,_⟩:=hc fo _ hfo;have hf3:=f3;simp only[Qd]at f3;obtain⟨A,cap,hu,q1,q2,q3⟩:=f3;have hfol:fo < cs.length:=by
    rcases QR fo cs.length with h | h
    ·exact h
    ·rw[Q3 h]at hfo;cases hfo
   split at he
   ·rename_i hcond;obtain⟨rfl,hsz,hk0⟩:=hcond;cases hbs:σ.bs[id]? with
    | none=>rw[hbs]at he;cases he
    | some c2=>
     rw[hbs]at he;simp only[QC]at he;split at he
     ·rename_i hl;cases hr:YY (cs.set fo (.sl false sz1 (ZX c2 of sz1 k))) off sz true with
      | none=>rw[hr]at he;cases he
      | some v2=>
       rw[hr]at he;injection he with he
       injection he with h1 h2
       subst h1 h2;rcases q3 with q3 | ⟨kb,q3,rfl,q4,_⟩
       ·exact absurd q3.1 hk0
       ·have hkm:0 < k*sz1:=Si (Mk hk0) hsz;have hne:c2≠[]:=fun e=>by rw[e]at hl;simp only[Yz]at hl;omega
        obtain⟨cur2,e2,p1,p2,p3,p4,p5⟩:=(hI.boxes id c2 kb hbs q3.1 hne).1 q3.2;obtain⟨hK,hle⟩:=(hI.takeCell s fo hcs).kill (id:=id) (q:=of+k*sz1) hbs q3 hne;obtain⟨u,g1,g2,g3,g4⟩:=Vi (w:=w) (num:=num) (β:=β) (m:=m1 m kb.b (of+k*sz1)) (ν:=Yb (Yg ν (mv (.c s fo) .f)) kb.b .f) (o:=0) (b:=b) hs ha hr (fun j c hj=>by
         rw[Y8]at hj;split at hj
         ·rename_i hje;subst hje
          ·simp only[QD]at hj;subst hj;refine⟨uf,by rw[Zk,cell_of_row w b fo cur e (0,0) hb];exact f1,f2,?_⟩;simp only[Qd];refine⟨_,k,cap,hu,WG _ _ _ _,q1,q2,.inr ⟨kb.b,of,rfl,?_⟩⟩;rw[Xr];intro i x hx;obtain⟨hi,rfl⟩:=Sn hx;have hi2:i*sz1+sz1<=k*sz1:=by rw[<- Vw];exact Z5 _ hi
           refine⟨by simp;omega,?_⟩;rw[ZQ];intro j c hc;obtain⟨d,hd,rfl⟩:=Zn hc;rw[VJ]at hd;split at hd
           ·rename_i hj;rw[XJ]at hd;obtain⟨u,r1,r2,r3,_⟩:=p5 _ d hd;refine⟨u,?_,r2,by rw[QU];exact Zc (Ge.refl β) hle d u r3⟩;unfold hg m1;rw[Qn rfl,Qn (by omega),cell_of_row w kb.b _ cur2 e2 (0,0) p1];exact r1
           ·cases hd
         ·obtain⟨u,c1,c3,c4,_⟩:=hc j c hj;exact⟨u,by rw[Zk,cell_of_row w b j cur e (0,0) hb];exact c1,c3,Zc (Ge.refl β) hle c u c4⟩)
        rw[Zk]at g1;refine Qr (u:=u) (w':=w) ?_ (h u w _ β _ hK ((QT g2).2 ⟨g3,g4 _⟩));simp only[execOp,ho,Instr.loadAt,hq,Instr.sureAddr,Sem.run_bind,Sem.run_pure,Result.andThen_ok,g1]
     ·cases he
   ·split at he
    ·rename_i hk0;subst hk0;cases hr:YY (cs.set fo (.sl false fz [])) off sz true with
     | none=>rw[hr]at he;cases he
     | some v2=>
      rw[hr]at he;injection he with he
      injection he with h1 h2
      subst h1 h2;obtain⟨u,g1,g2,g3,g4⟩:=Vi (w:=w) (num:=num) (β:=β) (m:=m) (ν:=ν) (o:=0) (b:=b) hs ha hr (fun j c hj=>by
       rw[Y8]at hj;split at hj
       ·rename_i hje;subst hje
        ·simp only[QD]at hj;subst hj;refine⟨uf,by rw[Zk,cell_of_row w b fo cur e (0,0) hb];exact f1,f2,?_⟩;simp only[Qd];exact⟨_,0,cap,hu,rfl,q1,q2,.inl trivial⟩
       ·obtain⟨u,c1,c3,c4,_⟩:=hc j c hj;exact⟨u,by rw[Zk,cell_of_row w b j cur e (0,0) hb];exact c1,c3,c4⟩)
      rw[Zk]at g1;refine Qr (u:=u) (w':=w) ?_ (h u w m β ν hI ((QT g2).2 ⟨g3,g4 _⟩));simp only[execOp,ho,Instr.loadAt,hq,Instr.sureAddr,Sem.run_bind,Sem.run_pure,Result.andThen_ok,g1]
    ·cases he
  ·cases he
 ·cases he
end
end Go.Am
