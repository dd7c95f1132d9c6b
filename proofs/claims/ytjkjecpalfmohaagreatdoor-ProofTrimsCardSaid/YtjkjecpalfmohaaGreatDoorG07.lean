/-
  AmB, Am12.
-/
import Derived.Test.YtjkjecpalfmohaaGreatDoorG06
import Derived.Lib.AppendStr
import Derived.Lib.UnsafeStr
set_option linter.all false
namespace Go.Am
open Go.Lib
section
variable {P:Program} {num:Nat->Option Nat} {β:List Blk} {w:World} {m:Nat->Nat} {ν:Own} {N:Nat} {w0:World} {m0:Nat->Nat} {T:Nat->Prop} {β0:List Blk} {σ σ1:St} {a:Act} {o:Oper} {next:Act->World->Prop} {Q:Exit->Act->World->Prop} {K:Yy} {v:AV}
def QbW (P:Program) (t:TypeId):Bool:=match P.underlying t with
 | some .string=>true
 | _=>false
def GE {t t2 ty e:TypeId} {i:TypeInfo} {base:Tb} {n cap:Nat} (ht:P.underlying t=some (.slice e)) (hu:P.underlying t2=some .string) (hi:P.info? e=some i) (hn:n<=cap) {s:ByteArray} (hs:s.size=0):
  (Builtin.append_ #[t,t2] ty #[.slice base n cap,.string s]).run P w= .ok (.slice base n cap) w:=by
 have hf:=run_firstCells_string (P:=P) w i.size s;have hc:strCells s=[]:=YX (by rw[strCells_length];exact hs);rw[hs,hc]at hf;cases base <;> simp[Builtin.append_,run_underlying ht,run_underlying hu,sizeOf,typeInfo,hi,Builtin.lenOf,hs,hn,hf,storeCells]
def BB {t t2 ty e e2:TypeId} {i:TypeInfo} {g sLen sCap:Nat} {cur:Zg} {s:ByteArray} (ht:P.underlying t=some (.slice e)) (hu:P.underlying t2=some .string) (hi:P.info? e=some i) (hs1:i.size=1)
  (hg:w.heap[g]? =some (.cells cur e2 (0,0))) (hroom:sLen+s.size<=sCap) (hfit:sLen*i.size+ (strCells s).length<=cur.size):
  (Builtin.append_ #[t,t2] ty #[.slice (some ⟨g,0,none⟩) sLen sCap,.string s]).run P w=
   .ok (.slice (some ⟨g,0,none⟩) (sLen+s.size) sCap) (w.setRow g (cur.toList.take (sLen*i.size)++ strCells s ++ cur.toList.drop (sLen*i.size+ (strCells s).length)).toArray):=by
 have hf:=run_firstCells_string (P:=P) w 1 s;have hst:=run_storeCells_at P g (sLen*i.size) e2 (strCells s) 0 cur w hg (by simpa using hfit) (strCells_oneCell s);simp only[TW]at hst;rw[hs1,RU]at hst ⊢;simp[Builtin.append_,run_underlying ht,run_underlying hu,sizeOf,typeInfo,hi,hs1,Builtin.lenOf,hroom,hf,Yx,hst]
def MH {t t2 ty e:TypeId} {i:TypeInfo} {z:Value} {base:Tb} {sLen sCap:Nat} {olds:ZO} {s:ByteArray} (ht:P.underlying t=some (.slice e)) (hu:P.underlying t2=some .string) (hi:P.info? e=some i) (hz:i.zero=some z)
  (hfo: (Builtin.firstCells i.size sLen (.slice base sLen sCap)).run P w.drew= .ok olds.toArray w.drew) (hg:sCap < sLen+s.size) (h63: ((sLen+s.size:Nat):Int)<=9223372036854775807) (hfit:Builtin.nextslicecap (sLen+s.size) sCap*i.bytes<=281474976710656):
  (Builtin.append_ #[t,t2] ty #[.slice base sLen sCap,.string s]).run P w=
   .ok (.slice (some ⟨w.heap.size,0,none⟩) (sLen+s.size) (grownCap w (sLen+s.size) sCap e))
    (w.drew.alloc (.cells (olds.toArray ++ (strCells s).toArray ++ Builtin.zeroCells z.cells (grownCap w (sLen+s.size) sCap e - (sLen+s.size))) e)):=by
 have hn: ¬(sLen+s.size<=sCap):=by omega
 have h63': ¬(9223372036854775807 < ((sLen:Int)+ (s.size:Int))):=by omega
 have h48': ¬(281474976710656 < Builtin.nextslicecap (sLen+s.size) sCap*i.bytes):=by omega
 have hf:=run_firstCells_string (P:=P) w.drew i.size s;cases base <;> simp[Builtin.append_,run_underlying ht,run_underlying hu,sizeOf,typeInfo,zeroValue,hi,hz,Builtin.lenOf,hn,h63',h48',Question.forced,hf,hfo,newRow,grownCap] <;> congr 2 <;> apply Array.ext' <;> simp[ZY]
def QaN {q:Qu} {j:Nat} {c:AV} (h: (P6 q)[j]? =some c): ∃u,(strCells ⟨q.toArray⟩)[j]? =some u/\u.oneCell'=true/\Qg num β w m c u/\∀p w' m' ν',ZJ w' m' ν' p c u:=by
 unfold P6 at h;rw[Wr]at h;obtain⟨b,hb,rfl⟩:=PN.1 h;refine⟨.int .u8 b.toNat,?_,rfl,by simp only[Qg],fun _ _ _ _=>trivial⟩;simp[strCells,hb]
def Qq3 {T id k:Nat} {u:Value} (h:Qg num β w m (.gb T id k) u):Qg num β w m (.gs id 0 1 k) u/\TyA β T (.gs id 0 1 k):=by
 simp only[Qg]at h ⊢;obtain⟨kb,cap,h1,h2,h3,h4,h5,h6⟩:=h;exact⟨⟨_,cap,h3,h5,h6,.inr ⟨kb,h1,rfl,by omega,by omega⟩⟩,.inr ⟨kb,h1.1,h2⟩⟩
def Gj {T:Nat} {v:AV} {u:Value} {pl:Pl} {cp:Nat->Pl} (h:UE num β w m ν pl cp v u) (t:TyA β T v):UE num β w m ν pl cp (QbX T v) u:=by
 unfold QbX;split
 ·rename_i id o sz n;split
  ·rename_i hc;obtain⟨rfl,rfl,hn⟩:=hc;have hr:=((QU (c:= .gs id 0 1 n) rfl).1 h).1;refine(QU (c:= .gb T id n) rfl).2 ⟨?_,trivial⟩;simp only[Qg]at hr ⊢;obtain⟨a,cap,h1,h2,h3,h4⟩:=hr;rcases h4 with h4 | ⟨kb,h5,h6,h7,_⟩
   ·omega
   ·rcases t with t | ⟨kc,t1,t2⟩
    ·omega
    ·rw[h5.1]at t1;injection t1 with t1
     subst t1 h6;exact⟨kb,cap,h5,t2,h1,by omega,h2,h3⟩
  ·exact h
 ·exact h
def Hy [Dr] {n:Nat} {s:AO} {s':Operand} {e:TypeId} {i:TypeInfo} {z:Value} {ys:Qh} {news:ZO} {ap:Value->Sem Value} {v2:AV} {bs2:Qa}
  (hI:Inv num N w0 m0 T β0 σ a w m β ν) (hs:okO num s s'=true) (hbe:i.bytes=1) (hs1:i.size=1) (hz:z.cells.size=i.size) (hm:NS e (val σ.env s) (n,ys) σ.bs=some (v2,bs2))
  (hnl:news.length=n*i.size) (hone: ∀u∈news,u.oneCell'=true)
  (hN:0 < n->ys.length=n*i.size/\∀(j:Nat) (c:AV),ys[j]? =some c->∃u,news[j]? =some u/\u.oneCell'=true/\Qg num β w m c u/\∀p w' m' ν',ZJ w' m' ν' p c u)
  (hexec: ∀A k cap,a.eval s'= .slice A k cap->∀r w',(ap (.slice A k cap)).run P w= .ok r w'->(execOp a.eval o).run P w= .ok (.value r) w')
  (q0:n=0->∀A k cap,k<=cap->(ap (.slice A k cap)).run P w= .ok (.slice A k cap) w)
  (q1:0 < n->∀A,(n:Int)<=9223372036854775807->n*i.bytes<=281474976710656->(ap (.slice A 0 0)).run P w= .ok (.slice (some ⟨w.heap.size,0,none⟩) n (grownCap w n 0 e)) (w.drew.alloc (.cells (news.toArray ++ Builtin.zeroCells z.cells (grownCap w n 0 e - n)) e)))
  (q2:0 < n->∀g cur e2 sLen sCap,w.heap[g]? =some (.cells cur e2 (0,0))->sLen+n<=sCap->sLen*i.size+news.length<=cur.size->(n:Int)<=9223372036854775807->n*i.bytes<=281474976710656->
   (ap (.slice (some ⟨g,0,none⟩) sLen sCap)).run P w= .ok (.slice (some ⟨g,0,none⟩) (sLen+n) sCap) (w.setRow g (cur.toList.take (sLen*i.size)++ news ++ cur.toList.drop (sLen*i.size+news.length)).toArray))
  (q3:0 < n->∀(b:Addr) sLen sCap (olds:ZO),olds.length=sLen*i.size->(∀j v,olds[j]? =some v->w.cell? (b.add j)=some v)->sCap < sLen+n->((sLen+n:Nat):Int)<=9223372036854775807->n*i.bytes<=281474976710656->Builtin.nextslicecap (sLen+n) sCap*i.bytes<=281474976710656->
   (ap (.slice (some b) sLen sCap)).run P w= .ok (.slice (some ⟨w.heap.size,0,none⟩) (sLen+n) (grownCap w (sLen+n) sCap e))
    (w.drew.alloc (.cells (olds.toArray ++ news.toArray ++ Builtin.zeroCells z.cells (grownCap w (sLen+n) sCap e - (sLen+n))) e)))
  (h:Aft num N w0 m0 T β0 {σ with bs:=bs2} a v2 fun u w'=>next (a.put o.dst u) w'):o.wp P a w next Q:=by
 cases hA:val σ.env s with
 | gs id o1 sz1 k=>
  have hr:=(hI.val hs (by rw[hA];rfl)).1;rw[hA]at hr hm;simp only[NS]at hm;split at hm
  ·rename_i hc;cases hq:P4 1 1 (.gs id o1 sz1 k) (n,ys) σ.bs with
   | none=>rw[hq]at hm;cases hm
   | some p=>
    rw[hq]at hm;simp only[QS,QG,QW]at hm;obtain⟨rfl,rfl⟩:=hm;exact NR (bytes:=1) (i:=i) (v2:=p.1) (bs2:=p.2) hI hr (by omega) hbe (by omega) hz (by rw[hs1];exact hq) hnl hone hN hexec q0 q1 q2 q3 fun u w' m' β' ν' i1 i2 i3=>h u w' m' β' ν' i1 (Gj i2 (i3 (.inl hc)))
  ·cases hm
 | gb T' id k=>
  have hr:=(hI.val hs (by rw[hA];rfl)).1;rw[hA]at hr hm;simp only[NS]at hm;split at hm
  ·rename_i hc;subst hc;obtain⟨hr,ht⟩:=Qq3 hr;cases hq:P4 1 1 (.gs id 0 1 k) (n,ys) σ.bs with
   | none=>rw[hq]at hm;cases hm
   | some p=>
    rw[hq]at hm;simp only[QS,QG,QW]at hm;obtain⟨rfl,rfl⟩:=hm;exact NR (bytes:=1) (i:=i) (v2:=p.1) (bs2:=p.2) hI hr (by omega) hbe (by omega) hz (by rw[hs1];exact hq) hnl hone hN hexec q0 q1 q2 q3 fun u w' m' β' ν' i1 i2 i3=>h u w' m' β' ν' i1 (Gj i2 (i3 ht))
  ·cases hm
 | _=>rw[hA]at hm;cases hm
def Qj0 [Dr] {e0:Nat} {s x:AO} {s' x':Operand} {t t2:TypeId} (hI:Inv num N w0 m0 T β0 σ a w m β ν) (ho:o.op= .call {callee:= .builtin .append,args:= #[s',x'],argTypes:= #[t,t2]})
  (ht:Vg P t 1 1=true) (hte:P.underlying t=some (.slice e0)) (h2:QbW P t2=true) (hs:okO num s s'=true) (hx:okO num x x'=true)
  (he: (match val σ.env x with
   | .str q=>(NS e0 (val σ.env s) (q.length,P6 q) σ.bs).map fun p=>(p.1,{σ with bs:=p.2})
   | _=>none)=some (v,σ1)) (h:Aft num N w0 m0 T β0 σ1 a v fun u w'=>next (a.put o.dst u) w'):o.wp P a w next Q:=by
 split at he
 ·rename_i q hq;cases hm:NS e0 (val σ.env s) (q.length,P6 q) σ.bs with
  | none=>rw[hm]at he;cases he
  | some p=>
   rw[hm]at he;obtain⟨v2,bs2⟩:=p;simp only[QS,QG,QW]at he;obtain⟨rfl,rfl⟩:=he;have hv:=(hI.val hx (by rw[hq];rfl)).1;rw[hq]at hv;simp only[Qg]at hv;have hu2:P.underlying t2=some .string:=by
    unfold QbW at h2;split at h2
    ·assumption
    ·cases h2
   unfold Vg at ht;split at ht
   ·rename_i e hun;split at ht
    ·rename_i i hi;simp only[Qp,Qy]at ht;obtain⟨⟨⟨⟨hs1,hb1⟩,_⟩,_⟩,hz⟩:=ht;obtain rfl:e=e0:=by rw[hte]at hun;injection hun with hun;injection hun with hun;exact hun.symm
     split at hz
     ·rename_i z hzz;simp only[Qy]at hz;have hsz: (⟨q.toArray⟩:ByteArray).size=q.length:=by simp[ByteArray.size]
      have hsl: (strCells ⟨q.toArray⟩).length=q.length:=by rw[strCells_length,hsz]
      refine Hy (e:=e) (i:=i) (z:=z) (n:=q.length) (ys:=P6 q) (news:=strCells ⟨q.toArray⟩) (ap:=fun s=>Builtin.append_ #[t,t2] o.type #[s,.string ⟨q.toArray⟩]) hI hs hb1 hs1 (by omega) hm
       (by rw[hsl,hs1,RU]) (strCells_oneCell _) (fun _=>⟨by rw[hs1,RU];simp[P6],fun j c hj=>QaN hj⟩) (fun A k cap hu r w' hrr=> ?_) (fun h0 A k cap hk=> ?_) (fun hn A h1 h2=> ?_)
       (fun hn g cur e2 sLen sCap hg hr hf h1 h2=> ?_) (fun hn b sLen sCap olds h1 h2 h3 h4 h5 h6=> ?_) h
      ·simp only[execOp,ho,resolve,invoke,builtin,Um,Ym,We,hu,hv,Sem.run_bind,Sem.run_pure,Result.andThen_ok,hrr]
      ·exact GE hun hu2 hi hk (by rw[hsz];exact h0)
      ·have:=MH (w:=w) (ty:=o.type) (base:=A) (sLen:=0) (sCap:=0) (olds:=[]) (s:=⟨q.toArray⟩) hun hu2 hi hzz (by cases A <;> simp[Builtin.firstCells,loadCells,loadCellsFrom]) (by rw[hsz];omega) (by rw[hsz];simpa using h1) (by rw[hsz,Zl,nextslicecap_zero hn];exact h2);rw[hsz]at this;simpa using this
      ·have:=BB (ty:=o.type) (s:=⟨q.toArray⟩) hun hu2 hi hs1 hg (by rw[hsz];exact hr) (by rw[hsl]at hf ⊢;exact hf);rw[hsz]at this;exact this
      ·have:=MH (w:=w) (ty:=o.type) (base:=some b) (sLen:=sLen) (sCap:=sCap) (olds:=olds) (s:=⟨q.toArray⟩) hun hu2 hi hzz (run_firstCells_some (P:=P) w.drew i.size sLen b sLen sCap olds h1 (by simpa using h2)) (by rw[hsz];exact h3) (by rw[hsz];exact h4) (by rw[hsz];exact h6);rw[hsz]at this;exact this
     ·cases hz
    ·cases ht
   ·cases ht
 ·cases he
def QjY [Dr] {e0:Nat} {s x:AO} {s' x':Operand} {t:TypeId} (hI:Inv num N w0 m0 T β0 σ a w m β ν) (ho:o.op= .call {callee:= .builtin .append,args:= #[s',x'],argTypes:= #[t,t]})
  (ht:Vg P t 1 1=true) (hte:P.underlying t=some (.slice e0)) (hs:okO num s s'=true) (hx:okO num x x'=true)
  (he: ((Wh 1 (val σ.env x) σ.bs).bind fun q=>(NS e0 (val σ.env s) q σ.bs).map fun p=>(p.1,{σ with bs:=p.2}))=some (v,σ1)) (h:Aft num N w0 m0 T β0 σ1 a v fun u w'=>next (a.put o.dst u) w'):o.wp P a w next Q:=by
 cases hsrc:Wh 1 (val σ.env x) σ.bs with
 | none=>rw[hsrc]at he;cases he
 | some q=>
  obtain⟨n,ys⟩:=q;rw[hsrc]at he;simp only[QC]at he;cases hm:NS e0 (val σ.env s) (n,ys) σ.bs with
  | none=>rw[hm]at he;cases he
  | some p=>
   rw[hm]at he;obtain⟨v2,bs2⟩:=p;simp only[QS,QG,QW]at he;obtain⟨rfl,rfl⟩:=he;have hxok: (val σ.env x).ok=true:=by
    unfold Wh at hsrc;split at hsrc
    ·rename_i h;rw[h];rfl
    ·rename_i h;rw[h];rfl
    ·cases hsrc
   have hry:=(hI.val hx hxok).1;unfold Vg at ht;split at ht
   ·rename_i e hun;split at ht
    ·rename_i i hi;simp only[Qp,Qy]at ht;obtain⟨⟨⟨⟨hs1,hb1⟩,_⟩,_⟩,hz⟩:=ht;obtain rfl:e=e0:=by rw[hte]at hun;injection hun with hun;injection hun with hun;exact hun.symm
     split at hz
     ·rename_i z hzz;simp only[Qy]at hz;rw[<- hs1]at hsrc;obtain⟨B,cap2,hY,hN⟩:=CR hI (by omega) hsrc hry;obtain⟨news,hB,hnl,hone,hN2⟩: ∃news:ZO,(0 < n->∃b2 of2,B=some ⟨b2,of2,none⟩/\∀j u,news[j]? =some u->w.cell? ((⟨b2,of2,none⟩:Addr).add j)=some u)/\news.length=n*i.size/\(∀u∈news,u.oneCell'=true)/\
        (0 < n->ys.length=n*i.size/\∀(j:Nat) (c:AV),ys[j]? =some c->∃u,news[j]? =some u/\u.oneCell'=true/\Qg num β w m c u/\∀p w' m' ν',ZJ w' m' ν' p c u):=by
       by_cases hn:0 < n
       ·obtain⟨b2,of2,news,hb,hnl,hnews,hone,hyl,hbox⟩:=hN hn;exact⟨news,fun _=>⟨b2,of2,hb,fun j u hj=>by rw[Yx];exact hnews j u hj⟩,hnl,hone,fun _=>⟨hyl,hbox⟩⟩
       ·have:n=0:=by omega
        subst this;exact⟨[],fun h=>absurd h (by omega),by simp,by simp,fun h=>absurd h (by omega)⟩
      refine Hy (e:=e) (z:=z) (ap:=fun s=>Builtin.append_ #[t,t] o.type #[s,.slice B n cap2]) hI hs hb1 hs1 (by omega) hm hnl hone hN2 (fun A k cap hu r w' hrr=> ?_) (fun h0 A k cap hk=> ?_) (fun hn A h1 h2=> ?_) (fun hn g cur e2 sLen sCap hg hr hf h1 h2=> ?_) (fun hn b sLen sCap olds h1 h2 h3 h4 h5 h6=> ?_) h
      ·simp only[execOp,ho,resolve,invoke,builtin,Um,Ym,We,hu,hY,Sem.run_bind,Sem.run_pure,Result.andThen_ok,hrr]
      ·subst h0;exact Td hun hi hk
      ·obtain⟨b2,of2,rfl,hnews⟩:=hB hn;exact UT hun hi hzz hnl hnews hn h1 h2
      ·obtain⟨b2,of2,rfl,hnews⟩:=hB hn;exact Wc hun hi hg hnl hnews hone hr hf
      ·obtain⟨b2,of2,rfl,hnews⟩:=hB hn;exact run_append_grow w t o.type e i z hun hi hzz b sLen sCap olds h1 h2 ⟨b2,of2,none⟩ n cap2 news hnl hnews h3 h4 h6
     ·cases hz
    ·cases ht
   ·cases ht
def Kx (w:World) (b n x:Nat) (hx:x≠b): (w.freeze ⟨b,0,none⟩ n).heap[x]? =w.heap[x]? :=by
 unfold World.freeze;split
 ·rfl
 ·simp only[T5];rw[Qm (fun e=>hx e.symm)]
def Ky (w:World) (b n:Nat): (w.freeze ⟨b,0,none⟩ n).heap.size=w.heap.size:=by
 unfold World.freeze;split
 ·rfl
 ·simp
def Bo (w:World) (b n:Nat) (A:Addr): (w.freeze ⟨b,0,none⟩ n).cell? A=w.cell? A:=by
 by_cases hx:A.block=b
 ·by_cases hn:n=0
  ·simp[World.freeze,hn]
  ·unfold World.freeze;rw[Qm hn];unfold World.cell?;simp only[T5,hx,Zj];cases hq:w.heap[b]? with
   | none=>rfl
   | some q=>cases q <;> rfl
 ·unfold World.cell?;rw[Kx w b n _ hx]
def Z0.freeze [Dr] (b n:Nat):Z0 (· =b) w m (w.freeze ⟨b,0,none⟩ n) m:=by
 refine⟨?_,?_,?_,by rw[Ky];exact Zm _,fun x _ hx=>⟨Kx w b n x hx,rfl⟩,fun x i u h=> ?_,fun _=> ?_⟩
 ·unfold World.freeze;split <;> rfl
 ·unfold World.freeze;split <;> rfl
 ·unfold World.freeze;split <;> rfl
 ·unfold hg at h ⊢;split at h
  ·rename_i hi;rw[Qn hi,Bo];exact h
  ·cases h
 ·unfold World.freeze;split <;> exact Zm _
def Inv.freezeFloat [Dr] (hI:Inv num N w0 m0 T β0 σ a w m β ν) {b:Nat} (n:Nat) (hν:ν b=some .f):Inv num N w0 m0 T β0 σ a (w.freeze ⟨b,0,none⟩ n) m β ν:=by
 have hne: ∀{x:Nat} {p:Pl},ν x=some p->p≠ .f->¬x=b:=fun {x p} h hp e=>by subst e;rw[hν]at h;injection h with h;exact hp h.symm
 exact hI.next (Z0.freeze b n) (fun x hx hxb=>by subst hxb;exact(hI.lt x _ hν).2) (Ge.refl β) (fun _=>False) (fun _=>False)
  (fun x t h _=>⟨hne h (by simp),h⟩) (fun x t i h _=>⟨hne h (by simp),h⟩) (fun x t h _=>⟨hne h (by simp),h⟩) (fun x t i h _=>⟨hne h (by simp),h⟩)
  (fun x p h=>by rw[Ky];exact hI.lt x p h) (fun t hn=> .inl rfl) hI.out (fun t v hE hv=>hE.elim) hI.blen (fun _ _=>rfl) (fun _ _ _ h=>h.elim)
def Nn:=@List.getElem?_range
def QoF {cs:Qh} {n j:Nat} {x:AV} (h: (Z3 cs 0 1 n)[j]? =some [x]): ∃c,cs[j]? =some c/\c.strip=x:=by
 unfold Z3 at h;rw[Wr]at h;obtain⟨k,hk,he⟩:=PN.1 h;have hk2:k=j:=by
  rw[Nn]at hk
  ·injection hk with hk;exact hk.symm
  ·rcases QT j n with h | h
   ·exact h
   ·rw[Q2 (by simpa using h)]at hk;cases hk
 subst hk2;simp only[Zl,RU]at he;cases hd:cs.drop k with
 | nil=>rw[hd]at he;cases he
 | cons c r=>
  rw[hd]at he;simp only[List.take_succ_cons,List.take_zero,Ym,We,List.cons.injEq,and_true]at he;refine⟨c,?_,he⟩;have:=XX (xs:=cs) (i:=k) (j:=0);rw[hd]at this;simpa using this.symm
def Qpn [Dr] {T0 q p:Nat} {x:AO} {x':Operand} {pt it:TypeId} (hI:Inv num N w0 m0 T β0 σ a w m β ν) (ho:o.op= .call {callee:= .builtin .unsafeString,args:= #[.tmp p,x'],argTypes:= #[pt,it]})
  (hp:P.underlying pt=some (.pointer T0)) (hc:P.cellsOf T0=1) (hx:okO num x x'=true)
  (he:GT T0 σ q p (val σ.env x)=some (v,σ1)) (h:Aft num N w0 m0 T β0 σ1 a v fun u w'=>next (a.put o.dst u) w'):o.wp P a w next Q:=by
 unfold GT at he;split at he
 ·rename_i id2 o2 hpp;split at he
  ·rename_i T' id n k hq hk;split at he
   ·rename_i hcc;obtain⟨rfl,rfl,rfl,rfl,hn⟩:=hcc;cases hbs:σ.bs[id]? with
    | none=>rw[hbs]at he;cases he
    | some cs=>
     rw[hbs]at he;simp only[QC]at he;split at he
     ·rename_i hnl;obtain⟨s,hs,he⟩:=PN.1 he;injection he with h1 h2
      subst h1 h2;obtain⟨e1,e2⟩:=L4 hs;have hlen:s.length=n:=by rw[e1];simp[Z3]
      have hne:cs≠[]:=fun e=>by subst e;simp at hnl;omega
      obtain⟨_,hp2⟩:=hI.at_ (n:=p) (by rw[hpp];simp);have hp3:=hI.slots p _ hp2;rw[hpp]at hp3;have hp4:=((QU (c:= .gp id 0) rfl).1 hp3).1;simp only[Qg]at hp4;obtain⟨kb,hkb,hpu⟩:=hp4;obtain⟨_,hq2⟩:=hI.at_ (n:=q) (by rw[hq];simp);have hq3:=hI.slots q _ hq2;rw[hq]at hq3;have hq4:=((QU (c:= .gb T' id n) rfl).1 hq3).1;simp only[Qg]at hq4;obtain⟨kc,cap,hkc,hty,_,hcap,hnc,hcm⟩:=hq4;rw[hkb.1]at hkc;obtain⟨hkc,_⟩:=hkc;injection hkc with hkc
      subst hkc;obtain⟨cur,e,b1,b2,b3,b4,b5⟩:=(hI.boxes id cs kb hbs hkb.1 hne).1 hkb.2;obtain⟨c9,h9⟩:=(hI.boxes id cs kb hbs hkb.1 hne).2.2 hkb.2;have h8:=b1.symm.trans h9;simp only[QG,Obj.cells.injEq]at h8;have hT:e=T':=by rw[h8.2.1,hty]
      have hkv:=(hI.val hx (by rw[hk];rfl)).1;rw[hk]at hkv;simp only[Qg]at hkv;have hrun:=run_unsafeString_row (P:=P) w pt it o.type T' hp hc kb.b cur.size (by simp[World.shape?,b1,hT]) s (fun e=>by subst e;simp at hlen;omega) (by rw[hlen];omega)
       (by rw[hlen];unfold maxLen at hcm;omega)
       (fun j x hj=>by
        obtain⟨c,q1,q2⟩:=QoF (e2 j x hj);obtain⟨u,r1,r2,r3,_⟩:=b5 j c q1;have r4:=(QV c u).2 r3;rw[q2]at r4;simp only[Qg]at r4;rw[Yx,Zl,cell_of_row w kb.b j cur e (0,0) b1,r1,r4])
      obtain⟨hK,_⟩:=hI.kill (id:=id) (q:=0) hbs hkb hne;rw[U5 b3]at hK;have hF:=hK.freezeFloat (b:=kb.b) s.length (by simp[Yk]);refine Qs (u:= .string ⟨s.toArray⟩) (w':=w.freeze ⟨kb.b,0,none⟩ s.length) ?_ (h _ _ _ _ _ hF ((QU rfl).2 ⟨by simp only[Qg],trivial⟩));have hpe:a.eval (.tmp p)= .pointer (some ⟨kb.b,0,none⟩):=hpu;simp only[execOp,ho,resolve,invoke,builtin,Um,Ym,We,hpe,hkv,Sem.run_bind,Sem.run_pure,Result.andThen_ok];rw[<- hlen,hrun];rfl
     ·cases he
   ·cases he
  ·cases he
 ·rename_i hpp;split at he
  ·rename_i k hk;split at he
   ·rename_i h0;subst h0;injection he with he
    injection he with h1 h2
    subst h1 h2;obtain⟨_,hp2⟩:=hI.at_ (n:=p) (by rw[hpp];simp);have hp3:=hI.slots p _ hp2;rw[hpp]at hp3;have hp4:=((QU (c:= .nlp) rfl).1 hp3).1;simp only[Qg]at hp4;have hkv:=(hI.val hx (by rw[hk];rfl)).1;rw[hk]at hkv;simp only[Qg]at hkv;have hpe:a.eval (.tmp p)= .pointer none:=hp4;refine Qs (u:= .string ⟨#[]⟩) (w':=w) ?_ (h.same hI rfl (by simp only[Qg]) trivial);simp only[execOp,ho,resolve,invoke,builtin,Um,Ym,We,hpe,hkv,Sem.run_bind,Sem.run_pure,Result.andThen_ok,run_unsafeString_none];rfl
   ·cases he
  ·cases he
 ·cases he
def Qpm [Dr] {x:AO} {x':Operand} {t:TypeId} (hI:Inv num N w0 m0 T β0 σ a w m β ν) (ho:o.op= .call {callee:= .builtin .unsafeSliceData,args:= #[x'],argTypes:= #[t]})
  (hx:okO num x x'=true) (he: ((QhU (val σ.env x)).map fun u=>(u,σ))=some (v,σ1)) (h:Aft num N w0 m0 T β0 σ1 a v fun u w'=>next (a.put o.dst u) w'):o.wp P a w next Q:=by
 obtain⟨y,hy,he⟩:=PN.1 he;injection he with h1 h2
 subst h1 h2;unfold QhU at hy;split at hy
 ·rename_i ty id n hA;split at hy
  ·rename_i hn;injection hy with hy
   subst hy;have hr:=(hI.val hx (by rw[hA];rfl)).1;rw[hA]at hr;simp only[Qg]at hr;obtain⟨kb,cap,h1,h2,h3,h4,h5,h6⟩:=hr;refine Qs (u:= .pointer (some ⟨kb.b,0,none⟩)) (w':=w) ?_ (h.same hI rfl (by simp only[Qg];exact⟨kb,h1,rfl⟩) trivial);simp only[execOp,ho,resolve,invoke,builtin,Um,Ym,We,h3,Sem.run_bind,Sem.run_pure,Result.andThen_ok,run_unsafeSliceData_row (P:=P) w #[t] o.type ⟨kb.b,0,none⟩ n cap (by omega)]
  ·cases hy
 ·rename_i i2 o2 sz n hA;split at hy
  ·rename_i hc;obtain⟨rfl,rfl,rfl⟩:=hc;injection hy with hy
   subst hy;have hr:=(hI.val hx (by rw[hA];rfl)).1;rw[hA]at hr;simp only[Qg]at hr;obtain⟨A,cap,h1,h2,h3,h4⟩:=hr;have hAn:A=none:=by
    rcases h4 with⟨_,_,h4⟩ | ⟨_,_,_,_,h4⟩
    ·rcases h4 with h4 | ⟨_,_,_,h4⟩
     ·simpa using h4
     ·simp at h4
    ·simp at h4
   subst hAn;refine Qs (u:= .pointer none) (w':=w) ?_ (h.same hI rfl (by simp only[Qg]) trivial);simp only[execOp,ho,resolve,invoke,builtin,Um,Ym,We,h1,Sem.run_bind,Sem.run_pure,Result.andThen_ok,run_unsafeSliceData_nil (P:=P) w #[t] o.type 0 cap]
  ·cases hy
 ·cases hy
def Ko (P:Program) (t T:TypeId):Bool:=match P.underlying t with
 | some (.slice e)=>decide (e=T)
 | _=>false
def QbA (P:Program) (t T:TypeId):Bool:=match P.underlying t with
 | some (.pointer e)=>decide (e=T)
 | _=>false
def IL {t T:TypeId} (h:Ko P t T=true):P.underlying t=some (.slice T):=by
 unfold Ko at h;split at h
 ·simp only[Qy]at h;subst h;assumption
 ·cases h
def Qhf {t T:TypeId} (h:QbA P t T=true):P.underlying t=some (.pointer T):=by
 unfold QbA at h;split at h
 ·simp only[Qy]at h;subst h;assumption
 ·cases h
end
end Go.Am
namespace Go.Am
def OG (pt:Nat->Nat->Nat->Bool) (q s off:Nat):Bool:=pt q s off || (decide (q=s) && decide (off=0))
def Pz (num:Xb) (b:Builtin) (x:AO) (c:Call) (ty:TypeId->Bool):Bool:=
 match c with
 | ⟨.builtin b',⟨[y]⟩,⟨[t]⟩⟩=>decide (b=b') && ty t && okO num x y
 | _=>false
def Qg6 (P:Program) (num:Xb) (pt:Nat->Nat->Nat->Bool) (x:AOp) (o:Op):Bool:=
 match x with
 | .mov x=>(match o with | .move y=>okO num x y | .assign y=>okO num x y | _=>false)
 | .mvs n=>(match o with | .move (.tmp t)=>decide (n=t) | .assign (.tmp t)=>decide (n=t) | _=>false)
 | .box x=>(match o with | .box _ y=>okO num x y | _=>false)
 | .alloc zs=>(match o with | .alloc t=>T4 P t zs | _=>false)
 | .gbxn x _=>(match o with | .box _ y=>okO num x y | _=>false)
 | .gbox x=>(match o with | .box _ y=>okO num x y | _=>false)
 | .galloc zs=>(match o with | .alloc t=>T4 P t zs | _=>false)
 | .galt T zs=>(match o with | .alloc t=>decide (T=t) && T4 P t zs | _=>false)
 | .fad s off=>(match o with
  | .fieldAddr ty (.tmp q) f=>(decide (q=s) && Rm P ty f off) || (List.range (off+1)).any fun o2=>pt q s o2 && Rm P ty f (off - o2)
  | .indexAddr ty (.tmp q) (.const (.int _ i))=>decide (q=s) && GJ P ty i off
  | _=>false)
 | .fadr p off=>(match o with | .fieldAddr ty (.tmp q) f=>decide (p=q) && Rm P ty f off | _=>false)
 | .ldf s off sz ag=>(match o with | .load t (.tmp q)=>Yc P t sz && WD P t ag && OG pt q s off | _=>false)
 | .ldfm s off=>(match o with | .load t (.tmp q)=>WD P t false && OG pt q s off | _=>false)
 | .ld p sz ag=>(match o with | .load t (.tmp q)=>decide (p=q) && Yc P t sz && WD P t ag | _=>false)
 | .ldg p sz ag=>(match o with | .load t (.tmp q)=>decide (p=q) && Yc P t sz && WD P t ag | _=>false)
 | .ldm p=>(match o with | .load t (.tmp q)=>decide (p=q) && WD P t false | _=>false)
 | .stf s off sz x=>(match o with | .store t (.tmp q) y=>Yc P t sz && okO num x y && OG pt q s off | _=>false)
 | .stn s off sz x _=>(match o with | .store t (.tmp q) y=>Yc P t sz && okO num x y && OG pt q s off | _=>false)
 | .stfm s off n=>(match o with | .store t (.tmp q) (.tmp n2)=>decide (n=n2) && Yc P t 1 && OG pt q s off | _=>false)
 | .st p sz x=>(match o with | .store t (.tmp q) y=>decide (p=q) && Yc P t sz && okO num x y | _=>false)
 | .stm p n=>(match o with | .store t (.tmp q) (.tmp n2)=>decide (p=q) && decide (n=n2) && Yc P t 1 | _=>false)
 | .bin op x y=>(match o with | .binOp op2 _ x2 y2 _=>decide (op=op2) && okO num x x2 && okO num y y2 | _=>false)
 | .eqb ne x y=>(match o with | .binOp op2 t x2 y2 _=>decide (op2=if ne then .neq else .eql) && GL P t && okO num x x2 && okO num y y2 | _=>false)
 | .eqn ne x=>(match o with | .binOp op2 t x2 (.const .nilIface) _=>decide (op2=if ne then .neq else .eql) && Ij P t && okO num x x2 | _=>false)
 | .eqa ne ks x y=>(match o with | .binOp op2 t x2 y2 _=>decide (op2=if ne then .neq else .eql) && Qgx P t ks && okO num x x2 && okO num y y2 | _=>false)
 | .isn ne x=>(match o with | .binOp op2 t x2 (.const (.slice none 0 0)) _=>decide (op2=if ne then .neq else .eql) && slT P t && okO num x x2 | _=>false)
 | .un op x=>(match o with | .unOp op2 _ x2=>decide (op=op2) && okO num x x2 | _=>false)
 | .conv k x=>(match o with | .convert s t x2=>QgQ P s t k && okO num x x2 | _=>false)
 | .call f args=>(match o with | .call ⟨.value (.func g),⟨ys⟩,_⟩=>decide (num f=some g) && XA num args ys | _=>false)
 | .callq f args=>(match o with | .call ⟨.value (.func g),⟨ys⟩,_⟩=>decide (num f=some g) && XA num args ys | _=>false)
 | .callv g args=>(match o with | .call ⟨.value x2,⟨ys⟩,_⟩=>okO num g x2 && XA num args ys | _=>false)
 | .lens x=>(match o with | .call c=>Pz num .len x c (L5 P) | _=>false)
 | .lenl x=>(match o with | .call c=>Pz num .len x c (slT P) | _=>false)
 | .app bytes sz s x=>(match o with | .call ⟨.builtin .append,⟨[s2,x2]⟩,⟨[t,t2]⟩⟩=>Ms P t t2 && Vg P t bytes sz && okO num s s2 && okO num x x2 | _=>false)
 | .appg bytes sz s x=>(match o with | .call ⟨.builtin .append,⟨[s2,x2]⟩,⟨[t,t2]⟩⟩=>Ms P t t2 && Vg P t bytes sz && okO num s s2 && okO num x x2 | _=>false)
 | .appz bytes sz n x=>(match o with | .call ⟨.builtin .append,⟨[.tmp n2,x2]⟩,⟨[t,t2]⟩⟩=>Ms P t t2 && decide (n=n2) && Vg P t bytes sz && okO num x x2 | _=>false)
 | .zlit=>(match o with | .buildSlice t 0 ⟨[]⟩=>(match P.underlying t with | some (.slice e)=>(match P.info? e with | some i=>Pp P t i.size 0 | none=>false) | _=>false) | _=>false)
 | .nilp=>(match o with | .move (.const (.pointer none))=>true | .assign (.const (.pointer none))=>true | _=>false)
 | .appzz s x=>(match o with | .call ⟨.builtin .append,⟨[s2,x2]⟩,⟨[t,t2]⟩⟩=>decide (t=t2) && (match P.underlying t with | some (.slice e)=>(match P.info? e with | some i=>Vg P t i.bytes i.size | none=>false) | _=>false) && okO num s s2 && okO num x x2 | _=>false)
 | .frz n _=>(match o with | .move (.tmp t)=>decide (n=t) | .assign (.tmp t)=>decide (n=t) | _=>false)
 | .clr sz x=>(match o with | .call c=>Pz num .clear x c (fun t=>Qgi P t sz) | _=>false)
 | .mx x y=>(match o with | .call ⟨.builtin .max,⟨[x2,y2]⟩,_⟩=>okO num x x2 && okO num y y2 | _=>false)
 | .mn x y=>(match o with | .call ⟨.builtin .min,⟨[x2,y2]⟩,_⟩=>okO num x x2 && okO num y y2 | _=>false)
 | .mksl sz parts=>(match o with | .buildSlice t n ⟨ps⟩=>decide (n=ps.length) && decide (ps.map (·.1)=List.range n) && Pp P t sz n && XA num parts (ps.map (·.2)) | _=>false)
 | .mksg sz parts=>(match o with | .buildSlice t n ⟨ps⟩=>decide (n=ps.length) && decide (ps.map (·.1)=List.range n) && Pp P t sz n && XA num parts (ps.map (·.2)) | _=>false)
 | .mkst zs parts=>(match o with | .build t ⟨ps⟩=>CT P num t zs parts ps | _=>false)
 | .idxa sz x i=>(match o with | .indexAddr t x2 i2=>XT P t sz && okO num x x2 && okO num i i2 | _=>false)
 | .idx x i=>(match o with | .index t x2 i2=>L5 P t && okO num x x2 && okO num i i2 | _=>false)
 | .slcs x lo hi=>(match o with | .slice t x2 lo2 hi2 none=>L5 P t && okO num x x2 && VL num lo lo2 && VL num hi hi2 | _=>false)
 | .slcl sz x lo hi=>(match o with | .slice t x2 lo2 hi2 none=>XT P t sz && okO num x x2 && VL num lo lo2 && VL num hi hi2 | _=>false)
 | .slcf sz x hi mx=>(match o with | .slice t x2 none (some hi2) (some mx2)=>XT P t sz && okO num x x2 && okO num hi hi2 && okO num mx mx2 | _=>false)
 | .slz sz x=>(match o with | .slice t x2 none (some (.const (.int _ 0))) (some (.const (.int _ 0)))=>XT P t sz && okO num x x2 | _=>false)
 | .pick c x y=>(match o with | .pick c2 x2 y2=>okO num c c2 && okO num x x2 && okO num y y2 | _=>false)
 | .ext x i=>(match o with | .extract x2 i2=>decide (i=i2) && okO num x x2 | _=>false)
 | .mkfb f caps=>(match o with | .makeFunc (.func g) ⟨cs⟩ ⟨[]⟩=>decide (num f=some g) && XA num caps cs | _=>false)
 | .mkfn f caps=>(match o with | .makeFunc (.func g) ⟨[]⟩ ⟨cs⟩=>decide (num f=some g) && XA num caps cs | _=>false)
 | .nilck x=>(match o with | .nilCheck x2=>okO num x x2 | _=>false)
 | .fld off sz ag x=>(match o with | .field t x2 f=>Qbd P t f off sz ag && okO num x x2 | _=>false)
 | .mkg bytes sz zs x=>(match o with | .makeSlice t (.tmp l) (.tmp c)=>decide (l=c) && mkT P t bytes sz zs && okO num x (.tmp l) | _=>false)
 | .mkp bytes sz zs x=>(match o with | .makeSlice t (.tmp l) (.tmp c)=>decide (l=c) && mkT P t bytes sz zs && okO num x (.tmp l) | _=>false)
 | .extm n=>(match o with | .extract (.tmp t) i=>decide (n=t) && decide (i=0) | _=>false)
 | .mkstP _ zs parts=>(match o with | .build t ⟨ps⟩=>CT P num t zs parts ps | _=>false)
 | .mkz bytes sz zs x=>(match o with | .makeSlice t (.tmp l) (.tmp c)=>decide (l=c) && mkT P t bytes sz zs && okO num x (.tmp l) | _=>false)
 | .bstr x=>(match o with | .convert s t x2=>QaM P s t && okO num x x2 | _=>false)
 | .ldfz s off sz _ _=>(match o with | .load t (.tmp q)=>Yc P t sz && WD P t true && OG pt q s off | _=>false)
 | .apn bytes sz zs s x=>(match o with | .call ⟨.builtin .append,⟨[s2,x2]⟩,⟨[t,t2]⟩⟩=>Vg P t bytes sz && mkT P t bytes sz zs && Qbh P t2 && okO num s s2 && okO num x x2 | _=>false)
 | .apps T s x=>(match o with | .call ⟨.builtin .append,⟨[s2,x2]⟩,⟨[t,t2]⟩⟩=>Vg P t 1 1 && Ko P t T && QbW P t2 && okO num s s2 && okO num x x2 | _=>false)
 | .appb T s x=>(match o with | .call ⟨.builtin .append,⟨[s2,x2]⟩,⟨[t,t2]⟩⟩=>Ms P t t2 && Vg P t 1 1 && Ko P t T && okO num s s2 && okO num x x2 | _=>false)
 | .lgb k=>(match o with | .load t (.global g)=>decide (P.globalNamed (L6 k)=some g) && WD P t false | _=>false)
 | .usd x=>(match o with | .call ⟨.builtin .unsafeSliceData,⟨[x2]⟩,⟨[_]⟩⟩=>okO num x x2 | _=>false)
 | .ust T _ p x=>(match o with | .call ⟨.builtin .unsafeString,⟨[.tmp p2,x2]⟩,⟨[pt,_]⟩⟩=>decide (p=p2) && QbA P pt T && decide (P.cellsOf T=1) && okO num x x2 | _=>false)
 | .appM bytes sz s x=>(match o with | .call ⟨.builtin .append,⟨[s2,x2]⟩,⟨[t,t2]⟩⟩=>Ms P t t2 && Vg P t bytes sz && okO num s s2 && okO num x x2 | _=>false)
 | .stp p sz x _=>(match o with | .store t (.tmp q) y=>decide (p=q) && Yc P t sz && okO num x y | _=>false)
 | .stq p sz x _=>(match o with | .store t (.tmp q) y=>decide (p=q) && Yc P t sz && okO num x y | _=>false)
 | .slcx sz x lo hi=>(match o with | .slice t x2 lo2 hi2 none=>XT P t sz && okO num x x2 && VL num lo lo2 && VL num hi hi2 | _=>false)
 | .slcc sz x lo hi mx=>(match o with | .slice t x2 lo2 (some hi2) (some mx2)=>XT P t sz && okO num x x2 && VL num lo lo2 && okO num hi hi2 && okO num mx mx2 | _=>false)
 | .mkm=>(match o with | .makeMap _ none=>true | _=>false)
 | .lkm s ok x i z=>(match o with | .lookup t x2 i2 ok2=>decide (ok=ok2) && lkT P s t z && okO num x x2 && okO num i i2 | _=>false)
 | .upm s x k y=>(match o with | .mapUpdate t x2 k2 y2=>Qbp P s t && okO num x x2 && okO num k k2 && okO num y y2 | _=>false)
 | .mpe s x k z=>(match o with | .mapEntry t x2 k2=>lkT P s t z && okO num x x2 && okO num k k2 | _=>false)
 | .ensf x st n _=>(match o with | .entryStore _ x2 s2 (.tmp t)=>decide (n=t) && okO num x x2 && okO num st s2 | _=>false)
 | .ens x st y=>(match o with | .entryStore _ x2 s2 y2=>okO num x x2 && okO num st s2 && okO num y y2 | _=>false)
def Tl:=@List.ext_getElem?
def ER:=@List.getElem?_zipIdx
def WF:=@congrArg
def QfE {ps:List (Nat×Operand)} (h:ps.map (·.1)=List.range ps.length): (ps.map (·.2)).zipIdx.map (fun p=>(p.2,p.1))=ps:=by
 apply Tl;intro i;rw[Wr,ER,Wr];cases hp:ps[i]? with
 | none=>rfl
 | some p=>
  have hlt:i < ps.length:=by
   rcases QT i ps.length with h | h
   ·exact h
   ·rw[Q2 h]at hp;cases hp
  have:=WF (fun l=>l[i]?) h;simp only[Wr,hp,QS,Nn hlt,QG]at this;simp[<- this]
section
variable {P:Program} {num:Nat->Option Nat} {β:List Blk} {w w':World} {m:Nat->Nat} {ν:Own} {N:Nat} {w0:World} {m0:Nat->Nat} {T:Nat->Prop} {β0:List Blk} {σ σ1:St} {a:Act}
 {o:Oper} {next:Act->World->Prop} {Q:Exit->Act->World->Prop} {K:Yy} {v:AV}
def VG:=@Bool.or_eq_true
def Rj {pt:Nat->Nat->Nat->Bool} {q s off:Nat} (h:OG pt q s off=true) (hpt: ∀q s off,pt q s off=true->TA a q s off):TA a q s off\/(q=s/\off=0):=by
 unfold OG at h;simp only[VG,Qp,Qy]at h;exact h.imp (hpt _ _ _) id
def UX:=@List.any_eq_true
def PX:=@List.mem_range
def Qg8 [Dr] {Γ:Y5} (hI:Inv num N w0 m0 T β0 σ a w m β ν) (hE:Vz P num) (hK:KOk P num Γ K) (hG:Γ.G w0 m0) (hGb:Γ.Gb<=w0.heap.size) (hT: ∀b,T b->Γ.Gb<=b)
  {pt:Nat->Nat->Nat->Bool} (hpt: ∀q s off,pt q s off=true->TA a q s off) {x:AOp} (hok:Qg6 P num pt x o.op=true) (he:Qi K x σ=some (v,σ1))
  (h: ∀(u:Value) (w':World) (m':ZP) (β':XM) (ν':Own),Inv num N w0 m0 T β0 σ1 a w' m' β' ν'->UE num β' w' m' ν' .f (fun i=> .fc i) v u->
   (∀s off,x= .fad s off->∃b,a.tmps.getD s undef= .pointer (some ⟨b,0,none⟩)/\u= .pointer (some ⟨b,off,none⟩))->next (a.put o.dst u) w'):o.wp P a w next Q:=by
 have hA: (∀s off,x≠ .fad s off)->Aft num N w0 m0 T β0 σ1 a v fun u w'=>next (a.put o.dst u) w':=fun hne u w' m' β' ν' k1 k2=>h u w' m' β' ν' k1 k2 fun s off e=>absurd e (hne s off);have hS: (∀s off,x≠ .fad s off)->∀w' m' β' ν',Inv num N w0 m0 T β0 σ1 a w' m' β' ν'->v= .undef->next (a.put o.dst undef) w':=fun hne w' m' β' ν' k1 k2=>h undef w' m' β' ν' k1 (by subst k2;exact trivial) fun s off e=>absurd e (hne s off);cases x <;> simp only[Qg6]at hok
 case mov x=>
  split at hok
  ·rename_i y ho;exact Qej hI (.inl ho) hok he (hA (by simp))
  ·rename_i y ho;exact Qej hI (.inr ho) hok he (hA (by simp))
  ·cases hok
 case mvs n=>
  split at hok
  ·rename_i y ho;simp only[Qy]at hok;subst hok;exact Qek hI (.inl ho) he (hA (by simp))
  ·rename_i y ho;simp only[Qy]at hok;subst hok;exact Qek hI (.inr ho) he (hA (by simp))
  ·cases hok
 case box x=>
  split at hok
  ·rename_i t y ho;exact QoX hI ho hok he (hA (by simp))
  ·cases hok
 case alloc zs=>
  split at hok
  ·rename_i t ho;exact Qgy hI ho hok he (hA (by simp))
  ·cases hok
 case gbxn x zs=>
  split at hok
  ·rename_i t y ho;exact Qka hI ho hok he (hA (by simp))
  ·cases hok
 case gbox x=>
  split at hok
  ·rename_i t y ho;exact Qj9 hI ho hok he (hA (by simp))
  ·cases hok
 case galt T zs=>
  split at hok
  ·rename_i t ho;simp only[Qp,Qy]at hok;exact Qj8 hI ho hok.1 hok.2 he (hA (by simp))
  ·cases hok
 case galloc zs=>
  split at hok
  ·rename_i t ho;exact Qei hI ho hok he (hA (by simp))
  ·cases hok
 case fad s off=>
  split at hok
  ·rename_i ty q f ho;have hbx: ∃cs,σ.env s= .bx cs:=by
    simp only[Qi]at he;split at he
    ·exact⟨_,by assumption⟩
    ·cases he
   obtain⟨cs,hcs⟩:=hbx;obtain⟨b,cur,e,h1,h2,_⟩:=hI.box_at (q:=s) (off:=0) hcs (.inr ⟨rfl,rfl⟩);simp only[VG,Qp,Qy,UX,PX]at hok;rcases hok with⟨rfl,hf⟩ | ⟨o2,ho2,hp,hf⟩
   ·refine Qeg hI ho hf h2 he fun k1 k2=> ?_;rw[Zl];refine h _ w m β ν k1 (by subst k2;exact trivial) fun s2 off2 e=> ?_;injection e with e1 e2
    subst e1 e2;exact⟨b,h2,rfl⟩
   ·obtain⟨b2,p1,p2⟩:=hpt _ _ _ hp;refine Qeg hI ho hf (show a.eval (.tmp q)=_ from p2) he fun k1 k2=> ?_;rw[show o2+ (off - o2)=off by omega];refine h _ w m β ν k1 (by subst k2;exact trivial) fun s2 off2 e=> ?_;injection e with e1 e2
    subst e1 e2;exact⟨b2,p1,rfl⟩
  ·rename_i ty q k i ho;have hbx: ∃cs,σ.env s= .bx cs:=by
    simp only[Qi]at he;split at he
    ·exact⟨_,by assumption⟩
    ·cases he
   obtain⟨cs,hcs⟩:=hbx;obtain⟨b,cur,e,h1,h2,_⟩:=hI.box_at (q:=s) (off:=0) hcs (.inr ⟨rfl,rfl⟩);simp only[Qp,Qy]at hok;obtain⟨rfl,hf⟩:=hok;refine Qj6 hI ho hf h2 he fun k1 k2=> ?_;rw[Zl];refine h _ w m β ν k1 (by subst k2;exact trivial) fun s2 off2 e=> ?_;injection e with e1 e2
   subst e1 e2;exact⟨b,h2,rfl⟩
  ·cases hok
 case fadr p off=>
  split at hok
  ·rename_i ty q f ho;simp only[Qp,Qy]at hok;obtain⟨rfl,hf⟩:=hok;exact Qj7 hI ho hf he (hA (by simp))
  ·cases hok
 case ldf s off sz ag=>
  split at hok
  ·rename_i t q ho;simp only[Qp]at hok;exact Qo7 hI ho hok.1.1 hok.1.2 (Rj hok.2 hpt) he (hA (by simp))
  ·cases hok
 case ldfm s off=>
  split at hok
  ·rename_i t q ho;simp only[Qp]at hok;exact Qkc hI ho hok.1 (Rj hok.2 hpt) he (hA (by simp))
  ·cases hok
 case ld p sz ag=>
  split at hok
  ·rename_i t q ho;simp only[Qp,Qy]at hok;obtain⟨⟨rfl,h1⟩,h2⟩:=hok;exact QqO hI ho h1 h2 he (hA (by simp))
  ·cases hok
 case ldg p sz ag=>
  split at hok
  ·rename_i t q ho;simp only[Qp,Qy]at hok;obtain⟨⟨rfl,h1⟩,h2⟩:=hok;exact Qo8 hI ho h1 h2 he (hA (by simp))
  ·cases hok
 case ldm p=>
  split at hok
  ·rename_i t q ho;simp only[Qp,Qy]at hok;obtain⟨rfl,h2⟩:=hok;exact Qo9 hI ho h2 he (hA (by simp))
  ·cases hok
 case stf s off sz x=>
  split at hok
  ·rename_i t q y ho;simp only[Qp]at hok;exact Qpi hI ho hok.1.1 hok.1.2 (Rj hok.2 hpt) he (hS (by simp))
  ·cases hok
 case stn s off sz x zs=>
  split at hok
  ·rename_i t q y ho;simp only[Qp]at hok;exact Qpk hI ho hok.1.1 hok.1.2 (Rj hok.2 hpt) he (hS (by simp))
  ·cases hok
 case stfm s off n=>
  split at hok
  ·rename_i t q n2 ho;simp only[Qp,Qy]at hok;obtain⟨⟨rfl,h1⟩,h2⟩:=hok;exact Qkq hI ho h1 (Rj h2 hpt) he (hS (by simp))
  ·cases hok
 case st p sz x=>
  split at hok
  ·rename_i t q y ho;simp only[Qp,Qy]at hok;obtain⟨⟨rfl,h1⟩,h2⟩:=hok;exact Qba hI ho h1 h2 he (hS (by simp))
  ·cases hok
 case stm p n=>
  split at hok
  ·rename_i t q n2 ho;simp only[Qp,Qy]at hok;obtain⟨⟨rfl,rfl⟩,h1⟩:=hok;exact Qpj hI ho h1 he (hS (by simp))
  ·cases hok
 case bin op x y=>
  split at hok
  ·rename_i op2 t x2 y2 t2 ho;simp only[Qp,Qy]at hok;obtain⟨⟨rfl,h1⟩,h2⟩:=hok;exact QoW hI ho h1 h2 he (hA (by simp))
  ·cases hok
 case eqb ne x y=>
  split at hok
  ·rename_i op2 t x2 y2 t2 ho;simp only[Qp,Qy]at hok;obtain⟨⟨⟨rfl,h1⟩,h2⟩,h3⟩:=hok;exact Qo1 hI ho h1 h2 h3 he (hA (by simp))
  ·cases hok
 case eqn ne x=>
  split at hok
  ·rename_i op2 t x2 t2 ho;simp only[Qp,Qy]at hok;obtain⟨⟨rfl,h1⟩,h2⟩:=hok;exact Qo2 hI ho h1 h2 he (hA (by simp))
  ·cases hok
 case eqa ne ks x y=>
  split at hok
  ·rename_i op2 t x2 y2 t2 ho;simp only[Qp,Qy]at hok;obtain⟨⟨⟨rfl,h1⟩,h2⟩,h3⟩:=hok;exact Qo0 hI ho h1 h2 h3 he (hA (by simp))
  ·cases hok
 case isn ne x=>
  split at hok
  ·rename_i op2 t x2 t2 ho;simp only[Qp,Qy]at hok;obtain⟨⟨rfl,h1⟩,h2⟩:=hok;exact Qo6 hI ho h1 h2 he (hA (by simp))
  ·cases hok
 case un op x=>
  split at hok
  ·rename_i op2 t x2 ho;simp only[Qp,Qy]at hok;obtain⟨rfl,h1⟩:=hok;exact QqR hI ho h1 he (hA (by simp))
  ·cases hok
 case conv k x=>
  split at hok
  ·rename_i s t x2 ho;simp only[Qp]at hok;exact Qj3 hI ho hok.1 hok.2 he (hA (by simp))
  ·cases hok
 case call f args=>
  split at hok
  ·rename_i g ys ts ho;simp only[Qp,Qy]at hok;exact AJ hI hE hK hG hGb hT ho hok.1 hok.2 he (hA (by simp))
  ·cases hok
 case callq f args=>
  split at hok
  ·rename_i g ys ts ho;simp only[Qp,Qy]at hok;exact QgA hI hE hK hG hGb hT ho hok.1 hok.2 he (hA (by simp))
  ·cases hok
 case callv g args=>
  split at hok
  ·rename_i x2 ys ts ho;simp only[Qp]at hok;exact QgB hI hE hK hG hGb hT ho hok.1 hok.2 he (hA (by simp))
  ·cases hok
 case lens x=>
  split at hok
  ·rename_i c ho;unfold Pz at hok;split at hok
   ·rename_i b2 y t;simp only[Qp,Qy]at hok;obtain⟨⟨rfl,h1⟩,h2⟩:=hok;exact Qkf hI ho h1 h2 he (hA (by simp))
   ·cases hok
  ·cases hok
 case lenl x=>
  split at hok
  ·rename_i c ho;unfold Pz at hok;split at hok
   ·rename_i b2 y t;simp only[Qp,Qy]at hok;obtain⟨⟨rfl,h1⟩,h2⟩:=hok;exact Qke hI ho h1 h2 he (hA (by simp))
   ·cases hok
  ·cases hok
 case app bytes sz s x=>
  split at hok
  ·rename_i s2 x2 t t2 ho;simp only[Qp]at hok;obtain⟨⟨⟨h0,h1⟩,h2⟩,h3⟩:=hok;exact Oy ho h0 (QoV hI rfl h1 h2 h3 he (hA (by simp)))
  ·cases hok
 case appg bytes sz s x=>
  split at hok
  ·rename_i s2 x2 t t2 ho;simp only[Qp]at hok;obtain⟨⟨⟨h0,h1⟩,h2⟩,h3⟩:=hok;exact Oy ho h0 (QjZ hI rfl h1 h2 h3 he (hA (by simp)))
  ·cases hok
 case appz bytes sz n x=>
  split at hok
  ·rename_i n2 x2 t t2 ho;simp only[Qp,Qy]at hok;obtain⟨⟨⟨h0,rfl⟩,h2⟩,h3⟩:=hok;exact Oy ho h0 (Qj1 hI rfl h2 h3 he (hA (by simp)))
  ·cases hok
 case zlit=>
  split at hok
  ·rename_i t ho;split at hok
   ·split at hok
    ·exact Qkr hI ho hok he (hA (by simp))
    ·cases hok
   ·cases hok
  ·cases hok
 case nilp=>
  simp only[Qi,QG,QW]at he;obtain⟨rfl,rfl⟩:=he;split at hok
  ·rename_i ho;exact Qs (u:= .pointer none) (w':=w) (by simp[execOp,ho,Act.eval]) (h _ _ _ _ _ hI ((QU rfl).2 ⟨rfl,trivial⟩) (by simp))
  ·rename_i ho;exact Qs (u:= .pointer none) (w':=w) (by simp[execOp,ho,Act.eval]) (h _ _ _ _ _ hI ((QU rfl).2 ⟨rfl,trivial⟩) (by simp))
  ·cases hok
 case appzz s x=>
  split at hok
  ·rename_i s2 x2 t t2 ho;simp only[Qp,Qy]at hok;obtain⟨⟨⟨rfl,h1⟩,h2⟩,h3⟩:=hok;split at h1
   ·split at h1
    ·exact Qgz hI ho h1 h2 h3 he (hA (by simp))
    ·cases h1
   ·cases h1
  ·cases hok
 case frz n sz=>
  split at hok
  ·rename_i y ho;simp only[Qy]at hok;subst hok;exact Qeh hI (.inl ho) he (hA (by simp))
  ·rename_i y ho;simp only[Qy]at hok;subst hok;exact Qeh hI (.inr ho) he (hA (by simp))
  ·cases hok
 case clr sz x=>
  split at hok
  ·rename_i c ho;unfold Pz at hok;split at hok
   ·rename_i b2 y t;simp only[Qp,Qy]at hok;obtain⟨⟨rfl,h1⟩,h2⟩:=hok;exact QoY hI ho h1 h2 he (hA (by simp))
   ·cases hok
  ·cases hok
 case mx x y=>
  split at hok
  ·rename_i x2 y2 ts ho;simp only[Qp]at hok;exact QqQ hI ho hok.1 hok.2 he (hA (by simp))
  ·cases hok
 case mn x y=>
  split at hok
  ·rename_i x2 y2 ts ho;simp only[Qp]at hok;exact QqP hI ho hok.1 hok.2 he (hA (by simp))
  ·cases hok
 case mksl sz parts=>
  split at hok
  ·rename_i t n ps ho;simp only[Qp,Qy]at hok;obtain⟨⟨⟨rfl,h1⟩,h2⟩,h3⟩:=hok;have hz:=QfE h1;refine Qkj (ps:=ps.map (·.2)) (t:=t) hI ?_ (by simpa using h2) h3 he (hA (by simp));rw[ho,hz,WQ]
  ·cases hok
 case mksg sz parts=>
  split at hok
  ·rename_i t n ps ho;simp only[Qp,Qy]at hok;obtain⟨⟨⟨rfl,h1⟩,h2⟩,h3⟩:=hok;have hz:=QfE h1;refine Qki (ps:=ps.map (·.2)) (t:=t) hI ?_ (by simpa using h2) h3 he (hA (by simp));rw[ho,hz,WQ]
  ·cases hok
 case mkst zs parts=>
  split at hok
  ·rename_i t ps ho;exact AK hI ho hok he (hA (by simp))
  ·cases hok
 case idxa sz x i=>
  split at hok
  ·rename_i t x2 i2 ho;simp only[Qp]at hok;exact Qkb hI ho hok.1.1 hok.1.2 hok.2 he (hA (by simp))
  ·cases hok
 case idx x i=>
  split at hok
  ·rename_i t x2 i2 ho;simp only[Qp]at hok;exact Qo5 hI ho hok.1.1 hok.1.2 hok.2 he (hA (by simp))
  ·cases hok
 case slcs x lo hi=>
  split at hok
  ·rename_i t x2 lo2 hi2 ho;simp only[Qp]at hok;exact Qko hI ho hok.1.1.1 hok.1.1.2 hok.1.2 hok.2 he (hA (by simp))
  ·cases hok
 case slcl sz x lo hi=>
  split at hok
  ·rename_i t x2 lo2 hi2 ho;simp only[Qp]at hok;exact Qkn hI ho hok.1.1.1 hok.1.1.2 hok.1.2 hok.2 he (hA (by simp))
  ·cases hok
 case slz sz x=>
  split at hok
  ·rename_i t x2 k1 k2 ho;simp only[Qp]at hok;exact Qph hI ho hok.1 hok.2 he (hA (by simp))
  ·cases hok
 case pick c x y=>
  split at hok
  ·rename_i c2 x2 y2 ho;simp only[Qp]at hok;exact Qkk hI ho hok.1.1 hok.1.2 hok.2 he (hA (by simp))
  ·cases hok
 case ext x i=>
  split at hok
  ·rename_i x2 i2 ho;simp only[Qp,Qy]at hok;obtain⟨rfl,h1⟩:=hok;exact Qo3 hI ho h1 he (hA (by simp))
  ·cases hok
 case mkfn f caps=>
  split at hok
  ·rename_i g cs ho;simp only[Qp,Qy]at hok;exact Qkh hI ho hok.1 hok.2 he (hA (by simp))
  ·cases hok
 case mkfb f caps=>
  split at hok
  ·rename_i g cs ho;simp only[Qp,Qy]at hok;exact Qkg hI ho hok.1 hok.2 he (hA (by simp))
  ·cases hok
 case nilck x=>
  split at hok
  ·rename_i x2 ho;exact QgD hI ho hok he (hA (by simp))
  ·cases hok
 case fld off sz ag x=>
  split at hok
  ·rename_i t x2 f ho;simp only[Qp]at hok;exact Qo4 hI ho hok.1 hok.2 he (hA (by simp))
  ·cases hok
 case mkg bytes sz zs x=>
  split at hok
  ·rename_i t l c ho;simp only[Qp,Qy]at hok;obtain⟨⟨rfl,h1⟩,h2⟩:=hok;exact Qpc hI ho h1 h2 he (hA (by simp))
  ·cases hok
 case mkp bytes sz zs x=>
  split at hok
  ·rename_i t l c ho;simp only[Qp,Qy]at hok;obtain⟨⟨rfl,h1⟩,h2⟩:=hok;exact Qpe hI ho h1 h2 he (hA (by simp))
  ·cases hok
 case extm n=>
  split at hok
  ·rename_i t i ho;simp only[Qp,Qy]at hok;obtain⟨rfl,rfl⟩:=hok;exact Qj5 hI ho he (hA (by simp))
  ·cases hok
 case mkstP n zs parts=>
  split at hok
  ·rename_i t ps ho;exact QgC hI ho hok he (hA (by simp))
  ·cases hok
 case mkz bytes sz zs x=>
  split at hok
  ·rename_i t l c ho;simp only[Qp,Qy]at hok;obtain⟨⟨rfl,h1⟩,h2⟩:=hok;exact Qpf hI ho h1 h2 he (hA (by simp))
  ·cases hok
 case bstr x=>
  split at hok
  ·rename_i s t2 x2 ho;simp only[Qp]at hok;exact Qj2 hI ho hok.1 hok.2 he (hA (by simp))
  ·cases hok
 case ldfz s off sz fo fz=>
  split at hok
  ·rename_i t q ho;simp only[Qp]at hok;exact Qkd hI ho hok.1.1 hok.1.2 (Rj hok.2 hpt) he (hA (by simp))
  ·cases hok
 case apps T s x=>
  split at hok
  ·rename_i s2 x2 t t2 ho;simp only[Qp]at hok;obtain⟨⟨⟨⟨h1,h2⟩,h3⟩,h4⟩,h5⟩:=hok;exact Qj0 hI ho h1 (IL h2) h3 h4 h5 (by simp only[Qi]at he;exact he) (hA (by simp))
  ·cases hok
 case appb T s x=>
  split at hok
  ·rename_i s2 x2 t t2 ho;simp only[Qp]at hok;obtain⟨⟨⟨⟨h0,h1⟩,h2⟩,h3⟩,h4⟩:=hok;exact Oy ho h0 (QjY hI rfl h1 (IL h2) h3 h4 (by simp only[Qi]at he;exact he) (hA (by simp)))
  ·cases hok
 case lgb k=>
  split at hok
  ·rename_i t g ho;simp only[Qp,Qy]at hok;exact Qpa hI hK hG hGb hT ho hok.1 hok.2 he (hA (by simp))
  ·cases hok
 case usd x=>
  split at hok
  ·rename_i x2 t ho;exact Qpm hI ho hok (by simp only[Qi]at he;exact he) (hA (by simp))
  ·cases hok
 case ust T q p x=>
  split at hok
  ·rename_i p2 x2 pt it ho;simp only[Qp,Qy]at hok;obtain⟨⟨⟨rfl,h1⟩,h2⟩,h3⟩:=hok;exact Qpn hI ho (Qhf h1) h2 h3 (by simp only[Qi]at he;exact he) (hA (by simp))
  ·cases hok
 case appM bytes sz s x=>
  split at hok
  ·rename_i s2 x2 t t2 ho;simp only[Qp]at hok;obtain⟨⟨⟨h0,h1⟩,h2⟩,h3⟩:=hok;exact Oy ho h0 (QjX hI rfl h1 h2 h3 he (hA (by simp)))
  ·cases hok
 case apn bytes sz zs s x=>
  split at hok
  ·rename_i s2 x2 t t2 ho;simp only[Qp]at hok;obtain⟨⟨⟨⟨h0,h1⟩,h2⟩,h3⟩,h4⟩:=hok;exact QoU hI ho h0 h1 h2 h3 h4 he (hA (by simp))
  ·cases hok
 case stq p sz x q=>
  split at hok
  ·rename_i t q2 y ho;simp only[Qp,Qy]at hok;obtain⟨⟨rfl,h1⟩,h2⟩:=hok;have he2:Qi K (.st p sz x) σ=some (v,σ1):=by
    simp only[Qi]at he ⊢;split at he
    ·rename_i i o2 i2 o3 e1 e2;rw[e1];split at he
     ·cases he
     ·exact he
    ·cases he
   exact Qba hI ho h1 h2 he2 (hS (by simp))
  ·cases hok
 case stp p sz x q=>
  split at hok
  ·rename_i t q2 y ho;simp only[Qp,Qy]at hok;obtain⟨⟨rfl,h1⟩,h2⟩:=hok;have he2:Qi K (.st p sz x) σ=some (v,σ1):=by
    simp only[Qi]at he ⊢;split at he
    ·rename_i i o2 i2 o3 e1 e2;rw[e1];split at he
     ·cases he
     ·exact he
    ·cases he
   exact Qba hI ho h1 h2 he2 (hS (by simp))
  ·cases hok
 case slcx sz x lo hi=>
  split at hok
  ·rename_i ho;simp only[Qp]at hok;exact Qkp hI ho hok.1.1.1 hok.1.1.2 hok.1.2 hok.2 he (hA (by simp))
  ·cases hok
 case slcf sz x hi mx=>
  split at hok
  ·rename_i ho;simp only[Qp]at hok;exact Qkm hI ho hok.1.1.1 hok.1.1.2 hok.1.2 hok.2 he (hA (by simp))
  ·cases hok
 case slcc sz x lo hi mx=>
  split at hok
  ·rename_i ho;simp only[Qp]at hok;exact Qkl hI ho hok.1.1.1.1 hok.1.1.1.2 hok.1.1.2 hok.1.2 hok.2 he (hA (by simp))
  ·cases hok
 case mkm=>
  split at hok
  ·rename_i t ho;exact Qpd hI ho he (hA (by simp))
  ·cases hok
 case lkm s ok x i z=>
  split at hok
  ·rename_i t x2 i2 ok2 ho;simp only[Qp,Qy]at hok;obtain⟨⟨⟨rfl,h1⟩,h2⟩,h3⟩:=hok;exact Qpb hI ho h1 h2 h3 he (hA (by simp))
  ·cases hok
 case upm s x k y=>
  split at hok
  ·rename_i t x2 k2 y2 ho;simp only[Qp]at hok;obtain⟨⟨⟨h1,h2⟩,h3⟩,h4⟩:=hok;exact Qpl hI ho h1 h2 h3 h4 he (hS (by simp))
  ·cases hok
 case mpe s x k z=>
  split at hok
  ·rename_i t x2 k2 ho;simp only[Qp]at hok;obtain⟨⟨h1,h2⟩,h3⟩:=hok;exact Qpg hI ho h1 h2 h3 he (hA (by simp))
  ·cases hok
 case ensf x st n sz=>
  split at hok
  ·rename_i t x2 s2 t2 ho;simp only[Qp,Qy]at hok;obtain⟨⟨rfl,h1⟩,h2⟩:=hok;exact Qj4 hI ho h1 h2 he (hS (by simp))
  ·cases hok
 case ens x st y=>
  split at hok
  ·rename_i t x2 s2 y2 ho;simp only[Qp]at hok;obtain⟨⟨h1,h2⟩,h3⟩:=hok;exact QoZ hI ho h1 h2 h3 he (hS (by simp))
  ·cases hok
end
end Go.Am
