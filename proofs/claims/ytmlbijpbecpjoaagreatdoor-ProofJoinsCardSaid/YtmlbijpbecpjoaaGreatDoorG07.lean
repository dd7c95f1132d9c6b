/-
  AmB, Am12.
-/
import Derived.Test.YtmlbijpbecpjoaaGreatDoorG06
import Derived.Lib.AppendStr
import Derived.Lib.UnsafeStr
set_option linter.all false
namespace Go.Am
open Go.Lib
section
variable {P:Program} {num:Nat->Option Nat} {β:List Blk} {w:World} {m:Nat->Nat} {ν:Own} {N:Nat} {w0:World} {m0:Nat->Nat} {T:Nat->Prop} {β0:List Blk} {σ σ1:St} {a:Act} {o:Oper} {next:Act->World->Prop} {Q:Exit->Act->World->Prop} {K:Yo} {v:AV}
def QaJ (P:Program) (t:TypeId):Bool:=match P.underlying t with
 | some .string=>true
 | _=>false
def HC {t t2 ty e:TypeId} {i:TypeInfo} {base:UG} {n cap:Nat} (ht:P.underlying t=some (.slice e)) (hu:P.underlying t2=some .string) (hi:P.info? e=some i) (hn:n<=cap) {s:ByteArray} (hs:s.size=0):
  (Builtin.append_ #[t,t2] ty #[.slice base n cap,.string s]).run P w= .ok (.slice base n cap) w:=by
 have hf:=run_firstCells_string (P:=P) w i.size s;have hc:strCells s=[]:=YE (by rw[strCells_length];exact hs);rw[hs,hc]at hf;cases base <;> simp[Builtin.append_,run_underlying ht,run_underlying hu,sizeOf,typeInfo,hi,Builtin.lenOf,hs,hn,hf,storeCells]
def Cw {t t2 ty e e2:TypeId} {i:TypeInfo} {g sLen sCap:Nat} {cur:Ze} {s:ByteArray} (ht:P.underlying t=some (.slice e)) (hu:P.underlying t2=some .string) (hi:P.info? e=some i) (hs1:i.size=1)
  (hg:w.heap[g]? =some (.cells cur e2 (0,0))) (hroom:sLen+s.size<=sCap) (hfit:sLen*i.size+ (strCells s).length<=cur.size):
  (Builtin.append_ #[t,t2] ty #[.slice (some ⟨g,0,none⟩) sLen sCap,.string s]).run P w=
   .ok (.slice (some ⟨g,0,none⟩) (sLen+s.size) sCap) (w.setRow g (cur.toList.take (sLen*i.size)++ strCells s ++ cur.toList.drop (sLen*i.size+ (strCells s).length)).toArray):=by
 have hf:=run_firstCells_string (P:=P) w 1 s;have hst:=run_storeCells_at P g (sLen*i.size) e2 (strCells s) 0 cur w hg (by simpa using hfit) (strCells_oneCell s);simp only[Ty]at hst;rw[hs1,Rp]at hst ⊢;simp[Builtin.append_,run_underlying ht,run_underlying hu,sizeOf,typeInfo,hi,hs1,Builtin.lenOf,hroom,hf,Ym,hst]
def NY {t t2 ty e:TypeId} {i:TypeInfo} {z:Value} {base:UG} {sLen sCap:Nat} {olds:ZE} {s:ByteArray} (ht:P.underlying t=some (.slice e)) (hu:P.underlying t2=some .string) (hi:P.info? e=some i) (hz:i.zero=some z)
  (hfo: (Builtin.firstCells i.size sLen (.slice base sLen sCap)).run P w.drew= .ok olds.toArray w.drew) (hg:sCap < sLen+s.size) (h63: ((sLen+s.size:Nat):Int)<=9223372036854775807) (hfit:Builtin.nextslicecap (sLen+s.size) sCap*i.bytes<=281474976710656):
  (Builtin.append_ #[t,t2] ty #[.slice base sLen sCap,.string s]).run P w=
   .ok (.slice (some ⟨w.heap.size,0,none⟩) (sLen+s.size) (grownCap w (sLen+s.size) sCap e))
    (w.drew.alloc (.cells (olds.toArray ++ (strCells s).toArray ++ Builtin.zeroCells z.cells (grownCap w (sLen+s.size) sCap e - (sLen+s.size))) e)):=by
 have hn: ¬(sLen+s.size<=sCap):=by omega
 have h63': ¬(9223372036854775807 < ((sLen:Int)+ (s.size:Int))):=by omega
 have h48': ¬(281474976710656 < Builtin.nextslicecap (sLen+s.size) sCap*i.bytes):=by omega
 have hf:=run_firstCells_string (P:=P) w.drew i.size s;cases base <;> simp[Builtin.append_,run_underlying ht,run_underlying hu,sizeOf,typeInfo,zeroValue,hi,hz,Builtin.lenOf,hn,h63',h48',Question.forced,hf,hfo,newRow,grownCap] <;> congr 2 <;> apply Array.ext' <;> simp[ZR]
def Au {q:Qu} {j:Nat} {c:AV} (h: (Px q)[j]? =some c): ∃u,(strCells ⟨q.toArray⟩)[j]? =some u/\u.oneCell'=true/\Qd num β w m c u/\∀p w' m' ν',Zz w' m' ν' p c u:=by
 unfold Px at h;rw[Wb]at h;obtain⟨b,hb,rfl⟩:=Pd.1 h;refine⟨.int .u8 b.toNat,?_,rfl,by simp only[Qd],fun _ _ _ _=>trivial⟩;simp[strCells,hb]
def QoV {T id k:Nat} {u:Value} (h:Qd num β w m (.gb T id k) u):Qd num β w m (.gs id 0 1 k) u/\TyA β T (.gs id 0 1 k):=by
 simp only[Qd]at h ⊢;obtain⟨kb,cap,h1,h2,h3,h4,h5,h6⟩:=h;exact⟨⟨_,cap,h3,h5,h6,.inr ⟨kb,h1,rfl,by omega,by omega⟩⟩,.inr ⟨kb,h1.1,h2⟩⟩
def Hh {T:Nat} {v:AV} {u:Value} {pl:Pl} {cp:Nat->Pl} (h:Uf num β w m ν pl cp v u) (t:TyA β T v):Uf num β w m ν pl cp (QaK T v) u:=by
 unfold QaK;split
 ·rename_i id o sz n;split
  ·rename_i hc;obtain⟨rfl,rfl,hn⟩:=hc;have hr:=((QT (c:= .gs id 0 1 n) rfl).1 h).1;refine(QT (c:= .gb T id n) rfl).2 ⟨?_,trivial⟩;simp only[Qd]at hr ⊢;obtain⟨a,cap,h1,h2,h3,h4⟩:=hr;rcases h4 with h4 | ⟨kb,h5,h6,h7,_⟩
   ·omega
   ·rcases t with t | ⟨kc,t1,t2⟩
    ·omega
    ·rw[h5.1]at t1;injection t1 with t1
     subst t1 h6;exact⟨kb,cap,h5,t2,h1,by omega,h2,h3⟩
  ·exact h
 ·exact h
def Ix [Dr] {n:Nat} {s:AO} {s':Operand} {e:TypeId} {i:TypeInfo} {z:Value} {ys:Qh} {news:ZE} {ap:Value->Sem Value} {v2:AV} {bs2:Qa}
  (hI:Inv num N w0 m0 T β0 σ a w m β ν) (hs:okO num s s'=true) (hbe:i.bytes=1) (hs1:i.size=1) (hz:z.cells.size=i.size) (hm:O9 e (val σ.env s) (n,ys) σ.bs=some (v2,bs2))
  (hnl:news.length=n*i.size) (hone: ∀u∈news,u.oneCell'=true)
  (hN:0 < n->ys.length=n*i.size/\∀(j:Nat) (c:AV),ys[j]? =some c->∃u,news[j]? =some u/\u.oneCell'=true/\Qd num β w m c u/\∀p w' m' ν',Zz w' m' ν' p c u)
  (hexec: ∀A k cap,a.eval s'= .slice A k cap->∀r w',(ap (.slice A k cap)).run P w= .ok r w'->(execOp a.eval o).run P w= .ok (.value r) w')
  (q0:n=0->∀A k cap,k<=cap->(ap (.slice A k cap)).run P w= .ok (.slice A k cap) w)
  (q1:0 < n->∀A,(n:Int)<=9223372036854775807->n*i.bytes<=281474976710656->(ap (.slice A 0 0)).run P w= .ok (.slice (some ⟨w.heap.size,0,none⟩) n (grownCap w n 0 e)) (w.drew.alloc (.cells (news.toArray ++ Builtin.zeroCells z.cells (grownCap w n 0 e - n)) e)))
  (q2:0 < n->∀g cur e2 sLen sCap,w.heap[g]? =some (.cells cur e2 (0,0))->sLen+n<=sCap->sLen*i.size+news.length<=cur.size->(n:Int)<=9223372036854775807->n*i.bytes<=281474976710656->
   (ap (.slice (some ⟨g,0,none⟩) sLen sCap)).run P w= .ok (.slice (some ⟨g,0,none⟩) (sLen+n) sCap) (w.setRow g (cur.toList.take (sLen*i.size)++ news ++ cur.toList.drop (sLen*i.size+news.length)).toArray))
  (q3:0 < n->∀(b:Addr) sLen sCap (olds:ZE),olds.length=sLen*i.size->(∀j v,olds[j]? =some v->w.cell? (b.add j)=some v)->sCap < sLen+n->((sLen+n:Nat):Int)<=9223372036854775807->n*i.bytes<=281474976710656->Builtin.nextslicecap (sLen+n) sCap*i.bytes<=281474976710656->
   (ap (.slice (some b) sLen sCap)).run P w= .ok (.slice (some ⟨w.heap.size,0,none⟩) (sLen+n) (grownCap w (sLen+n) sCap e))
    (w.drew.alloc (.cells (olds.toArray ++ news.toArray ++ Builtin.zeroCells z.cells (grownCap w (sLen+n) sCap e - (sLen+n))) e)))
  (h:Aft num N w0 m0 T β0 {σ with bs:=bs2} a v2 fun u w'=>next (a.put o.dst u) w'):o.wp P a w next Q:=by
 cases hA:val σ.env s with
 | gs id o1 sz1 k=>
  have hr:=(hI.val hs (by rw[hA];rfl)).1;rw[hA]at hr hm;simp only[O9]at hm;split at hm
  ·rename_i hc;cases hq:Pu 1 1 (.gs id o1 sz1 k) (n,ys) σ.bs with
   | none=>rw[hq]at hm;cases hm
   | some p=>
    rw[hq]at hm;simp only[QS,QD,QV]at hm;obtain⟨rfl,rfl⟩:=hm;exact O8 (bytes:=1) (i:=i) (v2:=p.1) (bs2:=p.2) hI hr (by omega) hbe (by omega) hz (by rw[hs1];exact hq) hnl hone hN hexec q0 q1 q2 q3 fun u w' m' β' ν' i1 i2 i3=>h u w' m' β' ν' i1 (Hh i2 (i3 (.inl hc)))
  ·cases hm
 | gb T' id k=>
  have hr:=(hI.val hs (by rw[hA];rfl)).1;rw[hA]at hr hm;simp only[O9]at hm;split at hm
  ·rename_i hc;subst hc;obtain⟨hr,ht⟩:=QoV hr;cases hq:Pu 1 1 (.gs id 0 1 k) (n,ys) σ.bs with
   | none=>rw[hq]at hm;cases hm
   | some p=>
    rw[hq]at hm;simp only[QS,QD,QV]at hm;obtain⟨rfl,rfl⟩:=hm;exact O8 (bytes:=1) (i:=i) (v2:=p.1) (bs2:=p.2) hI hr (by omega) hbe (by omega) hz (by rw[hs1];exact hq) hnl hone hN hexec q0 q1 q2 q3 fun u w' m' β' ν' i1 i2 i3=>h u w' m' β' ν' i1 (Hh i2 (i3 ht))
  ·cases hm
 | _=>rw[hA]at hm;cases hm
def Qia [Dr] {e0:Nat} {s x:AO} {s' x':Operand} {t t2:TypeId} (hI:Inv num N w0 m0 T β0 σ a w m β ν) (ho:o.op= .call {callee:= .builtin .append,args:= #[s',x'],argTypes:= #[t,t2]})
  (ht:W2 P t 1 1=true) (hte:P.underlying t=some (.slice e0)) (h2:QaJ P t2=true) (hs:okO num s s'=true) (hx:okO num x x'=true)
  (he: (match val σ.env x with
   | .str q=>(O9 e0 (val σ.env s) (q.length,Px q) σ.bs).map fun p=>(p.1,{σ with bs:=p.2})
   | _=>none)=some (v,σ1)) (h:Aft num N w0 m0 T β0 σ1 a v fun u w'=>next (a.put o.dst u) w'):o.wp P a w next Q:=by
 split at he
 ·rename_i q hq;cases hm:O9 e0 (val σ.env s) (q.length,Px q) σ.bs with
  | none=>rw[hm]at he;cases he
  | some p=>
   rw[hm]at he;obtain⟨v2,bs2⟩:=p;simp only[QS,QD,QV]at he;obtain⟨rfl,rfl⟩:=he;have hv:=(hI.val hx (by rw[hq];rfl)).1;rw[hq]at hv;simp only[Qd]at hv;have hu2:P.underlying t2=some .string:=by
    unfold QaJ at h2;split at h2
    ·assumption
    ·cases h2
   unfold W2 at ht;split at ht
   ·rename_i e hun;split at ht
    ·rename_i i hi;simp only[Qo,Qv]at ht;obtain⟨⟨⟨⟨hs1,hb1⟩,_⟩,_⟩,hz⟩:=ht;obtain rfl:e=e0:=by rw[hte]at hun;injection hun with hun;injection hun with hun;exact hun.symm
     split at hz
     ·rename_i z hzz;simp only[Qv]at hz;have hsz: (⟨q.toArray⟩:ByteArray).size=q.length:=by simp[ByteArray.size]
      have hsl: (strCells ⟨q.toArray⟩).length=q.length:=by rw[strCells_length,hsz]
      refine Ix (e:=e) (i:=i) (z:=z) (n:=q.length) (ys:=Px q) (news:=strCells ⟨q.toArray⟩) (ap:=fun s=>Builtin.append_ #[t,t2] o.type #[s,.string ⟨q.toArray⟩]) hI hs hb1 hs1 (by omega) hm
       (by rw[hsl,hs1,Rp]) (strCells_oneCell _) (fun _=>⟨by rw[hs1,Rp];simp[Px],fun j c hj=>Au hj⟩) (fun A k cap hu r w' hrr=> ?_) (fun h0 A k cap hk=> ?_) (fun hn A h1 h2=> ?_)
       (fun hn g cur e2 sLen sCap hg hr hf h1 h2=> ?_) (fun hn b sLen sCap olds h1 h2 h3 h4 h5 h6=> ?_) h
      ·simp only[execOp,ho,resolve,invoke,builtin,V5,Yf,Wr,hu,hv,Sem.run_bind,Sem.run_pure,Result.andThen_ok,hrr]
      ·exact HC hun hu2 hi hk (by rw[hsz];exact h0)
      ·have:=NY (w:=w) (ty:=o.type) (base:=A) (sLen:=0) (sCap:=0) (olds:=[]) (s:=⟨q.toArray⟩) hun hu2 hi hzz (by cases A <;> simp[Builtin.firstCells,loadCells,loadCellsFrom]) (by rw[hsz];omega) (by rw[hsz];simpa using h1) (by rw[hsz,Zk,nextslicecap_zero hn];exact h2);rw[hsz]at this;simpa using this
      ·have:=Cw (ty:=o.type) (s:=⟨q.toArray⟩) hun hu2 hi hs1 hg (by rw[hsz];exact hr) (by rw[hsl]at hf ⊢;exact hf);rw[hsz]at this;exact this
      ·have:=NY (w:=w) (ty:=o.type) (base:=some b) (sLen:=sLen) (sCap:=sCap) (olds:=olds) (s:=⟨q.toArray⟩) hun hu2 hi hzz (run_firstCells_some (P:=P) w.drew i.size sLen b sLen sCap olds h1 (by simpa using h2)) (by rw[hsz];exact h3) (by rw[hsz];exact h4) (by rw[hsz];exact h6);rw[hsz]at this;exact this
     ·cases hz
    ·cases ht
   ·cases ht
 ·cases he
def Qh8 [Dr] {e0:Nat} {s x:AO} {s' x':Operand} {t:TypeId} (hI:Inv num N w0 m0 T β0 σ a w m β ν) (ho:o.op= .call {callee:= .builtin .append,args:= #[s',x'],argTypes:= #[t,t]})
  (ht:W2 P t 1 1=true) (hte:P.underlying t=some (.slice e0)) (hs:okO num s s'=true) (hx:okO num x x'=true)
  (he: ((Wt 1 (val σ.env x) σ.bs).bind fun q=>(O9 e0 (val σ.env s) q σ.bs).map fun p=>(p.1,{σ with bs:=p.2}))=some (v,σ1)) (h:Aft num N w0 m0 T β0 σ1 a v fun u w'=>next (a.put o.dst u) w'):o.wp P a w next Q:=by
 cases hsrc:Wt 1 (val σ.env x) σ.bs with
 | none=>rw[hsrc]at he;cases he
 | some q=>
  obtain⟨n,ys⟩:=q;rw[hsrc]at he;simp only[QC]at he;cases hm:O9 e0 (val σ.env s) (n,ys) σ.bs with
  | none=>rw[hm]at he;cases he
  | some p=>
   rw[hm]at he;obtain⟨v2,bs2⟩:=p;simp only[QS,QD,QV]at he;obtain⟨rfl,rfl⟩:=he;have hxok: (val σ.env x).ok=true:=by
    unfold Wt at hsrc;split at hsrc
    ·rename_i h;rw[h];rfl
    ·rename_i h;rw[h];rfl
    ·cases hsrc
   have hry:=(hI.val hx hxok).1;unfold W2 at ht;split at ht
   ·rename_i e hun;split at ht
    ·rename_i i hi;simp only[Qo,Qv]at ht;obtain⟨⟨⟨⟨hs1,hb1⟩,_⟩,_⟩,hz⟩:=ht;obtain rfl:e=e0:=by rw[hte]at hun;injection hun with hun;injection hun with hun;exact hun.symm
     split at hz
     ·rename_i z hzz;simp only[Qv]at hz;rw[<- hs1]at hsrc;obtain⟨B,cap2,hY,hN⟩:=DO hI (by omega) hsrc hry;obtain⟨news,hB,hnl,hone,hN2⟩: ∃news:ZE,(0 < n->∃b2 of2,B=some ⟨b2,of2,none⟩/\∀j u,news[j]? =some u->w.cell? ((⟨b2,of2,none⟩:Addr).add j)=some u)/\news.length=n*i.size/\(∀u∈news,u.oneCell'=true)/\
        (0 < n->ys.length=n*i.size/\∀(j:Nat) (c:AV),ys[j]? =some c->∃u,news[j]? =some u/\u.oneCell'=true/\Qd num β w m c u/\∀p w' m' ν',Zz w' m' ν' p c u):=by
       by_cases hn:0 < n
       ·obtain⟨b2,of2,news,hb,hnl,hnews,hone,hyl,hbox⟩:=hN hn;exact⟨news,fun _=>⟨b2,of2,hb,fun j u hj=>by rw[Ym];exact hnews j u hj⟩,hnl,hone,fun _=>⟨hyl,hbox⟩⟩
       ·have:n=0:=by omega
        subst this;exact⟨[],fun h=>absurd h (by omega),by simp,by simp,fun h=>absurd h (by omega)⟩
      refine Ix (e:=e) (z:=z) (ap:=fun s=>Builtin.append_ #[t,t] o.type #[s,.slice B n cap2]) hI hs hb1 hs1 (by omega) hm hnl hone hN2 (fun A k cap hu r w' hrr=> ?_) (fun h0 A k cap hk=> ?_) (fun hn A h1 h2=> ?_) (fun hn g cur e2 sLen sCap hg hr hf h1 h2=> ?_) (fun hn b sLen sCap olds h1 h2 h3 h4 h5 h6=> ?_) h
      ·simp only[execOp,ho,resolve,invoke,builtin,V5,Yf,Wr,hu,hY,Sem.run_bind,Sem.run_pure,Result.andThen_ok,hrr]
      ·subst h0;exact UK hun hi hk
      ·obtain⟨b2,of2,rfl,hnews⟩:=hB hn;exact Uq hun hi hzz hnl hnews hn h1 h2
      ·obtain⟨b2,of2,rfl,hnews⟩:=hB hn;exact X1 hun hi hg hnl hnews hone hr hf
      ·obtain⟨b2,of2,rfl,hnews⟩:=hB hn;exact run_append_grow w t o.type e i z hun hi hzz b sLen sCap olds h1 h2 ⟨b2,of2,none⟩ n cap2 news hnl hnews h3 h4 h6
     ·cases hz
    ·cases ht
   ·cases ht
def LJ (w:World) (b n x:Nat) (hx:x≠b): (w.freeze ⟨b,0,none⟩ n).heap[x]? =w.heap[x]? :=by
 unfold World.freeze;split
 ·rfl
 ·simp only[TG];rw[Qm (fun e=>hx e.symm)]
def LK (w:World) (b n:Nat): (w.freeze ⟨b,0,none⟩ n).heap.size=w.heap.size:=by
 unfold World.freeze;split
 ·rfl
 ·simp
def Cl (w:World) (b n:Nat) (A:Addr): (w.freeze ⟨b,0,none⟩ n).cell? A=w.cell? A:=by
 by_cases hx:A.block=b
 ·by_cases hn:n=0
  ·simp[World.freeze,hn]
  ·unfold World.freeze;rw[Qm hn];unfold World.cell?;simp only[TG,hx,Zl];cases hq:w.heap[b]? with
   | none=>rfl
   | some q=>cases q <;> rfl
 ·unfold World.cell?;rw[LJ w b n _ hx]
def ZO.freeze [Dr] (b n:Nat):ZO (· =b) w m (w.freeze ⟨b,0,none⟩ n) m:=by
 refine⟨?_,?_,?_,by rw[LK];exact ZJ _,fun x _ hx=>⟨LJ w b n x hx,rfl⟩,fun x i u h=> ?_,fun _=> ?_⟩
 ·unfold World.freeze;split <;> rfl
 ·unfold World.freeze;split <;> rfl
 ·unfold World.freeze;split <;> rfl
 ·unfold hg at h ⊢;split at h
  ·rename_i hi;rw[Qn hi,Cl];exact h
  ·cases h
 ·unfold World.freeze;split <;> exact ZJ _
def Inv.freezeFloat [Dr] (hI:Inv num N w0 m0 T β0 σ a w m β ν) {b:Nat} (n:Nat) (hν:ν b=some .f):Inv num N w0 m0 T β0 σ a (w.freeze ⟨b,0,none⟩ n) m β ν:=by
 have hne: ∀{x:Nat} {p:Pl},ν x=some p->p≠ .f->¬x=b:=fun {x p} h hp e=>by subst e;rw[hν]at h;injection h with h;exact hp h.symm
 exact hI.next (ZO.freeze b n) (fun x hx hxb=>by subst hxb;exact(hI.lt x _ hν).2) (Ge.refl β) (fun _=>False) (fun _=>False)
  (fun x t h _=>⟨hne h (by simp),h⟩) (fun x t i h _=>⟨hne h (by simp),h⟩) (fun x t h _=>⟨hne h (by simp),h⟩) (fun x t i h _=>⟨hne h (by simp),h⟩)
  (fun x p h=>by rw[LK];exact hI.lt x p h) (fun t hn=> .inl rfl) hI.out (fun t v hE hv=>hE.elim) hI.blen (fun _ _=>rfl) (fun _ _ _ h=>h.elim)
def OE:=@List.getElem?_range
def QmM {cs:Qh} {n j:Nat} {x:AV} (h: (ZX cs 0 1 n)[j]? =some [x]): ∃c,cs[j]? =some c/\c.strip=x:=by
 unfold ZX at h;rw[Wb]at h;obtain⟨k,hk,he⟩:=Pd.1 h;have hk2:k=j:=by
  rw[OE]at hk
  ·injection hk with hk;exact hk.symm
  ·rcases QR j n with h | h
   ·exact h
   ·rw[Q3 (by simpa using h)]at hk;cases hk
 subst hk2;simp only[Zk,Rp]at he;cases hd:cs.drop k with
 | nil=>rw[hd]at he;cases he
 | cons c r=>
  rw[hd]at he;simp only[List.take_succ_cons,List.take_zero,Yf,Wr,List.cons.injEq,and_true]at he;refine⟨c,?_,he⟩;have:=XJ (xs:=cs) (i:=k) (j:=0);rw[hd]at this;simpa using this.symm
def Qnv [Dr] {T0 q p:Nat} {x:AO} {x':Operand} {pt it:TypeId} (hI:Inv num N w0 m0 T β0 σ a w m β ν) (ho:o.op= .call {callee:= .builtin .unsafeString,args:= #[.tmp p,x'],argTypes:= #[pt,it]})
  (hp:P.underlying pt=some (.pointer T0)) (hc:P.cellsOf T0=1) (hx:okO num x x'=true)
  (he:HT T0 σ q p (val σ.env x)=some (v,σ1)) (h:Aft num N w0 m0 T β0 σ1 a v fun u w'=>next (a.put o.dst u) w'):o.wp P a w next Q:=by
 unfold HT at he;split at he
 ·rename_i id2 o2 hpp;split at he
  ·rename_i T' id n k hq hk;split at he
   ·rename_i hcc;obtain⟨rfl,rfl,rfl,rfl,hn⟩:=hcc;cases hbs:σ.bs[id]? with
    | none=>rw[hbs]at he;cases he
    | some cs=>
     rw[hbs]at he;simp only[QC]at he;split at he
     ·rename_i hnl;obtain⟨s,hs,he⟩:=Pd.1 he;injection he with h1 h2
      subst h1 h2;obtain⟨e1,e2⟩:=Lh hs;have hlen:s.length=n:=by rw[e1];simp[ZX]
      have hne:cs≠[]:=fun e=>by subst e;simp at hnl;omega
      obtain⟨_,hp2⟩:=hI.at_ (n:=p) (by rw[hpp];simp);have hp3:=hI.slots p _ hp2;rw[hpp]at hp3;have hp4:=((QT (c:= .gp id 0) rfl).1 hp3).1;simp only[Qd]at hp4;obtain⟨kb,hkb,hpu⟩:=hp4;obtain⟨_,hq2⟩:=hI.at_ (n:=q) (by rw[hq];simp);have hq3:=hI.slots q _ hq2;rw[hq]at hq3;have hq4:=((QT (c:= .gb T' id n) rfl).1 hq3).1;simp only[Qd]at hq4;obtain⟨kc,cap,hkc,hty,_,hcap,hnc,hcm⟩:=hq4;rw[hkb.1]at hkc;obtain⟨hkc,_⟩:=hkc;injection hkc with hkc
      subst hkc;obtain⟨cur,e,b1,b2,b3,b4,b5⟩:=(hI.boxes id cs kb hbs hkb.1 hne).1 hkb.2;obtain⟨c9,h9⟩:=(hI.boxes id cs kb hbs hkb.1 hne).2.2 hkb.2;have h8:=b1.symm.trans h9;simp only[QD,Obj.cells.injEq]at h8;have hT:e=T':=by rw[h8.2.1,hty]
      have hkv:=(hI.val hx (by rw[hk];rfl)).1;rw[hk]at hkv;simp only[Qd]at hkv;have hrun:=run_unsafeString_row (P:=P) w pt it o.type T' hp hc kb.b cur.size (by simp[World.shape?,b1,hT]) s (fun e=>by subst e;simp at hlen;omega) (by rw[hlen];omega)
       (by rw[hlen];unfold maxLen at hcm;omega)
       (fun j x hj=>by
        obtain⟨c,q1,q2⟩:=QmM (e2 j x hj);obtain⟨u,r1,r2,r3,_⟩:=b5 j c q1;have r4:=(QU c u).2 r3;rw[q2]at r4;simp only[Qd]at r4;rw[Ym,Zk,cell_of_row w kb.b j cur e (0,0) b1,r1,r4])
      obtain⟨hK,_⟩:=hI.kill (id:=id) (q:=0) hbs hkb hne;rw[UC b3]at hK;have hF:=hK.freezeFloat (b:=kb.b) s.length (by simp[Yb]);refine Qr (u:= .string ⟨s.toArray⟩) (w':=w.freeze ⟨kb.b,0,none⟩ s.length) ?_ (h _ _ _ _ _ hF ((QT rfl).2 ⟨by simp only[Qd],trivial⟩));have hpe:a.eval (.tmp p)= .pointer (some ⟨kb.b,0,none⟩):=hpu;simp only[execOp,ho,resolve,invoke,builtin,V5,Yf,Wr,hpe,hkv,Sem.run_bind,Sem.run_pure,Result.andThen_ok];rw[<- hlen,hrun];rfl
     ·cases he
   ·cases he
  ·cases he
 ·rename_i hpp;split at he
  ·rename_i k hk;split at he
   ·rename_i h0;subst h0;injection he with he
    injection he with h1 h2
    subst h1 h2;obtain⟨_,hp2⟩:=hI.at_ (n:=p) (by rw[hpp];simp);have hp3:=hI.slots p _ hp2;rw[hpp]at hp3;have hp4:=((QT (c:= .nlp) rfl).1 hp3).1;simp only[Qd]at hp4;have hkv:=(hI.val hx (by rw[hk];rfl)).1;rw[hk]at hkv;simp only[Qd]at hkv;have hpe:a.eval (.tmp p)= .pointer none:=hp4;refine Qr (u:= .string ⟨#[]⟩) (w':=w) ?_ (h.same hI rfl (by simp only[Qd]) trivial);simp only[execOp,ho,resolve,invoke,builtin,V5,Yf,Wr,hpe,hkv,Sem.run_bind,Sem.run_pure,Result.andThen_ok,run_unsafeString_none];rfl
   ·cases he
  ·cases he
 ·cases he
def Qnu [Dr] {x:AO} {x':Operand} {t:TypeId} (hI:Inv num N w0 m0 T β0 σ a w m β ν) (ho:o.op= .call {callee:= .builtin .unsafeSliceData,args:= #[x'],argTypes:= #[t]})
  (hx:okO num x x'=true) (he: ((Qgj (val σ.env x)).map fun u=>(u,σ))=some (v,σ1)) (h:Aft num N w0 m0 T β0 σ1 a v fun u w'=>next (a.put o.dst u) w'):o.wp P a w next Q:=by
 obtain⟨y,hy,he⟩:=Pd.1 he;injection he with h1 h2
 subst h1 h2;unfold Qgj at hy;split at hy
 ·rename_i ty id n hA;split at hy
  ·rename_i hn;injection hy with hy
   subst hy;have hr:=(hI.val hx (by rw[hA];rfl)).1;rw[hA]at hr;simp only[Qd]at hr;obtain⟨kb,cap,h1,h2,h3,h4,h5,h6⟩:=hr;refine Qr (u:= .pointer (some ⟨kb.b,0,none⟩)) (w':=w) ?_ (h.same hI rfl (by simp only[Qd];exact⟨kb,h1,rfl⟩) trivial);simp only[execOp,ho,resolve,invoke,builtin,V5,Yf,Wr,h3,Sem.run_bind,Sem.run_pure,Result.andThen_ok,run_unsafeSliceData_row (P:=P) w #[t] o.type ⟨kb.b,0,none⟩ n cap (by omega)]
  ·cases hy
 ·rename_i i2 o2 sz n hA;split at hy
  ·rename_i hc;obtain⟨rfl,rfl,rfl⟩:=hc;injection hy with hy
   subst hy;have hr:=(hI.val hx (by rw[hA];rfl)).1;rw[hA]at hr;simp only[Qd]at hr;obtain⟨A,cap,h1,h2,h3,h4⟩:=hr;have hAn:A=none:=by
    rcases h4 with⟨_,_,h4⟩ | ⟨_,_,_,_,h4⟩
    ·rcases h4 with h4 | ⟨_,_,_,h4⟩
     ·simpa using h4
     ·simp at h4
    ·simp at h4
   subst hAn;refine Qr (u:= .pointer none) (w':=w) ?_ (h.same hI rfl (by simp only[Qd]) trivial);simp only[execOp,ho,resolve,invoke,builtin,V5,Yf,Wr,h1,Sem.run_bind,Sem.run_pure,Result.andThen_ok,run_unsafeSliceData_nil (P:=P) w #[t] o.type 0 cap]
  ·cases hy
 ·cases hy
def Lz (P:Program) (t T:TypeId):Bool:=match P.underlying t with
 | some (.slice e)=>decide (e=T)
 | _=>false
def Qan (P:Program) (t T:TypeId):Bool:=match P.underlying t with
 | some (.pointer e)=>decide (e=T)
 | _=>false
def JN {t T:TypeId} (h:Lz P t T=true):P.underlying t=some (.slice T):=by
 unfold Lz at h;split at h
 ·simp only[Qv]at h;subst h;assumption
 ·cases h
def QfF {t T:TypeId} (h:Qan P t T=true):P.underlying t=some (.pointer T):=by
 unfold Qan at h;split at h
 ·simp only[Qv]at h;subst h;assumption
 ·cases h
end
end Go.Am
namespace Go.Am
def P6 (pt:Nat->Nat->Nat->Bool) (q s off:Nat):Bool:=pt q s off || (decide (q=s) && decide (off=0))
def RY (num:Y0) (b:Builtin) (x:AO) (c:Call) (ty:TypeId->Bool):Bool:=
 match c with
 | ⟨.builtin b',⟨[y]⟩,⟨[t]⟩⟩=>decide (b=b') && ty t && okO num x y
 | _=>false
def Qfx (P:Program) (num:Y0) (pt:Nat->Nat->Nat->Bool) (x:AOp) (o:Op):Bool:=
 match x with
 | .mov x=>(match o with | .move y=>okO num x y | .assign y=>okO num x y | _=>false)
 | .mvs n=>(match o with | .move (.tmp t)=>decide (n=t) | .assign (.tmp t)=>decide (n=t) | _=>false)
 | .box x=>(match o with | .box _ y=>okO num x y | _=>false)
 | .alloc zs=>(match o with | .alloc t=>TF P t zs | _=>false)
 | .gbxn x _=>(match o with | .box _ y=>okO num x y | _=>false)
 | .gbox x=>(match o with | .box _ y=>okO num x y | _=>false)
 | .galloc zs=>(match o with | .alloc t=>TF P t zs | _=>false)
 | .galt T zs=>(match o with | .alloc t=>decide (T=t) && TF P t zs | _=>false)
 | .fad s off=>(match o with
  | .fieldAddr ty (.tmp q) f=>(decide (q=s) && SU P ty f off) || (List.range (off+1)).any fun o2=>pt q s o2 && SU P ty f (off - o2)
  | .indexAddr ty (.tmp q) (.const (.int _ i))=>decide (q=s) && HH P ty i off
  | _=>false)
 | .fadr p off=>(match o with | .fieldAddr ty (.tmp q) f=>decide (p=q) && SU P ty f off | _=>false)
 | .ldf s off sz ag=>(match o with | .load t (.tmp q)=>Z2 P t sz && Ws P t ag && P6 pt q s off | _=>false)
 | .ldfm s off=>(match o with | .load t (.tmp q)=>Ws P t false && P6 pt q s off | _=>false)
 | .ld p sz ag=>(match o with | .load t (.tmp q)=>decide (p=q) && Z2 P t sz && Ws P t ag | _=>false)
 | .ldg p sz ag=>(match o with | .load t (.tmp q)=>decide (p=q) && Z2 P t sz && Ws P t ag | _=>false)
 | .ldm p=>(match o with | .load t (.tmp q)=>decide (p=q) && Ws P t false | _=>false)
 | .stf s off sz x=>(match o with | .store t (.tmp q) y=>Z2 P t sz && okO num x y && P6 pt q s off | _=>false)
 | .stn s off sz x _=>(match o with | .store t (.tmp q) y=>Z2 P t sz && okO num x y && P6 pt q s off | _=>false)
 | .stfm s off n=>(match o with | .store t (.tmp q) (.tmp n2)=>decide (n=n2) && Z2 P t 1 && P6 pt q s off | _=>false)
 | .st p sz x=>(match o with | .store t (.tmp q) y=>decide (p=q) && Z2 P t sz && okO num x y | _=>false)
 | .stm p n=>(match o with | .store t (.tmp q) (.tmp n2)=>decide (p=q) && decide (n=n2) && Z2 P t 1 | _=>false)
 | .bin op x y=>(match o with | .binOp op2 _ x2 y2 _=>decide (op=op2) && okO num x x2 && okO num y y2 | _=>false)
 | .eqb ne x y=>(match o with | .binOp op2 t x2 y2 _=>decide (op2=if ne then .neq else .eql) && HJ P t && okO num x x2 && okO num y y2 | _=>false)
 | .eqn ne x=>(match o with | .binOp op2 t x2 (.const .nilIface) _=>decide (op2=if ne then .neq else .eql) && Jr P t && okO num x x2 | _=>false)
 | .eqa ne ks x y=>(match o with | .binOp op2 t x2 y2 _=>decide (op2=if ne then .neq else .eql) && Qe4 P t ks && okO num x x2 && okO num y y2 | _=>false)
 | .isn ne x=>(match o with | .binOp op2 t x2 (.const (.slice none 0 0)) _=>decide (op2=if ne then .neq else .eql) && slT P t && okO num x x2 | _=>false)
 | .un op x=>(match o with | .unOp op2 _ x2=>decide (op=op2) && okO num x x2 | _=>false)
 | .conv k x=>(match o with | .convert s t x2=>Qfk P s t k && okO num x x2 | _=>false)
 | .call f args=>(match o with | .call ⟨.value (.func g),⟨ys⟩,_⟩=>decide (num f=some g) && Xl num args ys | _=>false)
 | .callq f args=>(match o with | .call ⟨.value (.func g),⟨ys⟩,_⟩=>decide (num f=some g) && Xl num args ys | _=>false)
 | .callv g args=>(match o with | .call ⟨.value x2,⟨ys⟩,_⟩=>okO num g x2 && Xl num args ys | _=>false)
 | .lens x=>(match o with | .call c=>RY num .len x c (Li P) | _=>false)
 | .lenl x=>(match o with | .call c=>RY num .len x c (slT P) | _=>false)
 | .app bytes sz s x=>(match o with | .call ⟨.builtin .append,⟨[s2,x2]⟩,⟨[t,t2]⟩⟩=>NK P t t2 && W2 P t bytes sz && okO num s s2 && okO num x x2 | _=>false)
 | .appg bytes sz s x=>(match o with | .call ⟨.builtin .append,⟨[s2,x2]⟩,⟨[t,t2]⟩⟩=>NK P t t2 && W2 P t bytes sz && okO num s s2 && okO num x x2 | _=>false)
 | .appz bytes sz n x=>(match o with | .call ⟨.builtin .append,⟨[.tmp n2,x2]⟩,⟨[t,t2]⟩⟩=>NK P t t2 && decide (n=n2) && W2 P t bytes sz && okO num x x2 | _=>false)
 | .zlit=>(match o with | .buildSlice t 0 ⟨[]⟩=>(match P.underlying t with | some (.slice e)=>(match P.info? e with | some i=>RM P t i.size 0 | none=>false) | _=>false) | _=>false)
 | .nilp=>(match o with | .move (.const (.pointer none))=>true | .assign (.const (.pointer none))=>true | _=>false)
 | .appzz s x=>(match o with | .call ⟨.builtin .append,⟨[s2,x2]⟩,⟨[t,t2]⟩⟩=>decide (t=t2) && (match P.underlying t with | some (.slice e)=>(match P.info? e with | some i=>W2 P t i.bytes i.size | none=>false) | _=>false) && okO num s s2 && okO num x x2 | _=>false)
 | .frz n _=>(match o with | .move (.tmp t)=>decide (n=t) | .assign (.tmp t)=>decide (n=t) | _=>false)
 | .clr sz x=>(match o with | .call c=>RY num .clear x c (fun t=>QeP P t sz) | _=>false)
 | .mx x y=>(match o with | .call ⟨.builtin .max,⟨[x2,y2]⟩,_⟩=>okO num x x2 && okO num y y2 | _=>false)
 | .mn x y=>(match o with | .call ⟨.builtin .min,⟨[x2,y2]⟩,_⟩=>okO num x x2 && okO num y y2 | _=>false)
 | .mksl sz parts=>(match o with | .buildSlice t n ⟨ps⟩=>decide (n=ps.length) && decide (ps.map (·.1)=List.range n) && RM P t sz n && Xl num parts (ps.map (·.2)) | _=>false)
 | .mksg sz parts=>(match o with | .buildSlice t n ⟨ps⟩=>decide (n=ps.length) && decide (ps.map (·.1)=List.range n) && RM P t sz n && Xl num parts (ps.map (·.2)) | _=>false)
 | .mkst zs parts=>(match o with | .build t ⟨ps⟩=>DQ P num t zs parts ps | _=>false)
 | .idxa sz x i=>(match o with | .indexAddr t x2 i2=>XD P t sz && okO num x x2 && okO num i i2 | _=>false)
 | .idx x i=>(match o with | .index t x2 i2=>Li P t && okO num x x2 && okO num i i2 | _=>false)
 | .slcs x lo hi=>(match o with | .slice t x2 lo2 hi2 none=>Li P t && okO num x x2 && Vy num lo lo2 && Vy num hi hi2 | _=>false)
 | .slcl sz x lo hi=>(match o with | .slice t x2 lo2 hi2 none=>XD P t sz && okO num x x2 && Vy num lo lo2 && Vy num hi hi2 | _=>false)
 | .slcf sz x hi mx=>(match o with | .slice t x2 none (some hi2) (some mx2)=>XD P t sz && okO num x x2 && okO num hi hi2 && okO num mx mx2 | _=>false)
 | .slz sz x=>(match o with | .slice t x2 none (some (.const (.int _ 0))) (some (.const (.int _ 0)))=>XD P t sz && okO num x x2 | _=>false)
 | .pick c x y=>(match o with | .pick c2 x2 y2=>okO num c c2 && okO num x x2 && okO num y y2 | _=>false)
 | .ext x i=>(match o with | .extract x2 i2=>decide (i=i2) && okO num x x2 | _=>false)
 | .mkfb f caps=>(match o with | .makeFunc (.func g) ⟨cs⟩ ⟨[]⟩=>decide (num f=some g) && Xl num caps cs | _=>false)
 | .mkfn f caps=>(match o with | .makeFunc (.func g) ⟨[]⟩ ⟨cs⟩=>decide (num f=some g) && Xl num caps cs | _=>false)
 | .nilck x=>(match o with | .nilCheck x2=>okO num x x2 | _=>false)
 | .fld off sz ag x=>(match o with | .field t x2 f=>AZ P t f off sz ag && okO num x x2 | _=>false)
 | .mkg bytes sz zs x=>(match o with | .makeSlice t (.tmp l) (.tmp c)=>decide (l=c) && mkT P t bytes sz zs && okO num x (.tmp l) | _=>false)
 | .mkp bytes sz zs x=>(match o with | .makeSlice t (.tmp l) (.tmp c)=>decide (l=c) && mkT P t bytes sz zs && okO num x (.tmp l) | _=>false)
 | .extm n=>(match o with | .extract (.tmp t) i=>decide (n=t) && decide (i=0) | _=>false)
 | .mkstP _ zs parts=>(match o with | .build t ⟨ps⟩=>DQ P num t zs parts ps | _=>false)
 | .mkz bytes sz zs x=>(match o with | .makeSlice t (.tmp l) (.tmp c)=>decide (l=c) && mkT P t bytes sz zs && okO num x (.tmp l) | _=>false)
 | .bstr x=>(match o with | .convert s t x2=>As P s t && okO num x x2 | _=>false)
 | .ldfz s off sz _ _=>(match o with | .load t (.tmp q)=>Z2 P t sz && Ws P t true && P6 pt q s off | _=>false)
 | .apn bytes sz zs s x=>(match o with | .call ⟨.builtin .append,⟨[s2,x2]⟩,⟨[t,t2]⟩⟩=>W2 P t bytes sz && mkT P t bytes sz zs && A5 P t2 && okO num s s2 && okO num x x2 | _=>false)
 | .apps T s x=>(match o with | .call ⟨.builtin .append,⟨[s2,x2]⟩,⟨[t,t2]⟩⟩=>W2 P t 1 1 && Lz P t T && QaJ P t2 && okO num s s2 && okO num x x2 | _=>false)
 | .appb T s x=>(match o with | .call ⟨.builtin .append,⟨[s2,x2]⟩,⟨[t,t2]⟩⟩=>NK P t t2 && W2 P t 1 1 && Lz P t T && okO num s s2 && okO num x x2 | _=>false)
 | .lgb k=>(match o with | .load t (.global g)=>decide (P.globalNamed (Lj k)=some g) && Ws P t false | _=>false)
 | .usd x=>(match o with | .call ⟨.builtin .unsafeSliceData,⟨[x2]⟩,⟨[_]⟩⟩=>okO num x x2 | _=>false)
 | .ust T _ p x=>(match o with | .call ⟨.builtin .unsafeString,⟨[.tmp p2,x2]⟩,⟨[pt,_]⟩⟩=>decide (p=p2) && Qan P pt T && decide (P.cellsOf T=1) && okO num x x2 | _=>false)
 | .appM bytes sz s x=>(match o with | .call ⟨.builtin .append,⟨[s2,x2]⟩,⟨[t,t2]⟩⟩=>NK P t t2 && W2 P t bytes sz && okO num s s2 && okO num x x2 | _=>false)
 | .stp p sz x _=>(match o with | .store t (.tmp q) y=>decide (p=q) && Z2 P t sz && okO num x y | _=>false)
 | .stq p sz x _=>(match o with | .store t (.tmp q) y=>decide (p=q) && Z2 P t sz && okO num x y | _=>false)
 | .slcx sz x lo hi=>(match o with | .slice t x2 lo2 hi2 none=>XD P t sz && okO num x x2 && Vy num lo lo2 && Vy num hi hi2 | _=>false)
 | .slcc sz x lo hi mx=>(match o with | .slice t x2 lo2 (some hi2) (some mx2)=>XD P t sz && okO num x x2 && Vy num lo lo2 && okO num hi hi2 && okO num mx mx2 | _=>false)
 | .mkm=>(match o with | .makeMap _ none=>true | _=>false)
 | .lkm s ok x i z=>(match o with | .lookup t x2 i2 ok2=>decide (ok=ok2) && lkT P s t z && okO num x x2 && okO num i i2 | _=>false)
 | .upm s x k y=>(match o with | .mapUpdate t x2 k2 y2=>Qad P s t && okO num x x2 && okO num k k2 && okO num y y2 | _=>false)
 | .mpe s x k z=>(match o with | .mapEntry t x2 k2=>lkT P s t z && okO num x x2 && okO num k k2 | _=>false)
 | .ensf x st n _=>(match o with | .entryStore _ x2 s2 (.tmp t)=>decide (n=t) && okO num x x2 && okO num st s2 | _=>false)
 | .ens x st y=>(match o with | .entryStore _ x2 s2 y2=>okO num x x2 && okO num st s2 && okO num y y2 | _=>false)
def UQ:=@List.ext_getElem?
def FI:=@List.getElem?_zipIdx
def Wu:=@congrArg
def Qeg {ps:List (Nat×Operand)} (h:ps.map (·.1)=List.range ps.length): (ps.map (·.2)).zipIdx.map (fun p=>(p.2,p.1))=ps:=by
 apply UQ;intro i;rw[Wb,FI,Wb];cases hp:ps[i]? with
 | none=>rfl
 | some p=>
  have hlt:i < ps.length:=by
   rcases QR i ps.length with h | h
   ·exact h
   ·rw[Q3 h]at hp;cases hp
  have:=Wu (fun l=>l[i]?) h;simp only[Wb,hp,QS,OE hlt,QD]at this;simp[<- this]
section
variable {P:Program} {num:Nat->Option Nat} {β:List Blk} {w w':World} {m:Nat->Nat} {ν:Own} {N:Nat} {w0:World} {m0:Nat->Nat} {T:Nat->Prop} {β0:List Blk} {σ σ1:St} {a:Act}
 {o:Oper} {next:Act->World->Prop} {Q:Exit->Act->World->Prop} {K:Yo} {v:AV}
def Vu:=@Bool.or_eq_true
def SR {pt:Nat->Nat->Nat->Bool} {q s off:Nat} (h:P6 pt q s off=true) (hpt: ∀q s off,pt q s off=true->U6 a q s off):U6 a q s off\/(q=s/\off=0):=by
 unfold P6 at h;simp only[Vu,Qo,Qv]at h;exact h.imp (hpt _ _ _) id
def Rn:=@List.any_eq_true
def Pq:=@List.mem_range
def Qfy [Dr] {Γ:YU} (hI:Inv num N w0 m0 T β0 σ a w m β ν) (hE:Vj P num) (hK:KOk P num Γ K) (hG:Γ.G w0 m0) (hGb:Γ.Gb<=w0.heap.size) (hT: ∀b,T b->Γ.Gb<=b)
  {pt:Nat->Nat->Nat->Bool} (hpt: ∀q s off,pt q s off=true->U6 a q s off) {x:AOp} (hok:Qfx P num pt x o.op=true) (he:Qi K x σ=some (v,σ1))
  (h: ∀(u:Value) (w':World) (m':ZF) (β':Xv) (ν':Own),Inv num N w0 m0 T β0 σ1 a w' m' β' ν'->Uf num β' w' m' ν' .f (fun i=> .fc i) v u->
   (∀s off,x= .fad s off->∃b,a.tmps.getD s undef= .pointer (some ⟨b,0,none⟩)/\u= .pointer (some ⟨b,off,none⟩))->next (a.put o.dst u) w'):o.wp P a w next Q:=by
 have hA: (∀s off,x≠ .fad s off)->Aft num N w0 m0 T β0 σ1 a v fun u w'=>next (a.put o.dst u) w':=fun hne u w' m' β' ν' k1 k2=>h u w' m' β' ν' k1 k2 fun s off e=>absurd e (hne s off);have hS: (∀s off,x≠ .fad s off)->∀w' m' β' ν',Inv num N w0 m0 T β0 σ1 a w' m' β' ν'->v= .undef->next (a.put o.dst undef) w':=fun hne w' m' β' ν' k1 k2=>h undef w' m' β' ν' k1 (by subst k2;exact trivial) fun s off e=>absurd e (hne s off);cases x <;> simp only[Qfx]at hok
 case mov x=>
  split at hok
  ·rename_i y ho;exact Qc1 hI (.inl ho) hok he (hA (by simp))
  ·rename_i y ho;exact Qc1 hI (.inr ho) hok he (hA (by simp))
  ·cases hok
 case mvs n=>
  split at hok
  ·rename_i y ho;simp only[Qv]at hok;subst hok;exact Qc2 hI (.inl ho) he (hA (by simp))
  ·rename_i y ho;simp only[Qv]at hok;subst hok;exact Qc2 hI (.inr ho) he (hA (by simp))
  ·cases hok
 case box x=>
  split at hok
  ·rename_i t y ho;exact Qm5 hI ho hok he (hA (by simp))
  ·cases hok
 case alloc zs=>
  split at hok
  ·rename_i t ho;exact Qe5 hI ho hok he (hA (by simp))
  ·cases hok
 case gbxn x zs=>
  split at hok
  ·rename_i t y ho;exact Qik hI ho hok he (hA (by simp))
  ·cases hok
 case gbox x=>
  split at hok
  ·rename_i t y ho;exact Qij hI ho hok he (hA (by simp))
  ·cases hok
 case galt T zs=>
  split at hok
  ·rename_i t ho;simp only[Qo,Qv]at hok;exact Qii hI ho hok.1 hok.2 he (hA (by simp))
  ·cases hok
 case galloc zs=>
  split at hok
  ·rename_i t ho;exact Qc0 hI ho hok he (hA (by simp))
  ·cases hok
 case fad s off=>
  split at hok
  ·rename_i ty q f ho;have hbx: ∃cs,σ.env s= .bx cs:=by
    simp only[Qi]at he;split at he
    ·exact⟨_,by assumption⟩
    ·cases he
   obtain⟨cs,hcs⟩:=hbx;obtain⟨b,cur,e,h1,h2,_⟩:=hI.box_at (q:=s) (off:=0) hcs (.inr ⟨rfl,rfl⟩);simp only[Vu,Qo,Qv,Rn,Pq]at hok;rcases hok with⟨rfl,hf⟩ | ⟨o2,ho2,hp,hf⟩
   ·refine QcY hI ho hf h2 he fun k1 k2=> ?_;rw[Zk];refine h _ w m β ν k1 (by subst k2;exact trivial) fun s2 off2 e=> ?_;injection e with e1 e2
    subst e1 e2;exact⟨b,h2,rfl⟩
   ·obtain⟨b2,p1,p2⟩:=hpt _ _ _ hp;refine QcY hI ho hf (show a.eval (.tmp q)=_ from p2) he fun k1 k2=> ?_;rw[show o2+ (off - o2)=off by omega];refine h _ w m β ν k1 (by subst k2;exact trivial) fun s2 off2 e=> ?_;injection e with e1 e2
    subst e1 e2;exact⟨b2,p1,rfl⟩
  ·rename_i ty q k i ho;have hbx: ∃cs,σ.env s= .bx cs:=by
    simp only[Qi]at he;split at he
    ·exact⟨_,by assumption⟩
    ·cases he
   obtain⟨cs,hcs⟩:=hbx;obtain⟨b,cur,e,h1,h2,_⟩:=hI.box_at (q:=s) (off:=0) hcs (.inr ⟨rfl,rfl⟩);simp only[Qo,Qv]at hok;obtain⟨rfl,hf⟩:=hok;refine Qig hI ho hf h2 he fun k1 k2=> ?_;rw[Zk];refine h _ w m β ν k1 (by subst k2;exact trivial) fun s2 off2 e=> ?_;injection e with e1 e2
   subst e1 e2;exact⟨b,h2,rfl⟩
  ·cases hok
 case fadr p off=>
  split at hok
  ·rename_i ty q f ho;simp only[Qo,Qv]at hok;obtain⟨rfl,hf⟩:=hok;exact Qih hI ho hf he (hA (by simp))
  ·cases hok
 case ldf s off sz ag=>
  split at hok
  ·rename_i t q ho;simp only[Qo]at hok;exact Qnf hI ho hok.1.1 hok.1.2 (SR hok.2 hpt) he (hA (by simp))
  ·cases hok
 case ldfm s off=>
  split at hok
  ·rename_i t q ho;simp only[Qo]at hok;exact Qim hI ho hok.1 (SR hok.2 hpt) he (hA (by simp))
  ·cases hok
 case ld p sz ag=>
  split at hok
  ·rename_i t q ho;simp only[Qo,Qv]at hok;obtain⟨⟨rfl,h1⟩,h2⟩:=hok;exact QoL hI ho h1 h2 he (hA (by simp))
  ·cases hok
 case ldg p sz ag=>
  split at hok
  ·rename_i t q ho;simp only[Qo,Qv]at hok;obtain⟨⟨rfl,h1⟩,h2⟩:=hok;exact Qng hI ho h1 h2 he (hA (by simp))
  ·cases hok
 case ldm p=>
  split at hok
  ·rename_i t q ho;simp only[Qo,Qv]at hok;obtain⟨rfl,h2⟩:=hok;exact Qnh hI ho h2 he (hA (by simp))
  ·cases hok
 case stf s off sz x=>
  split at hok
  ·rename_i t q y ho;simp only[Qo]at hok;exact Qnq hI ho hok.1.1 hok.1.2 (SR hok.2 hpt) he (hS (by simp))
  ·cases hok
 case stn s off sz x zs=>
  split at hok
  ·rename_i t q y ho;simp only[Qo]at hok;exact Qns hI ho hok.1.1 hok.1.2 (SR hok.2 hpt) he (hS (by simp))
  ·cases hok
 case stfm s off n=>
  split at hok
  ·rename_i t q n2 ho;simp only[Qo,Qv]at hok;obtain⟨⟨rfl,h1⟩,h2⟩:=hok;exact QiA hI ho h1 (SR h2 hpt) he (hS (by simp))
  ·cases hok
 case st p sz x=>
  split at hok
  ·rename_i t q y ho;simp only[Qo,Qv]at hok;obtain⟨⟨rfl,h1⟩,h2⟩:=hok;exact AW hI ho h1 h2 he (hS (by simp))
  ·cases hok
 case stm p n=>
  split at hok
  ·rename_i t q n2 ho;simp only[Qo,Qv]at hok;obtain⟨⟨rfl,rfl⟩,h1⟩:=hok;exact Qnr hI ho h1 he (hS (by simp))
  ·cases hok
 case bin op x y=>
  split at hok
  ·rename_i op2 t x2 y2 t2 ho;simp only[Qo,Qv]at hok;obtain⟨⟨rfl,h1⟩,h2⟩:=hok;exact Qm4 hI ho h1 h2 he (hA (by simp))
  ·cases hok
 case eqb ne x y=>
  split at hok
  ·rename_i op2 t x2 y2 t2 ho;simp only[Qo,Qv]at hok;obtain⟨⟨⟨rfl,h1⟩,h2⟩,h3⟩:=hok;exact Qm9 hI ho h1 h2 h3 he (hA (by simp))
  ·cases hok
 case eqn ne x=>
  split at hok
  ·rename_i op2 t x2 t2 ho;simp only[Qo,Qv]at hok;obtain⟨⟨rfl,h1⟩,h2⟩:=hok;exact Qna hI ho h1 h2 he (hA (by simp))
  ·cases hok
 case eqa ne ks x y=>
  split at hok
  ·rename_i op2 t x2 y2 t2 ho;simp only[Qo,Qv]at hok;obtain⟨⟨⟨rfl,h1⟩,h2⟩,h3⟩:=hok;exact Qm8 hI ho h1 h2 h3 he (hA (by simp))
  ·cases hok
 case isn ne x=>
  split at hok
  ·rename_i op2 t x2 t2 ho;simp only[Qo,Qv]at hok;obtain⟨⟨rfl,h1⟩,h2⟩:=hok;exact Qne hI ho h1 h2 he (hA (by simp))
  ·cases hok
 case un op x=>
  split at hok
  ·rename_i op2 t x2 ho;simp only[Qo,Qv]at hok;obtain⟨rfl,h1⟩:=hok;exact QoO hI ho h1 he (hA (by simp))
  ·cases hok
 case conv k x=>
  split at hok
  ·rename_i s t x2 ho;simp only[Qo]at hok;exact Qid hI ho hok.1 hok.2 he (hA (by simp))
  ·cases hok
 case call f args=>
  split at hok
  ·rename_i g ys ts ho;simp only[Qo,Qv]at hok;exact Bu hI hE hK hG hGb hT ho hok.1 hok.2 he (hA (by simp))
  ·cases hok
 case callq f args=>
  split at hok
  ·rename_i g ys ts ho;simp only[Qo,Qv]at hok;exact Qe7 hI hE hK hG hGb hT ho hok.1 hok.2 he (hA (by simp))
  ·cases hok
 case callv g args=>
  split at hok
  ·rename_i x2 ys ts ho;simp only[Qo]at hok;exact Qe8 hI hE hK hG hGb hT ho hok.1 hok.2 he (hA (by simp))
  ·cases hok
 case lens x=>
  split at hok
  ·rename_i c ho;unfold RY at hok;split at hok
   ·rename_i b2 y t;simp only[Qo,Qv]at hok;obtain⟨⟨rfl,h1⟩,h2⟩:=hok;exact Qip hI ho h1 h2 he (hA (by simp))
   ·cases hok
  ·cases hok
 case lenl x=>
  split at hok
  ·rename_i c ho;unfold RY at hok;split at hok
   ·rename_i b2 y t;simp only[Qo,Qv]at hok;obtain⟨⟨rfl,h1⟩,h2⟩:=hok;exact Qio hI ho h1 h2 he (hA (by simp))
   ·cases hok
  ·cases hok
 case app bytes sz s x=>
  split at hok
  ·rename_i s2 x2 t t2 ho;simp only[Qo]at hok;obtain⟨⟨⟨h0,h1⟩,h2⟩,h3⟩:=hok;exact PX ho h0 (Qm3 hI rfl h1 h2 h3 he (hA (by simp)))
  ·cases hok
 case appg bytes sz s x=>
  split at hok
  ·rename_i s2 x2 t t2 ho;simp only[Qo]at hok;obtain⟨⟨⟨h0,h1⟩,h2⟩,h3⟩:=hok;exact PX ho h0 (Qh9 hI rfl h1 h2 h3 he (hA (by simp)))
  ·cases hok
 case appz bytes sz n x=>
  split at hok
  ·rename_i n2 x2 t t2 ho;simp only[Qo,Qv]at hok;obtain⟨⟨⟨h0,rfl⟩,h2⟩,h3⟩:=hok;exact PX ho h0 (Qib hI rfl h2 h3 he (hA (by simp)))
  ·cases hok
 case zlit=>
  split at hok
  ·rename_i t ho;split at hok
   ·split at hok
    ·exact QiB hI ho hok he (hA (by simp))
    ·cases hok
   ·cases hok
  ·cases hok
 case nilp=>
  simp only[Qi,QD,QV]at he;obtain⟨rfl,rfl⟩:=he;split at hok
  ·rename_i ho;exact Qr (u:= .pointer none) (w':=w) (by simp[execOp,ho,Act.eval]) (h _ _ _ _ _ hI ((QT rfl).2 ⟨rfl,trivial⟩) (by simp))
  ·rename_i ho;exact Qr (u:= .pointer none) (w':=w) (by simp[execOp,ho,Act.eval]) (h _ _ _ _ _ hI ((QT rfl).2 ⟨rfl,trivial⟩) (by simp))
  ·cases hok
 case appzz s x=>
  split at hok
  ·rename_i s2 x2 t t2 ho;simp only[Qo,Qv]at hok;obtain⟨⟨⟨rfl,h1⟩,h2⟩,h3⟩:=hok;split at h1
   ·split at h1
    ·exact Qe6 hI ho h1 h2 h3 he (hA (by simp))
    ·cases h1
   ·cases h1
  ·cases hok
 case frz n sz=>
  split at hok
  ·rename_i y ho;simp only[Qv]at hok;subst hok;exact QcZ hI (.inl ho) he (hA (by simp))
  ·rename_i y ho;simp only[Qv]at hok;subst hok;exact QcZ hI (.inr ho) he (hA (by simp))
  ·cases hok
 case clr sz x=>
  split at hok
  ·rename_i c ho;unfold RY at hok;split at hok
   ·rename_i b2 y t;simp only[Qo,Qv]at hok;obtain⟨⟨rfl,h1⟩,h2⟩:=hok;exact Qm6 hI ho h1 h2 he (hA (by simp))
   ·cases hok
  ·cases hok
 case mx x y=>
  split at hok
  ·rename_i x2 y2 ts ho;simp only[Qo]at hok;exact QoN hI ho hok.1 hok.2 he (hA (by simp))
  ·cases hok
 case mn x y=>
  split at hok
  ·rename_i x2 y2 ts ho;simp only[Qo]at hok;exact QoM hI ho hok.1 hok.2 he (hA (by simp))
  ·cases hok
 case mksl sz parts=>
  split at hok
  ·rename_i t n ps ho;simp only[Qo,Qv]at hok;obtain⟨⟨⟨rfl,h1⟩,h2⟩,h3⟩:=hok;have hz:=Qeg h1;refine Qit (ps:=ps.map (·.2)) (t:=t) hI ?_ (by simpa using h2) h3 he (hA (by simp));rw[ho,hz,Vv]
  ·cases hok
 case mksg sz parts=>
  split at hok
  ·rename_i t n ps ho;simp only[Qo,Qv]at hok;obtain⟨⟨⟨rfl,h1⟩,h2⟩,h3⟩:=hok;have hz:=Qeg h1;refine Qis (ps:=ps.map (·.2)) (t:=t) hI ?_ (by simpa using h2) h3 he (hA (by simp));rw[ho,hz,Vv]
  ·cases hok
 case mkst zs parts=>
  split at hok
  ·rename_i t ps ho;exact Bv hI ho hok he (hA (by simp))
  ·cases hok
 case idxa sz x i=>
  split at hok
  ·rename_i t x2 i2 ho;simp only[Qo]at hok;exact Qil hI ho hok.1.1 hok.1.2 hok.2 he (hA (by simp))
  ·cases hok
 case idx x i=>
  split at hok
  ·rename_i t x2 i2 ho;simp only[Qo]at hok;exact Qnd hI ho hok.1.1 hok.1.2 hok.2 he (hA (by simp))
  ·cases hok
 case slcs x lo hi=>
  split at hok
  ·rename_i t x2 lo2 hi2 ho;simp only[Qo]at hok;exact Qiy hI ho hok.1.1.1 hok.1.1.2 hok.1.2 hok.2 he (hA (by simp))
  ·cases hok
 case slcl sz x lo hi=>
  split at hok
  ·rename_i t x2 lo2 hi2 ho;simp only[Qo]at hok;exact Qix hI ho hok.1.1.1 hok.1.1.2 hok.1.2 hok.2 he (hA (by simp))
  ·cases hok
 case slz sz x=>
  split at hok
  ·rename_i t x2 k1 k2 ho;simp only[Qo]at hok;exact Qnp hI ho hok.1 hok.2 he (hA (by simp))
  ·cases hok
 case pick c x y=>
  split at hok
  ·rename_i c2 x2 y2 ho;simp only[Qo]at hok;exact Qiu hI ho hok.1.1 hok.1.2 hok.2 he (hA (by simp))
  ·cases hok
 case ext x i=>
  split at hok
  ·rename_i x2 i2 ho;simp only[Qo,Qv]at hok;obtain⟨rfl,h1⟩:=hok;exact Qnb hI ho h1 he (hA (by simp))
  ·cases hok
 case mkfn f caps=>
  split at hok
  ·rename_i g cs ho;simp only[Qo,Qv]at hok;exact Qir hI ho hok.1 hok.2 he (hA (by simp))
  ·cases hok
 case mkfb f caps=>
  split at hok
  ·rename_i g cs ho;simp only[Qo,Qv]at hok;exact Qiq hI ho hok.1 hok.2 he (hA (by simp))
  ·cases hok
 case nilck x=>
  split at hok
  ·rename_i x2 ho;exact Qfa hI ho hok he (hA (by simp))
  ·cases hok
 case fld off sz ag x=>
  split at hok
  ·rename_i t x2 f ho;simp only[Qo]at hok;exact Qnc hI ho hok.1 hok.2 he (hA (by simp))
  ·cases hok
 case mkg bytes sz zs x=>
  split at hok
  ·rename_i t l c ho;simp only[Qo,Qv]at hok;obtain⟨⟨rfl,h1⟩,h2⟩:=hok;exact Qnk hI ho h1 h2 he (hA (by simp))
  ·cases hok
 case mkp bytes sz zs x=>
  split at hok
  ·rename_i t l c ho;simp only[Qo,Qv]at hok;obtain⟨⟨rfl,h1⟩,h2⟩:=hok;exact Qnm hI ho h1 h2 he (hA (by simp))
  ·cases hok
 case extm n=>
  split at hok
  ·rename_i t i ho;simp only[Qo,Qv]at hok;obtain⟨rfl,rfl⟩:=hok;exact Qif hI ho he (hA (by simp))
  ·cases hok
 case mkstP n zs parts=>
  split at hok
  ·rename_i t ps ho;exact Qe9 hI ho hok he (hA (by simp))
  ·cases hok
 case mkz bytes sz zs x=>
  split at hok
  ·rename_i t l c ho;simp only[Qo,Qv]at hok;obtain⟨⟨rfl,h1⟩,h2⟩:=hok;exact Qnn hI ho h1 h2 he (hA (by simp))
  ·cases hok
 case bstr x=>
  split at hok
  ·rename_i s t2 x2 ho;simp only[Qo]at hok;exact Qic hI ho hok.1 hok.2 he (hA (by simp))
  ·cases hok
 case ldfz s off sz fo fz=>
  split at hok
  ·rename_i t q ho;simp only[Qo]at hok;exact Qin hI ho hok.1.1 hok.1.2 (SR hok.2 hpt) he (hA (by simp))
  ·cases hok
 case apps T s x=>
  split at hok
  ·rename_i s2 x2 t t2 ho;simp only[Qo]at hok;obtain⟨⟨⟨⟨h1,h2⟩,h3⟩,h4⟩,h5⟩:=hok;exact Qia hI ho h1 (JN h2) h3 h4 h5 (by simp only[Qi]at he;exact he) (hA (by simp))
  ·cases hok
 case appb T s x=>
  split at hok
  ·rename_i s2 x2 t t2 ho;simp only[Qo]at hok;obtain⟨⟨⟨⟨h0,h1⟩,h2⟩,h3⟩,h4⟩:=hok;exact PX ho h0 (Qh8 hI rfl h1 (JN h2) h3 h4 (by simp only[Qi]at he;exact he) (hA (by simp)))
  ·cases hok
 case lgb k=>
  split at hok
  ·rename_i t g ho;simp only[Qo,Qv]at hok;exact Qni hI hK hG hGb hT ho hok.1 hok.2 he (hA (by simp))
  ·cases hok
 case usd x=>
  split at hok
  ·rename_i x2 t ho;exact Qnu hI ho hok (by simp only[Qi]at he;exact he) (hA (by simp))
  ·cases hok
 case ust T q p x=>
  split at hok
  ·rename_i p2 x2 pt it ho;simp only[Qo,Qv]at hok;obtain⟨⟨⟨rfl,h1⟩,h2⟩,h3⟩:=hok;exact Qnv hI ho (QfF h1) h2 h3 (by simp only[Qi]at he;exact he) (hA (by simp))
  ·cases hok
 case appM bytes sz s x=>
  split at hok
  ·rename_i s2 x2 t t2 ho;simp only[Qo]at hok;obtain⟨⟨⟨h0,h1⟩,h2⟩,h3⟩:=hok;exact PX ho h0 (Qh7 hI rfl h1 h2 h3 he (hA (by simp)))
  ·cases hok
 case apn bytes sz zs s x=>
  split at hok
  ·rename_i s2 x2 t t2 ho;simp only[Qo]at hok;obtain⟨⟨⟨⟨h0,h1⟩,h2⟩,h3⟩,h4⟩:=hok;exact Qm2 hI ho h0 h1 h2 h3 h4 he (hA (by simp))
  ·cases hok
 case stq p sz x q=>
  split at hok
  ·rename_i t q2 y ho;simp only[Qo,Qv]at hok;obtain⟨⟨rfl,h1⟩,h2⟩:=hok;have he2:Qi K (.st p sz x) σ=some (v,σ1):=by
    simp only[Qi]at he ⊢;split at he
    ·rename_i i o2 i2 o3 e1 e2;rw[e1];split at he
     ·cases he
     ·exact he
    ·cases he
   exact AW hI ho h1 h2 he2 (hS (by simp))
  ·cases hok
 case stp p sz x q=>
  split at hok
  ·rename_i t q2 y ho;simp only[Qo,Qv]at hok;obtain⟨⟨rfl,h1⟩,h2⟩:=hok;have he2:Qi K (.st p sz x) σ=some (v,σ1):=by
    simp only[Qi]at he ⊢;split at he
    ·rename_i i o2 i2 o3 e1 e2;rw[e1];split at he
     ·cases he
     ·exact he
    ·cases he
   exact AW hI ho h1 h2 he2 (hS (by simp))
  ·cases hok
 case slcx sz x lo hi=>
  split at hok
  ·rename_i ho;simp only[Qo]at hok;exact Qiz hI ho hok.1.1.1 hok.1.1.2 hok.1.2 hok.2 he (hA (by simp))
  ·cases hok
 case slcf sz x hi mx=>
  split at hok
  ·rename_i ho;simp only[Qo]at hok;exact Qiw hI ho hok.1.1.1 hok.1.1.2 hok.1.2 hok.2 he (hA (by simp))
  ·cases hok
 case slcc sz x lo hi mx=>
  split at hok
  ·rename_i ho;simp only[Qo]at hok;exact Qiv hI ho hok.1.1.1.1 hok.1.1.1.2 hok.1.1.2 hok.1.2 hok.2 he (hA (by simp))
  ·cases hok
 case mkm=>
  split at hok
  ·rename_i t ho;exact Qnl hI ho he (hA (by simp))
  ·cases hok
 case lkm s ok x i z=>
  split at hok
  ·rename_i t x2 i2 ok2 ho;simp only[Qo,Qv]at hok;obtain⟨⟨⟨rfl,h1⟩,h2⟩,h3⟩:=hok;exact Qnj hI ho h1 h2 h3 he (hA (by simp))
  ·cases hok
 case upm s x k y=>
  split at hok
  ·rename_i t x2 k2 y2 ho;simp only[Qo]at hok;obtain⟨⟨⟨h1,h2⟩,h3⟩,h4⟩:=hok;exact Qnt hI ho h1 h2 h3 h4 he (hS (by simp))
  ·cases hok
 case mpe s x k z=>
  split at hok
  ·rename_i t x2 k2 ho;simp only[Qo]at hok;obtain⟨⟨h1,h2⟩,h3⟩:=hok;exact Qno hI ho h1 h2 h3 he (hA (by simp))
  ·cases hok
 case ensf x st n sz=>
  split at hok
  ·rename_i t x2 s2 t2 ho;simp only[Qo,Qv]at hok;obtain⟨⟨rfl,h1⟩,h2⟩:=hok;exact Qie hI ho h1 h2 he (hS (by simp))
  ·cases hok
 case ens x st y=>
  split at hok
  ·rename_i t x2 s2 y2 ho;simp only[Qo]at hok;obtain⟨⟨h1,h2⟩,h3⟩:=hok;exact Qm7 hI ho h1 h2 h3 he (hS (by simp))
  ·cases hok
end
end Go.Am
