/-
  Ins1, Ins2, Ins3, Am28, AmT, AmO, AmP.
-/
import Derived.Shelf.Spec.SlicesInsertGrow
import Derived.Test.YtmlbinmlblbfgaaGreatDoorG09
import Derived.Test.YtmlbinmlblbfgaaGreatDoorG10
import Derived.Test.YtmlbinmlblbfgaaGreatDoorG00
import Derived.Lib.SlTrimSet
import Derived.Lib.Bytealg
import Derived.Lib.Index
set_option linter.all false
namespace Go.Am
open Go.Shelf Go.RowKit Go.Lib Go.Proofs
variable {P:Program} {ρ:Ren}
def QI (cur:QW) (o:Nat) (cs:Q8):QW:=(cur.toList.take o ++ cs ++ cur.toList.drop (o+cs.length)).toArray
def Yx {cur:QW} {o:Nat} {cs:Q8} (h:o+cs.length<=cur.size): (QI cur o cs).size=cur.size:=by
 simp[QI];omega
def Us {cur:QW} {o:Nat} {cs:Q8} (h:o+cs.length<=cur.size) (j:Nat):
  (QI cur o cs)[j]? =if j < o then cur[j]? else if j < o+cs.length then cs[j - o]? else cur[j]? :=by
 simp only[QI,UW];have hl: (cur.toList.take o).length=o:=by simp;omega
 by_cases h1:j < o
 ·rw[Qh h1,XP,ZO (by omega),XC h1,SL]
 ·rw[Qe h1];by_cases h2:j < o+cs.length
  ·rw[Qh h2,XP,Yn (by omega),hl,ZO (by omega)]
  ·rw[Qe h2,Yn (by simp;omega),YM];have:o+cs.length+ (j - (cur.toList.take o ++ cs).length)=j:=by simp only[Zf,hl];omega
   rw[this,SL]
def YD (w:World) (dT sT ty elem:TypeId) (k g o dLen dCap:Nat) (a:Addr) (sLen sCap:Nat) (cur:QW) (e:TypeId) (cs:Q8)
  (hu:P.underlying dT=some (.slice elem)) (hs: (P.info? elem).map (·.size)=some k) (hg:w.heap[g]? =some (.cells cur e (0,0))) (hn:cs.length=Nat.min sLen dLen*k)
  (hsrc: ∀j v,cs[j]? =some v->w.cell? (a.add j)=some v) (hl:o+cs.length<=cur.size) (h1: ∀v∈cs,v.oneCell'=true):
  (Builtin.copy_ #[dT,sT] ty #[.slice (some ⟨g,o,none⟩) dLen dCap,.slice (some a) sLen sCap]).run P w= .ok (goInt (Nat.min sLen dLen)) (w.setRow g (QI cur o cs)):=by
 have hld:=run_loadCells_list (P:=P) w a cs hsrc;have hst:=run_storeCells_at (P:=P) g o e cs 0 cur w hg (by simpa using hl) h1;simp only[WH]at hst;cases hq:P.info? elem with
 | none=>simp[hq]at hs
 | some i=>
  have hi:i.size=k:=by simpa[hq]using hs
  simp[Builtin.copy_,run_underlying hu,Builtin.lenOf,Builtin.firstCells,sizeOf,typeInfo,hq,hi,<- hn,hld,hst,QI]
def Sb (w:World) (tS tR e:TypeId) (ht:P.underlying tS=some (.slice e)) (size:Nat) (hz: ∀w,(Go.sizeOf e).run P w= .ok size w)
  (a b:Addr) (la ca lb cb:Nat) (hne:a.block≠b.block) {ca' cb':QW} {ea eb:TypeId} {fa:Nat×Nat}
  (hA:w.heap[a.block]? =some (.cells ca' ea fa)) (hB:w.heap[b.block]? =some (.cells cb' eb (0,0))) (hkA:ca'.size≠0) (hkB:cb'.size≠0):
  (Extern.SlicesOverlaps.overlaps #[tS,tS] #[tR] #[.slice (some a) la ca,.slice (some b) lb cb]).run P w= .ok (.bool false) w:=by
 have hnb: (a.block != b.block)=true:=by simpa using hne
 have hnb': (a.block == b.block)=false:=by simpa using hne
 have hsa:w.shape? a.block=some (ea,ca'.size):=by simp[World.shape?,hA]
 have hsb:w.shape? b.block=some (eb,cb'.size):=by simp[World.shape?,hB]
 have hfb: ∀o s,w.frozen? ⟨b.block,o,s⟩=false:=fun o s=>by simp[World.frozen?,hB]
 have hfb2:w.frozen? b=false:=by simp[World.frozen?,hB]
 change Sem.run P (α:=Value) (do
  let some t:=(#[tS,tS]:Array TypeId)[0]? | stuck "slices.overlaps: no parameter types"
  let .slice elem <- underlying t | stuck "slices.overlaps: slice type expected"
  let size <- sizeOf elem
  match (some a:WU),(some b:WU)with
  | some a,some b=>
   if la=0\/lb=0\/size=0 then pure (Value.bool false)
   else if a.block != b.block && (<- frozen a) && (<- frozen b)then unsupported .addressObserved
   else do
    if a.block != b.block then do
     noView a;noView b
     if <- mayBeOne a b then return Value.bool ((<- choose (.extern "sameAddr.stringBytes" 2)) == 1)
    pure (Value.bool (a.block == b.block && a.off < b.off+lb*size && b.off < a.off+la*size))
  | _,_=>pure (Value.bool false)) w=_
 by_cases h0:la=0\/lb=0\/size=0
 ·simp[run_underlying ht,hz,h0]
 ·cases hk:cb'.size with
  | zero=>exact absurd hk hkB
  | succ kB=>
   rw[hk]at hsb;obtain⟨kA,hkA2⟩: ∃kA,ca'.size=kA+1:=⟨ca'.size - 1,by omega⟩;rw[hkA2]at hsa;cases hfa:w.frozen? a <;> cases hfe:w.frozen? ⟨a.block,kA+1,none⟩ <;>
   simp[run_underlying ht,hz,h0,hnb,hnb',frozen,noView,viewAt,mayBeOne,stringish,shape,Sem.run,hsa,hsb,hfb,hfb2,hfa,hfe]
structure V4 (P:Program) (ρ:Ren) (F:Func) (k by':Nat) (z:Value):Prop where
 mixed:P.follows .mixedOrders=true
 body:F.body=(Body2.n22 ρ).body
 ntmps:F.ntmps=95
 res:F.results= #[.tmp 6]
 f29: ∀(args:Array Value) (w:World),(callFunc (ρ.f 29) args).run P w=((Extern.SlicesOverlaps.overlaps #[(ρ.t 24),(ρ.t 24)] #[(ρ.t 4)] args).run P w).andThen fun v w'=> .ok (.value v) w'
 t0:P.underlying (ρ.t 0)=some (TypeDesc.tuple #[])
 t3:P.underlying (ρ.t 3)=some (TypeDesc.int IntKind.i64)
 a3: ∀w,(isAgg (ρ.t 3)).run P w= .ok false w
 z3: ∀w,(Go.sizeOf (ρ.t 3)).run P w= .ok 1 w
 t4:P.underlying (ρ.t 4)=some (TypeDesc.bool)
 a4: ∀w,(isAgg (ρ.t 4)).run P w= .ok false w
 z4: ∀w,(Go.sizeOf (ρ.t 4)).run P w= .ok 1 w
 z9: ∀w,(Go.sizeOf (ρ.t 9)).run P w= .ok k w
 t24:P.underlying (ρ.t 24)=some (TypeDesc.slice (ρ.t 9))
 a24: ∀w,(isAgg (ρ.t 24)).run P w= .ok false w
 z24: ∀w,(Go.sizeOf (ρ.t 24)).run P w= .ok 1 w
 i9: (P.info? (ρ.t 9)).map (fun i=>(i.zero,i.size,i.bytes))=some (some z,k,by')
 zc:z.cells.size=k
def V4.sz {F:Func} {k by':Nat} {z:Value} (L:V4 P ρ F k by' z): (P.info? (ρ.t 9)).map (·.size)=some k:=by
 obtain⟨i0,hi0,h0,h1,h2⟩:=info_parts L.i9;rw[hi0];simp[h1]
def GG (n i m:Nat) (hi:i<=n):Nat.min (n+m - i) (n+m - (i+m))=n - i:=by simp only[Nat.min_def];split <;> omega
def UM (m x:Nat) (h:m<=x):Nat.min m x=m:=by simp only[Nat.min_def];split <;> omega
def Xy {w:World} {b j:Nat} {v:Value} (h:w.cell? ⟨b,j,none⟩=some v): ∃cur e fz,w.heap[b]? =some (.cells cur e fz)/\cur[j]? =some v:=by
 simp only[World.cell?]at h;split at h
 ·rename_i cur e fz hb;exact⟨_,_,_,hb,h⟩
 ·cases h
def WM {w:World} {b j:Nat} {v:Value} {cur:QW} {e:TypeId} {fz:Nat×Nat} (h:w.heap[b]? =some (.cells cur e fz)) (hj:cur[j]? =some v):w.cell? ⟨b,j,none⟩=some v:=by
 unfold World.cell?;rw[h];exact hj
def setRow_other {w:World} {b x:Nat} {cs:QW} (h:x≠b): (w.setRow b cs).heap[x]? =w.heap[x]? :=by
 simp only[World.setRow,VO];split
 ·rename_i e;exact absurd e.symm h
 ·rfl
def YR {w:World} {b:Nat} {cur cs:QW} {e:TypeId} {fz:Nat×Nat} (h:w.heap[b]? =some (.cells cur e fz)): (w.setRow b cs).heap[b]? =some (.cells cs e fz):=by
 simp[World.setRow,VO,h]
def Ns:=@Nat.sub_mul
def O6:=@Array.replicate_succ
def O7:=@Array.replicate_zero
def Ng:=@List.push_toArray
def Na:=@List.append_toArray
def Wb:=@List.nil_append
def X9:=@List.cons_append
set_option maxHeartbeats 4000000 in
set_option maxRecDepth 100000 in
def CY {F:Func} {k by':Nat} {z:Value} {g:Nat} (L:V4 P ρ F k by' z) (hF:P.funcs[g]? =some F) (hk:0 < k) (b n c i vb voff m vc:Nat) (cur:QW) (e:TypeId) (cs vs:Q8) (w:World) (hi:i < n) (hm:0 < m) (hroom:n+m<=c) (hc63:c<=9223372036854775807) (hvb:vb≠b)
  (hb:w.heap[b]? =some (.cells cur e (0,0))) (hcz:c*k<=cur.size)
  (hcl:cs.length=n*k) (hvl:vs.length=m*k)
  (hcs: ∀(j:Nat) (v:Value),cs[j]? =some v->cur[j]? =some v)
  (hvs: ∀(j:Nat) (v:Value),vs[j]? =some v->w.cell? ⟨vb,voff+j,none⟩=some v) (h1c: ∀v∈cs,v.oneCell'=true) (h1v: ∀v∈vs,v.oneCell'=true):
  Calls P g #[.slice (some ⟨b,0,none⟩) n c,.int .i64 i,.slice (some ⟨vb,voff,none⟩) m vc] w fun e' w'=>
   e'= .returned (.slice (some ⟨b,0,none⟩) (n+m) c)/\w'=(w.drew.setRow b (QI cur ((i+m)*k) (cs.drop (i*k)))).setRow b (QI (QI cur ((i+m)*k) (cs.drop (i*k))) (i*k) vs):=by
 have t0:=L.t0;have t3:=L.t3;have a3:=L.a3;have z3:=L.z3;have t4:=L.t4;have a4:=L.a4;have z4:=L.z4;have z9:=L.z9;have t24:=L.t24;have a24:=L.a24;have z24:=L.z24
 have u0:=run_underlying L.t0;have u3:=run_underlying L.t3;have u4:=run_underlying L.t4;have u24:=run_underlying L.t24
 have hz1: ¬((m:Int)=0):=by omega
 have hz2: ¬((i:Int)=(n:Int)):=by omega
 have hsz:=L.sz;have hnik: (n+m)*k=n*k+m*k:=ZQ _ _ _;have him: (i+m)*k=i*k+m*k:=ZQ _ _ _;have hik:i*k<=n*k:=ZZ _ (by omega);have hck: (n+m)*k<=c*k:=ZZ _ hroom;have hmk:0 < m*k:=Uc hm hk;have hsub: (n - i)*k=n*k - i*k:=Ns _ _ _;have hdl: (cs.drop (i*k)).length=n*k - i*k:=by rw[YN,hcl]
 obtain⟨cv,ev,fv,hvh,hv0⟩:=Xy (hvs 0 _ (Zr (by omega)));have hcvz:cv.size≠0:=fun h0=>by rw[XN (by omega)]at hv0;cases hv0
 have hov: ∀lb cb,(callFunc (ρ.f 29) #[.slice (some ⟨vb,voff,none⟩) m vc,.slice (some ⟨b,(i+m)*k,none⟩) lb cb]).run P w= .ok (.value (.bool false)) w:=fun lb cb=>by
  rw[L.f29,Sb w (ρ.t 24) (ρ.t 4) (ρ.t 9) L.t24 k L.z9 ⟨vb,voff,none⟩ ⟨b,(i+m)*k,none⟩ m vc lb cb hvb hvh hb hcvz (by omega)];rfl
 have mixed:=L.mixed;have hw1:IntKind.i64.wrap ((i:Int)+ (m:Int))=(i:Int)+ (m:Int):=by rw[IntKind.wrap_i64];omega
 have hb1: (0:Int)<=(i:Int)+ (m:Int):=by omega
 have hin:i<=n:=by omega
 have htn: ((i:Int)+ (m:Int)).toNat=i+m:=by omega
 have hb2: ¬(c=i+m):=by omega
 have hb3: (i:Int)<=(n:Int)+ (m:Int):=by omega
 have hb4: ¬(c=i):=by omega
 have hcp1: ∀ty dc sc,(Builtin.copy_ #[(ρ.t 24),(ρ.t 24)] ty #[.slice (some ⟨b,(i+m)*k,none⟩) (n+m - (i+m)) dc,.slice (some ⟨b,i*k,none⟩) (n+m - i) sc]).run P w.drew= .ok (goInt (Nat.min (n+m - i) (n+m - (i+m)))) (w.drew.setRow b (QI cur ((i+m)*k) (cs.drop (i*k)))):=fun ty dc sc=>
  YD w.drew _ _ ty (ρ.t 9) k b ((i+m)*k) (n+m - (i+m)) dc ⟨b,i*k,none⟩ (n+m - i) sc cur e (cs.drop (i*k)) L.t24 hsz hb (by rw[GG n i m hin,hdl,hsub])
   (fun j v hj=>by
    rw[Addr.add_lit];have:=hcs (i*k+j) v (by rwa[YM]at hj);exact WM (w:=w.drew) hb this)
   (by omega) (fun v hv=>h1c v (List.mem_of_mem_drop hv))
 obtain⟨cur1,hcur1⟩: ∃cur1,cur1=QI cur ((i+m)*k) (cs.drop (i*k)):=⟨_,rfl⟩;obtain⟨W1,hW1⟩: ∃W1,W1=w.drew.setRow b (QI cur ((i+m)*k) (cs.drop (i*k))):=⟨_,rfl⟩;have hbW:W1.heap[b]? =some (.cells cur1 e (0,0)):=by rw[hW1,hcur1];exact YR (w:=w.drew) hb
 have hvW:W1.heap[vb]? =some (.cells cv ev fv):=by rw[hW1,setRow_other (w:=w.drew) hvb];exact hvh
 have hs1:cur1.size=cur.size:=by rw[hcur1,Yx (by omega)]
 have hcp2: ∀(W:World),W.heap=W1.heap->∀ty dc,(Builtin.copy_ #[(ρ.t 24),(ρ.t 24)] ty #[.slice (some ⟨b,i*k,none⟩) (n+m - i) dc,.slice (some ⟨vb,voff,none⟩) m vc]).run P W= .ok (goInt (Nat.min m (n+m - i))) (W.setRow b (QI cur1 (i*k) vs)):=fun W hWc ty dc=>
  YD W _ _ ty (ρ.t 9) k b (i*k) (n+m - i) dc ⟨vb,voff,none⟩ m vc cur1 e vs L.t24 hsz (by rw[hWc];exact hbW) (by rw[hvl,UM m (n+m - i) (by omega)])
   (fun j v hj=>by
    rw[Addr.add_lit];have:=hvs j v hj;refine WM (w:=W) (by rw[hWc];exact hvW) ?_;obtain⟨_,_,_,q1,q2⟩:=Xy this;rw[hvh]at q1;injection q1 with q1
    injection q1 with q1
    rw[q1];exact q2)
   (by omega) h1v
 rw[<- hW1]at hcp1;rw[<- hcur1];have hbody:=L.body;have hnt:=L.ntmps;have hres:=L.res;clear hcs hvs hnik him hik hsub hdl hbW hvW hs1 hck hcz hvh hb hv0 hcvz;refine calls_of_wp hF hbody ?_;simp only[hnt,Y4,QO,QX,Nat.reduceAdd,Nat.reduceSub,O6,
   O7,Ng,Na,Wb,X9]
 go_wp2_with (simp only[hov])
 go_region_law_o (refine step_copy_runI rfl _ _ (ρ.t 24) (ρ.t 24) rfl _ _ (by simp[Act.eval,Act.put]) (by simp[Act.eval,Act.put]) (hcp1 _ _ _) ?_)
 go_wp2_with (at_builtin;refine wpList_copy_runI _ rfl _ _ (ρ.t 24) (ρ.t 24) rfl _ _ rfl rfl (hcp2 _ rfl _ _) ?_)
 refine bodyPost_ret (results_tmp hres _ _ _) rfl ?_;exact⟨rfl,by rw[hcur1]⟩
end Go.Am
namespace Go.Am
open Go.Shelf Go.RowKit Go.Lib Go.Proofs
variable {P:Program} {ρ:Ren}
def Hid (p:Prop):Prop:=p
set_option maxHeartbeats 4000000 in
set_option maxRecDepth 100000 in
def Iy {F:Func} {k by':Nat} {z:Value} {g:Nat} (L:V4 P ρ F k by' z) (hF:P.funcs[g]? =some F) (hk:0 < k) (b n c vb voff m vc:Nat) (cur:QW) (e:TypeId) (vs:Q8) (w:World) (hm:0 < m) (hroom:n+m<=c) (hc63:c<=9223372036854775807)
  (hb:w.heap[b]? =some (.cells cur e (0,0))) (hcz:c*k<=cur.size) (hvl:vs.length=m*k)
  (hvs: ∀(j:Nat) (v:Value),vs[j]? =some v->w.cell? ⟨vb,voff+j,none⟩=some v) (h1v: ∀v∈vs,v.oneCell'=true):
  Calls P g #[.slice (some ⟨b,0,none⟩) n c,.int .i64 n,.slice (some ⟨vb,voff,none⟩) m vc] w fun e' w'=>
   e'= .returned (.slice (some ⟨b,0,none⟩) (n+m) c)/\w'=w.setRow b (QI cur (n*k) vs):=by
 have t0:=L.t0;have t3:=L.t3;have a3:=L.a3;have z3:=L.z3;have t4:=L.t4;have a4:=L.a4;have z4:=L.z4;have z9:=L.z9;have t24:=L.t24;have a24:=L.a24;have z24:=L.z24
 have u0:=run_underlying L.t0;have u3:=run_underlying L.t3;have u4:=run_underlying L.t4;have u24:=run_underlying L.t24
 have hz1: ¬((m:Int)=0):=by omega
 have mixed:=L.mixed;have hck: (n+m)*k<=c*k:=ZZ _ hroom;have hnik: (n+m)*k=n*k+m*k:=ZQ _ _ _;obtain⟨i0,hi0,hz0,hzs,hzb⟩:=info_parts L.i9;have hrun: ∀ty,(Builtin.append_ #[(ρ.t 24),(ρ.t 24)] ty #[.slice (some ⟨b,0,none⟩) n c,.slice (some ⟨vb,voff,none⟩) m vc]).run P w= .ok (.slice (some ⟨b,0,none⟩) (n+m) c) (w.setRow b (QI cur (n*k) vs)):=fun ty=>by
  have:=YC (P:=P) (w:=w) (t:=ρ.t 24) (ty:=ty) (A:=⟨vb,voff,none⟩) (c:=vc) L.t24 hi0 hb (by rw[hzs];exact hvl) (fun j u hj=>by rw[Addr.add_lit];exact hvs j u hj) h1v hroom (by rw[hzs];omega);rw[hzs]at this;exact this
 have hbody:=L.body;have hnt:=L.ntmps;have hres:=L.res;clear hvs hb hcz hck hnik hi0 hz0 hzs hzb;refine calls_of_wp hF hbody ?_;simp only[hnt,Y4,QO,QX,Nat.reduceAdd,Nat.reduceSub,O6,
   O7,Ng,Na,Wb,X9]
 go_wp2_with (at_builtin;refine Lib.wpList_append_run _ rfl _ _ _ _ rfl _ _ rfl rfl _ _ (hrun _) ?_)
 refine bodyPost_ret (results_tmp hres _ _ _) rfl ?_;exact⟨rfl,rfl⟩
set_option maxHeartbeats 4000000 in
set_option maxRecDepth 100000 in
def Ix {F:Func} {k by':Nat} {z:Value} {g:Nat} (L:V4 P ρ F k by' z) (hF:P.funcs[g]? =some F) (hk:0 < k) (base:WU) (n c vb voff m vc:Nat) (cs vs:Q8) (w:World) (hm:0 < m) (hnc:n<=c) (hroom:c < n+m) (hbig: (n+m)*by'<=140737488355328) (h63:n+m<=140737488355328)
  (hcl:cs.length=n*k) (hvl:vs.length=m*k) (hnil:base=none->n=0/\c=0)
  (hcs: ∀a,base=some a->∀(j:Nat) (v:Value),cs[j]? =some v->w.cell? (a.add j)=some v)
  (hvs: ∀(j:Nat) (v:Value),vs[j]? =some v->w.cell? ⟨vb,voff+j,none⟩=some v) (h1v: ∀v∈vs,v.oneCell'=true):
  Calls P g #[.slice base n c,.int .i64 n,.slice (some ⟨vb,voff,none⟩) m vc] w fun e' w'=>
   e'= .returned (.slice (some ⟨w.heap.size,0,none⟩) (n+m) (grownCap w (n+m) c (ρ.t 9)))/\
   w'=w.drew.alloc (.cells ((cs ++ vs).toArray ++ Builtin.zeroCells z.cells (grownCap w (n+m) c (ρ.t 9) - (n+m))) (ρ.t 9)):=by
 have t0:=L.t0;have t3:=L.t3;have a3:=L.a3;have z3:=L.z3;have t4:=L.t4;have a4:=L.a4;have z4:=L.z4;have z9:=L.z9;have t24:=L.t24;have a24:=L.a24;have z24:=L.z24
 have u0:=run_underlying L.t0;have u3:=run_underlying L.t3;have u4:=run_underlying L.t4;have u24:=run_underlying L.t24
 have hz1: ¬((m:Int)=0):=by omega
 have mixed:=L.mixed;obtain⟨i0,hi0,hz0,hzs,hzb⟩:=info_parts L.i9;have hfit:Builtin.nextslicecap (n+m) c*i0.bytes<=281474976710656:=by rw[hzb];exact growslice_fits hroom hbig
 have hrun: ∀ty,(Builtin.append_ #[(ρ.t 24),(ρ.t 24)] ty #[.slice base n c,.slice (some ⟨vb,voff,none⟩) m vc]).run P w=
   .ok (.slice (some ⟨w.heap.size,0,none⟩) (n+m) (grownCap w (n+m) c (ρ.t 9))) (w.drew.alloc (.cells ((cs ++ vs).toArray ++ Builtin.zeroCells z.cells (grownCap w (n+m) c (ρ.t 9) - (n+m))) (ρ.t 9))):=fun ty=>by
  cases base with
  | none=>
   obtain⟨h0,h00⟩:=hnil rfl;subst h0 h00;rw[Nat.zero_mul]at hcl;rw[List.length_eq_zero_iff.1 hcl];have h48:m*i0.bytes<=281474976710656:=by rw[hzb];rw[QP]at hbig;omega
   have:=run_append_nil (P:=P) w (ρ.t 24) ty (ρ.t 9) i0 z L.t24 hi0 hz0 ⟨vb,voff,none⟩ m vc vs (by rw[hzs];exact hvl) (fun j u hj=>by rw[Addr.add_lit];exact hvs j u hj) hm (by omega) h48;simpa using this
  | some a=>
   have:=run_append_grow (P:=P) w (ρ.t 24) ty (ρ.t 9) i0 z L.t24 hi0 hz0 a n c cs (by rw[hzs];exact hcl) (fun j v hj=>hcs a rfl j v hj) ⟨vb,voff,none⟩ m vc vs (by rw[hzs];exact hvl) (fun j u hj=>by rw[Addr.add_lit];exact hvs j u hj) hroom (by omega) hfit;simpa using this
 have hbody:=L.body;have hnt:=L.ntmps;have hres:=L.res;clear hvs hcs hi0 hz0 hzs hzb hfit L;generalize z.cells=ZC at *;refine calls_of_wp hF hbody ?_;simp only[hnt,Y4,QO,QX,Nat.reduceAdd,Nat.reduceSub,O6,
   O7,Ng,Na,Wb,X9]
 cases base with
 | none=>
  obtain⟨h0,h00⟩:=hnil rfl;subst h0 h00
  go_wp2_with (at_builtin;refine Lib.wpList_append_run _ rfl _ _ _ _ rfl _ _ rfl rfl _ _ (hrun _) ?_)
  refine bodyPost_ret (results_tmp hres _ _ _) rfl ?_;exact⟨rfl,rfl⟩
 | some a=>
  obtain⟨ab,ao,asp⟩:=a
  go_wp2_with (at_builtin;refine Lib.wpList_append_run _ rfl _ _ _ _ rfl _ _ rfl rfl _ _ (hrun _) ?_)
  all_goals (refine bodyPost_ret (results_tmp hres _ _ _) rfl ?_;exact⟨rfl,rfl⟩)
def R1:=@Array.getElem?_push_size
def R2:=@Array.getElem?_push_lt
set_option maxHeartbeats 4000000 in
set_option maxRecDepth 100000 in
def A5 {F:Func} {k by':Nat} {z:Value} {g:Nat} (L:V4 P ρ F k by' z) (hF:P.funcs[g]? =some F) (hk:0 < k) (b n c i vb voff m vc:Nat) (cs vs:Q8) (w:World) (hi:i < n) (hm:0 < m) (hnc:n<=c) (hroom:c < n+m) (hbig: (n+m)*by'<=140737488355328) (h63:n+m<=140737488355328)
  (hc63:c<=9223372036854775807) (hcl:cs.length=n*k) (hvl:vs.length=m*k)
  (hcs: ∀(j:Nat) (v:Value),cs[j]? =some v->w.cell? ⟨b,j,none⟩=some v)
  (hvs: ∀(j:Nat) (v:Value),vs[j]? =some v->w.cell? ⟨vb,voff+j,none⟩=some v) (h1c: ∀v∈cs,v.oneCell'=true) (h1v: ∀v∈vs,v.oneCell'=true):
  Calls P g #[.slice (some ⟨b,0,none⟩) n c,.int .i64 i,.slice (some ⟨vb,voff,none⟩) m vc] w fun e' w'=>
   e'= .returned (.slice (some ⟨w.heap.size,0,none⟩) (n+m) (grownCap w (n+m) c (ρ.t 9)))/\
   ∃ROW:QW,ROW=(cs.take (i*k)).toArray ++ Builtin.zeroCells z.cells (n+m - i)++ Builtin.zeroCells z.cells (grownCap w (n+m) c (ρ.t 9) - (n+m))/\
   w'=(((w.alloc (.cells ROW (ρ.t 9))).drew.setRow w.heap.size (QI ROW (i*k) vs)).drew).setRow w.heap.size (QI (QI ROW (i*k) vs) ((i+m)*k) (cs.drop (i*k))):=by
 have t0:=L.t0;have t3:=L.t3;have a3:=L.a3;have z3:=L.z3;have t4:=L.t4;have a4:=L.a4;have z4:=L.z4;have z9:=L.z9;have t24:=L.t24;have a24:=L.a24;have z24:=L.z24
 have u0:=run_underlying L.t0;have u3:=run_underlying L.t3;have u4:=run_underlying L.t4;have u24:=run_underlying L.t24
 have mixed:=L.mixed;obtain⟨i0,hi0,hz0,hzs,hzb⟩:=info_parts L.i9;have hz1: ¬((m:Int)=0):=by omega
 have hz2: ¬((i:Int)=(n:Int)):=by omega
 have hz3: (c:Int) < (n:Int)+ (m:Int):=by omega
 have hsz:=L.sz;have hnik: (n+m)*k=n*k+m*k:=ZQ _ _ _;have him: (i+m)*k=i*k+m*k:=ZQ _ _ _;have hik:i*k<=n*k:=ZZ _ (by omega);have hsub: (n - i)*k=n*k - i*k:=Ns _ _ _;have hnmi: (n+m - i)*k=n*k+m*k - i*k:=by rw[Ns,hnik]
 have hmk:0 < m*k:=Uc hm hk;have hnk:0 < n*k:=Uc (by omega) hk;have hbw:b < w.heap.size:=block_lt_of_cell (hcs 0 _ (Zr (by omega)));have hvw:vb < w.heap.size:=block_lt_of_cell (hvs 0 _ (Zr (by omega)));have hkk: (n:Int)+ (m:Int) - (i:Int)=((n+m - i:Nat):Int):=by omega
 have hik2:i+ (n+m - i)=n+m:=by omega
 have hfit:Builtin.nextslicecap (n+m) c*i0.bytes<=281474976710656:=by rw[hzb];exact growslice_fits hroom hbig
 have hfit2: (n+m - i)*i0.bytes<=281474976710656:=by
  rw[hzb];have: (n+m - i)*by'<=(n+m)*by':=ZZ _ (by omega);omega
 have hold: (Builtin.firstCells i0.size i (.slice (some ⟨b,0,none⟩) i c)).run P w.drew= .ok (cs.take (i*k)).toArray w.drew:=by
  rw[hzs];exact run_firstCells_some w.drew k i ⟨b,0,none⟩ i c (cs.take (i*k)) (by rw[YO];omega) (fun j v hj=>by
   rw[Addr.add_lit,QP];rw[Ws]at hj;split at hj
   ·exact hcs j v hj
   ·cases hj)
 have hrz: ∀ty,(Builtin.append_ #[(ρ.t 24),(ρ.t 3)] ty #[.slice (some ⟨b,0,none⟩) i c,.int .i64 ((n:Int)+ (m:Int) - (i:Int))]).run P w=
   .ok (.slice (some ⟨w.heap.size,0,none⟩) (n+m) (grownCap w (n+m) c (ρ.t 9))) (w.drew.alloc (.cells ((cs.take (i*k)).toArray ++ Builtin.zeroCells z.cells (n+m - i)++ Builtin.zeroCells z.cells (grownCap w (n+m) c (ρ.t 9) - (n+m))) (ρ.t 9))):=fun ty=>by
  have h:=Lib.run_append_grow_zeros w (ρ.t 24) (ρ.t 3) ty (ρ.t 9) i0 _ .i64 .i64 L.t24 L.t3 hi0 hz0 (some ⟨b,0,none⟩) i c (cs.take (i*k)) hold (n+m - i) (by omega) (by rw[hzs];exact hk) (by omega) (by omega) hfit2 (by rw[hik2];exact hfit);rw[hik2]at h;rw[hkk];exact h
 obtain⟨G,hG⟩: ∃G,G=grownCap w (n+m) c (ρ.t 9):=⟨_,rfl⟩;obtain⟨ROW,hROW⟩: ∃ROW:QW,ROW=(cs.take (i*k)).toArray ++ Builtin.zeroCells z.cells (n+m - i)++ Builtin.zeroCells z.cells (G - (n+m)):=⟨_,rfl⟩;rw[<- hG]at hrz ⊢;rw[<- hROW]at hrz ⊢;have hzl: ∀x,(Builtin.zeroCells z.cells x).size=x*k:=fun x=>by
  simp[Builtin.zeroCells,L.zc]
 have hRl: (n+m)*k<=ROW.size:=by
  rw[hROW];simp only[Tb,hzl,Y4,YO];omega
 obtain⟨W1,hW1⟩: ∃W1,W1=w.drew.alloc (.cells ROW (ρ.t 9)):=⟨_,rfl⟩;rw[<- hW1]at hrz;have hN:W1.heap[w.heap.size]? =some (.cells ROW (ρ.t 9) (0,0)):=by rw[hW1];exact R1
 have hO: ∀x,x < w.heap.size->W1.heap[x]? =w.heap[x]? :=fun x hx=>by rw[hW1];show(w.heap.push _)[x]? =_;rw[R2 hx,YL hx]
 have hOc: ∀(W:World) x,W.heap[x]? =w.heap[x]? ->∀j v,w.cell? ⟨x,j,none⟩=some v->W.cell? ⟨x,j,none⟩=some v:=fun W x hx j v h=>by
  obtain⟨cu,ee,ff,q1,q2⟩:=Xy h;exact WM (by rw[hx];exact q1) q2
 have hcpA: ∀(W:World),W.heap=W1.heap->∀ty dc,(Builtin.copy_ #[(ρ.t 24),(ρ.t 24)] ty #[.slice (some ⟨w.heap.size,i*k,none⟩) (n+m - i) dc,.slice (some ⟨vb,voff,none⟩) m vc]).run P W= .ok (goInt (Nat.min m (n+m - i))) (W.setRow w.heap.size (QI ROW (i*k) vs)):=fun W hW ty dc=>
  YD W _ _ ty (ρ.t 9) k w.heap.size (i*k) (n+m - i) dc ⟨vb,voff,none⟩ m vc ROW (ρ.t 9) vs L.t24 hsz (by rw[hW];exact hN) (by rw[hvl,UM m (n+m - i) (by omega)])
   (fun j v hj=>by rw[Addr.add_lit];exact hOc W vb (by rw[hW];exact hO vb hvw) _ v (hvs j v hj))
   (by omega) h1v
 have hGn:n+m<=G:=by rw[hG];exact grownCap_ge w _ _ _
 have hG63:G<=9223372036854775807:=by
  have:=grownCap_le_maxLen w (n+m) c (ρ.t 9) (by unfold maxLen;omega);rw[<- hG]at this;unfold maxLen at this;omega
 have hGi: ¬(G=i):=by omega
 have hGim: ¬(G=i+m):=by omega
 have hci: ¬(c=i):=by omega
 have hbN:b≠w.heap.size:=by omega
 have hdl: (cs.drop (i*k)).length=n*k - i*k:=by rw[YN,hcl]
 have hR1: (QI ROW (i*k) vs).size=ROW.size:=Yx (by omega);have hcpB: ∀(W:World),W.heap=(W1.setRow w.heap.size (QI ROW (i*k) vs)).heap->∀ty dc sc,(Builtin.copy_ #[(ρ.t 24),(ρ.t 24)] ty #[.slice (some ⟨w.heap.size,(i+m)*k,none⟩) (n+m - (i+m)) dc,.slice (some ⟨b,i*k,none⟩) (n - i) sc]).run P W= .ok (goInt (Nat.min (n - i) (n+m - (i+m)))) (W.setRow w.heap.size (QI (QI ROW (i*k) vs) ((i+m)*k) (cs.drop (i*k)))):=fun W hW ty dc sc=>
  YD W _ _ ty (ρ.t 9) k w.heap.size ((i+m)*k) (n+m - (i+m)) dc ⟨b,i*k,none⟩ (n - i) sc (QI ROW (i*k) vs) (ρ.t 9) (cs.drop (i*k)) L.t24 hsz (by rw[hW];exact YR hN) (by rw[hdl,<- hsub,UM (n - i) _ (by omega)])
   (fun j v hj=>by
    rw[Addr.add_lit];exact hOc W b (by rw[hW,setRow_other hbN];exact hO b hbw) _ v (hcs (i*k+j) v (by rwa[YM]at hj)))
   (by omega) (fun v hv=>h1c v (List.mem_of_mem_drop hv))
 have hF1: ((w.alloc (.cells ROW (ρ.t 9))).drew).heap=W1.heap:=by rw[hW1];rfl
 have hF2: (((w.alloc (.cells ROW (ρ.t 9))).drew.setRow w.heap.size (QI ROW (i*k) vs)).drew).heap=(W1.setRow w.heap.size (QI ROW (i*k) vs)).heap:=by rw[hW1];rfl
 have hF3: ((w.alloc (.cells ROW (ρ.t 9))).drew.setRow w.heap.size (QI ROW (i*k) vs)).heap=(W1.setRow w.heap.size (QI ROW (i*k) vs)).heap:=by rw[hW1];rfl
 have hw1:IntKind.i64.wrap ((i:Int)+ (m:Int))=(i:Int)+ (m:Int):=by rw[IntKind.wrap_i64];omega
 have hb1: (0:Int)<=(i:Int)+ (m:Int):=by omega
 have hin:i<=n:=by omega
 have htn: ((i:Int)+ (m:Int)).toNat=i+m:=by omega
 have hb3: (i:Int)<=(n:Int):=by omega
 have hbody:=L.body;have hnt:=L.ntmps;have hres:=L.res;have hHid:Hid (ROW=_):=hROW;clear hROW;clear L hkk hik2 hold hG hRl hcs hvs hN hO hOc hnik him hik hsub hnmi hmk hnk hfit hfit2 hdl hR1 hzl;subst hW1;refine calls_of_wp hF hbody ?_;simp only[hnt,Y4,QO,QX,Nat.reduceAdd,Nat.reduceSub,O6,
   O7,Ng,Na,Wb,X9]
 go_wp2_with (first
  | (at_builtin;refine Lib.wpList_append_run _ rfl _ _ _ _ rfl _ _ rfl rfl _ _ (hrz _) ?_)
  | (at_builtin;refine wpList_copy_runI _ rfl _ _ (ρ.t 24) (ρ.t 24) rfl _ _ rfl rfl (hcpA _ hF1 _ _) ?_)
  | (at_builtin;refine wpList_copy_runI _ rfl _ _ (ρ.t 24) (ρ.t 24) rfl _ _ rfl rfl (hcpB _ hF3 _ _ _) ?_))
 go_region_law_o (refine step_copy_runI rfl _ _ (ρ.t 24) (ρ.t 24) rfl _ _ (by simp[Act.eval,Act.put]) (by simp[Act.eval,Act.put]) (hcpB _ hF2 _ _ _) ?_)
 go_wp2
 refine bodyPost_ret (results_tmp hres _ _ _) rfl ?_;refine⟨rfl,ROW,?_,rfl⟩;unfold Hid at hHid;rw[hHid]
structure OS (P:Program) (g:Nat) (T:TypeId) (k by':Nat) (z:Value):Prop where
 hk:0 < k
 zc:z.cells.size=k
 shift: ∀(b n c i vb voff m vc:Nat) (cur:Array Value) (e:TypeId) (cs vs:List Value) (w:World) (hi:i < n) (hm:0 < m) (hroom:n+m<=c) (hc63:c<=9223372036854775807) (hvb:vb≠b)
  (hb:w.heap[b]? =some (.cells cur e (0,0))) (hcz:c*k<=cur.size)
  (hcl:cs.length=n*k) (hvl:vs.length=m*k)
  (hcs: ∀(j:Nat) (v:Value),cs[j]? =some v->cur[j]? =some v)
  (hvs: ∀(j:Nat) (v:Value),vs[j]? =some v->w.cell? ⟨vb,voff+j,none⟩=some v) (h1c: ∀v∈cs,v.oneCell'=true) (h1v: ∀v∈vs,v.oneCell'=true),
  Calls P g #[.slice (some ⟨b,0,none⟩) n c,.int .i64 i,.slice (some ⟨vb,voff,none⟩) m vc] w fun e' w'=>
   e'= .returned (.slice (some ⟨b,0,none⟩) (n+m) c)/\w'=(w.drew.setRow b (QI cur ((i+m)*k) (cs.drop (i*k)))).setRow b (QI (QI cur ((i+m)*k) (cs.drop (i*k))) (i*k) vs)
 endRoom: ∀(b n c vb voff m vc:Nat) (cur:Array Value) (e:TypeId) (vs:List Value) (w:World) (hm:0 < m) (hroom:n+m<=c) (hc63:c<=9223372036854775807)
  (hb:w.heap[b]? =some (.cells cur e (0,0))) (hcz:c*k<=cur.size) (hvl:vs.length=m*k)
  (hvs: ∀(j:Nat) (v:Value),vs[j]? =some v->w.cell? ⟨vb,voff+j,none⟩=some v) (h1v: ∀v∈vs,v.oneCell'=true),
  Calls P g #[.slice (some ⟨b,0,none⟩) n c,.int .i64 n,.slice (some ⟨vb,voff,none⟩) m vc] w fun e' w'=>
   e'= .returned (.slice (some ⟨b,0,none⟩) (n+m) c)/\w'=w.setRow b (QI cur (n*k) vs)
 endGrow: ∀(base:Option Addr) (n c vb voff m vc:Nat) (cs vs:List Value) (w:World) (hm:0 < m) (hnc:n<=c) (hroom:c < n+m) (hbig: (n+m)*by'<=140737488355328) (h63:n+m<=140737488355328)
  (hcl:cs.length=n*k) (hvl:vs.length=m*k) (hnil:base=none->n=0/\c=0)
  (hcs: ∀a,base=some a->∀(j:Nat) (v:Value),cs[j]? =some v->w.cell? (a.add j)=some v)
  (hvs: ∀(j:Nat) (v:Value),vs[j]? =some v->w.cell? ⟨vb,voff+j,none⟩=some v) (h1v: ∀v∈vs,v.oneCell'=true),
  Calls P g #[.slice base n c,.int .i64 n,.slice (some ⟨vb,voff,none⟩) m vc] w fun e' w'=>
   e'= .returned (.slice (some ⟨w.heap.size,0,none⟩) (n+m) (grownCap w (n+m) c T))/\
   w'=w.drew.alloc (.cells ((cs ++ vs).toArray ++ Builtin.zeroCells z.cells (grownCap w (n+m) c T - (n+m))) T)
 grow: ∀(b n c i vb voff m vc:Nat) (cs vs:List Value) (w:World) (hi:i < n) (hm:0 < m) (hnc:n<=c) (hroom:c < n+m) (hbig: (n+m)*by'<=140737488355328) (h63:n+m<=140737488355328)
  (hc63:c<=9223372036854775807) (hcl:cs.length=n*k) (hvl:vs.length=m*k)
  (hcs: ∀(j:Nat) (v:Value),cs[j]? =some v->w.cell? ⟨b,j,none⟩=some v)
  (hvs: ∀(j:Nat) (v:Value),vs[j]? =some v->w.cell? ⟨vb,voff+j,none⟩=some v) (h1c: ∀v∈cs,v.oneCell'=true) (h1v: ∀v∈vs,v.oneCell'=true),
  Calls P g #[.slice (some ⟨b,0,none⟩) n c,.int .i64 i,.slice (some ⟨vb,voff,none⟩) m vc] w fun e' w'=>
   e'= .returned (.slice (some ⟨w.heap.size,0,none⟩) (n+m) (grownCap w (n+m) c T))/\
   ∃ROW:Array Value,ROW=(cs.take (i*k)).toArray ++ Builtin.zeroCells z.cells (n+m - i)++ Builtin.zeroCells z.cells (grownCap w (n+m) c T - (n+m))/\
   w'=(((w.alloc (.cells ROW T)).drew.setRow w.heap.size (QI ROW (i*k) vs)).drew).setRow w.heap.size (QI (QI ROW (i*k) vs) ((i+m)*k) (cs.drop (i*k)))
def V4.con {F:Func} {k by':Nat} {z:Value} {g:Nat} (L:V4 P ρ F k by' z) (hF:P.funcs[g]? =some F) (hk:0 < k):OS P g (ρ.t 9) k by' z:=
 ⟨hk,L.zc,CY L hF hk,Iy L hF hk,Ix L hF hk,A5 L hF hk⟩
end Go.Am
namespace Go.Am
open Go.Shelf Go.RowKit Go.Lib Go.Proofs
variable {P:Program} {ρ:Ren}
def PL (i k:Nat) (cs vs:Q8):Q8:=cs.take (i*k)++ vs ++ cs.drop (i*k)
def Bs {cur:QW} {cs vs:Q8} {n m i k:Nat} (hi:i<=n) (hcl:cs.length=n*k) (hvl:vs.length=m*k) (hsz: (n+m)*k<=cur.size)
  (hcs: ∀(j:Nat) (v:Value),cs[j]? =some v->cur[j]? =some v) (j:Nat) (v:Value) (hj: (PL i k cs vs)[j]? =some v):
  (QI (QI cur ((i+m)*k) (cs.drop (i*k))) (i*k) vs)[j]? =some v:=by
 have hnik: (n+m)*k=n*k+m*k:=ZQ _ _ _;have him: (i+m)*k=i*k+m*k:=ZQ _ _ _;have hik:i*k<=n*k:=ZZ _ hi;have hdl: (cs.drop (i*k)).length=n*k - i*k:=by rw[YN,hcl]
 have h1: (QI cur ((i+m)*k) (cs.drop (i*k))).size=cur.size:=Yx (by omega);have htl: (cs.take (i*k)).length=i*k:=by rw[YO];omega
 rw[Us (by omega),Us (by omega)];unfold PL at hj;rw[XP]at hj;by_cases c1:j < i*k
 ·rw[Qh c1,Qh (by omega)];rw[ZO (by omega),XC c1]at hj;exact hcs j v hj
 ·rw[Qe c1];rw[Yn (by omega),htl]at hj;by_cases c2:j < i*k+vs.length
  ·rw[Qh c2];rw[ZO (by omega)]at hj;exact hj
  ·rw[Qe c2,Qe (by omega)];rw[Yn (by omega)]at hj;have hlt:j - i*k - vs.length < (cs.drop (i*k)).length:=by
    rcases QL (j - i*k - vs.length) (cs.drop (i*k)).length with h | h
    ·exact h
    ·rw[QT h]at hj;cases hj
   rw[Qh (by omega)];rw[show j - (i+m)*k=j - i*k - vs.length by omega];exact hj
def QaD {ROW zs:QW} {cs vs:Q8} {n m i k:Nat} (hi:i<=n) (hcl:cs.length=n*k) (hvl:vs.length=m*k) (hR:ROW=(cs.take (i*k)).toArray ++ zs) (hsz: (n+m)*k<=ROW.size)
  (j:Nat) (v:Value) (hj: (PL i k cs vs)[j]? =some v):
  (QI (QI ROW (i*k) vs) ((i+m)*k) (cs.drop (i*k)))[j]? =some v:=by
 have hnik: (n+m)*k=n*k+m*k:=ZQ _ _ _;have him: (i+m)*k=i*k+m*k:=ZQ _ _ _;have hik:i*k<=n*k:=ZZ _ hi;have hdl: (cs.drop (i*k)).length=n*k - i*k:=by rw[YN,hcl]
 have h1: (QI ROW (i*k) vs).size=ROW.size:=Yx (by omega);have htl: (cs.take (i*k)).length=i*k:=by rw[YO];omega
 rw[Us (by omega),Us (by omega)];unfold PL at hj;rw[XP]at hj;by_cases c1:j < i*k
 ·rw[Qh (by omega),Qh c1];rw[ZO (by omega)]at hj;rw[hR,Vj (by simp;omega)];simpa using hj
 ·rw[Yn (by omega),htl]at hj;by_cases c2:j < i*k+vs.length
  ·rw[Qh (by omega),Qe c1,Qh c2];rw[ZO (by omega)]at hj;exact hj
  ·rw[Qe (by omega)];rw[Yn (by omega)]at hj;have hlt:j - i*k - vs.length < (cs.drop (i*k)).length:=by
    rcases QL (j - i*k - vs.length) (cs.drop (i*k)).length with h | h
    ·exact h
    ·rw[QT h]at hj;cases hj
   rw[Qh (by omega)];rw[show j - (i+m)*k=j - i*k - vs.length by omega];exact hj
def H0 (w:World) (b:Nat) (N k:Nat) (fl:Q8) (e:Ending) (w':World):Prop:=
 ∃b' cap cur' t,e= .returned (.slice (some ⟨b',0,none⟩) N cap)/\N<=cap/\cap<=maxLen/\w'.heap[b']? =some (.cells cur' t (0,0))/\cur'.size=cap*k/\
  (∀(j:Nat) (v:Value),fl[j]? =some v->cur'[j]? =some v)/\w'.os=w.os/\w'.tape=w.tape/\w'.output=w.output/\
  ((b'=b/\w'.heap.size=w.heap.size)\/(b'=w.heap.size/\w'.heap.size=w.heap.size+1))/\∀x,x < w.heap.size->x≠b'->w'.heap[x]? =w.heap[x]?
def U4 (w:World) (x:Nat) (cs:QW): (w.setRow x cs).heap.size=w.heap.size:=by simp[World.setRow]
def Vx (z:QW) (k x:Nat) (h:z.size=k): (Builtin.zeroCells z x).size=x*k:=by simp[Builtin.zeroCells,h]
def VM:=@List.take_of_length_le
def Ya:=@List.append_nil
def Nj:=@Array.size_push
def Qc5 {T:TypeId} {k by':Nat} {z:Value} {g:Nat} (L:OS P g T k by' z) (b n c i vb voff m vc:Nat) (cur:QW) (e:TypeId) (cs vs:Q8) (w:World) (hi:i<=n) (hm:0 < m) (hnc:n<=c) (hcm:c<=maxLen) (hvb:vb≠b)
  (hbig: (n+m)*by'<=140737488355328) (h63:n+m<=140737488355328)
  (hb:w.heap[b]? =some (.cells cur e (0,0))) (hcz:c*k=cur.size)
  (hcl:cs.length=n*k) (hvl:vs.length=m*k)
  (hcs: ∀(j:Nat) (v:Value),cs[j]? =some v->cur[j]? =some v)
  (hvs: ∀(j:Nat) (v:Value),vs[j]? =some v->w.cell? ⟨vb,voff+j,none⟩=some v) (h1c: ∀v∈cs,v.oneCell'=true) (h1v: ∀v∈vs,v.oneCell'=true):
  Calls P g #[.slice (some ⟨b,0,none⟩) n c,.int .i64 i,.slice (some ⟨vb,voff,none⟩) m vc] w (H0 w b (n+m) k (PL i k cs vs)):=by
 have hk:=L.hk;have hc63:c<=9223372036854775807:=by unfold maxLen at hcm;omega
 have hbl:b < w.heap.size:=by
  rcases QL b w.heap.size with h | h
  ·exact h
  ·rw[XN h]at hb;cases hb
 have hsz2: ∀x cs,(w.setRow x cs).heap.size=w.heap.size:=fun x cs=>by simp[World.setRow]
 have hnmk: (n+m)*k=n*k+m*k:=ZQ _ _ _;have hG: ∀w:World,grownCap w (n+m) c T<=maxLen:=fun w=>grownCap_le_maxLen w _ c _ (by unfold maxLen;omega);by_cases hin:i=n
 ·subst hin;have htk:cs.take (i*k)=cs:=VM (by omega);have hdk:cs.drop (i*k)=[]:=List.drop_of_length_le (by omega);have hfl:PL i k cs vs=cs ++ vs:=by unfold PL;rw[htk,hdk,Ya]
  by_cases hroom:i+m<=c
  ·have hck: (i+m)*k<=c*k:=ZZ _ hroom;refine(L.endRoom b i c vb voff m vc cur e vs w hm hroom hc63 hb (by omega) hvl hvs h1v).mono fun e2 w' ⟨he,hw⟩=> ?_;subst hw;refine⟨b,c,_,e,he,hroom,hcm,YR hb,by rw[Yx (by omega)];omega,fun j v hj=> ?_,rfl,rfl,rfl,.inl ⟨rfl,hsz2 _ _⟩,fun x _ hx=>setRow_other hx⟩;rw[hfl]at hj;rw[Us (by omega)];by_cases c1:j < i*k
   ·rw[Qh c1];rw[ZO (by omega)]at hj;exact hcs j v hj
   ·rw[Qe c1];rw[Yn (by omega),hcl]at hj;have hlt:j - i*k < vs.length:=by
     rcases QL (j - i*k) vs.length with h | h
     ·exact h
     ·rw[QT h]at hj;cases hj
    rw[Qh (by omega)];exact hj
  ·refine(L.endGrow (some ⟨b,0,none⟩) i c vb voff m vc cs vs w hm hnc (by omega) hbig h63 hcl hvl (fun h=>by cases h) (fun a ha j v hj=>by
    injection ha with ha;subst ha;rw[Addr.add_lit,QP];exact WM hb (hcs j v hj)) hvs h1v).mono fun e2 w' ⟨he,hw⟩=> ?_
   subst hw;refine⟨w.heap.size,_,_,T,he,grownCap_ge w _ _ _,hG w,R1,?_,fun j v hj=> ?_,rfl,rfl,rfl,.inr ⟨rfl,Nj _⟩,fun x hx _=> ?_⟩
   ·have:=grownCap_ge w (i+m) c T;rw[Tb,Vx _ k _ L.zc,Y4,Zf,hcl,hvl,<- ZQ,<- ZQ];congr 1;omega
   ·rw[hfl]at hj;have hlt:j < (cs ++ vs).length:=by
     rcases QL j (cs ++ vs).length with h | h
     ·exact h
     ·rw[QT h]at hj;cases hj
    rw[Vj (by simpa using hlt)];simpa using hj
   ·show(w.heap.push _)[x]? =_;rw[R2 hx,YL hx]
 ·have hlt:i < n:=by omega
  by_cases hroom:n+m<=c
  ·have hck: (n+m)*k<=c*k:=ZZ _ hroom;refine(L.shift b n c i vb voff m vc cur e cs vs w hlt hm hroom hc63 hvb hb (by omega) hcl hvl hcs hvs h1c h1v).mono fun e2 w' ⟨he,hw⟩=> ?_;subst hw;have hik:i*k<=n*k:=ZZ _ hi;have him: (i+m)*k=i*k+m*k:=ZQ _ _ _;have hdl: (cs.drop (i*k)).length=n*k - i*k:=by rw[YN,hcl]
   have hs1: (QI cur ((i+m)*k) (cs.drop (i*k))).size=cur.size:=Yx (by omega);refine⟨b,c,_,e,he,hroom,hcm,YR (YR (w:=w.drew) hb),by rw[Yx (by omega),hs1];omega,Bs hi hcl hvl (by omega) hcs,rfl,rfl,rfl,.inl ⟨rfl,?_⟩,fun x _ hx=> ?_⟩
   ·rw[U4,U4];rfl
   ·rw[setRow_other hx,setRow_other (w:=w.drew) hx];rfl
  ·refine(L.grow b n c i vb voff m vc cs vs w hlt hm hnc (by omega) hbig h63 hc63 hcl hvl (fun j v hj=>WM hb (hcs j v hj)) hvs h1c h1v).mono fun e2 w' ⟨he,ROW,hR,hw⟩=> ?_;subst hw;have hik:i*k<=n*k:=ZZ _ hi;have him: (i+m)*k=i*k+m*k:=ZQ _ _ _;have hdl: (cs.drop (i*k)).length=n*k - i*k:=by rw[YN,hcl]
   have htl: (cs.take (i*k)).length=i*k:=by rw[YO];omega
   have hge:=grownCap_ge w (n+m) c T;have hsub: (n+m - i)*k=n*k+m*k - i*k:=by rw[Ns,hnmk]
   have hRs:ROW.size=grownCap w (n+m) c T*k:=by
    rw[hR];simp only[Tb,Vx _ k _ L.zc,Y4,htl];rw[<- ZQ,<- ZQ];congr 1;omega
   have hRk: (n+m)*k<=ROW.size:=by rw[hRs];exact ZZ _ hge
   have h0: (w.alloc (.cells ROW T)).heap[w.heap.size]? =some (.cells ROW T (0,0)):=R1;have hs1: (QI ROW (i*k) vs).size=ROW.size:=Yx (by omega);refine⟨w.heap.size,_,_,T,he,hge,hG w,YR (w:=((w.alloc (.cells ROW T)).drew.setRow w.heap.size (QI ROW (i*k) vs)).drew) (YR (w:=(w.alloc (.cells ROW T)).drew) h0),by rw[Yx (by omega),hs1,hRs],
    QaD hi hcl hvl (by rw[hR,JE]) hRk,rfl,rfl,rfl,.inr ⟨rfl,?_⟩,fun x hx hx2=> ?_⟩
   ·rw[U4]
    show((w.alloc (.cells ROW T)).drew.setRow w.heap.size (QI ROW (i*k) vs)).heap.size=_;rw[U4];exact Nj _
   ·rw[setRow_other hx2]
    show((w.alloc (.cells ROW T)).drew.setRow w.heap.size (QI ROW (i*k) vs)).heap[x]? =_;rw[setRow_other hx2]
    show(w.heap.push _)[x]? =_;rw[R2 hx,YL hx]
end Go.Am
namespace Go.Am
open Go.Shelf Go.RowKit Go.Lib Go.Proofs
def PI (i sz n:Nat) (cs:Qf) (vs:Qd):Qf:=((cs.take (n*sz)).take (i*sz)++ vs.flatten ++ (cs.take (n*sz)).drop (i*sz)).map AV.strip
def Iv (g:Bool) (sz N:Nat) (fl:Qf) (bs:Qd):Option (AV×Qd):=
 if QV fl=true then(if g then some (.gs bs.length 0 sz N,bs ++ [fl])else some (.sl true sz (Yi fl 0 sz N),bs))else none
def Ms (g:Bool) (bytes sz:Nat):Qf->Qd->Option (AV×Qd)
 | [.gs id o sz1 n,.int .i64 i,.sl _ sz2 vs],bs=>
  if sz2=sz/\0 < sz/\vs≠[]/\0<=i/\i<=n/\(n+vs.length)*bytes<=140737488355328/\n+vs.length<=140737488355328 then
   (if sz1=0/\n=0 then Iv g sz vs.length (PI 0 sz 0 [] vs) bs
    else if sz1=sz/\o=0 then(bs[id]?).bind fun cs=>if cs≠[]/\n*sz<=cs.length then Iv g sz (n+vs.length) (PI i.toNat sz n cs vs) (bs.set id [])else none
    else none)
   else none
 | _,_=>none
section
variable {P:Program} {num:Nat->Option Nat} {β:List Blk} {w w':World} {m:Nat->Nat} {ν:Own}
def Iz [Dr] {Γ:Z1} (hD: ¬Dr.d) {g:Bool} {sz N:Nat} {fl:Qf} {bs bs1 bs':Qd} {r:AV} {e:Ending} {flv:Q8} {b:Nat} (hsz:0 < sz) (hN:0 < N)
  (hr:Iv g sz N fl bs1=some (r,bs')) (hfl:fl.length=N*sz) (hflv: ∀(j:Nat) (c:AV),fl[j]? =some c->∃u,flv[j]? =some u/\u.oneCell'=true/\Qa num β w m c u)
  (hst: ∀c∈fl,c.strip=c)
  (hbox:Tu num β w m ν bs) (hlt: ∀b p,ν b=some p->b < w.heap.size/\Γ.Gb<=b/\p.isG=true)
  (hmb:b < w.heap.size->m b=0/\∃id,ν b=some (.g id)/\bs1=bs.set id []) (hb1:bs1=bs\/∃id,bs1=bs.set id [])
  (hp:H0 w b N sz flv e w'):VQ num β bs' r w m ν e w':=by
 obtain⟨b',cap,cur',t,rfl,p1,p2,p3,p4,p5,p6,p7,p8,p9,p10⟩:=hp;have hb':b' < w'.heap.size:=by
  rcases QL b' w'.heap.size with h | h
  ·exact h
  ·rw[XN h]at p3;cases p3
 have hsize:w.heap.size<=w'.heap.size:=by omega
 have hold: (b'=b/\b < w.heap.size)\/w.heap.size<=b':=by
  rcases p9 with⟨h1,h2⟩ | ⟨h1,h2⟩
  ·left;exact⟨h1,by omega⟩
  ·right;omega
 have hm0:b' < w.heap.size->m b'=0:=fun h=>by
  rcases hold with⟨rfl,h1⟩ | h1
  ·exact(hmb h1).1
  ·omega
 let q:Nat:=if g then 0 else N*sz
 have hle:Le w m w' (m1 m b' q):=fun x i u h=>by
  obtain⟨g1,g2,g3⟩:=Y1 h;have hx:x≠b':=fun e=>by subst e;have:=hm0 g3;omega
  unfold hg m1;rw[Qe hx,Qh g1];have:=p10 x g3 hx;obtain⟨cu,ee,ff,q1,q2⟩:=Xy g2;exact WM (by rw[this];exact q1) q2
 have hstep:Zm (fun b=>∃p,ν b=some p) w m w' (m1 m b' q):=by
  refine⟨p6,p7,p8,hsize,fun x hx hX=> ?_,hle,fun h=>absurd h hD⟩;have hxb:x≠b':=fun e=>by
   subst e;rcases hold with⟨rfl,h1⟩ | h1
   ·obtain⟨_,id,h2,_⟩:=hmb h1;exact hX ⟨_,h2⟩
   ·omega
  exact⟨p10 x hx hxb,by unfold m1;rw[Qe hxb]⟩
 have hbs1: ∀(i:Nat) (cs:Qf),bs1[i]? =some cs->cs≠[]->bs[i]? =some cs/\∀k:Blk,β[i]? =some k->k.b≠b':=fun i cs h hne=>by
  have h1:bs[i]? =some cs:=by
   rcases hb1 with rfl | ⟨id,rfl⟩
   ·exact h
   ·rw[YE]at h;split at h
    ·split at h
     ·injection h with h;exact absurd h.symm hne
     ·cases h
    ·exact h
  refine⟨h1,fun k hk e=> ?_⟩;have hν:=(QdY (hbox.2 i cs k h1 hk hne)).1;have hkb:=(hlt _ _ hν).1;rcases hold with⟨h2,h3⟩ | h2
  ·obtain⟨_,id,h4,h5⟩:=hmb h3;rw[e,h2,h4]at hν;injection hν with hν
   injection hν with hν
   subst hν;rw[h5,VN (by
    rcases QL id bs.length with h | h
    ·exact h
    ·rw[QT h]at h1;cases h1)]at h
   injection h with h
   exact hne h.symm
  ·omega
 have hblen:bs1.length=bs.length:=by rcases hb1 with rfl | ⟨id,rfl⟩ <;> simp
 have hcells: ∀(j:Nat) (c:AV),fl[j]? =some c->∃u,cur'[j]? =some u/\u.oneCell'=true/\Qa num β w' (m1 m b' q) c u:=fun j c hc=>by
  obtain⟨u,h1,h2,h3⟩:=hflv j c hc;exact⟨u,p5 j u h1,h2,QU (Ge.refl β) hle c u h3⟩
 unfold Iv at hr;split at hr
 ·rename_i hgp;cases g
  ·-- published
   simp only[Zo,QC,Qs,QB]at hr;obtain⟨rfl,rfl⟩:=hr;have hq:q=N*sz:=rfl
   let ν':Own:=ZA ν b' .f
   have hkeep: ∀x p,ν x=some p->x≠b'->w'.heap[x]? =w.heap[x]? /\m1 m b' q x=m x/\ν' x=some p:=fun x p hx hxb=>
    ⟨p10 x (hlt x p hx).1 hxb,by unfold m1;rw[Qe hxb],by simp only[ν',ZA];rw[Qe hxb];exact hx⟩
   have hnotc: ∀x i j,ν x=some (.gc i j)->x≠b':=fun x i j hx e=>by
    subst e;rcases hold with⟨rfl,h1⟩ | h1
    ·obtain⟨_,id,h2,_⟩:=hmb h1;rw[h2]at hx;cases hx
    ·have:=(hlt _ _ hx).1;omega
   refine⟨_,m1 m b' q,β,ν',rfl,Ge.refl β,hstep,⟨by rw[hblen];exact hbox.1,fun i cs k h1 h2 hne=> ?_⟩,rfl,?_,?_,fun x p hx=> ?_⟩
   ·obtain⟨g1,g2⟩:=hbs1 i cs h1 hne;have hkb:=g2 k h2;refine YU (Ge.refl β) hle (fun x hx=> ?_) (fun j x hx=>hkeep x _ hx (hnotc x _ _ hx)) (hbox.2 i cs k g1 h2 hne);have:x≠b':=fun e=>by
     subst e;rcases hold with⟨h3,h4⟩ | h4
     ·obtain⟨_,id,h5,h6⟩:=hmb h4;rw[h3,h5]at hx;injection hx with hx
      injection hx with hx
      subst hx;rw[h6,VN (by
       rcases QL id bs.length with h | h
       ·exact h
       ·rw[QT h]at g1;cases g1)]at h1
      injection h1 with h1
      exact hne h1.symm
     ·have:=(hlt _ _ hx).1;omega
    exact hkeep x _ hx this
   ·simp only[Qa];refine⟨_,N,cap,rfl,Xn _ _ _ _,p1,p2,.inr ⟨b',0,rfl,?_⟩⟩;rw[Yk];intro i x hx;obtain⟨hi,rfl⟩:=Tw hx;have hi2:i*sz+sz<=N*sz:=by rw[<- WI];exact ZZ _ hi
    refine⟨by simp;omega,?_⟩;rw[Zp];intro j c hc;obtain⟨d,hd,rfl⟩:=Q0 hc;rw[Ws]at hd;split at hd
    ·rename_i hj;rw[YM]at hd;obtain⟨u,r1,r2,r3⟩:=hcells _ d hd;refine⟨u,?_,r2,by rw[QE];exact r3⟩;unfold hg;rw[show m1 m b' q b'=N*sz by simp[m1,hq],Qh (by omega)];exact WM p3 r1
    ·cases hd
   ·refine .inr ⟨b',cap,cur',t,by rw[Xn],p3,p4,by rw[Xn];simp[m1,hq],by simp[ν',ZA]⟩
   ·simp only[ν',ZA]at hx;split at hx
    ·rename_i e;injection hx with hx
     subst hx e;refine⟨hb',?_,.inr rfl⟩;rcases hold with⟨rfl,h1⟩ | h1
     ·obtain⟨_,id,h2,_⟩:=hmb h1;exact .inr ⟨_,h2⟩
     ·exact .inl h1
    ·have:=hlt x p hx;exact⟨by omega,.inr ⟨p,hx⟩,.inl this.2.2⟩
  ·-- a box
   simp only[QF,Qs,QB]at hr;obtain⟨rfl,rfl⟩:=hr;have hq:q=0:=rfl
   let ν':Own:=ZA ν b' (.g bs1.length)
   have hkeep: ∀x p,ν x=some p->x≠b'->w'.heap[x]? =w.heap[x]? /\m1 m b' q x=m x/\ν' x=some p:=fun x p hx hxb=>
    ⟨p10 x (hlt x p hx).1 hxb,by unfold m1;rw[Qe hxb],by simp only[ν',ZA];rw[Qe hxb];exact hx⟩
   have hnotc: ∀x i j,ν x=some (.gc i j)->x≠b':=fun x i j hx e=>by
    subst e;rcases hold with⟨rfl,h1⟩ | h1
    ·obtain⟨_,id,h2,_⟩:=hmb h1;rw[h2]at hx;cases hx
    ·have:=(hlt _ _ hx).1;omega
   have hge:Ge β (β ++ [⟨b',cur'.size,false,t⟩]):=Ge.append β _;have hk: (β ++ [(⟨b',cur'.size,false,t⟩:Blk)])[bs1.length]? =some ⟨b',cur'.size,false,t⟩:=by
    rw[hblen,<- hbox.1];exact Wq
   refine⟨_,m1 m b' q,β ++ [⟨b',cur'.size,false,t⟩],ν',rfl,hge,hstep,⟨by simp[hblen,hbox.1],fun i cs k h1 h2 hne=> ?_⟩,rfl,?_,trivial,fun x p hx=> ?_⟩
   ·rw[SM]at h1;split at h1
    ·rename_i hi;rw[ZO (by rw[hbox.1,<- hblen];exact hi)]at h2;obtain⟨g1,g2⟩:=hbs1 i cs h1 hne;refine YU hge hle (fun x hx=> ?_) (fun j x hx=>hkeep x _ hx (hnotc x _ _ hx)) (hbox.2 i cs k g1 h2 hne);have:x≠b':=fun e=>by
      subst e;rcases hold with⟨h3,h4⟩ | h4
      ·obtain⟨_,id,h5,h6⟩:=hmb h4;rw[h3,h5]at hx;injection hx with hx
       injection hx with hx
       subst hx;rw[h6,VN (by
        rcases QL id bs.length with h | h
        ·exact h
        ·rw[QT h]at g1;cases g1)]at h1
       injection h1 with h1
       exact hne h1.symm
      ·have:=(hlt _ _ hx).1;omega
     exact hkeep x _ hx this
    ·rename_i hi;have hi2:i=bs1.length:=by
      rcases QL i (bs1 ++ [fl]).length with h | h
      ·simp at h;omega
      ·exfalso;rw[Zf,O5]at h;have: (bs1 ++ [fl])[i]? =some cs:=by rw[SM,Qe hi];exact h1
       rw[QT (by simpa using h)]at this;cases this
     subst hi2;simp only[Nat.sub_self,Qr,Qs]at h1;subst h1;rw[hk]at h2;injection h2 with h2
     subst h2;refine⟨fun _=>⟨cur',t,p3,⟨rfl,by rw[hfl,p4];exact ZZ _ p1⟩,by simp[m1,hq],by simp[ν',ZA],fun j c hc=> ?_⟩,fun q=>(by cases q),fun _=>⟨cur',p3⟩⟩;obtain⟨u,r1,r2,r3⟩:=hcells j c hc;refine⟨u,r1,r2,QU hge (Le.refl _ _) c u r3,?_⟩;rw[<- hst c (WW hc)];exact ZK _ _ _
   ·simp only[Qa];exact⟨_,cap,rfl,p1,p2,.inr ⟨_,⟨hk,rfl⟩,rfl,by simp[p4],hsz⟩⟩
   ·simp only[ν',ZA]at hx;split at hx
    ·rename_i e;injection hx with hx
     subst hx e;refine⟨hb',?_,.inl rfl⟩;rcases hold with⟨rfl,h1⟩ | h1
     ·obtain⟨_,id,h2,_⟩:=hmb h1;exact .inr ⟨_,h2⟩
     ·exact .inl h1
    ·have:=hlt x p hx;exact⟨by omega,.inr ⟨p,hx⟩,.inl this.2.2⟩
 ·cases hr
def S0 {fl:Qf} (c:AV) (h:c∈fl.map AV.strip):c.strip=c:=by
 obtain⟨d,_,rfl⟩:=Td.1 h;exact HY d
def Qbb {vs:Qd} {a:WU} {sz:Nat} (hne:vs≠[]) (hsz:0 < sz) (h:vs=[]\/∃b o,a=some ⟨b,o,none⟩/\Z9 num β w m vs (hg w m b) o sz):
  ∃(vb voff:Nat) (vsv:Q8),a=some ⟨vb,voff,none⟩/\vsv.length=vs.length*sz/\(∀(j:Nat) (v:Value),vsv[j]? =some v->w.cell? ⟨vb,voff+j,none⟩=some v)/\(∀v∈vsv,v.oneCell'=true)/\0 < m vb/\
   ∀(j:Nat) (c:AV),(vs.flatten.map AV.strip)[j]? =some c->∃u,vsv[j]? =some u/\u.oneCell'=true/\Qa num β w m c u:=by
 rcases h with h | ⟨vb,voff,rfl,h⟩
 ·exact absurd h hne
 have hcells:=V9 h hsz;have hget: ∀j,j < vs.length*sz->∃u,hg w m vb (voff+j)=some u/\w.cell? ⟨vb,voff+j,none⟩=some u/\u.oneCell'=true:=fun j hj=>by
  obtain⟨u,g1,g2⟩:=hcells j hj;exact⟨u,g1,(Y1 g1).2.1,g2⟩
 let vsv:Q8:=(List.range (vs.length*sz)).map fun j=>(w.cell? ⟨vb,voff+j,none⟩).getD undef
 have hv: ∀(j:Nat) (v:Value),vsv[j]? =some v->j < vs.length*sz/\w.cell? ⟨vb,voff+j,none⟩=some v:=fun j v hj=>by
  have hlt:j < vs.length*sz:=by
   rcases QL j vsv.length with h | h
   ·simpa[vsv]using h
   ·rw[QT h]at hj;cases hj
  obtain⟨u,_,g2,_⟩:=hget j hlt;refine⟨hlt,?_⟩;simp only[vsv,Xm,SN hlt,QA,g2,Ua,Qs]at hj;rw[g2,hj]
 refine⟨vb,voff,vsv,rfl,by simp[vsv],fun j v hj=>(hv j v hj).2,fun v hvm=> ?_,?_,fun j c hc=> ?_⟩
 ·obtain⟨j,hj⟩:=Ta hvm;obtain⟨h1,h2⟩:=hv j v hj;obtain⟨u,_,g2,g3⟩:=hget j h1;rw[h2]at g2;injection g2 with g2
  rw[g2];exact g3
 ·obtain⟨u,g1,_,_⟩:=hget 0 (Uc (WY.2 hne) hsz);have:=(Y1 g1).1;omega
 ·obtain⟨u,q1,q2,q3⟩:=U7 h j c hc;have hlt:j < vs.length*sz:=by
   rw[<- X7 h];rcases QL j (vs.flatten.map AV.strip).length with h | h
   ·exact h
   ·rw[QT h]at hc;cases hc
  have g2:=(Y1 q1).2.1;refine⟨u,?_,q2,q3.1⟩;simp only[vsv,Xm,SN hlt,QA,g2,Ua]
def GE [Dr] {Γ:Z1} (hD: ¬Dr.d) {T:TypeId} {k by':Nat} {z:Value} {id:Nat} {g:Bool} (L:OS P id T k by' z):XI P num Γ (Ms g by' k) id:=by
 intro args bs r bs' hc hokv w m β ν vals hG hGb hvs hrep hbox hlt;unfold Ms at hc;split at hc
 ·rename_i bid o sz1 n i _ sz2 vs;split at hc
  ·rename_i hcond;obtain⟨hz2,hk,hne,hi0,hi1,hbig,h63⟩:=hcond;have hz2:=hz2.symm;subst hz2;obtain⟨u0,e0,r0⟩:=hrep 0 _ rfl;obtain⟨u1,e1,r1⟩:=hrep 1 _ rfl;obtain⟨u2,e2,r2⟩:=hrep 2 _ rfl;simp only[Qa]at r0 r1 r2;obtain⟨a0,c,rfl,q1,q2,q3⟩:=r0;subst r1;obtain⟨a2,mm,vc,rfl,s1,s2,s3,s4⟩:=r2;subst s1;obtain⟨vb,voff,vsv,rfl,t1,t2,t3,t4,t5⟩:=Qbb hne hk s4;have hmv:0 < vs.length:=WY.2 hne;obtain⟨i,rfl⟩: ∃j:Nat,i=j:=⟨i.toNat,by omega⟩;have hva:vals= #[.slice a0 n c,.int .i64 i,.slice (some ⟨vb,voff,none⟩) vs.length vc]:=by
    apply Array.ext
    ·simpa using hvs
    ·intro j h1 h2;simp at h2
     match j,h2 with
     | 0,_=>rw[YL h1]at e0;injection e0
     | 1,_=>rw[YL h1]at e1;injection e1
     | 2,_=>rw[YL h1]at e2;injection e2
   subst hva;have hgrow:n=0->c=0->∀bs1,(bs1=bs\/∃id,bs1=bs.set id [])->Iv g k vs.length (PI 0 k 0 [] vs) bs1=some (r,bs')->
     Calls P id #[.slice a0 n c,.int .i64 i,.slice (some ⟨vb,voff,none⟩) vs.length vc] w (VQ num β bs' r w m ν):=fun hn hc0 bs1 hb1 hr=>by
    subst hn hc0;obtain rfl:i=0:=by omega
    have hfe:PI 0 k 0 [] vs=vs.flatten.map AV.strip:=by simp[PI]
    refine(L.endGrow a0 0 0 vb voff vs.length vc [] vsv w hmv (Za _) (by omega) (by rw[QP]at hbig ⊢;exact hbig) (by omega) (by simp) t1 (fun _=>⟨rfl,rfl⟩) (fun _ _ j v hj=>by simp at hj) t2 t3).mono fun e w' ⟨he,hw⟩=> ?_;subst hw;rw[hfe]at hr;have hflen: (vs.flatten.map AV.strip).length=vs.length*k:=by
     rcases s4 with s4 | ⟨b,o,_,s4⟩
     ·exact absurd s4 hne
     ·exact X7 s4
    refine Iz hD (b:=w.heap.size) (flv:=vsv) hk hmv hr hflen t5 (fun c hc=>S0 c hc) hbox hlt (fun h=>by omega) hb1 ?_;have hge:=grownCap_ge w (0+vs.length) 0 T;refine⟨w.heap.size,_,_,T,by rw[he,QP],by rw[QP]at hge;exact hge,grownCap_le_maxLen w _ _ _ (by unfold maxLen;omega),R1,?_,fun j v hj=> ?_,rfl,rfl,rfl,.inr ⟨rfl,Nj _⟩,fun x hx _=> ?_⟩
    ·rw[QP]at hge ⊢;rw[Tb,Vx _ k _ L.zc,Y4,Wb,t1,<- ZQ];congr 1;omega
    ·have hl:j < vsv.length:=by
      rcases QL j vsv.length with h | h
      ·exact h
      ·rw[QT h]at hj;cases hj
     rw[Vj (by simpa using hl)];simpa using hj
    ·show(w.heap.push _)[x]? =_;rw[R2 hx,YL hx]
   by_cases hz:sz1=0/\n=0
   ·rw[Qh hz]at hc;obtain⟨rfl,rfl⟩:=hz;have hc0:c=0:=by
     rcases q3 with q3 | ⟨_,_,_,_,h5⟩
     ·exact q3.2.1
     ·omega
    exact hgrow rfl hc0 bs (.inl rfl) hc
   ·rw[Qe hz]at hc;by_cases hz1:sz1=k/\o=0
    ·rw[Qh hz1]at hc;obtain⟨hz1,rfl⟩:=hz1;subst hz1;cases hbs:bs[bid]? with
     | none=>rw[hbs]at hc;cases hc
     | some cs=>
      rw[hbs]at hc;simp only[Qt]at hc;by_cases hcs:cs≠[]/\n*sz1<=cs.length
      ·rw[Qh hcs]at hc;obtain⟨hcne,hcl⟩:=hcs;rcases q3 with⟨q3,q4,_⟩ | ⟨kb,q3,rfl,q4,_⟩
       ·subst q3 q4;refine hgrow rfl rfl (bs.set bid []) (.inr ⟨bid,rfl⟩) ?_;obtain rfl:i=0:=by omega
        rw[QP]at hc;simpa[PI]using hc
       ·obtain⟨cur,e,p1,p2,p3,p4,p5⟩:=(hbox.2 bid cs kb hbs q3.1 hcne).1 q3.2;rw[QP]at q4
        let csv:Q8:=cur.toList.take (n*sz1)
        have hnc:n*sz1<=cur.size:=by omega
        have hcsl:csv.length=n*sz1:=by simp[csv];omega
        have hcsg: ∀(j:Nat) (v:Value),csv[j]? =some v->cur[j]? =some v:=fun j v hj=>by
         simp only[csv,Ws]at hj;split at hj
         ·simpa using hj
         ·cases hj
        have hlow: ∀j,j < n*sz1->∃c u,cs[j]? =some c/\csv[j]? =some u/\u.oneCell'=true/\Qa num β w m c u:=fun j hj=>by
         have hj2:j < cs.length:=by omega
         obtain⟨u,g1,g2,g3,_⟩:=p5 j _ (Zr hj2);refine⟨_,u,Zr hj2,?_,g2,g3⟩;simp only[csv,Ws,Qh hj];simpa using g1
        have h1c: ∀v∈csv,v.oneCell'=true:=fun v hv=>by
         obtain⟨j,hj⟩:=Ta hv;have hjl:j < n*sz1:=by
          rcases QL j csv.length with h | h
          ·omega
          ·rw[QT h]at hj;cases hj
         obtain⟨_,u,_,g2,g3,_⟩:=hlow j hjl;rw[hj]at g2;injection g2 with g2
         rw[g2];exact g3
        have hvb:vb≠kb.b:=fun e=>by rw[e]at t4;omega
        have hbl:kb.b < w.heap.size:=(hlt _ _ p4).1;have hik:i*sz1<=n*sz1:=ZZ _ (by omega);have hnm: (n+vs.length)*sz1=n*sz1+vs.length*sz1:=ZQ _ _ _;have hflen: (vs.flatten.map AV.strip).length=vs.length*sz1:=by
         rcases s4 with s4 | ⟨b,o,_,s4⟩
         ·exact absurd s4 hne
         ·exact X7 s4
        have hfe:PI i sz1 n cs vs=((cs.take (n*sz1)).take (i*sz1)).map AV.strip ++ vs.flatten.map AV.strip ++ ((cs.take (n*sz1)).drop (i*sz1)).map AV.strip:=by simp[PI]
        have hl1: (((cs.take (n*sz1)).take (i*sz1)).map AV.strip).length=i*sz1:=by simp;omega
        have hl3: (((cs.take (n*sz1)).drop (i*sz1)).map AV.strip).length=n*sz1 - i*sz1:=by simp;omega
        have hcv1: (csv.take (i*sz1)).length=i*sz1:=by rw[YO];omega
        refine(Qc5 L kb.b n c i vb voff vs.length vc cur e csv vsv w (by omega) hmv q1 q2 hvb hbig h63 p1 (by omega) hcsl t1 hcsg t2 h1c t3).mono fun e2 w' hp=> ?_;refine Iz hD (b:=kb.b) hk (by omega) hc ?_ ?_ (fun c hc=>S0 c hc) hbox hlt (fun _=>⟨p3,bid,p4,rfl⟩) (.inr ⟨bid,rfl⟩) hp
        ·simp only[O0,hfe,Zf,hl1,hflen,hl3];omega
        ·intro j c hj;simp only[O0,hfe]at hj;unfold PL;rw[XP]at hj ⊢;by_cases c1:j < i*sz1
         ·rw[ZO (by omega)]at hj;rw[ZO (by omega)];obtain⟨d,hd,rfl⟩:=Q0 hj;rw[XC c1,XC (by omega)]at hd;obtain⟨c',u,g1,g2,g3,g4⟩:=hlow j (by omega);rw[hd]at g1;injection g1 with g1
          subst g1;exact⟨u,by rw[XC c1];exact g2,g3,by rw[QE];exact g4⟩
         ·rw[Yn (by omega),hl1]at hj;rw[Yn (by omega),hcv1];by_cases c2:j - i*sz1 < vs.length*sz1
          ·rw[ZO (by omega)]at hj;rw[ZO (by omega)];exact t5 _ c hj
          ·rw[Yn (by omega),hflen]at hj;rw[Yn (by omega),t1];obtain⟨d,hd,rfl⟩:=Q0 hj;rw[YM]at hd;have hjl:i*sz1+ (j - i*sz1 - vs.length*sz1) < n*sz1:=by
            rcases QL (i*sz1+ (j - i*sz1 - vs.length*sz1)) (n*sz1)with h | h
            ·exact h
            ·rw[QT (by simp;omega)]at hd;cases hd
           rw[XC hjl]at hd;obtain⟨c',u,g1,g2,g3,g4⟩:=hlow _ hjl;rw[hd]at g1;injection g1 with g1
           subst g1;exact⟨u,by rw[YM];exact g2,g3,by rw[QE];exact g4⟩
      ·rw[Qe hcs]at hc;cases hc
    ·rw[Qe hz1]at hc;cases hc
  ·cases hc
 ·cases hc
end
end Go.Am
namespace Go.Am
set_option maxRecDepth 20000
inductive Tm where
 | mk (k:Int) (n:List UInt8) (s:Int) (kids:List Tm)
def Tm.kind:Tm->Int | .mk k _ _ _=>k
def Tm.name:Tm->Qb | .mk _ n _ _=>n
def Tm.sort:Tm->Int | .mk _ _ s _=>s
abbrev Qp:=List Tm
def Tm.kids:Tm->Qp | .mk _ _ _ ks=>ks
def Vo (k:Int) (n:Qb) (s:Int) (ks:Qp): (Tm.mk k n s ks).kind=k:=rfl
def Wh (k:Int) (n:Qb) (s:Int) (ks:Qp): (Tm.mk k n s ks).name=n:=rfl
def Vp (k:Int) (n:Qb) (s:Int) (ks:Qp): (Tm.mk k n s ks).sort=s:=rfl
def Xr (k:Int) (n:Qb) (s:Int) (ks:Qp): (Tm.mk k n s ks).kids=ks:=rfl
attribute [simp] Vo Wh Vp Xr
def Xg {P:Tm->Prop} (h: ∀k n s ks,(∀x∈ks,P x)->P (.mk k n s ks)): ∀t,P t:=by
 intro t;refine Tm.rec (motive_1:=P) (motive_2:=fun ks=>∀x∈ks,P x) ?_ ?_ ?_ t
 ·intro k n s ks ih;exact h k n s ks ih
 ·intro x hx;cases hx
 ·intro t ts h1 h2 x hx;rcases List.mem_cons.1 hx with rfl | hx
  ·exact h1
  ·exact h2 x hx
mutual
def Ql:Tm->List AV
 | .mk k n s ks=>[.int .i64 k,.str n,.int .i64 s,.sl false 4 (Qz ks)]
def Qz:List Tm->List (List AV)
 | []=>[]
 | t:: ts=>Ql t:: Qz ts
end
def Qx (t:Tm):Ql t=[.int .i64 t.kind,.str t.name,.int .i64 t.sort,.sl false 4 (Qz t.kids)]:=by cases t;simp[Ql]
def VX (ts:Qp):Qz ts=ts.map Ql:=by
 induction ts with
 | nil=>simp[Qz]
 | cons t ts ih=>simp[Qz,ih]
def T5 (ts:Qp): (Qz ts).length=ts.length:=by simp[VX]
def MW (ts:Qp) (i:Nat): (Qz ts)[i]? =(ts[i]?).map Ql:=by simp[VX]
def Pz (a b:Qp):Qz a ++ Qz b=Qz (a ++ b):=by simp[VX]
def X6 (t:Tm): (Ql t).length=4:=by simp[Qx]
def NA (t:Tm): (Ql t).map AV.strip=Ql t:=by simp[Qx,AV.strip]
def Py (t:Tm): (Ql t).take 4=Ql t:=by simp[Qx]
def MV (t:Tm): (Ql t).drop 4=[]:=by simp[Qx]
def CG (t:Tm): (Ql t)[0]? =some (.int .i64 t.kind):=by simp[Qx]
def CH (t:Tm): (Ql t)[1]? =some (.str t.name):=by simp[Qx]
def CI (t:Tm): (Ql t)[2]? =some (.int .i64 t.sort):=by simp[Qx]
def CJ (t:Tm): (Ql t)[3]? =some (.sl false 4 (Qz t.kids)):=by simp[Qx]
def Gr (t:Tm) (h:0 < (Ql t).length): (Ql t)[0]= .int .i64 t.kind:=by simp[Qx]
def Gs (t:Tm) (h:1 < (Ql t).length): (Ql t)[1]= .str t.name:=by simp[Qx]
def Gt (t:Tm) (h:2 < (Ql t).length): (Ql t)[2]= .int .i64 t.sort:=by simp[Qx]
def Gu (t:Tm) (h:3 < (Ql t).length): (Ql t)[3]= .sl false 4 (Qz t.kids):=by simp[Qx]
mutual
theorem P2: ∀t:Tm,QV (Ql t)=true
 | .mk k n s ks=>by simp[Ql,QV,AV.gpfree,Rs ks]
theorem Rs: ∀ts:List Tm,Yr (Qz ts)=true
 | []=>by simp[Qz,Yr]
 | t:: ts=>by simp[Qz,Yr,P2 t,Rs ts]
end
attribute [simp] T5 MW X6 NA Py MV CG CH CI CJ Gr Gs Gt Gu P2 Rs
attribute [simp] Int.toNat_natCast
mutual
def Tm.nodes:Tm->Nat
 | .mk _ _ _ ks=>1+QK ks
def QK:List Tm->Nat
 | []=>0
 | t:: ts=>t.nodes+QK ts
end
mutual
def Tm.mass:Tm->Nat
 | .mk _ n _ ks=>1+n.length+ks.length+Zs ks
def Zs:List Tm->Nat
 | []=>0
 | t:: ts=>t.mass+Zs ts
end
mutual
def Tm.depth:Tm->Nat
 | .mk _ _ _ ks=>Yb ks+1
def Yb:List Tm->Nat
 | []=>0
 | t:: ts=>max t.depth (Yb ts)
end
def Z7 (t:Tm):t.mass=1+t.name.length+t.kids.length+Zs t.kids:=by cases t;simp[Tm.mass]
def UQ (t:Tm):t.nodes=1+QK t.kids:=by cases t;simp[Tm.nodes]
def Rq (t:Tm):t.depth=Yb t.kids+1:=by cases t;simp[Tm.depth]
def Yp {x:Tm}: ∀{ks:Qp},x∈ks->x.mass<=Zs ks
 | [],h=>by cases h
 | t:: ts,h=>by
  simp only[Zs];rcases List.mem_cons.1 h with rfl | h
  ·omega
  ·have:=Yp h;omega
def Rp {x:Tm}: ∀{ks:Qp},x∈ks->x.depth<=Yb ks
 | [],h=>by cases h
 | t:: ts,h=>by
  simp only[Yb];rcases List.mem_cons.1 h with rfl | h
  ·omega
  ·have:=Rp h;omega
def PM (a b:Qp):Zs (a ++ b)=Zs a+Zs b:=by
 induction a with
 | nil=>simp[Zs]
 | cons t ts ih=>simp[Zs,ih];omega
def XH (a b:Qp):QK (a ++ b)=QK a+QK b:=by
 induction a with
 | nil=>simp[QK]
 | cons t ts ih=>simp[QK,ih];omega
mutual
theorem RI: ∀t:Tm,t.nodes<=t.mass
 | .mk _ _ _ ks=>by simp only[Tm.nodes,Tm.mass];have:=Y2 ks;omega
theorem Y2: ∀ts:List Tm,QK ts<=Zs ts
 | []=>by simp[QK,Zs]
 | t:: ts=>by simp only[QK,Zs];have:=RI t;have:=Y2 ts;omega
end
mutual
theorem SX: ∀t:Tm,t.depth<=t.nodes
 | .mk _ _ _ ks=>by simp only[Tm.nodes,Tm.depth];have:=W3 ks;omega
theorem W3: ∀ts:List Tm,Yb ts<=QK ts
 | []=>by simp[QK,Yb]
 | t:: ts=>by simp only[QK,Yb];have:=SX t;have:=W3 ts;omega
end
def Mt (a b:Int): (a == b)=decide (a=b):=by by_cases h:a=b <;> simp[h]
def Mu (a b:Int): (a != b)= !decide (a=b):=by by_cases h:a=b <;> simp[h]
attribute [local simp] Mt Mu
def ZM {α:Type} {ks pre post:List α} {x:α} (h:ks=pre ++ x:: post):ks[pre.length]? =some x:=by subst h;simp
def big:Nat:=1099511627776
def sgn (a b:Int):Int:=if a < b then -1 else if a > b then 1 else 0
def Y0 (a b:Qb):Int:=if Op.bytesLess a b then -1 else if a == b then 0 else 1
def or0 (c d:Int):Int:=if c=0 then d else c
def Vt (d:Int):or0 0 d=d:=rfl
def LL (c:Int):or0 c 0=c:=by unfold or0;split <;> simp_all
def Un {c:Int} (h:c≠0) (d:Int):or0 c d=c:=by simp[or0,h]
def UT {a b:Int}:or0 a b=0↔a=0/\b=0:=by unfold or0;split <;> simp_all
def hdT (t u:Tm):Int:=or0 (sgn t.nodes u.nodes) (or0 (sgn t.kind u.kind) (or0 (Y0 t.name u.name) (or0 (sgn t.sort u.sort) (sgn t.kids.length u.kids.length))))
mutual
def Zq:Tm->Tm->Int
 | .mk k n s ks,u=>or0 (hdT (.mk k n s ks) u) (Yl ks u.kids)
def Yl:List Tm->List Tm->Int
 | [],_=>0
 | _:: _,[]=>0
 | t:: ts,u:: us=>or0 (Zq t u) (Yl ts us)
end
def UF (t u:Tm):Zq t u=or0 (hdT t u) (Yl t.kids u.kids):=by cases t;simp[Zq]
def Sd {a b:Int}:sgn a b=0↔a=b:=by unfold sgn;split <;> (try split) <;> omega
mutual
def Fz:AV->Option (List Tm)
 | .sl _ 4 xs=>VA xs
 | _=>none
def Mn:List AV->Option Tm
 | [.int .i64 k,.str n,.int .i64 s,x]=>(Fz x).map fun ks=> .mk k n s ks
 | _=>none
def VA:List (List AV)->Option (List Tm)
 | []=>some []
 | x:: xs=>match Mn x,VA xs with
  | some t,some ts=>some (t:: ts)
  | _,_=>none
end
def Tq (t:Tm):Qp->Qp
 | []=>[t]
 | x:: xs=>if Zq x t < 0 then x:: Tq t xs else t:: x:: xs
def Uu:Qp->Qp
 | []=>[]
 | t:: ts=>Tq t (Uu ts)
def LN:Qf->Qd->Option (AV×Qd)
 | [.gs id o sz n,.fn 30 []],bs=>if n=0 then some (.tup [],bs)else if sz=4/\n < 4611686018427387904 then(bs[id]?).bind fun cs=>
   if o+n*4<=cs.length then(VA (Yi cs o 4 n)).bind fun ts=>if ts.all (fun t=>decide (t.mass < big))then some (.tup [],bs.set id (put cs o (Qz (Uu ts)).flatten))else none else none
   else none
 | _,_=>none
end Go.Am
namespace Go.Am
def LQ:Qf->Xh
 | [.str s,.str cs]=>if(cs.all (· < 128) && decide (s.length < 4294967281) && decide (cs.length < 4294967281))=true then some (.str (Lib.trimS s cs))else none
 | _=>none
def NE (bytes sz:Nat):Qf->Qd->Option (AV×Qd)
 | [.gs _ _ 0 0,.int .i64 n],bs=>if 0<=n/\n.toNat* bytes<=140737488355328/\n<=4611686018427387904 then some (.sl true sz [],bs)else none
 | _,_=>none
end Go.Am
namespace Go.Am
def Ia:Qf->Xh
 | [.str s,.str [c]]=>some (.int .i64 (s.count c:Nat))
 | _=>none
def ixO:Qf->Xh
 | [.str s,.str t]=>if s.length < 4294967281 then some (.int .i64 (Lib.index s t))else none
 | _=>none
abbrev QH:=List Int
def OK (x:Int):QH->QH
 | []=>[x]
 | y:: l=>if x<=y then x:: y:: l else y:: OK x l
def Uv:QH->QH
 | []=>[]
 | x:: l=>OK x (Uv l)
def Ul:Qf->Option QH
 | []=>some []
 | .int .i64 n:: r=>(Ul r).map (n:: ·)
 | _=>none
def LJ:Qf->Qd->Option (AV×Qd)
 | [.gs id o sz n],bs=>if n=0 then some (.tup [],bs)else if sz=1/\n < 4611686018427387904 then(bs[id]?).bind fun cs=>
   if o+n<=cs.length then(Ul ((cs.drop o).take n)).map fun zs=>(.tup [],bs.set id (put cs o ((Uv zs).map (AV.int .i64))))else none
   else none
 | _,_=>none
end Go.Am
