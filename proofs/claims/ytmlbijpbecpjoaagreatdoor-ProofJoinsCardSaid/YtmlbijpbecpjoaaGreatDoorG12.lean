/-
  Ins1, Ins2, Ins3, Am28, AmT, AmO, AmP.
-/
import Derived.Shelf.Spec.SlicesInsertGrow
import Derived.Test.YtmlbijpbecpjoaaGreatDoorG09
import Derived.Test.YtmlbijpbecpjoaaGreatDoorG10
import Derived.Test.YtmlbijpbecpjoaaGreatDoorG00
import Derived.Lib.SlTrimSet
import Derived.Lib.Bytealg
import Derived.Lib.Index
set_option linter.all false
namespace Go.Am
open Go.Shelf Go.RowKit Go.Lib Go.Proofs
variable {P:Program} {ρ:Ren}
def Q0 (cur:Ze) (o:Nat) (cs:ZE):Ze:=(cur.toList.take o ++ cs ++ cur.toList.drop (o+cs.length)).toArray
def XI {cur:Ze} {o:Nat} {cs:ZE} (h:o+cs.length<=cur.size): (Q0 cur o cs).size=cur.size:=by
 simp[Q0];omega
def SC {cur:Ze} {o:Nat} {cs:ZE} (h:o+cs.length<=cur.size) (j:Nat):
  (Q0 cur o cs)[j]? =if j < o then cur[j]? else if j < o+cs.length then cs[j - o]? else cur[j]? :=by
 simp only[Q0,S8];have hl: (cur.toList.take o).length=o:=by simp;omega
 by_cases h1:j < o
 ·rw[Qn h1,ZR,ZM (by omega),WB h1,OB]
 ·rw[Qm h1];by_cases h2:j < o+cs.length
  ·rw[Qn h2,ZR,YS (by omega),hl,ZM (by omega)]
  ·rw[Qm h2,YS (by simp;omega),XJ];have:o+cs.length+ (j - (cur.toList.take o ++ cs).length)=j:=by simp only[Zo,hl];omega
   rw[this,OB]
def X2 (w:World) (dT sT ty elem:TypeId) (k g o dLen dCap:Nat) (a:Addr) (sLen sCap:Nat) (cur:Ze) (e:TypeId) (cs:ZE)
  (hu:P.underlying dT=some (.slice elem)) (hs: (P.info? elem).map (·.size)=some k) (hg:w.heap[g]? =some (.cells cur e (0,0))) (hn:cs.length=Nat.min sLen dLen*k)
  (hsrc: ∀j v,cs[j]? =some v->w.cell? (a.add j)=some v) (hl:o+cs.length<=cur.size) (h1: ∀v∈cs,v.oneCell'=true):
  (Builtin.copy_ #[dT,sT] ty #[.slice (some ⟨g,o,none⟩) dLen dCap,.slice (some a) sLen sCap]).run P w= .ok (goInt (Nat.min sLen dLen)) (w.setRow g (Q0 cur o cs)):=by
 have hld:=run_loadCells_list (P:=P) w a cs hsrc;have hst:=run_storeCells_at (P:=P) g o e cs 0 cur w hg (by simpa using hl) h1;simp only[Ty]at hst;cases hq:P.info? elem with
 | none=>simp[hq]at hs
 | some i=>
  have hi:i.size=k:=by simpa[hq]using hs
  simp[Builtin.copy_,run_underlying hu,Builtin.lenOf,Builtin.firstCells,sizeOf,typeInfo,hq,hi,<- hn,hld,hst,Q0]
def PO (w:World) (tS tR e:TypeId) (ht:P.underlying tS=some (.slice e)) (size:Nat) (hz: ∀w,(Go.sizeOf e).run P w= .ok size w)
  (a b:Addr) (la ca lb cb:Nat) (hne:a.block≠b.block) {ca' cb':Ze} {ea eb:TypeId} {fa:Nat×Nat}
  (hA:w.heap[a.block]? =some (.cells ca' ea fa)) (hB:w.heap[b.block]? =some (.cells cb' eb (0,0))) (hkA:ca'.size≠0) (hkB:cb'.size≠0):
  (Extern.SlicesOverlaps.overlaps #[tS,tS] #[tR] #[.slice (some a) la ca,.slice (some b) lb cb]).run P w= .ok (.bool false) w:=by
 have hnb: (a.block != b.block)=true:=by simpa using hne
 have hnb': (a.block == b.block)=false:=by simpa using hne
 have hsa:w.shape? a.block=some (ea,ca'.size):=by simp[World.shape?,hA]
 have hsb:w.shape? b.block=some (eb,cb'.size):=by simp[World.shape?,hB]
 have hfb: ∀o s,w.frozen? ⟨b.block,o,s⟩=false:=fun o s=>by simp[World.frozen?,hB]
 have hfb2:w.frozen? b=false:=by simp[World.frozen?,hB]
 change Sem.run P (α:=Value) (do
  let some t:=(#[tS,tS]:Array TypeId)[0]? | stuck "slices.overlaps: no parameter types"
  let .slice elem <- underlying t | stuck "slices.overlaps: slice type expected"
  let size <- sizeOf elem
  match (some a:UG),(some b:UG)with
  | some a,some b=>
   if la=0\/lb=0\/size=0 then pure (Value.bool false)
   else if a.block != b.block && (<- frozen a) && (<- frozen b)then unsupported .addressObserved
   else do
    if a.block != b.block then do
     noView a;noView b
     if <- mayBeOne a b then return Value.bool ((<- choose (.extern "sameAddr.stringBytes" 2)) == 1)
    pure (Value.bool (a.block == b.block && a.off < b.off+lb*size && b.off < a.off+la*size))
  | _,_=>pure (Value.bool false)) w=_
 by_cases h0:la=0\/lb=0\/size=0
 ·simp[run_underlying ht,hz,h0]
 ·cases hk:cb'.size with
  | zero=>exact absurd hk hkB
  | succ kB=>
   rw[hk]at hsb;obtain⟨kA,hkA2⟩: ∃kA,ca'.size=kA+1:=⟨ca'.size - 1,by omega⟩;rw[hkA2]at hsa;cases hfa:w.frozen? a <;> cases hfe:w.frozen? ⟨a.block,kA+1,none⟩ <;>
   simp[run_underlying ht,hz,h0,hnb,hnb',frozen,noView,viewAt,mayBeOne,stringish,shape,Sem.run,hsa,hsb,hfb,hfb2,hfa,hfe]
structure T9 (P:Program) (ρ:Ren) (F:Func) (k by':Nat) (z:Value):Prop where
 mixed:P.follows .mixedOrders=true
 body:F.body=(Body2.n22 ρ).body
 ntmps:F.ntmps=95
 res:F.results= #[.tmp 6]
 f29: ∀(args:Array Value) (w:World),(callFunc (ρ.f 29) args).run P w=((Extern.SlicesOverlaps.overlaps #[(ρ.t 24),(ρ.t 24)] #[(ρ.t 4)] args).run P w).andThen fun v w'=> .ok (.value v) w'
 t0:P.underlying (ρ.t 0)=some (TypeDesc.tuple #[])
 t3:P.underlying (ρ.t 3)=some (TypeDesc.int IntKind.i64)
 a3: ∀w,(isAgg (ρ.t 3)).run P w= .ok false w
 z3: ∀w,(Go.sizeOf (ρ.t 3)).run P w= .ok 1 w
 t4:P.underlying (ρ.t 4)=some (TypeDesc.bool)
 a4: ∀w,(isAgg (ρ.t 4)).run P w= .ok false w
 z4: ∀w,(Go.sizeOf (ρ.t 4)).run P w= .ok 1 w
 z9: ∀w,(Go.sizeOf (ρ.t 9)).run P w= .ok k w
 t24:P.underlying (ρ.t 24)=some (TypeDesc.slice (ρ.t 9))
 a24: ∀w,(isAgg (ρ.t 24)).run P w= .ok false w
 z24: ∀w,(Go.sizeOf (ρ.t 24)).run P w= .ok 1 w
 i9: (P.info? (ρ.t 9)).map (fun i=>(i.zero,i.size,i.bytes))=some (some z,k,by')
 zc:z.cells.size=k
def T9.sz {F:Func} {k by':Nat} {z:Value} (L:T9 P ρ F k by' z): (P.info? (ρ.t 9)).map (·.size)=some k:=by
 obtain⟨i0,hi0,h0,h1,h2⟩:=info_parts L.i9;rw[hi0];simp[h1]
def BF (n i m:Nat) (hi:i<=n):Nat.min (n+m - i) (n+m - (i+m))=n - i:=by simp only[Nat.min_def];split <;> omega
def S0 (m x:Nat) (h:m<=x):Nat.min m x=m:=by simp only[Nat.min_def];split <;> omega
def Vo {w:World} {b j:Nat} {v:Value} (h:w.cell? ⟨b,j,none⟩=some v): ∃cur e fz,w.heap[b]? =some (.cells cur e fz)/\cur[j]? =some v:=by
 simp only[World.cell?]at h;split at h
 ·rename_i cur e fz hb;exact⟨_,_,_,hb,h⟩
 ·cases h
def Uz {w:World} {b j:Nat} {v:Value} {cur:Ze} {e:TypeId} {fz:Nat×Nat} (h:w.heap[b]? =some (.cells cur e fz)) (hj:cur[j]? =some v):w.cell? ⟨b,j,none⟩=some v:=by
 unfold World.cell?;rw[h];exact hj
def setRow_other {w:World} {b x:Nat} {cs:Ze} (h:x≠b): (w.setRow b cs).heap[x]? =w.heap[x]? :=by
 simp only[World.setRow,TG];split
 ·rename_i e;exact absurd e.symm h
 ·rfl
def Wi {w:World} {b:Nat} {cur cs:Ze} {e:TypeId} {fz:Nat×Nat} (h:w.heap[b]? =some (.cells cur e fz)): (w.setRow b cs).heap[b]? =some (.cells cs e fz):=by
 simp[World.setRow,TG,h]
def K7:=@Nat.sub_mul
def KL:=@Array.replicate_succ
def KN:=@Array.replicate_zero
def KW:=@List.push_toArray
def KQ:=@List.append_toArray
def X3:=@List.nil_append
def WV:=@List.cons_append
set_option maxHeartbeats 4000000 in
set_option maxRecDepth 100000 in
def Qdf {F:Func} {k by':Nat} {z:Value} {g:Nat} (L:T9 P ρ F k by' z) (hF:P.funcs[g]? =some F) (hk:0 < k) (b n c i vb voff m vc:Nat) (cur:Ze) (e:TypeId) (cs vs:ZE) (w:World) (hi:i < n) (hm:0 < m) (hroom:n+m<=c) (hc63:c<=9223372036854775807) (hvb:vb≠b)
  (hb:w.heap[b]? =some (.cells cur e (0,0))) (hcz:c*k<=cur.size)
  (hcl:cs.length=n*k) (hvl:vs.length=m*k)
  (hcs: ∀(j:Nat) (v:Value),cs[j]? =some v->cur[j]? =some v)
  (hvs: ∀(j:Nat) (v:Value),vs[j]? =some v->w.cell? ⟨vb,voff+j,none⟩=some v) (h1c: ∀v∈cs,v.oneCell'=true) (h1v: ∀v∈vs,v.oneCell'=true):
  Calls P g #[.slice (some ⟨b,0,none⟩) n c,.int .i64 i,.slice (some ⟨vb,voff,none⟩) m vc] w fun e' w'=>
   e'= .returned (.slice (some ⟨b,0,none⟩) (n+m) c)/\w'=(w.drew.setRow b (Q0 cur ((i+m)*k) (cs.drop (i*k)))).setRow b (Q0 (Q0 cur ((i+m)*k) (cs.drop (i*k))) (i*k) vs):=by
 have t0:=L.t0;have t3:=L.t3;have a3:=L.a3;have z3:=L.z3;have t4:=L.t4;have a4:=L.a4;have z4:=L.z4;have z9:=L.z9;have t24:=L.t24;have a24:=L.a24;have z24:=L.z24
 have u0:=run_underlying L.t0;have u3:=run_underlying L.t3;have u4:=run_underlying L.t4;have u24:=run_underlying L.t24
 have hz1: ¬((m:Int)=0):=by omega
 have hz2: ¬((i:Int)=(n:Int)):=by omega
 have hsz:=L.sz;have hnik: (n+m)*k=n*k+m*k:=ZT _ _ _;have him: (i+m)*k=i*k+m*k:=ZT _ _ _;have hik:i*k<=n*k:=Z5 _ (by omega);have hck: (n+m)*k<=c*k:=Z5 _ hroom;have hmk:0 < m*k:=Si hm hk;have hsub: (n - i)*k=n*k - i*k:=K7 _ _ _;have hdl: (cs.drop (i*k)).length=n*k - i*k:=by rw[Ut,hcl]
 obtain⟨cv,ev,fv,hvh,hv0⟩:=Vo (hvs 0 _ (Zv (by omega)));have hcvz:cv.size≠0:=fun h0=>by rw[VI (by omega)]at hv0;cases hv0
 have hov: ∀lb cb,(callFunc (ρ.f 29) #[.slice (some ⟨vb,voff,none⟩) m vc,.slice (some ⟨b,(i+m)*k,none⟩) lb cb]).run P w= .ok (.value (.bool false)) w:=fun lb cb=>by
  rw[L.f29,PO w (ρ.t 24) (ρ.t 4) (ρ.t 9) L.t24 k L.z9 ⟨vb,voff,none⟩ ⟨b,(i+m)*k,none⟩ m vc lb cb hvb hvh hb hcvz (by omega)];rfl
 have mixed:=L.mixed;have hw1:IntKind.i64.wrap ((i:Int)+ (m:Int))=(i:Int)+ (m:Int):=by rw[IntKind.wrap_i64];omega
 have hb1: (0:Int)<=(i:Int)+ (m:Int):=by omega
 have hin:i<=n:=by omega
 have htn: ((i:Int)+ (m:Int)).toNat=i+m:=by omega
 have hb2: ¬(c=i+m):=by omega
 have hb3: (i:Int)<=(n:Int)+ (m:Int):=by omega
 have hb4: ¬(c=i):=by omega
 have hcp1: ∀ty dc sc,(Builtin.copy_ #[(ρ.t 24),(ρ.t 24)] ty #[.slice (some ⟨b,(i+m)*k,none⟩) (n+m - (i+m)) dc,.slice (some ⟨b,i*k,none⟩) (n+m - i) sc]).run P w.drew= .ok (goInt (Nat.min (n+m - i) (n+m - (i+m)))) (w.drew.setRow b (Q0 cur ((i+m)*k) (cs.drop (i*k)))):=fun ty dc sc=>
  X2 w.drew _ _ ty (ρ.t 9) k b ((i+m)*k) (n+m - (i+m)) dc ⟨b,i*k,none⟩ (n+m - i) sc cur e (cs.drop (i*k)) L.t24 hsz hb (by rw[BF n i m hin,hdl,hsub])
   (fun j v hj=>by
    rw[Addr.add_lit];have:=hcs (i*k+j) v (by rwa[XJ]at hj);exact Uz (w:=w.drew) hb this)
   (by omega) (fun v hv=>h1c v (List.mem_of_mem_drop hv))
 obtain⟨cur1,hcur1⟩: ∃cur1,cur1=Q0 cur ((i+m)*k) (cs.drop (i*k)):=⟨_,rfl⟩;obtain⟨W1,hW1⟩: ∃W1,W1=w.drew.setRow b (Q0 cur ((i+m)*k) (cs.drop (i*k))):=⟨_,rfl⟩;have hbW:W1.heap[b]? =some (.cells cur1 e (0,0)):=by rw[hW1,hcur1];exact Wi (w:=w.drew) hb
 have hvW:W1.heap[vb]? =some (.cells cv ev fv):=by rw[hW1,setRow_other (w:=w.drew) hvb];exact hvh
 have hs1:cur1.size=cur.size:=by rw[hcur1,XI (by omega)]
 have hcp2: ∀(W:World),W.heap=W1.heap->∀ty dc,(Builtin.copy_ #[(ρ.t 24),(ρ.t 24)] ty #[.slice (some ⟨b,i*k,none⟩) (n+m - i) dc,.slice (some ⟨vb,voff,none⟩) m vc]).run P W= .ok (goInt (Nat.min m (n+m - i))) (W.setRow b (Q0 cur1 (i*k) vs)):=fun W hWc ty dc=>
  X2 W _ _ ty (ρ.t 9) k b (i*k) (n+m - i) dc ⟨vb,voff,none⟩ m vc cur1 e vs L.t24 hsz (by rw[hWc];exact hbW) (by rw[hvl,S0 m (n+m - i) (by omega)])
   (fun j v hj=>by
    rw[Addr.add_lit];have:=hvs j v hj;refine Uz (w:=W) (by rw[hWc];exact hvW) ?_;obtain⟨_,_,_,q1,q2⟩:=Vo this;rw[hvh]at q1;injection q1 with q1
    injection q1 with q1
    rw[q1];exact q2)
   (by omega) h1v
 rw[<- hW1]at hcp1;rw[<- hcur1];have hbody:=L.body;have hnt:=L.ntmps;have hres:=L.res;clear hcs hvs hnik him hik hsub hdl hbW hvW hs1 hck hcz hvh hb hv0 hcvz;refine calls_of_wp hF hbody ?_;simp only[hnt,WD,ZL,Yz,Nat.reduceAdd,Nat.reduceSub,KL,
   KN,KW,KQ,X3,WV]
 go_wp2_with (simp only[hov])
 go_region_law_o (refine step_copy_runI rfl _ _ (ρ.t 24) (ρ.t 24) rfl _ _ (by simp[Act.eval,Act.put]) (by simp[Act.eval,Act.put]) (hcp1 _ _ _) ?_)
 go_wp2_with (at_builtin;refine wpList_copy_runI _ rfl _ _ (ρ.t 24) (ρ.t 24) rfl _ _ rfl rfl (hcp2 _ rfl _ _) ?_)
 refine bodyPost_ret (results_tmp hres _ _ _) rfl ?_;exact⟨rfl,by rw[hcur1]⟩
end Go.Am
namespace Go.Am
open Go.Shelf Go.RowKit Go.Lib Go.Proofs
variable {P:Program} {ρ:Ren}
def Hid (p:Prop):Prop:=p
set_option maxHeartbeats 4000000 in
set_option maxRecDepth 100000 in
def E7 {F:Func} {k by':Nat} {z:Value} {g:Nat} (L:T9 P ρ F k by' z) (hF:P.funcs[g]? =some F) (hk:0 < k) (b n c vb voff m vc:Nat) (cur:Ze) (e:TypeId) (vs:ZE) (w:World) (hm:0 < m) (hroom:n+m<=c) (hc63:c<=9223372036854775807)
  (hb:w.heap[b]? =some (.cells cur e (0,0))) (hcz:c*k<=cur.size) (hvl:vs.length=m*k)
  (hvs: ∀(j:Nat) (v:Value),vs[j]? =some v->w.cell? ⟨vb,voff+j,none⟩=some v) (h1v: ∀v∈vs,v.oneCell'=true):
  Calls P g #[.slice (some ⟨b,0,none⟩) n c,.int .i64 n,.slice (some ⟨vb,voff,none⟩) m vc] w fun e' w'=>
   e'= .returned (.slice (some ⟨b,0,none⟩) (n+m) c)/\w'=w.setRow b (Q0 cur (n*k) vs):=by
 have t0:=L.t0;have t3:=L.t3;have a3:=L.a3;have z3:=L.z3;have t4:=L.t4;have a4:=L.a4;have z4:=L.z4;have z9:=L.z9;have t24:=L.t24;have a24:=L.a24;have z24:=L.z24
 have u0:=run_underlying L.t0;have u3:=run_underlying L.t3;have u4:=run_underlying L.t4;have u24:=run_underlying L.t24
 have hz1: ¬((m:Int)=0):=by omega
 have mixed:=L.mixed;have hck: (n+m)*k<=c*k:=Z5 _ hroom;have hnik: (n+m)*k=n*k+m*k:=ZT _ _ _;obtain⟨i0,hi0,hz0,hzs,hzb⟩:=info_parts L.i9;have hrun: ∀ty,(Builtin.append_ #[(ρ.t 24),(ρ.t 24)] ty #[.slice (some ⟨b,0,none⟩) n c,.slice (some ⟨vb,voff,none⟩) m vc]).run P w= .ok (.slice (some ⟨b,0,none⟩) (n+m) c) (w.setRow b (Q0 cur (n*k) vs)):=fun ty=>by
  have:=X1 (P:=P) (w:=w) (t:=ρ.t 24) (ty:=ty) (A:=⟨vb,voff,none⟩) (c:=vc) L.t24 hi0 hb (by rw[hzs];exact hvl) (fun j u hj=>by rw[Addr.add_lit];exact hvs j u hj) h1v hroom (by rw[hzs];omega);rw[hzs]at this;exact this
 have hbody:=L.body;have hnt:=L.ntmps;have hres:=L.res;clear hvs hb hcz hck hnik hi0 hz0 hzs hzb;refine calls_of_wp hF hbody ?_;simp only[hnt,WD,ZL,Yz,Nat.reduceAdd,Nat.reduceSub,KL,
   KN,KW,KQ,X3,WV]
 go_wp2_with (at_builtin;refine Lib.wpList_append_run _ rfl _ _ _ _ rfl _ _ rfl rfl _ _ (hrun _) ?_)
 refine bodyPost_ret (results_tmp hres _ _ _) rfl ?_;exact⟨rfl,rfl⟩
set_option maxHeartbeats 4000000 in
set_option maxRecDepth 100000 in
def E6 {F:Func} {k by':Nat} {z:Value} {g:Nat} (L:T9 P ρ F k by' z) (hF:P.funcs[g]? =some F) (hk:0 < k) (base:UG) (n c vb voff m vc:Nat) (cs vs:ZE) (w:World) (hm:0 < m) (hnc:n<=c) (hroom:c < n+m) (hbig: (n+m)*by'<=140737488355328) (h63:n+m<=140737488355328)
  (hcl:cs.length=n*k) (hvl:vs.length=m*k) (hnil:base=none->n=0/\c=0)
  (hcs: ∀a,base=some a->∀(j:Nat) (v:Value),cs[j]? =some v->w.cell? (a.add j)=some v)
  (hvs: ∀(j:Nat) (v:Value),vs[j]? =some v->w.cell? ⟨vb,voff+j,none⟩=some v) (h1v: ∀v∈vs,v.oneCell'=true):
  Calls P g #[.slice base n c,.int .i64 n,.slice (some ⟨vb,voff,none⟩) m vc] w fun e' w'=>
   e'= .returned (.slice (some ⟨w.heap.size,0,none⟩) (n+m) (grownCap w (n+m) c (ρ.t 9)))/\
   w'=w.drew.alloc (.cells ((cs ++ vs).toArray ++ Builtin.zeroCells z.cells (grownCap w (n+m) c (ρ.t 9) - (n+m))) (ρ.t 9)):=by
 have t0:=L.t0;have t3:=L.t3;have a3:=L.a3;have z3:=L.z3;have t4:=L.t4;have a4:=L.a4;have z4:=L.z4;have z9:=L.z9;have t24:=L.t24;have a24:=L.a24;have z24:=L.z24
 have u0:=run_underlying L.t0;have u3:=run_underlying L.t3;have u4:=run_underlying L.t4;have u24:=run_underlying L.t24
 have hz1: ¬((m:Int)=0):=by omega
 have mixed:=L.mixed;obtain⟨i0,hi0,hz0,hzs,hzb⟩:=info_parts L.i9;have hfit:Builtin.nextslicecap (n+m) c*i0.bytes<=281474976710656:=by rw[hzb];exact growslice_fits hroom hbig
 have hrun: ∀ty,(Builtin.append_ #[(ρ.t 24),(ρ.t 24)] ty #[.slice base n c,.slice (some ⟨vb,voff,none⟩) m vc]).run P w=
   .ok (.slice (some ⟨w.heap.size,0,none⟩) (n+m) (grownCap w (n+m) c (ρ.t 9))) (w.drew.alloc (.cells ((cs ++ vs).toArray ++ Builtin.zeroCells z.cells (grownCap w (n+m) c (ρ.t 9) - (n+m))) (ρ.t 9))):=fun ty=>by
  cases base with
  | none=>
   obtain⟨h0,h00⟩:=hnil rfl;subst h0 h00;rw[Nat.zero_mul]at hcl;rw[List.length_eq_zero_iff.1 hcl];have h48:m*i0.bytes<=281474976710656:=by rw[hzb];rw[Zk]at hbig;omega
   have:=run_append_nil (P:=P) w (ρ.t 24) ty (ρ.t 9) i0 z L.t24 hi0 hz0 ⟨vb,voff,none⟩ m vc vs (by rw[hzs];exact hvl) (fun j u hj=>by rw[Addr.add_lit];exact hvs j u hj) hm (by omega) h48;simpa using this
  | some a=>
   have:=run_append_grow (P:=P) w (ρ.t 24) ty (ρ.t 9) i0 z L.t24 hi0 hz0 a n c cs (by rw[hzs];exact hcl) (fun j v hj=>hcs a rfl j v hj) ⟨vb,voff,none⟩ m vc vs (by rw[hzs];exact hvl) (fun j u hj=>by rw[Addr.add_lit];exact hvs j u hj) hroom (by omega) hfit;simpa using this
 have hbody:=L.body;have hnt:=L.ntmps;have hres:=L.res;clear hvs hcs hi0 hz0 hzs hzb hfit L;generalize z.cells=ZC at *;refine calls_of_wp hF hbody ?_;simp only[hnt,WD,ZL,Yz,Nat.reduceAdd,Nat.reduceSub,KL,
   KN,KW,KQ,X3,WV]
 cases base with
 | none=>
  obtain⟨h0,h00⟩:=hnil rfl;subst h0 h00
  go_wp2_with (at_builtin;refine Lib.wpList_append_run _ rfl _ _ _ _ rfl _ _ rfl rfl _ _ (hrun _) ?_)
  refine bodyPost_ret (results_tmp hres _ _ _) rfl ?_;exact⟨rfl,rfl⟩
 | some a=>
  obtain⟨ab,ao,asp⟩:=a
  go_wp2_with (at_builtin;refine Lib.wpList_append_run _ rfl _ _ _ _ rfl _ _ rfl rfl _ _ (hrun _) ?_)
  all_goals (refine bodyPost_ret (results_tmp hres _ _ _) rfl ?_;exact⟨rfl,rfl⟩)
def Mf:=@Array.getElem?_push_size
def Mg:=@Array.getElem?_push_lt
set_option maxHeartbeats 4000000 in
set_option maxRecDepth 100000 in
def Qfj {F:Func} {k by':Nat} {z:Value} {g:Nat} (L:T9 P ρ F k by' z) (hF:P.funcs[g]? =some F) (hk:0 < k) (b n c i vb voff m vc:Nat) (cs vs:ZE) (w:World) (hi:i < n) (hm:0 < m) (hnc:n<=c) (hroom:c < n+m) (hbig: (n+m)*by'<=140737488355328) (h63:n+m<=140737488355328)
  (hc63:c<=9223372036854775807) (hcl:cs.length=n*k) (hvl:vs.length=m*k)
  (hcs: ∀(j:Nat) (v:Value),cs[j]? =some v->w.cell? ⟨b,j,none⟩=some v)
  (hvs: ∀(j:Nat) (v:Value),vs[j]? =some v->w.cell? ⟨vb,voff+j,none⟩=some v) (h1c: ∀v∈cs,v.oneCell'=true) (h1v: ∀v∈vs,v.oneCell'=true):
  Calls P g #[.slice (some ⟨b,0,none⟩) n c,.int .i64 i,.slice (some ⟨vb,voff,none⟩) m vc] w fun e' w'=>
   e'= .returned (.slice (some ⟨w.heap.size,0,none⟩) (n+m) (grownCap w (n+m) c (ρ.t 9)))/\
   ∃ROW:Ze,ROW=(cs.take (i*k)).toArray ++ Builtin.zeroCells z.cells (n+m - i)++ Builtin.zeroCells z.cells (grownCap w (n+m) c (ρ.t 9) - (n+m))/\
   w'=(((w.alloc (.cells ROW (ρ.t 9))).drew.setRow w.heap.size (Q0 ROW (i*k) vs)).drew).setRow w.heap.size (Q0 (Q0 ROW (i*k) vs) ((i+m)*k) (cs.drop (i*k))):=by
 have t0:=L.t0;have t3:=L.t3;have a3:=L.a3;have z3:=L.z3;have t4:=L.t4;have a4:=L.a4;have z4:=L.z4;have z9:=L.z9;have t24:=L.t24;have a24:=L.a24;have z24:=L.z24
 have u0:=run_underlying L.t0;have u3:=run_underlying L.t3;have u4:=run_underlying L.t4;have u24:=run_underlying L.t24
 have mixed:=L.mixed;obtain⟨i0,hi0,hz0,hzs,hzb⟩:=info_parts L.i9;have hz1: ¬((m:Int)=0):=by omega
 have hz2: ¬((i:Int)=(n:Int)):=by omega
 have hz3: (c:Int) < (n:Int)+ (m:Int):=by omega
 have hsz:=L.sz;have hnik: (n+m)*k=n*k+m*k:=ZT _ _ _;have him: (i+m)*k=i*k+m*k:=ZT _ _ _;have hik:i*k<=n*k:=Z5 _ (by omega);have hsub: (n - i)*k=n*k - i*k:=K7 _ _ _;have hnmi: (n+m - i)*k=n*k+m*k - i*k:=by rw[K7,hnik]
 have hmk:0 < m*k:=Si hm hk;have hnk:0 < n*k:=Si (by omega) hk;have hbw:b < w.heap.size:=block_lt_of_cell (hcs 0 _ (Zv (by omega)));have hvw:vb < w.heap.size:=block_lt_of_cell (hvs 0 _ (Zv (by omega)));have hkk: (n:Int)+ (m:Int) - (i:Int)=((n+m - i:Nat):Int):=by omega
 have hik2:i+ (n+m - i)=n+m:=by omega
 have hfit:Builtin.nextslicecap (n+m) c*i0.bytes<=281474976710656:=by rw[hzb];exact growslice_fits hroom hbig
 have hfit2: (n+m - i)*i0.bytes<=281474976710656:=by
  rw[hzb];have: (n+m - i)*by'<=(n+m)*by':=Z5 _ (by omega);omega
 have hold: (Builtin.firstCells i0.size i (.slice (some ⟨b,0,none⟩) i c)).run P w.drew= .ok (cs.take (i*k)).toArray w.drew:=by
  rw[hzs];exact run_firstCells_some w.drew k i ⟨b,0,none⟩ i c (cs.take (i*k)) (by rw[Xf];omega) (fun j v hj=>by
   rw[Addr.add_lit,Zk];rw[VJ]at hj;split at hj
   ·exact hcs j v hj
   ·cases hj)
 have hrz: ∀ty,(Builtin.append_ #[(ρ.t 24),(ρ.t 3)] ty #[.slice (some ⟨b,0,none⟩) i c,.int .i64 ((n:Int)+ (m:Int) - (i:Int))]).run P w=
   .ok (.slice (some ⟨w.heap.size,0,none⟩) (n+m) (grownCap w (n+m) c (ρ.t 9))) (w.drew.alloc (.cells ((cs.take (i*k)).toArray ++ Builtin.zeroCells z.cells (n+m - i)++ Builtin.zeroCells z.cells (grownCap w (n+m) c (ρ.t 9) - (n+m))) (ρ.t 9))):=fun ty=>by
  have h:=Lib.run_append_grow_zeros w (ρ.t 24) (ρ.t 3) ty (ρ.t 9) i0 _ .i64 .i64 L.t24 L.t3 hi0 hz0 (some ⟨b,0,none⟩) i c (cs.take (i*k)) hold (n+m - i) (by omega) (by rw[hzs];exact hk) (by omega) (by omega) hfit2 (by rw[hik2];exact hfit);rw[hik2]at h;rw[hkk];exact h
 obtain⟨G,hG⟩: ∃G,G=grownCap w (n+m) c (ρ.t 9):=⟨_,rfl⟩;obtain⟨ROW,hROW⟩: ∃ROW:Ze,ROW=(cs.take (i*k)).toArray ++ Builtin.zeroCells z.cells (n+m - i)++ Builtin.zeroCells z.cells (G - (n+m)):=⟨_,rfl⟩;rw[<- hG]at hrz ⊢;rw[<- hROW]at hrz ⊢;have hzl: ∀x,(Builtin.zeroCells z.cells x).size=x*k:=fun x=>by
  simp[Builtin.zeroCells,L.zc]
 have hRl: (n+m)*k<=ROW.size:=by
  rw[hROW];simp only[Rm,hzl,WD,Xf];omega
 obtain⟨W1,hW1⟩: ∃W1,W1=w.drew.alloc (.cells ROW (ρ.t 9)):=⟨_,rfl⟩;rw[<- hW1]at hrz;have hN:W1.heap[w.heap.size]? =some (.cells ROW (ρ.t 9) (0,0)):=by rw[hW1];exact Mf
 have hO: ∀x,x < w.heap.size->W1.heap[x]? =w.heap[x]? :=fun x hx=>by rw[hW1];show(w.heap.push _)[x]? =_;rw[Mg hx,Wa hx]
 have hOc: ∀(W:World) x,W.heap[x]? =w.heap[x]? ->∀j v,w.cell? ⟨x,j,none⟩=some v->W.cell? ⟨x,j,none⟩=some v:=fun W x hx j v h=>by
  obtain⟨cu,ee,ff,q1,q2⟩:=Vo h;exact Uz (by rw[hx];exact q1) q2
 have hcpA: ∀(W:World),W.heap=W1.heap->∀ty dc,(Builtin.copy_ #[(ρ.t 24),(ρ.t 24)] ty #[.slice (some ⟨w.heap.size,i*k,none⟩) (n+m - i) dc,.slice (some ⟨vb,voff,none⟩) m vc]).run P W= .ok (goInt (Nat.min m (n+m - i))) (W.setRow w.heap.size (Q0 ROW (i*k) vs)):=fun W hW ty dc=>
  X2 W _ _ ty (ρ.t 9) k w.heap.size (i*k) (n+m - i) dc ⟨vb,voff,none⟩ m vc ROW (ρ.t 9) vs L.t24 hsz (by rw[hW];exact hN) (by rw[hvl,S0 m (n+m - i) (by omega)])
   (fun j v hj=>by rw[Addr.add_lit];exact hOc W vb (by rw[hW];exact hO vb hvw) _ v (hvs j v hj))
   (by omega) h1v
 have hGn:n+m<=G:=by rw[hG];exact grownCap_ge w _ _ _
 have hG63:G<=9223372036854775807:=by
  have:=grownCap_le_maxLen w (n+m) c (ρ.t 9) (by unfold maxLen;omega);rw[<- hG]at this;unfold maxLen at this;omega
 have hGi: ¬(G=i):=by omega
 have hGim: ¬(G=i+m):=by omega
 have hci: ¬(c=i):=by omega
 have hbN:b≠w.heap.size:=by omega
 have hdl: (cs.drop (i*k)).length=n*k - i*k:=by rw[Ut,hcl]
 have hR1: (Q0 ROW (i*k) vs).size=ROW.size:=XI (by omega);have hcpB: ∀(W:World),W.heap=(W1.setRow w.heap.size (Q0 ROW (i*k) vs)).heap->∀ty dc sc,(Builtin.copy_ #[(ρ.t 24),(ρ.t 24)] ty #[.slice (some ⟨w.heap.size,(i+m)*k,none⟩) (n+m - (i+m)) dc,.slice (some ⟨b,i*k,none⟩) (n - i) sc]).run P W= .ok (goInt (Nat.min (n - i) (n+m - (i+m)))) (W.setRow w.heap.size (Q0 (Q0 ROW (i*k) vs) ((i+m)*k) (cs.drop (i*k)))):=fun W hW ty dc sc=>
  X2 W _ _ ty (ρ.t 9) k w.heap.size ((i+m)*k) (n+m - (i+m)) dc ⟨b,i*k,none⟩ (n - i) sc (Q0 ROW (i*k) vs) (ρ.t 9) (cs.drop (i*k)) L.t24 hsz (by rw[hW];exact Wi hN) (by rw[hdl,<- hsub,S0 (n - i) _ (by omega)])
   (fun j v hj=>by
    rw[Addr.add_lit];exact hOc W b (by rw[hW,setRow_other hbN];exact hO b hbw) _ v (hcs (i*k+j) v (by rwa[XJ]at hj)))
   (by omega) (fun v hv=>h1c v (List.mem_of_mem_drop hv))
 have hF1: ((w.alloc (.cells ROW (ρ.t 9))).drew).heap=W1.heap:=by rw[hW1];rfl
 have hF2: (((w.alloc (.cells ROW (ρ.t 9))).drew.setRow w.heap.size (Q0 ROW (i*k) vs)).drew).heap=(W1.setRow w.heap.size (Q0 ROW (i*k) vs)).heap:=by rw[hW1];rfl
 have hF3: ((w.alloc (.cells ROW (ρ.t 9))).drew.setRow w.heap.size (Q0 ROW (i*k) vs)).heap=(W1.setRow w.heap.size (Q0 ROW (i*k) vs)).heap:=by rw[hW1];rfl
 have hw1:IntKind.i64.wrap ((i:Int)+ (m:Int))=(i:Int)+ (m:Int):=by rw[IntKind.wrap_i64];omega
 have hb1: (0:Int)<=(i:Int)+ (m:Int):=by omega
 have hin:i<=n:=by omega
 have htn: ((i:Int)+ (m:Int)).toNat=i+m:=by omega
 have hb3: (i:Int)<=(n:Int):=by omega
 have hbody:=L.body;have hnt:=L.ntmps;have hres:=L.res;have hHid:Hid (ROW=_):=hROW;clear hROW;clear L hkk hik2 hold hG hRl hcs hvs hN hO hOc hnik him hik hsub hnmi hmk hnk hfit hfit2 hdl hR1 hzl;subst hW1;refine calls_of_wp hF hbody ?_;simp only[hnt,WD,ZL,Yz,Nat.reduceAdd,Nat.reduceSub,KL,
   KN,KW,KQ,X3,WV]
 go_wp2_with (first
  | (at_builtin;refine Lib.wpList_append_run _ rfl _ _ _ _ rfl _ _ rfl rfl _ _ (hrz _) ?_)
  | (at_builtin;refine wpList_copy_runI _ rfl _ _ (ρ.t 24) (ρ.t 24) rfl _ _ rfl rfl (hcpA _ hF1 _ _) ?_)
  | (at_builtin;refine wpList_copy_runI _ rfl _ _ (ρ.t 24) (ρ.t 24) rfl _ _ rfl rfl (hcpB _ hF3 _ _ _) ?_))
 go_region_law_o (refine step_copy_runI rfl _ _ (ρ.t 24) (ρ.t 24) rfl _ _ (by simp[Act.eval,Act.put]) (by simp[Act.eval,Act.put]) (hcpB _ hF2 _ _ _) ?_)
 go_wp2
 refine bodyPost_ret (results_tmp hres _ _ _) rfl ?_;refine⟨rfl,ROW,?_,rfl⟩;unfold Hid at hHid;rw[hHid]
structure Kw (P:Program) (g:Nat) (T:TypeId) (k by':Nat) (z:Value):Prop where
 hk:0 < k
 zc:z.cells.size=k
 shift: ∀(b n c i vb voff m vc:Nat) (cur:Array Value) (e:TypeId) (cs vs:List Value) (w:World) (hi:i < n) (hm:0 < m) (hroom:n+m<=c) (hc63:c<=9223372036854775807) (hvb:vb≠b)
  (hb:w.heap[b]? =some (.cells cur e (0,0))) (hcz:c*k<=cur.size)
  (hcl:cs.length=n*k) (hvl:vs.length=m*k)
  (hcs: ∀(j:Nat) (v:Value),cs[j]? =some v->cur[j]? =some v)
  (hvs: ∀(j:Nat) (v:Value),vs[j]? =some v->w.cell? ⟨vb,voff+j,none⟩=some v) (h1c: ∀v∈cs,v.oneCell'=true) (h1v: ∀v∈vs,v.oneCell'=true),
  Calls P g #[.slice (some ⟨b,0,none⟩) n c,.int .i64 i,.slice (some ⟨vb,voff,none⟩) m vc] w fun e' w'=>
   e'= .returned (.slice (some ⟨b,0,none⟩) (n+m) c)/\w'=(w.drew.setRow b (Q0 cur ((i+m)*k) (cs.drop (i*k)))).setRow b (Q0 (Q0 cur ((i+m)*k) (cs.drop (i*k))) (i*k) vs)
 endRoom: ∀(b n c vb voff m vc:Nat) (cur:Array Value) (e:TypeId) (vs:List Value) (w:World) (hm:0 < m) (hroom:n+m<=c) (hc63:c<=9223372036854775807)
  (hb:w.heap[b]? =some (.cells cur e (0,0))) (hcz:c*k<=cur.size) (hvl:vs.length=m*k)
  (hvs: ∀(j:Nat) (v:Value),vs[j]? =some v->w.cell? ⟨vb,voff+j,none⟩=some v) (h1v: ∀v∈vs,v.oneCell'=true),
  Calls P g #[.slice (some ⟨b,0,none⟩) n c,.int .i64 n,.slice (some ⟨vb,voff,none⟩) m vc] w fun e' w'=>
   e'= .returned (.slice (some ⟨b,0,none⟩) (n+m) c)/\w'=w.setRow b (Q0 cur (n*k) vs)
 endGrow: ∀(base:Option Addr) (n c vb voff m vc:Nat) (cs vs:List Value) (w:World) (hm:0 < m) (hnc:n<=c) (hroom:c < n+m) (hbig: (n+m)*by'<=140737488355328) (h63:n+m<=140737488355328)
  (hcl:cs.length=n*k) (hvl:vs.length=m*k) (hnil:base=none->n=0/\c=0)
  (hcs: ∀a,base=some a->∀(j:Nat) (v:Value),cs[j]? =some v->w.cell? (a.add j)=some v)
  (hvs: ∀(j:Nat) (v:Value),vs[j]? =some v->w.cell? ⟨vb,voff+j,none⟩=some v) (h1v: ∀v∈vs,v.oneCell'=true),
  Calls P g #[.slice base n c,.int .i64 n,.slice (some ⟨vb,voff,none⟩) m vc] w fun e' w'=>
   e'= .returned (.slice (some ⟨w.heap.size,0,none⟩) (n+m) (grownCap w (n+m) c T))/\
   w'=w.drew.alloc (.cells ((cs ++ vs).toArray ++ Builtin.zeroCells z.cells (grownCap w (n+m) c T - (n+m))) T)
 grow: ∀(b n c i vb voff m vc:Nat) (cs vs:List Value) (w:World) (hi:i < n) (hm:0 < m) (hnc:n<=c) (hroom:c < n+m) (hbig: (n+m)*by'<=140737488355328) (h63:n+m<=140737488355328)
  (hc63:c<=9223372036854775807) (hcl:cs.length=n*k) (hvl:vs.length=m*k)
  (hcs: ∀(j:Nat) (v:Value),cs[j]? =some v->w.cell? ⟨b,j,none⟩=some v)
  (hvs: ∀(j:Nat) (v:Value),vs[j]? =some v->w.cell? ⟨vb,voff+j,none⟩=some v) (h1c: ∀v∈cs,v.oneCell'=true) (h1v: ∀v∈vs,v.oneCell'=true),
  Calls P g #[.slice (some ⟨b,0,none⟩) n c,.int .i64 i,.slice (some ⟨vb,voff,none⟩) m vc] w fun e' w'=>
   e'= .returned (.slice (some ⟨w.heap.size,0,none⟩) (n+m) (grownCap w (n+m) c T))/\
   ∃ROW:Array Value,ROW=(cs.take (i*k)).toArray ++ Builtin.zeroCells z.cells (n+m - i)++ Builtin.zeroCells z.cells (grownCap w (n+m) c T - (n+m))/\
   w'=(((w.alloc (.cells ROW T)).drew.setRow w.heap.size (Q0 ROW (i*k) vs)).drew).setRow w.heap.size (Q0 (Q0 ROW (i*k) vs) ((i+m)*k) (cs.drop (i*k)))
def T9.con {F:Func} {k by':Nat} {z:Value} {g:Nat} (L:T9 P ρ F k by' z) (hF:P.funcs[g]? =some F) (hk:0 < k):Kw P g (ρ.t 9) k by' z:=
 ⟨hk,L.zc,Qdf L hF hk,E7 L hF hk,E6 L hF hk,Qfj L hF hk⟩
end Go.Am
namespace Go.Am
open Go.Shelf Go.RowKit Go.Lib Go.Proofs
variable {P:Program} {ρ:Ren}
def M3 (i k:Nat) (cs vs:ZE):ZE:=cs.take (i*k)++ vs ++ cs.drop (i*k)
def QdE {cur:Ze} {cs vs:ZE} {n m i k:Nat} (hi:i<=n) (hcl:cs.length=n*k) (hvl:vs.length=m*k) (hsz: (n+m)*k<=cur.size)
  (hcs: ∀(j:Nat) (v:Value),cs[j]? =some v->cur[j]? =some v) (j:Nat) (v:Value) (hj: (M3 i k cs vs)[j]? =some v):
  (Q0 (Q0 cur ((i+m)*k) (cs.drop (i*k))) (i*k) vs)[j]? =some v:=by
 have hnik: (n+m)*k=n*k+m*k:=ZT _ _ _;have him: (i+m)*k=i*k+m*k:=ZT _ _ _;have hik:i*k<=n*k:=Z5 _ hi;have hdl: (cs.drop (i*k)).length=n*k - i*k:=by rw[Ut,hcl]
 have h1: (Q0 cur ((i+m)*k) (cs.drop (i*k))).size=cur.size:=XI (by omega);have htl: (cs.take (i*k)).length=i*k:=by rw[Xf];omega
 rw[SC (by omega),SC (by omega)];unfold M3 at hj;rw[ZR]at hj;by_cases c1:j < i*k
 ·rw[Qn c1,Qn (by omega)];rw[ZM (by omega),WB c1]at hj;exact hcs j v hj
 ·rw[Qm c1];rw[YS (by omega),htl]at hj;by_cases c2:j < i*k+vs.length
  ·rw[Qn c2];rw[ZM (by omega)]at hj;exact hj
  ·rw[Qm c2,Qm (by omega)];rw[YS (by omega)]at hj;have hlt:j - i*k - vs.length < (cs.drop (i*k)).length:=by
    rcases QR (j - i*k - vs.length) (cs.drop (i*k)).length with h | h
    ·exact h
    ·rw[Q3 h]at hj;cases hj
   rw[Qn (by omega)];rw[show j - (i+m)*k=j - i*k - vs.length by omega];exact hj
def QfH {ROW zs:Ze} {cs vs:ZE} {n m i k:Nat} (hi:i<=n) (hcl:cs.length=n*k) (hvl:vs.length=m*k) (hR:ROW=(cs.take (i*k)).toArray ++ zs) (hsz: (n+m)*k<=ROW.size)
  (j:Nat) (v:Value) (hj: (M3 i k cs vs)[j]? =some v):
  (Q0 (Q0 ROW (i*k) vs) ((i+m)*k) (cs.drop (i*k)))[j]? =some v:=by
 have hnik: (n+m)*k=n*k+m*k:=ZT _ _ _;have him: (i+m)*k=i*k+m*k:=ZT _ _ _;have hik:i*k<=n*k:=Z5 _ hi;have hdl: (cs.drop (i*k)).length=n*k - i*k:=by rw[Ut,hcl]
 have h1: (Q0 ROW (i*k) vs).size=ROW.size:=XI (by omega);have htl: (cs.take (i*k)).length=i*k:=by rw[Xf];omega
 rw[SC (by omega),SC (by omega)];unfold M3 at hj;rw[ZR]at hj;by_cases c1:j < i*k
 ·rw[Qn (by omega),Qn c1];rw[ZM (by omega)]at hj;rw[hR,U7 (by simp;omega)];simpa using hj
 ·rw[YS (by omega),htl]at hj;by_cases c2:j < i*k+vs.length
  ·rw[Qn (by omega),Qm c1,Qn c2];rw[ZM (by omega)]at hj;exact hj
  ·rw[Qm (by omega)];rw[YS (by omega)]at hj;have hlt:j - i*k - vs.length < (cs.drop (i*k)).length:=by
    rcases QR (j - i*k - vs.length) (cs.drop (i*k)).length with h | h
    ·exact h
    ·rw[Q3 h]at hj;cases hj
   rw[Qn (by omega)];rw[show j - (i+m)*k=j - i*k - vs.length by omega];exact hj
def CM (w:World) (b:Nat) (N k:Nat) (fl:ZE) (e:Ending) (w':World):Prop:=
 ∃b' cap cur' t,e= .returned (.slice (some ⟨b',0,none⟩) N cap)/\N<=cap/\cap<=maxLen/\w'.heap[b']? =some (.cells cur' t (0,0))/\cur'.size=cap*k/\
  (∀(j:Nat) (v:Value),fl[j]? =some v->cur'[j]? =some v)/\w'.os=w.os/\w'.tape=w.tape/\w'.output=w.output/\
  ((b'=b/\w'.heap.size=w.heap.size)\/(b'=w.heap.size/\w'.heap.size=w.heap.size+1))/\∀x,x < w.heap.size->x≠b'->w'.heap[x]? =w.heap[x]?
def Rh (w:World) (x:Nat) (cs:Ze): (w.setRow x cs).heap.size=w.heap.size:=by simp[World.setRow]
def Tp (z:Ze) (k x:Nat) (h:z.size=k): (Builtin.zeroCells z x).size=x*k:=by simp[Builtin.zeroCells,h]
def Yy:=@List.take_of_length_le
def QN:=@List.append_nil
def KY:=@Array.size_push
def QiI {T:TypeId} {k by':Nat} {z:Value} {g:Nat} (L:Kw P g T k by' z) (b n c i vb voff m vc:Nat) (cur:Ze) (e:TypeId) (cs vs:ZE) (w:World) (hi:i<=n) (hm:0 < m) (hnc:n<=c) (hcm:c<=maxLen) (hvb:vb≠b)
  (hbig: (n+m)*by'<=140737488355328) (h63:n+m<=140737488355328)
  (hb:w.heap[b]? =some (.cells cur e (0,0))) (hcz:c*k=cur.size)
  (hcl:cs.length=n*k) (hvl:vs.length=m*k)
  (hcs: ∀(j:Nat) (v:Value),cs[j]? =some v->cur[j]? =some v)
  (hvs: ∀(j:Nat) (v:Value),vs[j]? =some v->w.cell? ⟨vb,voff+j,none⟩=some v) (h1c: ∀v∈cs,v.oneCell'=true) (h1v: ∀v∈vs,v.oneCell'=true):
  Calls P g #[.slice (some ⟨b,0,none⟩) n c,.int .i64 i,.slice (some ⟨vb,voff,none⟩) m vc] w (CM w b (n+m) k (M3 i k cs vs)):=by
 have hk:=L.hk;have hc63:c<=9223372036854775807:=by unfold maxLen at hcm;omega
 have hbl:b < w.heap.size:=by
  rcases QR b w.heap.size with h | h
  ·exact h
  ·rw[VI h]at hb;cases hb
 have hsz2: ∀x cs,(w.setRow x cs).heap.size=w.heap.size:=fun x cs=>by simp[World.setRow]
 have hnmk: (n+m)*k=n*k+m*k:=ZT _ _ _;have hG: ∀w:World,grownCap w (n+m) c T<=maxLen:=fun w=>grownCap_le_maxLen w _ c _ (by unfold maxLen;omega);by_cases hin:i=n
 ·subst hin;have htk:cs.take (i*k)=cs:=Yy (by omega);have hdk:cs.drop (i*k)=[]:=List.drop_of_length_le (by omega);have hfl:M3 i k cs vs=cs ++ vs:=by unfold M3;rw[htk,hdk,QN]
  by_cases hroom:i+m<=c
  ·have hck: (i+m)*k<=c*k:=Z5 _ hroom;refine(L.endRoom b i c vb voff m vc cur e vs w hm hroom hc63 hb (by omega) hvl hvs h1v).mono fun e2 w' ⟨he,hw⟩=> ?_;subst hw;refine⟨b,c,_,e,he,hroom,hcm,Wi hb,by rw[XI (by omega)];omega,fun j v hj=> ?_,rfl,rfl,rfl,.inl ⟨rfl,hsz2 _ _⟩,fun x _ hx=>setRow_other hx⟩;rw[hfl]at hj;rw[SC (by omega)];by_cases c1:j < i*k
   ·rw[Qn c1];rw[ZM (by omega)]at hj;exact hcs j v hj
   ·rw[Qm c1];rw[YS (by omega),hcl]at hj;have hlt:j - i*k < vs.length:=by
     rcases QR (j - i*k) vs.length with h | h
     ·exact h
     ·rw[Q3 h]at hj;cases hj
    rw[Qn (by omega)];exact hj
  ·refine(L.endGrow (some ⟨b,0,none⟩) i c vb voff m vc cs vs w hm hnc (by omega) hbig h63 hcl hvl (fun h=>by cases h) (fun a ha j v hj=>by
    injection ha with ha;subst ha;rw[Addr.add_lit,Zk];exact Uz hb (hcs j v hj)) hvs h1v).mono fun e2 w' ⟨he,hw⟩=> ?_
   subst hw;refine⟨w.heap.size,_,_,T,he,grownCap_ge w _ _ _,hG w,Mf,?_,fun j v hj=> ?_,rfl,rfl,rfl,.inr ⟨rfl,KY _⟩,fun x hx _=> ?_⟩
   ·have:=grownCap_ge w (i+m) c T;rw[Rm,Tp _ k _ L.zc,WD,Zo,hcl,hvl,<- ZT,<- ZT];congr 1;omega
   ·rw[hfl]at hj;have hlt:j < (cs ++ vs).length:=by
     rcases QR j (cs ++ vs).length with h | h
     ·exact h
     ·rw[Q3 h]at hj;cases hj
    rw[U7 (by simpa using hlt)];simpa using hj
   ·show(w.heap.push _)[x]? =_;rw[Mg hx,Wa hx]
 ·have hlt:i < n:=by omega
  by_cases hroom:n+m<=c
  ·have hck: (n+m)*k<=c*k:=Z5 _ hroom;refine(L.shift b n c i vb voff m vc cur e cs vs w hlt hm hroom hc63 hvb hb (by omega) hcl hvl hcs hvs h1c h1v).mono fun e2 w' ⟨he,hw⟩=> ?_;subst hw;have hik:i*k<=n*k:=Z5 _ hi;have him: (i+m)*k=i*k+m*k:=ZT _ _ _;have hdl: (cs.drop (i*k)).length=n*k - i*k:=by rw[Ut,hcl]
   have hs1: (Q0 cur ((i+m)*k) (cs.drop (i*k))).size=cur.size:=XI (by omega);refine⟨b,c,_,e,he,hroom,hcm,Wi (Wi (w:=w.drew) hb),by rw[XI (by omega),hs1];omega,QdE hi hcl hvl (by omega) hcs,rfl,rfl,rfl,.inl ⟨rfl,?_⟩,fun x _ hx=> ?_⟩
   ·rw[Rh,Rh];rfl
   ·rw[setRow_other hx,setRow_other (w:=w.drew) hx];rfl
  ·refine(L.grow b n c i vb voff m vc cs vs w hlt hm hnc (by omega) hbig h63 hc63 hcl hvl (fun j v hj=>Uz hb (hcs j v hj)) hvs h1c h1v).mono fun e2 w' ⟨he,ROW,hR,hw⟩=> ?_;subst hw;have hik:i*k<=n*k:=Z5 _ hi;have him: (i+m)*k=i*k+m*k:=ZT _ _ _;have hdl: (cs.drop (i*k)).length=n*k - i*k:=by rw[Ut,hcl]
   have htl: (cs.take (i*k)).length=i*k:=by rw[Xf];omega
   have hge:=grownCap_ge w (n+m) c T;have hsub: (n+m - i)*k=n*k+m*k - i*k:=by rw[K7,hnmk]
   have hRs:ROW.size=grownCap w (n+m) c T*k:=by
    rw[hR];simp only[Rm,Tp _ k _ L.zc,WD,htl];rw[<- ZT,<- ZT];congr 1;omega
   have hRk: (n+m)*k<=ROW.size:=by rw[hRs];exact Z5 _ hge
   have h0: (w.alloc (.cells ROW T)).heap[w.heap.size]? =some (.cells ROW T (0,0)):=Mf;have hs1: (Q0 ROW (i*k) vs).size=ROW.size:=XI (by omega);refine⟨w.heap.size,_,_,T,he,hge,hG w,Wi (w:=((w.alloc (.cells ROW T)).drew.setRow w.heap.size (Q0 ROW (i*k) vs)).drew) (Wi (w:=(w.alloc (.cells ROW T)).drew) h0),by rw[XI (by omega),hs1,hRs],
    QfH hi hcl hvl (by rw[hR,FM]) hRk,rfl,rfl,rfl,.inr ⟨rfl,?_⟩,fun x hx hx2=> ?_⟩
   ·rw[Rh]
    show((w.alloc (.cells ROW T)).drew.setRow w.heap.size (Q0 ROW (i*k) vs)).heap.size=_;rw[Rh];exact KY _
   ·rw[setRow_other hx2]
    show((w.alloc (.cells ROW T)).drew.setRow w.heap.size (Q0 ROW (i*k) vs)).heap[x]? =_;rw[setRow_other hx2]
    show(w.heap.push _)[x]? =_;rw[Mg hx,Wa hx]
end Go.Am
namespace Go.Am
open Go.Shelf Go.RowKit Go.Lib Go.Proofs
def PD (i sz n:Nat) (cs:Qh) (vs:Qa):Qh:=((cs.take (n*sz)).take (i*sz)++ vs.flatten ++ (cs.take (n*sz)).drop (i*sz)).map AV.strip
def Kh (g:Bool) (sz N:Nat) (fl:Qh) (bs:Qa):Option (AV×Qa):=
 if QY fl=true then(if g then some (.gs bs.length 0 sz N,bs ++ [fl])else some (.sl true sz (ZX fl 0 sz N),bs))else none
def M1 (g:Bool) (bytes sz:Nat):Qh->Qa->Option (AV×Qa)
 | [.gs id o sz1 n,.int .i64 i,.sl _ sz2 vs],bs=>
  if sz2=sz/\0 < sz/\vs≠[]/\0<=i/\i<=n/\(n+vs.length)*bytes<=140737488355328/\n+vs.length<=140737488355328 then
   (if sz1=0/\n=0 then Kh g sz vs.length (PD 0 sz 0 [] vs) bs
    else if sz1=sz/\o=0 then(bs[id]?).bind fun cs=>if cs≠[]/\n*sz<=cs.length then Kh g sz (n+vs.length) (PD i.toNat sz n cs vs) (bs.set id [])else none
    else none)
   else none
 | _,_=>none
section
variable {P:Program} {num:Nat->Option Nat} {β:List Blk} {w w':World} {m:Nat->Nat} {ν:Own}
def E8 [Dr] {Γ:YU} (hD: ¬Dr.d) {g:Bool} {sz N:Nat} {fl:Qh} {bs bs1 bs':Qa} {r:AV} {e:Ending} {flv:ZE} {b:Nat} (hsz:0 < sz) (hN:0 < N)
  (hr:Kh g sz N fl bs1=some (r,bs')) (hfl:fl.length=N*sz) (hflv: ∀(j:Nat) (c:AV),fl[j]? =some c->∃u,flv[j]? =some u/\u.oneCell'=true/\Qd num β w m c u)
  (hst: ∀c∈fl,c.strip=c)
  (hbox:RC num β w m ν bs) (hlt: ∀b p,ν b=some p->b < w.heap.size/\Γ.Gb<=b/\p.isG=true)
  (hmb:b < w.heap.size->m b=0/\∃id,ν b=some (.g id)/\bs1=bs.set id []) (hb1:bs1=bs\/∃id,bs1=bs.set id [])
  (hp:CM w b N sz flv e w'):TI num β bs' r w m ν e w':=by
 obtain⟨b',cap,cur',t,rfl,p1,p2,p3,p4,p5,p6,p7,p8,p9,p10⟩:=hp;have hb':b' < w'.heap.size:=by
  rcases QR b' w'.heap.size with h | h
  ·exact h
  ·rw[VI h]at p3;cases p3
 have hsize:w.heap.size<=w'.heap.size:=by omega
 have hold: (b'=b/\b < w.heap.size)\/w.heap.size<=b':=by
  rcases p9 with⟨h1,h2⟩ | ⟨h1,h2⟩
  ·left;exact⟨h1,by omega⟩
  ·right;omega
 have hm0:b' < w.heap.size->m b'=0:=fun h=>by
  rcases hold with⟨rfl,h1⟩ | h1
  ·exact(hmb h1).1
  ·omega
 let q:Nat:=if g then 0 else N*sz
 have hle:Le w m w' (m1 m b' q):=fun x i u h=>by
  obtain⟨g1,g2,g3⟩:=Wz h;have hx:x≠b':=fun e=>by subst e;have:=hm0 g3;omega
  unfold hg m1;rw[Qm hx,Qn g1];have:=p10 x g3 hx;obtain⟨cu,ee,ff,q1,q2⟩:=Vo g2;exact Uz (by rw[this];exact q1) q2
 have hstep:ZO (fun b=>∃p,ν b=some p) w m w' (m1 m b' q):=by
  refine⟨p6,p7,p8,hsize,fun x hx hX=> ?_,hle,fun h=>absurd h hD⟩;have hxb:x≠b':=fun e=>by
   subst e;rcases hold with⟨rfl,h1⟩ | h1
   ·obtain⟨_,id,h2,_⟩:=hmb h1;exact hX ⟨_,h2⟩
   ·omega
  exact⟨p10 x hx hxb,by unfold m1;rw[Qm hxb]⟩
 have hbs1: ∀(i:Nat) (cs:Qh),bs1[i]? =some cs->cs≠[]->bs[i]? =some cs/\∀k:Blk,β[i]? =some k->k.b≠b':=fun i cs h hne=>by
  have h1:bs[i]? =some cs:=by
   rcases hb1 with rfl | ⟨id,rfl⟩
   ·exact h
   ·rw[Y8]at h;split at h
    ·split at h
     ·injection h with h;exact absurd h.symm hne
     ·cases h
    ·exact h
  refine⟨h1,fun k hk e=> ?_⟩;have hν:=(QjJ (hbox.2 i cs k h1 hk hne)).1;have hkb:=(hlt _ _ hν).1;rcases hold with⟨h2,h3⟩ | h2
  ·obtain⟨_,id,h4,h5⟩:=hmb h3;rw[e,h2,h4]at hν;injection hν with hν
   injection hν with hν
   subst hν;rw[h5,Sj (by
    rcases QR id bs.length with h | h
    ·exact h
    ·rw[Q3 h]at h1;cases h1)]at h
   injection h with h
   exact hne h.symm
  ·omega
 have hblen:bs1.length=bs.length:=by rcases hb1 with rfl | ⟨id,rfl⟩ <;> simp
 have hcells: ∀(j:Nat) (c:AV),fl[j]? =some c->∃u,cur'[j]? =some u/\u.oneCell'=true/\Qd num β w' (m1 m b' q) c u:=fun j c hc=>by
  obtain⟨u,h1,h2,h3⟩:=hflv j c hc;exact⟨u,p5 j u h1,h2,Zc (Ge.refl β) hle c u h3⟩
 unfold Kh at hr;split at hr
 ·rename_i hgp;cases g
  ·-- published
   simp only[Z3,Zd,QD,QV]at hr;obtain⟨rfl,rfl⟩:=hr;have hq:q=N*sz:=rfl
   let ν':Own:=Yb ν b' .f
   have hkeep: ∀x p,ν x=some p->x≠b'->w'.heap[x]? =w.heap[x]? /\m1 m b' q x=m x/\ν' x=some p:=fun x p hx hxb=>
    ⟨p10 x (hlt x p hx).1 hxb,by unfold m1;rw[Qm hxb],by simp only[ν',Yb];rw[Qm hxb];exact hx⟩
   have hnotc: ∀x i j,ν x=some (.gc i j)->x≠b':=fun x i j hx e=>by
    subst e;rcases hold with⟨rfl,h1⟩ | h1
    ·obtain⟨_,id,h2,_⟩:=hmb h1;rw[h2]at hx;cases hx
    ·have:=(hlt _ _ hx).1;omega
   refine⟨_,m1 m b' q,β,ν',rfl,Ge.refl β,hstep,⟨by rw[hblen];exact hbox.1,fun i cs k h1 h2 hne=> ?_⟩,rfl,?_,?_,fun x p hx=> ?_⟩
   ·obtain⟨g1,g2⟩:=hbs1 i cs h1 hne;have hkb:=g2 k h2;refine Wm (Ge.refl β) hle (fun x hx=> ?_) (fun j x hx=>hkeep x _ hx (hnotc x _ _ hx)) (hbox.2 i cs k g1 h2 hne);have:x≠b':=fun e=>by
     subst e;rcases hold with⟨h3,h4⟩ | h4
     ·obtain⟨_,id,h5,h6⟩:=hmb h4;rw[h3,h5]at hx;injection hx with hx
      injection hx with hx
      subst hx;rw[h6,Sj (by
       rcases QR id bs.length with h | h
       ·exact h
       ·rw[Q3 h]at g1;cases g1)]at h1
      injection h1 with h1
      exact hne h1.symm
     ·have:=(hlt _ _ hx).1;omega
    exact hkeep x _ hx this
   ·simp only[Qd];refine⟨_,N,cap,rfl,WG _ _ _ _,p1,p2,.inr ⟨b',0,rfl,?_⟩⟩;rw[Xr];intro i x hx;obtain⟨hi,rfl⟩:=Sn hx;have hi2:i*sz+sz<=N*sz:=by rw[<- Vw];exact Z5 _ hi
    refine⟨by simp;omega,?_⟩;rw[ZQ];intro j c hc;obtain⟨d,hd,rfl⟩:=Zn hc;rw[VJ]at hd;split at hd
    ·rename_i hj;rw[XJ]at hd;obtain⟨u,r1,r2,r3⟩:=hcells _ d hd;refine⟨u,?_,r2,by rw[QU];exact r3⟩;unfold hg;rw[show m1 m b' q b'=N*sz by simp[m1,hq],Qn (by omega)];exact Uz p3 r1
    ·cases hd
   ·refine .inr ⟨b',cap,cur',t,by rw[WG],p3,p4,by rw[WG];simp[m1,hq],by simp[ν',Yb]⟩
   ·simp only[ν',Yb]at hx;split at hx
    ·rename_i e;injection hx with hx
     subst hx e;refine⟨hb',?_,.inr rfl⟩;rcases hold with⟨rfl,h1⟩ | h1
     ·obtain⟨_,id,h2,_⟩:=hmb h1;exact .inr ⟨_,h2⟩
     ·exact .inl h1
    ·have:=hlt x p hx;exact⟨by omega,.inr ⟨p,hx⟩,.inl this.2.2⟩
  ·-- a box
   simp only[Zl,QD,QV]at hr;obtain⟨rfl,rfl⟩:=hr;have hq:q=0:=rfl
   let ν':Own:=Yb ν b' (.g bs1.length)
   have hkeep: ∀x p,ν x=some p->x≠b'->w'.heap[x]? =w.heap[x]? /\m1 m b' q x=m x/\ν' x=some p:=fun x p hx hxb=>
    ⟨p10 x (hlt x p hx).1 hxb,by unfold m1;rw[Qm hxb],by simp only[ν',Yb];rw[Qm hxb];exact hx⟩
   have hnotc: ∀x i j,ν x=some (.gc i j)->x≠b':=fun x i j hx e=>by
    subst e;rcases hold with⟨rfl,h1⟩ | h1
    ·obtain⟨_,id,h2,_⟩:=hmb h1;rw[h2]at hx;cases hx
    ·have:=(hlt _ _ hx).1;omega
   have hge:Ge β (β ++ [⟨b',cur'.size,false,t⟩]):=Ge.append β _;have hk: (β ++ [(⟨b',cur'.size,false,t⟩:Blk)])[bs1.length]? =some ⟨b',cur'.size,false,t⟩:=by
    rw[hblen,<- hbox.1];exact YZ
   refine⟨_,m1 m b' q,β ++ [⟨b',cur'.size,false,t⟩],ν',rfl,hge,hstep,⟨by simp[hblen,hbox.1],fun i cs k h1 h2 hne=> ?_⟩,rfl,?_,trivial,fun x p hx=> ?_⟩
   ·rw[OD]at h1;split at h1
    ·rename_i hi;rw[ZM (by rw[hbox.1,<- hblen];exact hi)]at h2;obtain⟨g1,g2⟩:=hbs1 i cs h1 hne;refine Wm hge hle (fun x hx=> ?_) (fun j x hx=>hkeep x _ hx (hnotc x _ _ hx)) (hbox.2 i cs k g1 h2 hne);have:x≠b':=fun e=>by
      subst e;rcases hold with⟨h3,h4⟩ | h4
      ·obtain⟨_,id,h5,h6⟩:=hmb h4;rw[h3,h5]at hx;injection hx with hx
       injection hx with hx
       subst hx;rw[h6,Sj (by
        rcases QR id bs.length with h | h
        ·exact h
        ·rw[Q3 h]at g1;cases g1)]at h1
       injection h1 with h1
       exact hne h1.symm
      ·have:=(hlt _ _ hx).1;omega
     exact hkeep x _ hx this
    ·rename_i hi;have hi2:i=bs1.length:=by
      rcases QR i (bs1 ++ [fl]).length with h | h
      ·simp at h;omega
      ·exfalso;rw[Zo,Tu]at h;have: (bs1 ++ [fl])[i]? =some cs:=by rw[OD,Qm hi];exact h1
       rw[Q3 (by simpa using h)]at this;cases this
     subst hi2;simp only[Nat.sub_self,Zt,QD]at h1;subst h1;rw[hk]at h2;injection h2 with h2
     subst h2;refine⟨fun _=>⟨cur',t,p3,⟨rfl,by rw[hfl,p4];exact Z5 _ p1⟩,by simp[m1,hq],by simp[ν',Yb],fun j c hc=> ?_⟩,fun q=>(by cases q),fun _=>⟨cur',p3⟩⟩;obtain⟨u,r1,r2,r3⟩:=hcells j c hc;refine⟨u,r1,r2,Zc hge (Le.refl _ _) c u r3,?_⟩;rw[<- hst c (WC hc)];exact Yp _ _ _
   ·simp only[Qd];exact⟨_,cap,rfl,p1,p2,.inr ⟨_,⟨hk,rfl⟩,rfl,by simp[p4],hsz⟩⟩
   ·simp only[ν',Yb]at hx;split at hx
    ·rename_i e;injection hx with hx
     subst hx e;refine⟨hb',?_,.inl rfl⟩;rcases hold with⟨rfl,h1⟩ | h1
     ·obtain⟨_,id,h2,_⟩:=hmb h1;exact .inr ⟨_,h2⟩
     ·exact .inl h1
    ·have:=hlt x p hx;exact⟨by omega,.inr ⟨p,hx⟩,.inl this.2.2⟩
 ·cases hr
def OU {fl:Qh} (c:AV) (h:c∈fl.map AV.strip):c.strip=c:=by
 obtain⟨d,_,rfl⟩:=W8.1 h;exact LV d
def Qgk {vs:Qa} {a:UG} {sz:Nat} (hne:vs≠[]) (hsz:0 < sz) (h:vs=[]\/∃b o,a=some ⟨b,o,none⟩/\Y5 num β w m vs (hg w m b) o sz):
  ∃(vb voff:Nat) (vsv:ZE),a=some ⟨vb,voff,none⟩/\vsv.length=vs.length*sz/\(∀(j:Nat) (v:Value),vsv[j]? =some v->w.cell? ⟨vb,voff+j,none⟩=some v)/\(∀v∈vsv,v.oneCell'=true)/\0 < m vb/\
   ∀(j:Nat) (c:AV),(vs.flatten.map AV.strip)[j]? =some c->∃u,vsv[j]? =some u/\u.oneCell'=true/\Qd num β w m c u:=by
 rcases h with h | ⟨vb,voff,rfl,h⟩
 ·exact absurd h hne
 have hcells:=Se h hsz;have hget: ∀j,j < vs.length*sz->∃u,hg w m vb (voff+j)=some u/\w.cell? ⟨vb,voff+j,none⟩=some u/\u.oneCell'=true:=fun j hj=>by
  obtain⟨u,g1,g2⟩:=hcells j hj;exact⟨u,g1,(Wz g1).2.1,g2⟩
 let vsv:ZE:=(List.range (vs.length*sz)).map fun j=>(w.cell? ⟨vb,voff+j,none⟩).getD undef
 have hv: ∀(j:Nat) (v:Value),vsv[j]? =some v->j < vs.length*sz/\w.cell? ⟨vb,voff+j,none⟩=some v:=fun j v hj=>by
  have hlt:j < vs.length*sz:=by
   rcases QR j vsv.length with h | h
   ·simpa[vsv]using h
   ·rw[Q3 h]at hj;cases hj
  obtain⟨u,_,g2,_⟩:=hget j hlt;refine⟨hlt,?_⟩;simp only[vsv,Wb,OE hlt,QS,g2,Sg,QD]at hj;rw[g2,hj]
 refine⟨vb,voff,vsv,rfl,by simp[vsv],fun j v hj=>(hv j v hj).2,fun v hvm=> ?_,?_,fun j c hc=> ?_⟩
 ·obtain⟨j,hj⟩:=Sk hvm;obtain⟨h1,h2⟩:=hv j v hj;obtain⟨u,_,g2,g3⟩:=hget j h1;rw[h2]at g2;injection g2 with g2
  rw[g2];exact g3
 ·obtain⟨u,g1,_,_⟩:=hget 0 (Si (UH.2 hne) hsz);have:=(Wz g1).1;omega
 ·obtain⟨u,q1,q2,q3⟩:=Rk h j c hc;have hlt:j < vs.length*sz:=by
   rw[<- V1 h];rcases QR j (vs.flatten.map AV.strip).length with h | h
   ·exact h
   ·rw[Q3 h]at hc;cases hc
  have g2:=(Wz q1).2.1;refine⟨u,?_,q2,q3.1⟩;simp only[vsv,Wb,OE hlt,QS,g2,Sg]
def BB [Dr] {Γ:YU} (hD: ¬Dr.d) {T:TypeId} {k by':Nat} {z:Value} {id:Nat} {g:Bool} (L:Kw P id T k by' z):VF P num Γ (M1 g by' k) id:=by
 intro args bs r bs' hc hokv w m β ν vals hG hGb hvs hrep hbox hlt;unfold M1 at hc;split at hc
 ·rename_i bid o sz1 n i _ sz2 vs;split at hc
  ·rename_i hcond;obtain⟨hz2,hk,hne,hi0,hi1,hbig,h63⟩:=hcond;have hz2:=hz2.symm;subst hz2;obtain⟨u0,e0,r0⟩:=hrep 0 _ rfl;obtain⟨u1,e1,r1⟩:=hrep 1 _ rfl;obtain⟨u2,e2,r2⟩:=hrep 2 _ rfl;simp only[Qd]at r0 r1 r2;obtain⟨a0,c,rfl,q1,q2,q3⟩:=r0;subst r1;obtain⟨a2,mm,vc,rfl,s1,s2,s3,s4⟩:=r2;subst s1;obtain⟨vb,voff,vsv,rfl,t1,t2,t3,t4,t5⟩:=Qgk hne hk s4;have hmv:0 < vs.length:=UH.2 hne;obtain⟨i,rfl⟩: ∃j:Nat,i=j:=⟨i.toNat,by omega⟩;have hva:vals= #[.slice a0 n c,.int .i64 i,.slice (some ⟨vb,voff,none⟩) vs.length vc]:=by
    apply Array.ext
    ·simpa using hvs
    ·intro j h1 h2;simp at h2
     match j,h2 with
     | 0,_=>rw[Wa h1]at e0;injection e0
     | 1,_=>rw[Wa h1]at e1;injection e1
     | 2,_=>rw[Wa h1]at e2;injection e2
   subst hva;have hgrow:n=0->c=0->∀bs1,(bs1=bs\/∃id,bs1=bs.set id [])->Kh g k vs.length (PD 0 k 0 [] vs) bs1=some (r,bs')->
     Calls P id #[.slice a0 n c,.int .i64 i,.slice (some ⟨vb,voff,none⟩) vs.length vc] w (TI num β bs' r w m ν):=fun hn hc0 bs1 hb1 hr=>by
    subst hn hc0;obtain rfl:i=0:=by omega
    have hfe:PD 0 k 0 [] vs=vs.flatten.map AV.strip:=by simp[PD]
    refine(L.endGrow a0 0 0 vb voff vs.length vc [] vsv w hmv (ZJ _) (by omega) (by rw[Zk]at hbig ⊢;exact hbig) (by omega) (by simp) t1 (fun _=>⟨rfl,rfl⟩) (fun _ _ j v hj=>by simp at hj) t2 t3).mono fun e w' ⟨he,hw⟩=> ?_;subst hw;rw[hfe]at hr;have hflen: (vs.flatten.map AV.strip).length=vs.length*k:=by
     rcases s4 with s4 | ⟨b,o,_,s4⟩
     ·exact absurd s4 hne
     ·exact V1 s4
    refine E8 hD (b:=w.heap.size) (flv:=vsv) hk hmv hr hflen t5 (fun c hc=>OU c hc) hbox hlt (fun h=>by omega) hb1 ?_;have hge:=grownCap_ge w (0+vs.length) 0 T;refine⟨w.heap.size,_,_,T,by rw[he,Zk],by rw[Zk]at hge;exact hge,grownCap_le_maxLen w _ _ _ (by unfold maxLen;omega),Mf,?_,fun j v hj=> ?_,rfl,rfl,rfl,.inr ⟨rfl,KY _⟩,fun x hx _=> ?_⟩
    ·rw[Zk]at hge ⊢;rw[Rm,Tp _ k _ L.zc,WD,X3,t1,<- ZT];congr 1;omega
    ·have hl:j < vsv.length:=by
      rcases QR j vsv.length with h | h
      ·exact h
      ·rw[Q3 h]at hj;cases hj
     rw[U7 (by simpa using hl)];simpa using hj
    ·show(w.heap.push _)[x]? =_;rw[Mg hx,Wa hx]
   by_cases hz:sz1=0/\n=0
   ·rw[Qn hz]at hc;obtain⟨rfl,rfl⟩:=hz;have hc0:c=0:=by
     rcases q3 with q3 | ⟨_,_,_,_,h5⟩
     ·exact q3.2.1
     ·omega
    exact hgrow rfl hc0 bs (.inl rfl) hc
   ·rw[Qm hz]at hc;by_cases hz1:sz1=k/\o=0
    ·rw[Qn hz1]at hc;obtain⟨hz1,rfl⟩:=hz1;subst hz1;cases hbs:bs[bid]? with
     | none=>rw[hbs]at hc;cases hc
     | some cs=>
      rw[hbs]at hc;simp only[QC]at hc;by_cases hcs:cs≠[]/\n*sz1<=cs.length
      ·rw[Qn hcs]at hc;obtain⟨hcne,hcl⟩:=hcs;rcases q3 with⟨q3,q4,_⟩ | ⟨kb,q3,rfl,q4,_⟩
       ·subst q3 q4;refine hgrow rfl rfl (bs.set bid []) (.inr ⟨bid,rfl⟩) ?_;obtain rfl:i=0:=by omega
        rw[Zk]at hc;simpa[PD]using hc
       ·obtain⟨cur,e,p1,p2,p3,p4,p5⟩:=(hbox.2 bid cs kb hbs q3.1 hcne).1 q3.2;rw[Zk]at q4
        let csv:ZE:=cur.toList.take (n*sz1)
        have hnc:n*sz1<=cur.size:=by omega
        have hcsl:csv.length=n*sz1:=by simp[csv];omega
        have hcsg: ∀(j:Nat) (v:Value),csv[j]? =some v->cur[j]? =some v:=fun j v hj=>by
         simp only[csv,VJ]at hj;split at hj
         ·simpa using hj
         ·cases hj
        have hlow: ∀j,j < n*sz1->∃c u,cs[j]? =some c/\csv[j]? =some u/\u.oneCell'=true/\Qd num β w m c u:=fun j hj=>by
         have hj2:j < cs.length:=by omega
         obtain⟨u,g1,g2,g3,_⟩:=p5 j _ (Zv hj2);refine⟨_,u,Zv hj2,?_,g2,g3⟩;simp only[csv,VJ,Qn hj];simpa using g1
        have h1c: ∀v∈csv,v.oneCell'=true:=fun v hv=>by
         obtain⟨j,hj⟩:=Sk hv;have hjl:j < n*sz1:=by
          rcases QR j csv.length with h | h
          ·omega
          ·rw[Q3 h]at hj;cases hj
         obtain⟨_,u,_,g2,g3,_⟩:=hlow j hjl;rw[hj]at g2;injection g2 with g2
         rw[g2];exact g3
        have hvb:vb≠kb.b:=fun e=>by rw[e]at t4;omega
        have hbl:kb.b < w.heap.size:=(hlt _ _ p4).1;have hik:i*sz1<=n*sz1:=Z5 _ (by omega);have hnm: (n+vs.length)*sz1=n*sz1+vs.length*sz1:=ZT _ _ _;have hflen: (vs.flatten.map AV.strip).length=vs.length*sz1:=by
         rcases s4 with s4 | ⟨b,o,_,s4⟩
         ·exact absurd s4 hne
         ·exact V1 s4
        have hfe:PD i sz1 n cs vs=((cs.take (n*sz1)).take (i*sz1)).map AV.strip ++ vs.flatten.map AV.strip ++ ((cs.take (n*sz1)).drop (i*sz1)).map AV.strip:=by simp[PD]
        have hl1: (((cs.take (n*sz1)).take (i*sz1)).map AV.strip).length=i*sz1:=by simp;omega
        have hl3: (((cs.take (n*sz1)).drop (i*sz1)).map AV.strip).length=n*sz1 - i*sz1:=by simp;omega
        have hcv1: (csv.take (i*sz1)).length=i*sz1:=by rw[Xf];omega
        refine(QiI L kb.b n c i vb voff vs.length vc cur e csv vsv w (by omega) hmv q1 q2 hvb hbig h63 p1 (by omega) hcsl t1 hcsg t2 h1c t3).mono fun e2 w' hp=> ?_;refine E8 hD (b:=kb.b) hk (by omega) hc ?_ ?_ (fun c hc=>OU c hc) hbox hlt (fun _=>⟨p3,bid,p4,rfl⟩) (.inr ⟨bid,rfl⟩) hp
        ·simp only[OA,hfe,Zo,hl1,hflen,hl3];omega
        ·intro j c hj;simp only[OA,hfe]at hj;unfold M3;rw[ZR]at hj ⊢;by_cases c1:j < i*sz1
         ·rw[ZM (by omega)]at hj;rw[ZM (by omega)];obtain⟨d,hd,rfl⟩:=Zn hj;rw[WB c1,WB (by omega)]at hd;obtain⟨c',u,g1,g2,g3,g4⟩:=hlow j (by omega);rw[hd]at g1;injection g1 with g1
          subst g1;exact⟨u,by rw[WB c1];exact g2,g3,by rw[QU];exact g4⟩
         ·rw[YS (by omega),hl1]at hj;rw[YS (by omega),hcv1];by_cases c2:j - i*sz1 < vs.length*sz1
          ·rw[ZM (by omega)]at hj;rw[ZM (by omega)];exact t5 _ c hj
          ·rw[YS (by omega),hflen]at hj;rw[YS (by omega),t1];obtain⟨d,hd,rfl⟩:=Zn hj;rw[XJ]at hd;have hjl:i*sz1+ (j - i*sz1 - vs.length*sz1) < n*sz1:=by
            rcases QR (i*sz1+ (j - i*sz1 - vs.length*sz1)) (n*sz1)with h | h
            ·exact h
            ·rw[Q3 (by simp;omega)]at hd;cases hd
           rw[WB hjl]at hd;obtain⟨c',u,g1,g2,g3,g4⟩:=hlow _ hjl;rw[hd]at g1;injection g1 with g1
           subst g1;exact⟨u,by rw[XJ];exact g2,g3,by rw[QU];exact g4⟩
      ·rw[Qm hcs]at hc;cases hc
    ·rw[Qm hz1]at hc;cases hc
  ·cases hc
 ·cases hc
end
end Go.Am
namespace Go.Am
set_option maxRecDepth 20000
inductive Tm where
 | mk (k:Int) (n:List UInt8) (s:Int) (kids:List Tm)
def Tm.kind:Tm->Int | .mk k _ _ _=>k
def Tm.name:Tm->Qu | .mk _ n _ _=>n
def Tm.sort:Tm->Int | .mk _ _ s _=>s
abbrev Qe:=List Tm
def Tm.kids:Tm->Qe | .mk _ _ _ ks=>ks
def Tg (k:Int) (n:Qu) (s:Int) (ks:Qe): (Tm.mk k n s ks).kind=k:=rfl
def Z7 (k:Int) (n:Qu) (s:Int) (ks:Qe): (Tm.mk k n s ks).name=n:=rfl
def S1 (k:Int) (n:Qu) (s:Int) (ks:Qe): (Tm.mk k n s ks).sort=s:=rfl
def Zx (k:Int) (n:Qu) (s:Int) (ks:Qe): (Tm.mk k n s ks).kids=ks:=rfl
attribute [simp] Tg Z7 S1 Zx
def Tm.eta (t:Tm):Tm.mk t.kind t.name t.sort t.kids=t:=by cases t;rfl
def Yn {P:Tm->Prop} (h: ∀k n s ks,(∀x∈ks,P x)->P (.mk k n s ks)): ∀t,P t:=by
 intro t;refine Tm.rec (motive_1:=P) (motive_2:=fun ks=>∀x∈ks,P x) ?_ ?_ ?_ t
 ·intro k n s ks ih;exact h k n s ks ih
 ·intro x hx;cases hx
 ·intro t ts h1 h2 x hx;rcases List.mem_cons.1 hx with rfl | hx
  ·exact h1
  ·exact h2 x hx
mutual
def Qf:Tm->List AV
 | .mk k n s ks=>[.int .i64 k,.str n,.int .i64 s,.sl false 4 (Qb ks)]
def Qb:List Tm->List (List AV)
 | []=>[]
 | t:: ts=>Qf t:: Qb ts
end
def Zr (t:Tm):Qf t=[.int .i64 t.kind,.str t.name,.int .i64 t.sort,.sl false 4 (Qb t.kids)]:=by cases t;simp[Qf]
def YW (ts:Qe):Qb ts=ts.map Qf:=by
 induction ts with
 | nil=>simp[Qb]
 | cons t ts ih=>simp[Qb,ih]
def UW (ts:Qe): (Qb ts).length=ts.length:=by simp[YW]
def MP (ts:Qe) (i:Nat): (Qb ts)[i]? =(ts[i]?).map Qf:=by simp[YW]
def ZB (a b:Qe):Qb a ++ Qb b=Qb (a ++ b):=by simp[YW]
def Np (a:Qe) (n:Nat): (Qb a).take n=Qb (a.take n):=by simp[YW]
def Nn (a:Qe) (n:Nat): (Qb a).drop n=Qb (a.drop n):=by simp[YW]
def ZV (t:Tm): [Qf t]=Qb [t]:=by simp[Qb]
def XF (t:Tm): (Qf t).length=4:=by simp[Zr]
def Z6 (t:Tm): (Qf t).map AV.strip=Qf t:=by simp[Zr,AV.strip]
def Qk (t:Tm): (Qf t).take 4=Qf t:=by simp[Zr]
def IU (t:Tm): (Qf t).drop 4=[]:=by simp[Zr]
def QcT (t:Tm): (Qf t)[0]? =some (.int .i64 t.kind):=by simp[Zr]
def QcU (t:Tm): (Qf t)[1]? =some (.str t.name):=by simp[Zr]
def QcV (t:Tm): (Qf t)[2]? =some (.int .i64 t.sort):=by simp[Zr]
def QcW (t:Tm): (Qf t)[3]? =some (.sl false 4 (Qb t.kids)):=by simp[Zr]
def Bn (t:Tm) (h:0 < (Qf t).length): (Qf t)[0]= .int .i64 t.kind:=by simp[Zr]
def Bo (t:Tm) (h:1 < (Qf t).length): (Qf t)[1]= .str t.name:=by simp[Zr]
def Bp (t:Tm) (h:2 < (Qf t).length): (Qf t)[2]= .int .i64 t.sort:=by simp[Zr]
def Bq (t:Tm) (h:3 < (Qf t).length): (Qf t)[3]= .sl false 4 (Qb t.kids):=by simp[Zr]
mutual
theorem Lr: ∀t:Tm,QY (Qf t)=true
 | .mk k n s ks=>by simp[Qf,QY,AV.gpfree,XT ks]
theorem XT: ∀ts:List Tm,Zw (Qb ts)=true
 | []=>by simp[Qb,Zw]
 | t:: ts=>by simp[Qb,Zw,Lr t,XT ts]
end
def UV (k:Int) (n:Qu) (s:Int) (ks:Qe): [AV.int .i64 k,.str n,.int .i64 s,.sl false 4 (Qb ks)]=Qf (.mk k n s ks):=by simp[Qf]
attribute [simp] UW MP XF Z6 Qk IU QcT QcU QcV QcW Bn Bo Bp Bq Lr XT
attribute [simp] Int.toNat_natCast
mutual
def Tm.nodes:Tm->Nat
 | .mk _ _ _ ks=>1+QB ks
def QB:List Tm->Nat
 | []=>0
 | t:: ts=>t.nodes+QB ts
end
mutual
def Tm.mass:Tm->Nat
 | .mk _ n _ ks=>1+n.length+ks.length+Qt ks
def Qt:List Tm->Nat
 | []=>0
 | t:: ts=>t.mass+Qt ts
end
mutual
def Tm.depth:Tm->Nat
 | .mk _ _ _ ks=>Y9 ks+1
def Y9:List Tm->Nat
 | []=>0
 | t:: ts=>max t.depth (Y9 ts)
end
def QF (t:Tm):t.mass=1+t.name.length+t.kids.length+Qt t.kids:=by cases t;simp[Tm.mass]
def Wg (t:Tm):t.nodes=1+QB t.kids:=by cases t;simp[Tm.nodes]
def Nl (t:Tm):t.depth=Y9 t.kids+1:=by cases t;simp[Tm.depth]
def Q4 {x:Tm}: ∀{ks:Qe},x∈ks->x.mass<=Qt ks
 | [],h=>by cases h
 | t:: ts,h=>by
  simp only[Qt];rcases List.mem_cons.1 h with rfl | h
  ·omega
  ·have:=Q4 h;omega
def Jg {x:Tm}: ∀{ks:Qe},x∈ks->x.depth<=Y9 ks
 | [],h=>by cases h
 | t:: ts,h=>by
  simp only[Y9];rcases List.mem_cons.1 h with rfl | h
  ·omega
  ·have:=Jg h;omega
def Vr (a b:Qe):Qt (a ++ b)=Qt a+Qt b:=by
 induction a with
 | nil=>simp[Qt]
 | cons t ts ih=>simp[Qt,ih];omega
def XO (a b:Qe):QB (a ++ b)=QB a+QB b:=by
 induction a with
 | nil=>simp[QB]
 | cons t ts ih=>simp[QB,ih];omega
mutual
theorem Yx: ∀t:Tm,t.nodes<=t.mass
 | .mk _ _ _ ks=>by simp only[Tm.nodes,Tm.mass];have:=YP ks;omega
theorem YP: ∀ts:List Tm,QB ts<=Qt ts
 | []=>by simp[QB,Qt]
 | t:: ts=>by simp only[QB,Qt];have:=Yx t;have:=YP ts;omega
end
mutual
theorem OR: ∀t:Tm,t.depth<=t.nodes
 | .mk _ _ _ ks=>by simp only[Tm.nodes,Tm.depth];have:=UJ ks;omega
theorem UJ: ∀ts:List Tm,Y9 ts<=QB ts
 | []=>by simp[QB,Y9]
 | t:: ts=>by simp only[QB,Y9];have:=OR t;have:=UJ ts;omega
end
def Ig (a b:Int): (a == b)=decide (a=b):=by by_cases h:a=b <;> simp[h]
def Ih (a b:Int): (a != b)= !decide (a=b):=by by_cases h:a=b <;> simp[h]
attribute [local simp] Ig Ih
def Qx {α:Type} {ks pre post:List α} {x:α} (h:ks=pre ++ x:: post):ks[pre.length]? =some x:=by subst h;simp
def big:Nat:=1099511627776
def sgn (a b:Int):Int:=if a < b then -1 else if a > b then 1 else 0
def Wy (a b:Qu):Int:=if Op.bytesLess a b then -1 else if a == b then 0 else 1
def or0 (c d:Int):Int:=if c=0 then d else c
def Tl (d:Int):or0 0 d=d:=rfl
def HQ (c:Int):or0 c 0=c:=by unfold or0;split <;> simp_all
def Sv {c:Int} (h:c≠0) (d:Int):or0 c d=c:=by simp[or0,h]
def S5 {a b:Int}:or0 a b=0↔a=0/\b=0:=by unfold or0;split <;> simp_all
def hdT (t u:Tm):Int:=or0 (sgn t.nodes u.nodes) (or0 (sgn t.kind u.kind) (or0 (Wy t.name u.name) (or0 (sgn t.sort u.sort) (sgn t.kids.length u.kids.length))))
mutual
def Qp:Tm->Tm->Int
 | .mk k n s ks,u=>or0 (hdT (.mk k n s ks) u) (Xs ks u.kids)
def Xs:List Tm->List Tm->Int
 | [],_=>0
 | _:: _,[]=>0
 | t:: ts,u:: us=>or0 (Qp t u) (Xs ts us)
end
def SQ (t u:Tm):Qp t u=or0 (hdT t u) (Xs t.kids u.kids):=by cases t;simp[Qp]
def PR {a b:Int}:sgn a b=0↔a=b:=by unfold sgn;split <;> (try split) <;> omega
mutual
def EF:AV->Option (List Tm)
 | .sl _ 4 xs=>Uk xs
 | _=>none
def MM:List AV->Option Tm
 | [.int .i64 k,.str n,.int .i64 s,x]=>(EF x).map fun ks=> .mk k n s ks
 | _=>none
def Uk:List (List AV)->Option (List Tm)
 | []=>some []
 | x:: xs=>match MM x,Uk xs with
  | some t,some ts=>some (t:: ts)
  | _,_=>none
end
mutual
theorem QeS: ∀t:Tm,MM (Qf t)=some t
 | .mk k n s ks=>by simp only[Qf,MM,EF,Ka ks,Option.map_some]
theorem Ka: ∀ts:List Tm,Uk (Qb ts)=some ts
 | []=>by simp only[Qb,Uk]
 | t:: ts=>by simp only[Qb,Uk,QeS t,Ka ts]
end
def TL (t:Tm):Qe->Qe
 | []=>[t]
 | x:: xs=>if Qp x t < 0 then x:: TL t xs else t:: x:: xs
def Y6:Qe->Qe
 | []=>[]
 | t:: ts=>TL t (Y6 ts)
def NN:Qh->Qa->Option (AV×Qa)
 | [.gs id o sz n,.fn 30 []],bs=>if n=0 then some (.tup [],bs)else if sz=4/\n < 4611686018427387904 then(bs[id]?).bind fun cs=>
   if o+n*4<=cs.length then(Uk (ZX cs o 4 n)).bind fun ts=>if ts.all (fun t=>decide (t.mass < big))then some (.tup [],bs.set id (put cs o (Qb (Y6 ts)).flatten))else none else none
   else none
 | _,_=>none
end Go.Am
namespace Go.Am
def JP:Qh->WU
 | [.str s,.str cs]=>if(cs.all (· < 128) && decide (s.length < 4294967281) && decide (cs.length < 4294967281))=true then some (.str (Lib.trimS s cs))else none
 | _=>none
def Lt (bytes sz:Nat):Qh->Qa->Option (AV×Qa)
 | [.gs _ _ 0 0,.int .i64 n],bs=>if 0<=n/\n.toNat* bytes<=140737488355328/\n<=4611686018427387904 then some (.sl true sz [],bs)else none
 | _,_=>none
end Go.Am
namespace Go.Am
def AH:Qh->WU
 | [.str s,.str [c]]=>some (.int .i64 (s.count c:Nat))
 | _=>none
def ixO:Qh->WU
 | [.str s,.str t]=>if s.length < 4294967281 then some (.int .i64 (Lib.index s t))else none
 | _=>none
abbrev QJ:=List Int
def Kg (x:Int):QJ->QJ
 | []=>[x]
 | y:: l=>if x<=y then x:: y:: l else y:: Kg x l
def SE:QJ->QJ
 | []=>[]
 | x:: l=>Kg x (SE l)
def Ss:Qh->Option QJ
 | []=>some []
 | .int .i64 n:: r=>(Ss r).map (n:: ·)
 | _=>none
def HL:Qh->Qa->Option (AV×Qa)
 | [.gs id o sz n],bs=>if n=0 then some (.tup [],bs)else if sz=1/\n < 4611686018427387904 then(bs[id]?).bind fun cs=>
   if o+n<=cs.length then(Ss ((cs.drop o).take n)).map fun zs=>(.tup [],bs.set id (put cs o ((SE zs).map (AV.int .i64))))else none
   else none
 | _,_=>none
end Go.Am
