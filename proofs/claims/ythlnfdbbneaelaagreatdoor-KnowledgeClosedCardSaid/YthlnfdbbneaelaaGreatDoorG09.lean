/-
  Ins1, Ins2, Ins3, Am28, AmT, AmO.
-/
import Derived.Shelf.Spec.SlicesInsertGrow
import Derived.Test.YthlnfdbbneaelaaGreatDoorG07
import Derived.Test.YthlnfdbbneaelaaGreatDoorG00
import Derived.Lib.SlTrimSet
import Derived.Lib.Bytealg
set_option linter.all false
namespace Go.Am
open Go.Shelf Go.RowKit Go.Lib Go.Proofs
variable {P:Program} {ρ:Ren}
def Q6 (cur:Vw) (o:Nat) (cs:WM):Vw:=(cur.toList.take o ++ cs ++ cur.toList.drop (o+cs.length)).toArray
def Wr {a o b} (h:o+b.length<=a.size): (Q6 a o b).size=a.size:=by
 simp[Q6];omega
def PM {a o b} (h:o+b.length<=a.size) (j):
  (Q6 a o b)[j]? =if j < o then a[j]? else if j < o+b.length then b[j - o]? else a[j]? :=by
 simp only[Q6,S2];have d: (a.toList.take o).length=o:=by simp;omega
 by_cases c:j < o;rw[Qe c,ZX,Y3 (by omega),VV c,Gh];rw[Qb c];by_cases e:j < o+b.length;rw[Qe e,ZX,Yq (by omega),d,Y3 (by omega)];rw[Qb e,Yq (by simp;omega),Vf];have:o+b.length+ (j - (a.toList.take o ++ b).length)=j:=by simp only[Zl,d];omega
 rw[this,Gh]
def WH (w s t B b k g o c m a d p f e h)
  (z:P.underlying s=some (.slice b)) (r: (P.info? b).map (·.size)=some k) (A:w.heap[g]? =some (.cells f e (0,0))) (u:h.length=Nat.min d c*k)
  (n: ∀j v,h[j]? =some v->w.cell? (a.add j)=some v) (y:o+h.length<=f.size) (x: ∀v∈h,v.oneCell'=true):
  (Builtin.copy_ #[s,t] B #[.slice (some ⟨g,o,none⟩) c m,.slice (some a) d p]).run P w= .ok (goInt (Nat.min d c)) (w.setRow g (Q6 f o h)):=by
 have l:=run_storeCells_at (P:=P) g o e h 0 f w A (by simpa using y) x;simp only[Pn]at l;rcases q:P.info? b with _ | i;simp[q]at r;simp[Builtin.copy_,run_underlying z,Builtin.lenOf,Builtin.firstCells,sizeOf,typeInfo,q,(by simpa[q]using r),<- u,(run_loadCells_list (P:=P) w a h n),l,Q6]
def MB (w l J e) (E:P.underlying l=some (.slice e)) (c) (B: ∀w,(Go.sizeOf e).run P w= .ok c w)
  (a b n K p I) (k:a.block≠b.block) {d f D A L}
  (H:w.heap[a.block]? =some (.cells d D L)) (q:w.heap[b.block]? =some (.cells f A (0,0))) (G:d.size≠0) (u:f.size≠0):
  (Extern.SlicesOverlaps.overlaps #[l,l] #[J] #[.slice (some a) n K,.slice (some b) p I]).run P w= .ok (.bool false) w:=by
 have h:w.shape? a.block=some (D,d.size):=by simp[World.shape?,H]
 have i:w.shape? b.block=some (A,f.size):=by simp[World.shape?,q]
 have x: ∀o s,w.frozen? ⟨b.block,o,s⟩=false:=fun o s=>by simp[World.frozen?,q]
 have j:w.frozen? b=false:=by simp[World.frozen?,q]
 change Sem.run P (α:=Value) (do
  let some t:=(#[l,l]:Array TypeId)[0]? | stuck "slices.overlaps: no parameter types"
  let .slice g <- underlying t | stuck "slices.overlaps: slice type expected"
  let c <- sizeOf g
  match (some a:Option Addr),(some b:Option Addr)with
  | some a,some b=>
   if n=0\/p=0\/c=0 then pure (Value.bool false)
   else if a.block != b.block && (<- frozen a) && (<- frozen b)then unsupported .addressObserved
   else do
    if a.block != b.block then do
     noView a;noView b
     if <- mayBeOne a b then return Value.bool ((<- choose (.extern "sameAddr.stringBytes" 2)) == 1)
    pure (Value.bool (a.block == b.block && a.off < b.off+p*c && b.off < a.off+n*c))
  | _,_=>pure (Value.bool false)) w=_
 by_cases C:n=0\/p=0\/c=0
 ·simp[run_underlying E,B,C]
 ·cases z:f.size with
  | zero=>exact absurd z u
  | succ M=>
   rw[z]at i;obtain⟨r,m⟩: ∃r,d.size=r+1:=⟨d.size - 1,by omega⟩;rw[m]at h;cases v:w.frozen? a <;> cases y:w.frozen? ⟨a.block,r+1,none⟩ <;>
   simp[run_underlying E,B,C,(by simpa using k),(by simpa using k),frozen,noView,viewAt,mayBeOne,stringish,shape,Sem.run,h,i,x,j,v,y]
structure R8 (P:Program) (ρ:Ren) (F:Func) (k by':Nat) (z:Value):Prop where
 mixed:P.follows .mixedOrders=true
 body:F.body=(Body2.n22 ρ).body
 ntmps:F.ntmps=95
 res:F.results= #[.tmp 6]
 f29: ∀(args:Array Value) (w:World),(callFunc (ρ.f 29) args).run P w=((Extern.SlicesOverlaps.overlaps #[(ρ.t 24),(ρ.t 24)] #[(ρ.t 4)] args).run P w).andThen fun v w'=> .ok (.value v) w'
 t0:P.underlying (ρ.t 0)=some (TypeDesc.tuple #[])
 t3:P.underlying (ρ.t 3)=some (TypeDesc.int IntKind.i64)
 a3: ∀w,(isAgg (ρ.t 3)).run P w= .ok false w
 z3: ∀w,(Go.sizeOf (ρ.t 3)).run P w= .ok 1 w
 t4:P.underlying (ρ.t 4)=some (TypeDesc.bool)
 a4: ∀w,(isAgg (ρ.t 4)).run P w= .ok false w
 z4: ∀w,(Go.sizeOf (ρ.t 4)).run P w= .ok 1 w
 z9: ∀w,(Go.sizeOf (ρ.t 9)).run P w= .ok k w
 t24:P.underlying (ρ.t 24)=some (TypeDesc.slice (ρ.t 9))
 a24: ∀w,(isAgg (ρ.t 24)).run P w= .ok false w
 z24: ∀w,(Go.sizeOf (ρ.t 24)).run P w= .ok 1 w
 i9: (P.info? (ρ.t 9)).map (fun i=>(i.zero,i.size,i.bytes))=some (some z,k,by')
 zc:z.cells.size=k
def R8.sz {F k a z} (L:R8 P ρ F k a z): (P.info? (ρ.t 9)).map (·.size)=some k:=by
 obtain⟨i,d,g,e,h⟩:=info_parts L.i9;rw[d];simp[e]
def QdP (n i m) (a:i<=n):Nat.min (n+m - i) (n+m - (i+m))=n - i:=by simp only[Nat.min_def];split <;> omega
def Oj (m x) (h:m<=x):Nat.min m x=m:=by simp only[Nat.min_def];split <;> omega
def Ug {w:World} {b j v} (h:w.cell? ⟨b,j,none⟩=some v): ∃a e c,w.heap[b]? =some (.cells a e c)/\a[j]? =some v:=by
 simp only[World.cell?]at h;split at h;rename_i a e c d;exact⟨_,_,_,d,h⟩;cases h
def TQ {w:World} {b j v a e c} (h:w.heap[b]? =some (.cells a e c)) (d:a[j]? =some v):w.cell? ⟨b,j,none⟩=some v:=by
 unfold World.cell?;rwa[h]
def setRow_other {w:World} {b x a} (h:x≠b): (w.setRow b a).heap[x]? =w.heap[x]? :=by
 simp only[World.setRow,Pf];split;rename_i e;exact absurd e.symm h;rfl
def W4 {w:World} {b a d e c} (h:w.heap[b]? =some (.cells a e c)): (w.setRow b d).heap[b]? =some (.cells d e c):=by
 simp[World.setRow,Pf,h]
def GO:=@Nat.sub_mul
def Gj:=@Array.replicate_succ
def Gk:=@Array.replicate_zero
def Gu:=@List.push_toArray
def Gp:=@List.append_toArray
def Xg:=@List.nil_append
def XQ:=@List.cons_append
set_option maxHeartbeats 4000000 in
set_option maxRecDepth 100000 in
def QiY {F:Func} {k by':Nat} {z:Value} {g:Nat} (L:R8 P ρ F k by' z) (hF:P.funcs[g]? =some F) (hk:0 < k) (b n c i vb voff m vc:Nat) (cur:Vw) (e:TypeId) (cs vs:WM) (w:World) (hi:i < n) (hm:0 < m) (hroom:n+m<=c) (hc63:c<=9223372036854775807) (hvb:vb≠b)
  (hb:w.heap[b]? =some (.cells cur e (0,0))) (hcz:c*k<=cur.size)
  (hcl:cs.length=n*k) (hvl:vs.length=m*k)
  (hcs: ∀(j:Nat) (v:Value),cs[j]? =some v->cur[j]? =some v)
  (hvs: ∀(j:Nat) (v:Value),vs[j]? =some v->w.cell? ⟨vb,voff+j,none⟩=some v) (h1c: ∀v∈cs,v.oneCell'=true) (h1v: ∀v∈vs,v.oneCell'=true):
  Calls P g #[.slice (some ⟨b,0,none⟩) n c,.int .i64 i,.slice (some ⟨vb,voff,none⟩) m vc] w fun e' w'=>
   e'= .returned (.slice (some ⟨b,0,none⟩) (n+m) c)/\w'=(w.drew.setRow b (Q6 cur ((i+m)*k) (cs.drop (i*k)))).setRow b (Q6 (Q6 cur ((i+m)*k) (cs.drop (i*k))) (i*k) vs):=by
 have t0:=L.t0;have t3:=L.t3;have a3:=L.a3;have z3:=L.z3;have t4:=L.t4;have a4:=L.a4;have z4:=L.z4;have z9:=L.z9;have t24:=L.t24;have a24:=L.a24;have z24:=L.z24;have u0:=run_underlying L.t0;have u3:=run_underlying L.t3;have u4:=run_underlying L.t4;have u24:=run_underlying L.t24;have hz1: ¬((m:Int)=0):=by omega
 have hz2: ¬((i:Int)=(n:Int)):=by omega
 have hsz:=L.sz;have hnik: (n+m)*k=n*k+m*k:=Yk _ _ _;have him: (i+m)*k=i*k+m*k:=Yk _ _ _;have hik:i*k<=n*k:=Yy _ (by omega);have hck: (n+m)*k<=c*k:=Yy _ hroom;have hmk:0 < m*k:=TK hm hk;have hsub: (n - i)*k=n*k - i*k:=GO _ _ _;have hdl: (cs.drop (i*k)).length=n*k - i*k:=by rw[U5,hcl]
 obtain⟨cv,ev,fv,hvh,hv0⟩:=Ug (hvs 0 _ (Q0 (by omega)));have hcvz:cv.size≠0:=fun h0=>by rw[Pd (by omega)]at hv0;cases hv0
 have hov: ∀lb cb,(callFunc (ρ.f 29) #[.slice (some ⟨vb,voff,none⟩) m vc,.slice (some ⟨b,(i+m)*k,none⟩) lb cb]).run P w= .ok (.value (.bool false)) w:=fun lb cb=>by rw[L.f29,MB w (ρ.t 24) (ρ.t 4) (ρ.t 9) L.t24 k L.z9 ⟨vb,voff,none⟩ ⟨b,(i+m)*k,none⟩ m vc lb cb hvb hvh hb hcvz (by omega)];rfl
 have mixed:=L.mixed;have hw1:IntKind.i64.wrap ((i:Int)+ (m:Int))=(i:Int)+ (m:Int):=by rw[IntKind.wrap_i64];omega
 have hb1: (0:Int)<=(i:Int)+ (m:Int):=by omega
 have hin:i<=n:=by omega
 have htn: ((i:Int)+ (m:Int)).toNat=i+m:=by omega
 have hb2: ¬(c=i+m):=by omega
 have hb3: (i:Int)<=(n:Int)+ (m:Int):=by omega
 have hb4: ¬(c=i):=by omega
 have hcp1: ∀ty dc sc,(Builtin.copy_ #[(ρ.t 24),(ρ.t 24)] ty #[.slice (some ⟨b,(i+m)*k,none⟩) (n+m - (i+m)) dc,.slice (some ⟨b,i*k,none⟩) (n+m - i) sc]).run P w.drew= .ok (goInt (Nat.min (n+m - i) (n+m - (i+m)))) (w.drew.setRow b (Q6 cur ((i+m)*k) (cs.drop (i*k)))):=fun ty dc sc=>WH w.drew _ _ ty (ρ.t 9) k b ((i+m)*k) (n+m - (i+m)) dc ⟨b,i*k,none⟩ (n+m - i) sc cur e (cs.drop (i*k)) L.t24 hsz hb (by rw[QdP n i m hin,hdl,hsub]) (fun j v hj=>by rw[Addr.add_lit];have:=hcs (i*k+j) v (by rwa[Vf]at hj);exact TQ (w:=w.drew) hb this) (by omega) (fun v hv=>h1c v (List.mem_of_mem_drop hv));obtain⟨cur1,hcur1⟩: ∃cur1,cur1=Q6 cur ((i+m)*k) (cs.drop (i*k)):=⟨_,rfl⟩;obtain⟨W1,hW1⟩: ∃W1,W1=w.drew.setRow b (Q6 cur ((i+m)*k) (cs.drop (i*k))):=⟨_,rfl⟩;have hbW:W1.heap[b]? =some (.cells cur1 e (0,0)):=by rw[hW1,hcur1];exact W4 (w:=w.drew) hb
 have hvW:W1.heap[vb]? =some (.cells cv ev fv):=by rwa[hW1,setRow_other (w:=w.drew) hvb]
 have hs1:cur1.size=cur.size:=by rw[hcur1,Wr (by omega)]
 have hcp2: ∀(W:World),W.heap=W1.heap->∀ty dc,(Builtin.copy_ #[(ρ.t 24),(ρ.t 24)] ty #[.slice (some ⟨b,i*k,none⟩) (n+m - i) dc,.slice (some ⟨vb,voff,none⟩) m vc]).run P W= .ok (goInt (Nat.min m (n+m - i))) (W.setRow b (Q6 cur1 (i*k) vs)):=fun W hWc ty dc=>WH W _ _ ty (ρ.t 9) k b (i*k) (n+m - i) dc ⟨vb,voff,none⟩ m vc cur1 e vs L.t24 hsz (by rwa[hWc]) (by rw[hvl,Oj m (n+m - i) (by omega)]) (fun j v hj=>by rw[Addr.add_lit];have:=hvs j v hj;refine TQ (w:=W) (by rwa[hWc]) ?_;obtain⟨_,_,_,q1,q2⟩:=Ug this;rw[hvh]at q1;injection q1 with q1;injection q1 with q1;rw[q1];exact q2) (by omega) h1v;rw[<- hW1]at hcp1;rw[<- hcur1];have hbody:=L.body;have hnt:=L.ntmps;have hres:=L.res;clear hcs hvs hnik him hik hsub hdl hbW hvW hs1 hck hcz hvh hb hv0 hcvz;refine calls_of_wp hF hbody ?_;simp only[hnt,VW,ZH,Xy,Nat.reduceAdd,Nat.reduceSub,Gj,Gk,Gu,Gp,Xg,XQ];go_wp2_with (simp only[hov]);go_region_law_o (refine step_copy_runI rfl _ _ (ρ.t 24) (ρ.t 24) rfl _ _ (by simp[Act.eval,Act.put]) (by simp[Act.eval,Act.put]) (hcp1 _ _ _) ?_);go_wp2_with (at_builtin;refine wpList_copy_runI _ rfl _ _ (ρ.t 24) (ρ.t 24) rfl _ _ rfl rfl (hcp2 _ rfl _ _) ?_);refine bodyPost_ret (results_tmp hres _ _ _) rfl ?_;exact⟨rfl,by rw[hcur1]⟩
end Go.Am
namespace Go.Am
open Go.Shelf Go.RowKit Go.Lib Go.Proofs
variable {P:Program} {ρ:Ren}
def Hid (p:Prop):Prop:=p
set_option maxHeartbeats 4000000 in
set_option maxRecDepth 100000 in
def Qah {F:Func} {k by':Nat} {z:Value} {g:Nat} (L:R8 P ρ F k by' z) (hF:P.funcs[g]? =some F) (hk:0 < k) (b n c vb voff m vc:Nat) (cur:Vw) (e:TypeId) (vs:WM) (w:World) (hm:0 < m) (hroom:n+m<=c) (hc63:c<=9223372036854775807)
  (hb:w.heap[b]? =some (.cells cur e (0,0))) (hcz:c*k<=cur.size) (hvl:vs.length=m*k)
  (hvs: ∀(j:Nat) (v:Value),vs[j]? =some v->w.cell? ⟨vb,voff+j,none⟩=some v) (h1v: ∀v∈vs,v.oneCell'=true):
  Calls P g #[.slice (some ⟨b,0,none⟩) n c,.int .i64 n,.slice (some ⟨vb,voff,none⟩) m vc] w fun e' w'=>
   e'= .returned (.slice (some ⟨b,0,none⟩) (n+m) c)/\w'=w.setRow b (Q6 cur (n*k) vs):=by
 have t0:=L.t0;have t3:=L.t3;have a3:=L.a3;have z3:=L.z3;have t4:=L.t4;have a4:=L.a4;have z4:=L.z4;have z9:=L.z9;have t24:=L.t24;have a24:=L.a24;have z24:=L.z24;have u0:=run_underlying L.t0;have u3:=run_underlying L.t3;have u4:=run_underlying L.t4;have u24:=run_underlying L.t24;have hz1: ¬((m:Int)=0):=by omega
 have mixed:=L.mixed;have hck: (n+m)*k<=c*k:=Yy _ hroom;have hnik: (n+m)*k=n*k+m*k:=Yk _ _ _;obtain⟨i0,hi0,hz0,hzs,hzb⟩:=info_parts L.i9;have hrun: ∀ty,(Builtin.append_ #[(ρ.t 24),(ρ.t 24)] ty #[.slice (some ⟨b,0,none⟩) n c,.slice (some ⟨vb,voff,none⟩) m vc]).run P w= .ok (.slice (some ⟨b,0,none⟩) (n+m) c) (w.setRow b (Q6 cur (n*k) vs)):=fun ty=>by have:=VE (P:=P) (w:=w) (t:=ρ.t 24) (ty:=ty) (A:=⟨vb,voff,none⟩) (c:=vc) L.t24 hi0 hb (by rwa[hzs]) (fun j u hj=>by rw[Addr.add_lit];exact hvs j u hj) h1v hroom (by rw[hzs];omega);rwa[hzs]at this
 have hbody:=L.body;have hnt:=L.ntmps;have hres:=L.res;clear hvs hb hcz hck hnik hi0 hz0 hzs hzb;refine calls_of_wp hF hbody ?_;simp only[hnt,VW,ZH,Xy,Nat.reduceAdd,Nat.reduceSub,Gj,Gk,Gu,Gp,Xg,XQ];go_wp2_with (at_builtin;refine Lib.wpList_append_run _ rfl _ _ _ _ rfl _ _ rfl rfl _ _ (hrun _) ?_);refine bodyPost_ret (results_tmp hres _ _ _) rfl ?_;exact⟨rfl,rfl⟩
set_option maxHeartbeats 4000000 in
set_option maxRecDepth 100000 in
def Qag {F:Func} {k by':Nat} {z:Value} {g:Nat} (L:R8 P ρ F k by' z) (hF:P.funcs[g]? =some F) (hk:0 < k) (base:Option Addr) (n c vb voff m vc:Nat) (cs vs:WM) (w:World) (hm:0 < m) (hnc:n<=c) (hroom:c < n+m) (hbig: (n+m)*by'<=140737488355328) (h63:n+m<=140737488355328)
  (hcl:cs.length=n*k) (hvl:vs.length=m*k) (hnil:base=none->n=0/\c=0)
  (hcs: ∀a,base=some a->∀(j:Nat) (v:Value),cs[j]? =some v->w.cell? (a.add j)=some v)
  (hvs: ∀(j:Nat) (v:Value),vs[j]? =some v->w.cell? ⟨vb,voff+j,none⟩=some v) (h1v: ∀v∈vs,v.oneCell'=true):
  Calls P g #[.slice base n c,.int .i64 n,.slice (some ⟨vb,voff,none⟩) m vc] w fun e' w'=>
   e'= .returned (.slice (some ⟨w.heap.size,0,none⟩) (n+m) (grownCap w (n+m) c (ρ.t 9)))/\
   w'=w.drew.alloc (.cells ((cs ++ vs).toArray ++ Builtin.zeroCells z.cells (grownCap w (n+m) c (ρ.t 9) - (n+m))) (ρ.t 9)):=by
 have t0:=L.t0;have t3:=L.t3;have a3:=L.a3;have z3:=L.z3;have t4:=L.t4;have a4:=L.a4;have z4:=L.z4;have z9:=L.z9;have t24:=L.t24;have a24:=L.a24;have z24:=L.z24;have u0:=run_underlying L.t0;have u3:=run_underlying L.t3;have u4:=run_underlying L.t4;have u24:=run_underlying L.t24;have hz1: ¬((m:Int)=0):=by omega
 have mixed:=L.mixed;obtain⟨i0,hi0,hz0,hzs,hzb⟩:=info_parts L.i9;have hfit:Builtin.nextslicecap (n+m) c*i0.bytes<=281474976710656:=by rw[hzb];exact growslice_fits hroom hbig
 have hrun: ∀ty,(Builtin.append_ #[(ρ.t 24),(ρ.t 24)] ty #[.slice base n c,.slice (some ⟨vb,voff,none⟩) m vc]).run P w= .ok (.slice (some ⟨w.heap.size,0,none⟩) (n+m) (grownCap w (n+m) c (ρ.t 9))) (w.drew.alloc (.cells ((cs ++ vs).toArray ++ Builtin.zeroCells z.cells (grownCap w (n+m) c (ρ.t 9) - (n+m))) (ρ.t 9))):=fun ty=>by rcases base with _ | a;obtain⟨h0,h00⟩:=hnil rfl;subst h0 h00;rw[Nat.zero_mul]at hcl;rw[List.length_eq_zero_iff.1 hcl];(have h48:m*i0.bytes<=281474976710656:=by rw[hzb];rw[Z1]at hbig;omega);have:=run_append_nil (P:=P) w (ρ.t 24) ty (ρ.t 9) i0 z L.t24 hi0 hz0 ⟨vb,voff,none⟩ m vc vs (by rwa[hzs]) (fun j u hj=>by rw[Addr.add_lit];exact hvs j u hj) hm (by omega) h48;simpa using this;have:=run_append_grow (P:=P) w (ρ.t 24) ty (ρ.t 9) i0 z L.t24 hi0 hz0 a n c cs (by rwa[hzs]) (fun j v hj=>hcs a rfl j v hj) ⟨vb,voff,none⟩ m vc vs (by rwa[hzs]) (fun j u hj=>by rw[Addr.add_lit];exact hvs j u hj) hroom (by omega) hfit;simpa using this
 have hbody:=L.body;have hnt:=L.ntmps;have hres:=L.res;clear hvs hcs hi0 hz0 hzs hzb hfit L;generalize z.cells=ZC at *;refine calls_of_wp hF hbody ?_;simp only[hnt,VW,ZH,Xy,Nat.reduceAdd,Nat.reduceSub,Gj,Gk,Gu,Gp,Xg,XQ];cases base with | none=>obtain⟨h0,h00⟩:=hnil rfl;subst h0 h00;go_wp2_with (at_builtin;refine Lib.wpList_append_run _ rfl _ _ _ _ rfl _ _ rfl rfl _ _ (hrun _) ?_);refine bodyPost_ret (results_tmp hres _ _ _) rfl ?_;exact⟨rfl,rfl⟩ | some a=>obtain⟨ab,ao,asp⟩:=a;go_wp2_with (at_builtin;refine Lib.wpList_append_run _ rfl _ _ _ _ rfl _ _ rfl rfl _ _ (hrun _) ?_);all_goals refine bodyPost_ret (results_tmp hres _ _ _) rfl ?_;exact⟨rfl,rfl⟩
def Jn:=@Array.getElem?_push_size
def Jr:=@Array.getElem?_push_lt
set_option maxHeartbeats 4000000 in
set_option maxRecDepth 100000 in
def QlV {F:Func} {k by':Nat} {z:Value} {g:Nat} (L:R8 P ρ F k by' z) (hF:P.funcs[g]? =some F) (hk:0 < k) (b n c i vb voff m vc:Nat) (cs vs:WM) (w:World) (hi:i < n) (hm:0 < m) (hnc:n<=c) (hroom:c < n+m) (hbig: (n+m)*by'<=140737488355328) (h63:n+m<=140737488355328)
  (hc63:c<=9223372036854775807) (hcl:cs.length=n*k) (hvl:vs.length=m*k)
  (hcs: ∀(j:Nat) (v:Value),cs[j]? =some v->w.cell? ⟨b,j,none⟩=some v)
  (hvs: ∀(j:Nat) (v:Value),vs[j]? =some v->w.cell? ⟨vb,voff+j,none⟩=some v) (h1c: ∀v∈cs,v.oneCell'=true) (h1v: ∀v∈vs,v.oneCell'=true):
  Calls P g #[.slice (some ⟨b,0,none⟩) n c,.int .i64 i,.slice (some ⟨vb,voff,none⟩) m vc] w fun e' w'=>
   e'= .returned (.slice (some ⟨w.heap.size,0,none⟩) (n+m) (grownCap w (n+m) c (ρ.t 9)))/\
   ∃ROW:Vw,ROW=(cs.take (i*k)).toArray ++ Builtin.zeroCells z.cells (n+m - i)++ Builtin.zeroCells z.cells (grownCap w (n+m) c (ρ.t 9) - (n+m))/\
   w'=(((w.alloc (.cells ROW (ρ.t 9))).drew.setRow w.heap.size (Q6 ROW (i*k) vs)).drew).setRow w.heap.size (Q6 (Q6 ROW (i*k) vs) ((i+m)*k) (cs.drop (i*k))):=by
 have t0:=L.t0;have t3:=L.t3;have a3:=L.a3;have z3:=L.z3;have t4:=L.t4;have a4:=L.a4;have z4:=L.z4;have z9:=L.z9;have t24:=L.t24;have a24:=L.a24;have z24:=L.z24;have u0:=run_underlying L.t0;have u3:=run_underlying L.t3;have u4:=run_underlying L.t4;have u24:=run_underlying L.t24;have mixed:=L.mixed;obtain⟨i0,hi0,hz0,hzs,hzb⟩:=info_parts L.i9;have hz1: ¬((m:Int)=0):=by omega
 have hz2: ¬((i:Int)=(n:Int)):=by omega
 have hz3: (c:Int) < (n:Int)+ (m:Int):=by omega
 have hsz:=L.sz;have hnik: (n+m)*k=n*k+m*k:=Yk _ _ _;have him: (i+m)*k=i*k+m*k:=Yk _ _ _;have hik:i*k<=n*k:=Yy _ (by omega);have hsub: (n - i)*k=n*k - i*k:=GO _ _ _;have hnmi: (n+m - i)*k=n*k+m*k - i*k:=by rw[GO,hnik]
 have hmk:0 < m*k:=TK hm hk;have hnk:0 < n*k:=TK (by omega) hk;have hbw:b < w.heap.size:=block_lt_of_cell (hcs 0 _ (Q0 (by omega)));have hvw:vb < w.heap.size:=block_lt_of_cell (hvs 0 _ (Q0 (by omega)));have hkk: (n:Int)+ (m:Int) - (i:Int)=((n+m - i:Nat):Int):=by omega
 have hik2:i+ (n+m - i)=n+m:=by omega
 have hfit:Builtin.nextslicecap (n+m) c*i0.bytes<=281474976710656:=by rw[hzb];exact growslice_fits hroom hbig
 have hfit2: (n+m - i)*i0.bytes<=281474976710656:=by rw[hzb];have: (n+m - i)*by'<=(n+m)*by':=Yy _ (by omega);omega
 have hold: (Builtin.firstCells i0.size i (.slice (some ⟨b,0,none⟩) i c)).run P w.drew= .ok (cs.take (i*k)).toArray w.drew:=by rw[hzs];exact run_firstCells_some w.drew k i ⟨b,0,none⟩ i c (cs.take (i*k)) (by rw[Ye];omega) (fun j v hj=>by rw[Addr.add_lit,Z1];rw[Tn]at hj;split at hj;exact hcs j v hj;cases hj)
 have hrz: ∀ty,(Builtin.append_ #[(ρ.t 24),(ρ.t 3)] ty #[.slice (some ⟨b,0,none⟩) i c,.int .i64 ((n:Int)+ (m:Int) - (i:Int))]).run P w= .ok (.slice (some ⟨w.heap.size,0,none⟩) (n+m) (grownCap w (n+m) c (ρ.t 9))) (w.drew.alloc (.cells ((cs.take (i*k)).toArray ++ Builtin.zeroCells z.cells (n+m - i)++ Builtin.zeroCells z.cells (grownCap w (n+m) c (ρ.t 9) - (n+m))) (ρ.t 9))):=fun ty=>by have h:=Lib.run_append_grow_zeros w (ρ.t 24) (ρ.t 3) ty (ρ.t 9) i0 _ .i64 .i64 L.t24 L.t3 hi0 hz0 (some ⟨b,0,none⟩) i c (cs.take (i*k)) hold (n+m - i) (by omega) (by rwa[hzs]) (by omega) (by omega) hfit2 (by rwa[hik2]);rw[hik2]at h;rwa[hkk]
 obtain⟨G,hG⟩: ∃G,G=grownCap w (n+m) c (ρ.t 9):=⟨_,rfl⟩;obtain⟨ROW,hROW⟩: ∃ROW:Vw,ROW=(cs.take (i*k)).toArray ++ Builtin.zeroCells z.cells (n+m - i)++ Builtin.zeroCells z.cells (G - (n+m)):=⟨_,rfl⟩;rw[<- hG]at hrz ⊢;rw[<- hROW]at hrz ⊢;have hzl: ∀x,(Builtin.zeroCells z.cells x).size=x*k:=fun x=>by simp[Builtin.zeroCells,L.zc]
 have hRl: (n+m)*k<=ROW.size:=by rw[hROW];simp only[OZ,hzl,VW,Ye];omega
 obtain⟨W1,hW1⟩: ∃W1,W1=w.drew.alloc (.cells ROW (ρ.t 9)):=⟨_,rfl⟩;rw[<- hW1]at hrz;have hN:W1.heap[w.heap.size]? =some (.cells ROW (ρ.t 9) (0,0)):=by rw[hW1];exact Jn
 have hO: ∀x,x < w.heap.size->W1.heap[x]? =w.heap[x]? :=fun x hx=>by rw[hW1];show(w.heap.push _)[x]? =_;rw[Jr hx,Um hx]
 have hOc: ∀(W:World) x,W.heap[x]? =w.heap[x]? ->∀j v,w.cell? ⟨x,j,none⟩=some v->W.cell? ⟨x,j,none⟩=some v:=fun W x hx j v h=>by obtain⟨cu,ee,ff,q1,q2⟩:=Ug h;exact TQ (by rwa[hx]) q2
 have hcpA: ∀(W:World),W.heap=W1.heap->∀ty dc,(Builtin.copy_ #[(ρ.t 24),(ρ.t 24)] ty #[.slice (some ⟨w.heap.size,i*k,none⟩) (n+m - i) dc,.slice (some ⟨vb,voff,none⟩) m vc]).run P W= .ok (goInt (Nat.min m (n+m - i))) (W.setRow w.heap.size (Q6 ROW (i*k) vs)):=fun W hW ty dc=>WH W _ _ ty (ρ.t 9) k w.heap.size (i*k) (n+m - i) dc ⟨vb,voff,none⟩ m vc ROW (ρ.t 9) vs L.t24 hsz (by rwa[hW]) (by rw[hvl,Oj m (n+m - i) (by omega)]) (fun j v hj=>by rw[Addr.add_lit];exact hOc W vb (by rw[hW];exact hO vb hvw) _ v (hvs j v hj)) (by omega) h1v;have hGn:n+m<=G:=by rw[hG];exact grownCap_ge w _ _ _
 have hG63:G<=9223372036854775807:=by have:=grownCap_le_maxLen w (n+m) c (ρ.t 9) (by unfold maxLen;omega);rw[<- hG]at this;unfold maxLen at this;omega
 have hGi: ¬(G=i):=by omega
 have hGim: ¬(G=i+m):=by omega
 have hci: ¬(c=i):=by omega
 have hbN:b≠w.heap.size:=by omega
 have hdl: (cs.drop (i*k)).length=n*k - i*k:=by rw[U5,hcl]
 have hR1: (Q6 ROW (i*k) vs).size=ROW.size:=Wr (by omega);have hcpB: ∀(W:World),W.heap=(W1.setRow w.heap.size (Q6 ROW (i*k) vs)).heap->∀ty dc sc,(Builtin.copy_ #[(ρ.t 24),(ρ.t 24)] ty #[.slice (some ⟨w.heap.size,(i+m)*k,none⟩) (n+m - (i+m)) dc,.slice (some ⟨b,i*k,none⟩) (n - i) sc]).run P W= .ok (goInt (Nat.min (n - i) (n+m - (i+m)))) (W.setRow w.heap.size (Q6 (Q6 ROW (i*k) vs) ((i+m)*k) (cs.drop (i*k)))):=fun W hW ty dc sc=>WH W _ _ ty (ρ.t 9) k w.heap.size ((i+m)*k) (n+m - (i+m)) dc ⟨b,i*k,none⟩ (n - i) sc (Q6 ROW (i*k) vs) (ρ.t 9) (cs.drop (i*k)) L.t24 hsz (by rw[hW];exact W4 hN) (by rw[hdl,<- hsub,Oj (n - i) _ (by omega)]) (fun j v hj=>by rw[Addr.add_lit];exact hOc W b (by rw[hW,setRow_other hbN];exact hO b hbw) _ v (hcs (i*k+j) v (by rwa[Vf]at hj))) (by omega) (fun v hv=>h1c v (List.mem_of_mem_drop hv));have hF1: ((w.alloc (.cells ROW (ρ.t 9))).drew).heap=W1.heap:=by rw[hW1];rfl
 have hF2: (((w.alloc (.cells ROW (ρ.t 9))).drew.setRow w.heap.size (Q6 ROW (i*k) vs)).drew).heap=(W1.setRow w.heap.size (Q6 ROW (i*k) vs)).heap:=by rw[hW1];rfl
 have hF3: ((w.alloc (.cells ROW (ρ.t 9))).drew.setRow w.heap.size (Q6 ROW (i*k) vs)).heap=(W1.setRow w.heap.size (Q6 ROW (i*k) vs)).heap:=by rw[hW1];rfl
 have hw1:IntKind.i64.wrap ((i:Int)+ (m:Int))=(i:Int)+ (m:Int):=by rw[IntKind.wrap_i64];omega
 have hb1: (0:Int)<=(i:Int)+ (m:Int):=by omega
 have hin:i<=n:=by omega
 have htn: ((i:Int)+ (m:Int)).toNat=i+m:=by omega
 have hb3: (i:Int)<=(n:Int):=by omega
 have hbody:=L.body;have hnt:=L.ntmps;have hres:=L.res;have hHid:Hid (ROW=_):=hROW;clear hROW;clear L hkk hik2 hold hG hRl hcs hvs hN hO hOc hnik him hik hsub hnmi hmk hnk hfit hfit2 hdl hR1 hzl;subst hW1;refine calls_of_wp hF hbody ?_;simp only[hnt,VW,ZH,Xy,Nat.reduceAdd,Nat.reduceSub,Gj,Gk,Gu,Gp,Xg,XQ];go_wp2_with (first | at_builtin;refine Lib.wpList_append_run _ rfl _ _ _ _ rfl _ _ rfl rfl _ _ (hrz _) ?_ | at_builtin;refine wpList_copy_runI _ rfl _ _ (ρ.t 24) (ρ.t 24) rfl _ _ rfl rfl (hcpA _ hF1 _ _) ?_ | at_builtin;refine wpList_copy_runI _ rfl _ _ (ρ.t 24) (ρ.t 24) rfl _ _ rfl rfl (hcpB _ hF3 _ _ _) ?_);go_region_law_o (refine step_copy_runI rfl _ _ (ρ.t 24) (ρ.t 24) rfl _ _ (by simp[Act.eval,Act.put]) (by simp[Act.eval,Act.put]) (hcpB _ hF2 _ _ _) ?_);go_wp2;refine bodyPost_ret (results_tmp hres _ _ _) rfl ?_;refine⟨rfl,ROW,?_,rfl⟩;unfold Hid at hHid;rw[hHid]
structure H0 (P:Program) (g:Nat) (T:TypeId) (k by':Nat) (z:Value):Prop where
 hk:0 < k
 zc:z.cells.size=k
 shift: ∀(b n c i vb voff m vc:Nat) (cur:Array Value) (e:TypeId) (cs vs:List Value) (w:World) (hi:i < n) (hm:0 < m) (hroom:n+m<=c) (hc63:c<=9223372036854775807) (hvb:vb≠b)
  (hb:w.heap[b]? =some (.cells cur e (0,0))) (hcz:c*k<=cur.size)
  (hcl:cs.length=n*k) (hvl:vs.length=m*k)
  (hcs: ∀(j:Nat) (v:Value),cs[j]? =some v->cur[j]? =some v)
  (hvs: ∀(j:Nat) (v:Value),vs[j]? =some v->w.cell? ⟨vb,voff+j,none⟩=some v) (h1c: ∀v∈cs,v.oneCell'=true) (h1v: ∀v∈vs,v.oneCell'=true),
  Calls P g #[.slice (some ⟨b,0,none⟩) n c,.int .i64 i,.slice (some ⟨vb,voff,none⟩) m vc] w fun e' w'=>
   e'= .returned (.slice (some ⟨b,0,none⟩) (n+m) c)/\w'=(w.drew.setRow b (Q6 cur ((i+m)*k) (cs.drop (i*k)))).setRow b (Q6 (Q6 cur ((i+m)*k) (cs.drop (i*k))) (i*k) vs)
 endRoom: ∀(b n c vb voff m vc:Nat) (cur:Array Value) (e:TypeId) (vs:List Value) (w:World) (hm:0 < m) (hroom:n+m<=c) (hc63:c<=9223372036854775807)
  (hb:w.heap[b]? =some (.cells cur e (0,0))) (hcz:c*k<=cur.size) (hvl:vs.length=m*k)
  (hvs: ∀(j:Nat) (v:Value),vs[j]? =some v->w.cell? ⟨vb,voff+j,none⟩=some v) (h1v: ∀v∈vs,v.oneCell'=true),
  Calls P g #[.slice (some ⟨b,0,none⟩) n c,.int .i64 n,.slice (some ⟨vb,voff,none⟩) m vc] w fun e' w'=>
   e'= .returned (.slice (some ⟨b,0,none⟩) (n+m) c)/\w'=w.setRow b (Q6 cur (n*k) vs)
 endGrow: ∀(base:Option Addr) (n c vb voff m vc:Nat) (cs vs:List Value) (w:World) (hm:0 < m) (hnc:n<=c) (hroom:c < n+m) (hbig: (n+m)*by'<=140737488355328) (h63:n+m<=140737488355328)
  (hcl:cs.length=n*k) (hvl:vs.length=m*k) (hnil:base=none->n=0/\c=0)
  (hcs: ∀a,base=some a->∀(j:Nat) (v:Value),cs[j]? =some v->w.cell? (a.add j)=some v)
  (hvs: ∀(j:Nat) (v:Value),vs[j]? =some v->w.cell? ⟨vb,voff+j,none⟩=some v) (h1v: ∀v∈vs,v.oneCell'=true),
  Calls P g #[.slice base n c,.int .i64 n,.slice (some ⟨vb,voff,none⟩) m vc] w fun e' w'=>
   e'= .returned (.slice (some ⟨w.heap.size,0,none⟩) (n+m) (grownCap w (n+m) c T))/\
   w'=w.drew.alloc (.cells ((cs ++ vs).toArray ++ Builtin.zeroCells z.cells (grownCap w (n+m) c T - (n+m))) T)
 grow: ∀(b n c i vb voff m vc:Nat) (cs vs:List Value) (w:World) (hi:i < n) (hm:0 < m) (hnc:n<=c) (hroom:c < n+m) (hbig: (n+m)*by'<=140737488355328) (h63:n+m<=140737488355328)
  (hc63:c<=9223372036854775807) (hcl:cs.length=n*k) (hvl:vs.length=m*k)
  (hcs: ∀(j:Nat) (v:Value),cs[j]? =some v->w.cell? ⟨b,j,none⟩=some v)
  (hvs: ∀(j:Nat) (v:Value),vs[j]? =some v->w.cell? ⟨vb,voff+j,none⟩=some v) (h1c: ∀v∈cs,v.oneCell'=true) (h1v: ∀v∈vs,v.oneCell'=true),
  Calls P g #[.slice (some ⟨b,0,none⟩) n c,.int .i64 i,.slice (some ⟨vb,voff,none⟩) m vc] w fun e' w'=>
   e'= .returned (.slice (some ⟨w.heap.size,0,none⟩) (n+m) (grownCap w (n+m) c T))/\
   ∃ROW:Array Value,ROW=(cs.take (i*k)).toArray ++ Builtin.zeroCells z.cells (n+m - i)++ Builtin.zeroCells z.cells (grownCap w (n+m) c T - (n+m))/\
   w'=(((w.alloc (.cells ROW T)).drew.setRow w.heap.size (Q6 ROW (i*k) vs)).drew).setRow w.heap.size (Q6 (Q6 ROW (i*k) vs) ((i+m)*k) (cs.drop (i*k)))
def R8.con {F k a z g} (L:R8 P ρ F k a z) (c:P.funcs[g]? =some F) (b:0 < k):H0 P g (ρ.t 9) k a z:=
 ⟨b,L.zc,QiY L c b,Qah L c b,Qag L c b,QlV L c b⟩
end Go.Am
namespace Go.Am
open Go.Shelf Go.RowKit Go.Lib Go.Proofs
variable {P:Program} {ρ:Ren}
def Ie (i k:Nat) (cs vs:WM):WM:=cs.take (i*k)++ vs ++ cs.drop (i*k)
def Qjz {a b d n m i k} (r:i<=n) (g:b.length=n*k) (w:d.length=m*k) (x: (n+m)*k<=a.size)
  (e: ∀(j:Nat) (v:Value),b[j]? =some v->a[j]? =some v) (j:Nat) (v) (c: (Ie i k b d)[j]? =some v):
  (Q6 (Q6 a ((i+m)*k) (b.drop (i*k))) (i*k) d)[j]? =some v:=by
 have p: (n+m)*k=n*k+m*k:=Yk _ _ _;have t: (i+m)*k=i*k+m*k:=Yk _ _ _;have q:i*k<=n*k:=Yy _ r;have u: (b.drop (i*k)).length=n*k - i*k:=by rw[U5,g]
 have y: (Q6 a ((i+m)*k) (b.drop (i*k))).size=a.size:=Wr (by omega);have l: (b.take (i*k)).length=i*k:=by rw[Ye];omega
 rw[PM (by omega),PM (by omega)];unfold Ie at c;rw[ZX]at c;by_cases f:j < i*k;rw[Qe f,Qe (by omega)];rw[Y3 (by omega),VV f]at c;exact e j v c;rw[Qb f];rw[Yq (by omega),l]at c;by_cases o:j < i*k+d.length;rw[Qe o];rwa[Y3 (by omega)]at c;rw[Qb o,Qb (by omega)];rw[Yq (by omega)]at c;have s:j - i*k - d.length < (b.drop (i*k)).length:=by rcases Zt (j - i*k - d.length) (b.drop (i*k)).length with h | h;exact h;rw[ZF h]at c;cases c
 rw[Qe (by omega)];rwa[show j - (i+m)*k=j - i*k - d.length by omega]
def Qmm {a o d c n m i k} (r:i<=n) (f:d.length=n*k) (q:c.length=m*k) (x:a=(d.take (i*k)).toArray ++ o) (w: (n+m)*k<=a.size)
  (j:Nat) (v) (b: (Ie i k d c)[j]? =some v):
  (Q6 (Q6 a (i*k) c) ((i+m)*k) (d.drop (i*k)))[j]? =some v:=by
 have g: (n+m)*k=n*k+m*k:=Yk _ _ _;have s: (i+m)*k=i*k+m*k:=Yk _ _ _;have t:i*k<=n*k:=Yy _ r;have u: (d.drop (i*k)).length=n*k - i*k:=by rw[U5,f]
 have z: (Q6 a (i*k) c).size=a.size:=Wr (by omega);have e: (d.take (i*k)).length=i*k:=by rw[Ye];omega
 rw[PM (by omega),PM (by omega)];unfold Ie at b;rw[ZX]at b;by_cases l:j < i*k;rw[Qe (by omega),Qe l];rw[Y3 (by omega)]at b;rw[x,Oy (by simp;omega)];simpa using b;rw[Yq (by omega),e]at b;by_cases y:j < i*k+c.length;rw[Qe (by omega),Qb l,Qe y];rwa[Y3 (by omega)]at b;rw[Qb (by omega)];rw[Yq (by omega)]at b;have p:j - i*k - c.length < (d.drop (i*k)).length:=by rcases Zt (j - i*k - c.length) (d.drop (i*k)).length with h | h;exact h;rw[ZF h]at b;cases b
 rw[Qe (by omega)];rwa[show j - (i+m)*k=j - i*k - c.length by omega]
def Qcw (w:World) (b:Nat) (N k:Nat) (fl:WM) (e:Ending) (w':World):Prop:=
 ∃b' cap cur' t,e= .returned (.slice (some ⟨b',0,none⟩) N cap)/\N<=cap/\cap<=maxLen/\w'.heap[b']? =some (.cells cur' t (0,0))/\cur'.size=cap*k/\
  (∀(j:Nat) (v:Value),fl[j]? =some v->cur'[j]? =some v)/\w'.os=w.os/\w'.tape=w.tape/\w'.output=w.output/\
  ((b'=b/\w'.heap.size=w.heap.size)\/(b'=w.heap.size/\w'.heap.size=w.heap.size+1))/\∀x,x < w.heap.size->x≠b'->w'.heap[x]? =w.heap[x]?
def OO (w:World) (x a): (w.setRow x a).heap.size=w.heap.size:=by simp[World.setRow]
def SS (z k x) (h:z.size=k): (Builtin.zeroCells z x).size=x*k:=by simp[Builtin.zeroCells,h]
def Z7:=@List.take_of_length_le
def QH:=@List.append_nil
def Gy:=@Array.size_push
def Qp9 {T k Z z g} (L:H0 P g T k Z z) (b n c i J l m V r e p q w) (hi:i<=n) (hm:0 < m) (R:n<=c) (M:c<=maxLen) (hvb:J≠b)
  (E: (n+m)*Z<=140737488355328) (U:n+m<=140737488355328)
  (G:w.heap[b]? =some (.cells r e (0,0))) (hcz:c*k=r.size)
  (o:p.length=n*k) (s:q.length=m*k)
  (A: ∀(j:Nat) (v:Value),p[j]? =some v->r[j]? =some v)
  (D: ∀(j:Nat) (v:Value),q[j]? =some v->w.cell? ⟨J,l+j,none⟩=some v) (Q: ∀v∈p,v.oneCell'=true) (C: ∀v∈q,v.oneCell'=true):
  Calls P g #[.slice (some ⟨b,0,none⟩) n c,.int .i64 i,.slice (some ⟨J,l,none⟩) m V] w (Qcw w b (n+m) k (Ie i k p q)):=by
 have hk:=L.hk;have y:c<=9223372036854775807:=by unfold maxLen at M;omega
 have hbl:b < w.heap.size:=by rcases Zt b w.heap.size with h | h;exact h;rw[Pd h]at G;cases G
 have O: ∀x p,(w.setRow x p).heap.size=w.heap.size:=fun x p=>by simp[World.setRow]
 have W: (n+m)*k=n*k+m*k:=Yk _ _ _;have hG: ∀w:World,grownCap w (n+m) c T<=maxLen:=fun w=>grownCap_le_maxLen w _ c _ (by unfold maxLen;omega);by_cases hin:i=n;subst hin;have N:Ie i k p q=p ++ q:=by unfold Ie;rw[(Z7 (by omega)),(List.drop_of_length_le (by omega)),QH]
 by_cases d:i+m<=c;have hck: (i+m)*k<=c*k:=Yy _ d;refine(L.endRoom b i c J l m V r e q w hm d y G (by omega) s D C).mono fun e2 w' ⟨I,H⟩=> ?_;subst H;refine⟨b,c,_,e,I,d,M,W4 G,by rw[Wr (by omega)];omega,fun j v t=> ?_,rfl,rfl,rfl,.inl ⟨rfl,O _ _⟩,fun x _ B=>setRow_other B⟩;rw[N]at t;rw[PM (by omega)];by_cases c1:j < i*k;rw[Qe c1];rw[Y3 (by omega)]at t;exact A j v t;rw[Qb c1];rw[Yq (by omega),o]at t;have u:j - i*k < q.length:=by rcases Zt (j - i*k) q.length with h | h;exact h;rw[ZF h]at t;cases t
 rwa[Qe (by omega)];refine(L.endGrow (some ⟨b,0,none⟩) i c J l m V p q w hm R (by omega) E U o s (fun h=>by cases h) (fun a ha j v t=>by cases ha;rw[Addr.add_lit,Z1];exact TQ G (A j v t)) D C).mono fun e2 w' ⟨I,H⟩=> ?_;subst H;refine⟨w.heap.size,_,_,T,I,grownCap_ge w _ _ _,hG w,Jn,?_,fun j v t=> ?_,rfl,rfl,rfl,.inr ⟨rfl,Gy _⟩,fun x B _=> ?_⟩;have:=grownCap_ge w (i+m) c T;rw[OZ,SS _ k _ L.zc,VW,Zl,o,s,<- Yk,<- Yk];congr 1;omega;rw[N]at t;have u:j < (p ++ q).length:=by rcases Zt j (p ++ q).length with h | h;exact h;rw[ZF h]at t;cases t
 rw[Oy (by simpa using u)];simpa using t;show(w.heap.push _)[x]? =_;rw[Jr B,Um B];have u:i < n:=by omega
 by_cases d:n+m<=c;have hck: (n+m)*k<=c*k:=Yy _ d;refine(L.shift b n c i J l m V r e p q w u hm d y hvb G (by omega) o s A D Q C).mono fun e2 w' ⟨I,H⟩=> ?_;subst H;have hik:i*k<=n*k:=Yy _ hi;have him: (i+m)*k=i*k+m*k:=Yk _ _ _;have hdl: (p.drop (i*k)).length=n*k - i*k:=by rw[U5,o]
 have K: (Q6 r ((i+m)*k) (p.drop (i*k))).size=r.size:=Wr (by omega);refine⟨b,c,_,e,I,d,M,W4 (W4 (w:=w.drew) G),by rw[Wr (by omega),K];omega,Qjz hi o s (by omega) A,rfl,rfl,rfl,.inl ⟨rfl,?_⟩,fun x _ B=> ?_⟩;rw[OO,OO];rfl;rw[setRow_other B,setRow_other (w:=w.drew) B];rfl;refine(L.grow b n c i J l m V p q w u hm R (by omega) E U y o s (fun j v t=>TQ G (A j v t)) D Q C).mono fun e2 w' ⟨I,f,hR,H⟩=> ?_;subst H;have hik:i*k<=n*k:=Yy _ hi;have him: (i+m)*k=i*k+m*k:=Yk _ _ _;have hdl: (p.drop (i*k)).length=n*k - i*k:=by rw[U5,o]
 have htl: (p.take (i*k)).length=i*k:=by rw[Ye];omega
 have X:=grownCap_ge w (n+m) c T;have hsub: (n+m - i)*k=n*k+m*k - i*k:=by rw[GO,W]
 have Y:f.size=grownCap w (n+m) c T*k:=by rw[hR];simp only[OZ,SS _ k _ L.zc,VW,htl];rw[<- Yk,<- Yk];congr 1;omega
 have hRk: (n+m)*k<=f.size:=by rw[Y];exact Yy _ X
 have K: (Q6 f (i*k) q).size=f.size:=Wr (by omega);refine⟨w.heap.size,_,_,T,I,X,hG w,W4 (w:=((w.alloc (.cells f T)).drew.setRow w.heap.size (Q6 f (i*k) q)).drew) (W4 (w:=(w.alloc (.cells f T)).drew) (Jn)),by rw[Wr (by omega),K,Y],Qmm hi o s (by rw[hR,BC]) hRk,rfl,rfl,rfl,.inr ⟨rfl,?_⟩,fun x B S=> ?_⟩;rw[OO];show((w.alloc (.cells f T)).drew.setRow w.heap.size (Q6 f (i*k) q)).heap.size=_;rw[OO];exact Gy _;rw[setRow_other S];show((w.alloc (.cells f T)).drew.setRow w.heap.size (Q6 f (i*k) q)).heap[x]? =_;rw[setRow_other S];show(w.heap.push _)[x]? =_;rw[Jr B,Um B]
end Go.Am
namespace Go.Am
open Go.Shelf Go.RowKit Go.Lib Go.Proofs
def PC (i sz n:Nat) (cs:Qx) (vs:Qp):Qx:=((cs.take (n*sz)).take (i*sz)++ vs.flatten ++ (cs.take (n*sz)).drop (i*sz)).map AV.strip
def Kr (g:Bool) (sz N:Nat) (fl:Qx) (bs:Qp):Option (AV×Qp):=
 if Q3 fl=true then(if g then some (.gs bs.length 0 sz N,bs ++ [fl])else some (.sl true sz (ZW fl 0 sz N),bs))else none
def Lk (g:Bool) (bytes sz:Nat):Qx->Qp->Option (AV×Qp)
 | [.gs id o sz1 n,.int .i64 i,.sl _ sz2 vs],bs=>
  if sz2=sz/\0 < sz/\vs≠[]/\0<=i/\i<=n/\(n+vs.length)*bytes<=140737488355328/\n+vs.length<=140737488355328 then
   (if sz1=0/\n=0 then Kr g sz vs.length (PC 0 sz 0 [] vs) bs
    else if sz1=sz/\o=0 then(bs[id]?).bind fun cs=>if cs≠[]/\n*sz<=cs.length then Kr g sz (n+vs.length) (PC i.toNat sz n cs vs) (bs.set id [])else none
    else none)
   else none
 | _,_=>none
section
variable {P:Program} {num:Nat->Option Nat} {β:List Blk} {w w':World} {m:Nat->Nat} {ν:Own}
def Qai [Dr] {Γ:PX} (hD: ¬Dr.d) {g O N Y T s bs' r e flv b} (hsz:0 < O) (hN:0 < N)
  (Z:Kr g O N Y s=some (r,bs')) (hfl:Y.length=N*O) (hflv: ∀(j:Nat) (c:AV),Y[j]? =some c->∃u,flv[j]? =some u/\u.oneCell'=true/\Qh num β w m c u)
  (hst: ∀c∈Y,c.strip=c)
  (o:Nq num β w m ν T) (C: ∀b p,ν b=some p->b < w.heap.size/\Γ.Gb<=b/\p.isG=true)
  (G:b < w.heap.size->m b=0/\∃I,ν b=some (.g I)/\s=T.set I []) (hb1:s=T\/∃I,s=T.set I [])
  (hp:Qcw w b N O flv e w'):Rl num β bs' r w m ν e w':=by
 obtain⟨l,V,y,t,rfl,p1,p2,p3,p4,p5,p6,p7,p8,p9,Q⟩:=hp;have hb':l < w'.heap.size:=by grind
 have A: (l=b/\b < w.heap.size)\/w.heap.size<=l:=by omega
 have hm0:l < w.heap.size->m l=0:=fun h=>by grind
 let q:Nat:=if g then 0 else N*O;have R:Le w m w' (m1 m l q):=fun x i u h=>by obtain⟨X,g2,g3⟩:=Ub h;(have a:x≠l:=fun e=>by grind);unfold hg m1;rw[Qb a,Qe X];have:=Q x g3 a;obtain⟨cu,ee,ff,q1,q2⟩:=Ug g2;exact TQ (by rw[this];omega) q2
 have L:Y2 (fun b=>∃p,ν b=some p) w m w' (m1 m l q):=by refine⟨p6,p7,p8,(by omega),fun x a hX=> ?_,R,fun h=>absurd h hD⟩;(have M:x≠l:=fun e=>by grind);exact⟨Q x a M,by unfold m1;grind⟩
 have S: ∀(i:Nat) (K:Qx),s[i]? =some K->K≠[]->T[i]? =some K/\∀k:Blk,β[i]? =some k->k.b≠l:=fun i K h H=>by(have n:T[i]? =some K:=by rcases hb1 with rfl | ⟨I,rfl⟩;exact h;rw[Qy]at h;grind);refine⟨n,fun k hk e=> ?_⟩;have hν:=(Qrt (o.2 i K k n hk H)).1;have hkb:=(C _ _ hν).1;rcases A with⟨B,W⟩ | B;obtain⟨_,I,h4,h5⟩:=G W;grind;omega
 have D:s.length=T.length:=by rcases hb1 with rfl | ⟨I,rfl⟩ <;> simp
 have J: ∀(j:Nat) (c:AV),Y[j]? =some c->∃u,y[j]? =some u/\u.oneCell'=true/\Qh num β w' (m1 m l q) c u:=fun j c hc=>by obtain⟨u,n,B,W⟩:=hflv j c hc;exact⟨u,p5 j u n,B,ZU (Ge.refl β) R c u W⟩
 unfold Kr at Z;split at Z;rename_i hgp;cases g;simp only[Xn,ZT,QV,Zm]at Z;obtain⟨rfl,rfl⟩:=Z;have hq:q=N*O:=rfl;let v:Own:=Y0 ν l .f;have z: ∀x p,ν x=some p->x≠l->w'.heap[x]? =w.heap[x]? /\m1 m l q x=m x/\v x=some p:=fun x p a M=>⟨Q x (C x p a).1 M,by unfold m1;grind,by simp only[v,Y0];grind⟩;have E: ∀x i j,ν x=some (.gc i j)->x≠l:=fun x i j a e=>by subst e;rcases A with⟨rfl,n⟩ | n;obtain⟨_,I,B,_⟩:=G n;simp_all;have:=(C _ _ a).1;omega
 refine⟨_,m1 m l q,β,v,rfl,Ge.refl β,L,⟨by rw[D];exact o.1,fun i K k n B H=> ?_⟩,rfl,?_,?_,fun x p a=> ?_⟩;obtain⟨X,g2⟩:=S i K n H;have hkb:=g2 k B;refine V3 (Ge.refl β) R (fun x a=> ?_) (fun j x a=>z x _ a (E x _ _ a)) (o.2 i K k X B H);have:x≠l:=fun e=>by subst e;rcases A with⟨W,h4⟩ | h4;obtain⟨_,I,h5,h6⟩:=G h4;rw[W,h5]at a;injection a with a;injection a with a;subst a;rw[h6,Pe (by rcases Zt I T.length with h | h;exact h;rw[ZF h]at X;cases X)]at n;injection n with n;simp_all;have:=(C _ _ a).1;omega
 exact z x _ a this;simp only[Qh];refine⟨_,N,V,rfl,Vu _ _ _ _,p1,p2,.inr ⟨l,0,rfl,?_⟩⟩;rw[Vk];intro i x a;obtain⟨hi,rfl⟩:=Pu a;have hi2:i*O+O<=N*O:=by rw[<- U6];exact Yy _ hi
 refine⟨by simp;omega,?_⟩;rw[Y1];intro j c hc;obtain⟨d,hd,rfl⟩:=ZE hc;rw[Tn]at hd;split at hd;rename_i hj;rw[Vf]at hd;obtain⟨u,r1,r2,r3⟩:=J _ d hd;refine⟨u,?_,r2,by rw[Zg];omega⟩;unfold hg;rw[show m1 m l q l=N*O by simp[m1,hq],Qe (by omega)];exact TQ p3 r1;cases hd;refine .inr ⟨l,V,y,t,by rw[Vu],p3,p4,by rw[Vu];simp[m1,hq],by simp[v,Y0]⟩;simp only[v,Y0]at a;split at a;rename_i e;injection a with a;subst a e;refine⟨hb',?_,.inr rfl⟩;rcases A with⟨rfl,n⟩ | n;obtain⟨_,I,B,_⟩:=G n;exact .inr ⟨_,B⟩;omega;have:=C x p a;exact⟨by omega,.inr ⟨p,a⟩,.inl this.2.2⟩;simp only[QT,QV,Zm]at Z;obtain⟨rfl,rfl⟩:=Z;have hq:q=0:=rfl;let v:Own:=Y0 ν l (.g s.length);have z: ∀x p,ν x=some p->x≠l->w'.heap[x]? =w.heap[x]? /\m1 m l q x=m x/\v x=some p:=fun x p a M=>⟨Q x (C x p a).1 M,by unfold m1;grind,by simp only[v,Y0];grind⟩;have E: ∀x i j,ν x=some (.gc i j)->x≠l:=fun x i j a e=>by subst e;rcases A with⟨rfl,n⟩ | n;obtain⟨_,I,B,_⟩:=G n;simp_all;have:=(C _ _ a).1;omega
 have U:Ge β (β ++ [⟨l,y.size,false⟩]):=Ge.append β _;have hk: (β ++ [(⟨l,y.size,false⟩:Blk)])[s.length]? =some ⟨l,y.size,false⟩:=by rw[D,<- o.1];simp
 refine⟨_,m1 m l q,β ++ [⟨l,y.size,false⟩],v,rfl,U,L,⟨by simp[D,o.1],fun i K k n B H=> ?_⟩,rfl,?_,trivial,fun x p a=> ?_⟩;rw[Lv]at n;split at n;rename_i hi;rw[Y3 (by rw[o.1,<- D];omega)]at B;obtain⟨X,g2⟩:=S i K n H;refine V3 U R (fun x a=> ?_) (fun j x a=>z x _ a (E x _ _ a)) (o.2 i K k X B H);have:x≠l:=fun e=>by subst e;rcases A with⟨W,h4⟩ | h4;obtain⟨_,I,h5,h6⟩:=G h4;rw[W,h5]at a;simp_all;have:=(C _ _ a).1;omega
 exact z x _ a this;rename_i hi;have hi2:i=s.length:=by rcases Zt i (s ++ [Y]).length with h | h;simp at h;omega;exfalso;rw[Zl,Pg]at h;(have: (s ++ [Y])[i]? =some K:=by rw[Lv,Qb hi];omega);rw[ZF (by simpa using h)]at this;cases this
 subst hi2;simp only[U7,N7,QV]at n;subst n;rw[hk]at B;injection B with B;subst B;refine⟨fun _=>⟨y,t,p3,⟨rfl,by rw[hfl,p4];exact Yy _ p1⟩,by simp[m1,hq],by simp[v,Y0],fun j c hc=> ?_⟩,fun q=>by cases q⟩;obtain⟨u,r1,r2,r3⟩:=J j c hc;refine⟨u,r1,r2,ZU U (Le.refl _ _) c u r3,?_⟩;rw[<- hst c (X9 hc)];exact Xr _ _ _;simp only[Qh];exact⟨_,V,rfl,p1,p2,.inr ⟨_,⟨hk,rfl⟩,rfl,by simp[p4],hsz⟩⟩;simp only[v,Y0]at a;split at a;rename_i e;injection a with a;subst a e;refine⟨hb',?_,.inl rfl⟩;rcases A with⟨rfl,n⟩ | n;obtain⟨_,I,B,_⟩:=G n;exact .inr ⟨_,B⟩;omega;have:=C x p a;exact⟨by omega,.inr ⟨p,a⟩,.inl this.2.2⟩;grind
def LP {a:Qx} (c) (h:c∈a.map AV.strip):c.strip=c:=by
 obtain⟨d,_,rfl⟩:=Yg.1 h;exact OP d
def Qna {g} {a:Option Addr} {i} (q:g≠[]) (k:0 < i) (h:g=[]\/∃b o,a=some ⟨b,o,none⟩/\XN num β w m g (hg w m b) o i):
  ∃(f d:Nat) (e:WM),a=some ⟨f,d,none⟩/\e.length=g.length*i/\(∀j v,e[j]? =some v->w.cell? ⟨f,d+j,none⟩=some v)/\(∀v∈e,v.oneCell'=true)/\0 < m f/\
   ∀(j:Nat) c,(g.flatten.map AV.strip)[j]? =some c->∃u,e[j]? =some u/\u.oneCell'=true/\Qh num β w m c u:=by
 rcases h with h | ⟨f,d,rfl,h⟩;grind;have l: ∀j,j < g.length*i->∃u,hg w m f (d+j)=some u/\w.cell? ⟨f,d+j,none⟩=some u/\u.oneCell'=true:=fun j p=>by obtain⟨u,n,x⟩:=(Nr h k) j p;exact⟨u,n,(Ub n).2.1,x⟩
 let e:WM:=(List.range (g.length*i)).map fun j=>(w.cell? ⟨f,d+j,none⟩).getD undef;have r: ∀(j:Nat) (v:Value),e[j]? =some v->j < g.length*i/\w.cell? ⟨f,d+j,none⟩=some v:=fun j v p=>by grind
 refine⟨f,d,e,rfl,by grind,fun j v p=>(r j v p).2,fun v t=> ?_,?_,fun j c y=> ?_⟩;grind;obtain⟨u,n,_,_⟩:=l 0 (TK (Jt.2 q) k);have:=(Ub n).1;omega;obtain⟨u,A,z,B⟩:=OW h j c y;have s:j < g.length*i:=by rw[<- UX h];grind
 grind
def T8:=@Int.toNat_natCast
def QdC [Dr] {Γ} (hD: ¬Dr.d) {T k by' z id g} (L:H0 P id T k by' z):Pa P num Γ (Lk g by' k) id:=by
 intro args bs r bs' f hokv w m β ν vals hG hGb hvs D A O;unfold Lk at f;split at f;rename_i y o a n i _ sz2 p;split at f;rename_i S;obtain⟨R,hk,hne,hi0,hi1,hbig,h63⟩:=S;have R:=R.symm;subst R;obtain⟨u0,e0,r0⟩:=D 0 _ rfl;obtain⟨u1,e1,r1⟩:=D 1 _ rfl;obtain⟨u2,e2,r2⟩:=D 2 _ rfl;simp only[Qh]at r0 r1 r2;obtain⟨a0,c,rfl,q1,q2,Z⟩:=r0;subst r1;obtain⟨a2,mm,vc,rfl,s1,s2,s3,K⟩:=r2;subst s1;obtain⟨vb,t,J,rfl,t1,t2,t3,t4,t5⟩:=Qna hne hk K;have U:=Jt.2 hne;obtain⟨i,rfl⟩: ∃j:Nat,i=j:=⟨i.toNat,by omega⟩;have hva:vals= #[.slice a0 n c,.int .i64 i,.slice (some ⟨vb,t,none⟩) p.length vc]:=by apply Array.ext;omega;intro j h1 h2;simp at h2;match j,h2 with | 0,_=>grind | 1,_=>rw[Um h1]at e1;injection e1 | 2,_=>rw[Um h1]at e2;injection e2
 subst hva;have C:n=0->c=0->∀M,(M=bs\/∃id,M=bs.set id [])->Kr g k p.length (PC 0 k 0 [] p) M=some (r,bs')->Calls P id #[.slice a0 n c,.int .i64 i,.slice (some ⟨vb,t,none⟩) p.length vc] w (Rl num β bs' r w m ν):=fun hn Q M hb1 hr=>by subst hn Q;(obtain rfl:i=0:=by omega);(have I:PC 0 k 0 [] p=p.flatten.map AV.strip:=by simp[PC]);refine(L.endGrow a0 0 0 vb t p.length vc [] J w U (QX _) (by omega) (by omega) (by omega) (by simp) t1 (fun _=>⟨rfl,rfl⟩) (fun _ _ j v l=>by grind) t2 t3).mono fun e w' ⟨he,hw⟩=> ?_;subst hw;rw[I]at hr;(have q: (p.flatten.map AV.strip).length=p.length*k:=by rcases K with K | ⟨b,o,_,K⟩;grind;exact UX K);refine Qai hD (b:=w.heap.size) (flv:=J) hk U hr q t5 (fun c f=>LP c f) A O (fun h=>by omega) hb1 ?_;have hge:=grownCap_ge w (0+p.length) 0 T;refine⟨w.heap.size,_,_,T,by rw[he,Z1],by grind,grownCap_le_maxLen w _ _ _ (by omega),Jn,?_,fun j v l=> ?_,rfl,rfl,rfl,.inr ⟨rfl,Gy _⟩,fun x hx _=> ?_⟩;rw[Z1]at hge ⊢;rw[OZ,SS _ k _ L.zc,VW,Xg,t1,<- Yk];grind;(have hl:j < J.length:=by grind);rw[Oy (by simpa using hl)];simpa using l;show(w.heap.push _)[x]? =_;rw[Jr hx,Um hx]
 by_cases hz:a=0/\n=0;rw[Qe hz]at f;obtain⟨rfl,rfl⟩:=hz;have Q:c=0:=by omega
 exact C rfl Q bs (.inl rfl) f;rw[Qb hz]at f;by_cases E:a=k/\o=0;rw[Qe E]at f;obtain⟨E,rfl⟩:=E;subst E;rcases V:bs[y]? with _ | G;rw[V]at f;cases f;rw[V]at f;simp only[QO]at f;by_cases W:G≠[]/\n*a<=G.length;rw[Qe W]at f;obtain⟨hcne,hcl⟩:=W;rcases Z with⟨Z,q4,_⟩ | ⟨kb,Z,rfl,q4,_⟩;subst Z q4;refine C rfl rfl (bs.set y []) (.inr ⟨y,rfl⟩) ?_;obtain rfl:i=0:=by omega
 rw[Z1]at f;simpa[PC]using f;obtain⟨Y,e,p1,p2,p3,p4,p5⟩:=(A.2 y G kb V Z.1 hcne).1 Z.2;rw[Z1]at q4;let s:WM:=Y.toList.take (n*a);have hnc:n*a<=Y.size:=by omega
 have hcsl:s.length=n*a:=by simp[s];omega
 have B: ∀j,j < n*a->∃c u,G[j]? =some c/\s[j]? =some u/\u.oneCell'=true/\Qh num β w m c u:=fun j l=>by(have hj2:j < G.length:=by omega);obtain⟨u,X,g2,g3,_⟩:=p5 j _ (Q0 hj2);refine⟨_,u,Q0 hj2,?_,g2,g3⟩;simp only[s,Tn,Qe l];simpa using X
 have hbl:=(O _ _ p4).1;have hik:i*a<=n*a:=Yy _ (by omega);have hnm: (n+p.length)*a=n*a+p.length*a:=Yk _ _ _;have q: (p.flatten.map AV.strip).length=p.length*a:=by rcases K with K | ⟨b,o,_,K⟩;grind;exact UX K
 have I:PC i a n G p=((G.take (n*a)).take (i*a)).map AV.strip ++ p.flatten.map AV.strip ++ ((G.take (n*a)).drop (i*a)).map AV.strip:=by simp[PC]
 have hl1: (((G.take (n*a)).take (i*a)).map AV.strip).length=i*a:=by simp;omega
 have hl3: (((G.take (n*a)).drop (i*a)).map AV.strip).length=n*a - i*a:=by simp;omega
 have hcv1: (s.take (i*a)).length=i*a:=by rw[Ye];omega
 refine(Qp9 L kb.b n c i vb t p.length vc Y e s J w (by omega) U q1 q2 (fun e=>by grind) hbig h63 p1 (by omega) hcsl t1 (fun j v l=>by simp only[s,Tn]at l;split at l;simpa using l;grind) t2 (fun v hv=>by obtain⟨j,l⟩:=SA hv;(have H:j < n*a:=by rcases Zt j s.length with h | h;omega;rw[ZF h]at l;grind);obtain⟨_,u,_,g2,g3,_⟩:=B j H;grind) t3).mono fun e2 w' hp=> ?_;refine Qai hD (b:=kb.b) hk (by omega) f ?_ ?_ (fun c f=>LP c f) A O (fun _=>⟨p3,y,p4,rfl⟩) (.inr ⟨y,rfl⟩) hp;simp only[T8,I,Zl,hl1,q,hl3];omega;intro j c l;simp only[T8,I]at l;unfold Ie;rw[ZX]at l ⊢;by_cases c1:j < i*a;rw[Y3 (by omega)]at l;rw[Y3 (by omega)];obtain⟨d,N,rfl⟩:=ZE l;rw[VV c1,VV (by omega)]at N;obtain⟨c',u,X,g2,g3,g4⟩:=B j (by omega);rw[N]at X;cases X;exact⟨u,by rwa[VV c1],g3,by rwa[Zg]⟩;rw[Yq (by omega),hl1]at l;rw[Yq (by omega),hcv1];by_cases c2:j - i*a < p.length*a;rw[Y3 (by omega)]at l;rw[Y3 (by omega)];exact t5 _ c l;rw[Yq (by omega),q]at l;rw[Yq (by omega),t1];obtain⟨d,N,rfl⟩:=ZE l;rw[Vf]at N;have H:i*a+ (j - i*a - p.length*a) < n*a:=by rcases Zt (i*a+ (j - i*a - p.length*a)) (n*a)with h | h;exact h;rw[ZF (by simp;omega)]at N;cases N
 rw[VV H]at N;obtain⟨c',u,X,g2,g3,g4⟩:=B _ H;rw[N]at X;cases X;exact⟨u,by rwa[Vf],g3,by rwa[Zg]⟩;rw[Qb W]at f;grind;rw[Qb E]at f;grind;grind;grind
end
end Go.Am
namespace Go.Am
set_option maxRecDepth 20000
inductive Tm where
 | mk (k:Int) (n:List UInt8) (s:Int) (kids:List Tm)
def Tm.kind:Tm->Int | .mk k _ _ _=>k
def Tm.name:Tm->Zq | .mk _ n _ _=>n
def Tm.sort:Tm->Int | .mk _ _ s _=>s
abbrev Qj:=List Tm
def Tm.kids:Tm->Qj | .mk _ _ _ ks=>ks
def Ux (k n s a): (Tm.mk k n s a).kind=k:=rfl
def Y5 (k n s a): (Tm.mk k n s a).name=n:=rfl
def Ol (k n s a): (Tm.mk k n s a).sort=s:=rfl
def ZP (k n s a): (Tm.mk k n s a).kids=a:=rfl
attribute [simp] Ux Y5 Ol ZP
def Tm.eta (t):Tm.mk t.kind t.name t.sort t.kids=t:=by cases t;rfl
def YC {P:Tm->Prop} (h: ∀k n s a,(∀x∈a,P x)->P (.mk k n s a)): ∀t,P t:=by
 intro t;refine Tm.rec (motive_1:=P) (motive_2:=fun a=>∀x∈a,P x) ?_ ?_ ?_ t;intro k n s a e;exact h k n s a e;intro x b;cases b;intro t f c d x b;rcases List.mem_cons.1 b with rfl | b;exact c;exact d x b
mutual
def Qd:Tm->List AV
 | .mk k n s ks=>[.int .i64 k,.str n,.int .i64 s,.sl false 4 (Qa ks)]
def Qa:List Tm->List (List AV)
 | []=>[]
 | t:: ts=>Qd t:: Qa ts
end
def Ya (t):Qd t=[.int .i64 t.kind,.str t.name,.int .i64 t.sort,.sl false 4 (Qa t.kids)]:=by cases t;simp[Qd]
def ZM (a):Qa a=a.map Qd:=by
 induction a with | nil=>simp[Qa] | cons t a b=>simp[Qa,b]
def Wn (a): (Qa a).length=a.length:=by simp[ZM]
def Sh (a) (i:Nat): (Qa a)[i]? =(a[i]?).map Qd:=by simp[ZM]
def Q7 (a b):Qa a ++ Qa b=Qa (a ++ b):=by simp[ZM]
def Px (a n): (Qa a).take n=Qa (a.take n):=by simp[ZM]
def Kh (a n): (Qa a).drop n=Qa (a.drop n):=by simp[ZM]
def ZN (t): [Qd t]=Qa [t]:=by simp[Qa]
def Xz (t): (Qd t).length=4:=by simp[Ya]
def Zi (t): (Qd t).map AV.strip=Qd t:=by simp[Ya,AV.strip]
def Qf (t): (Qd t).take 4=Qd t:=by simp[Ya]
def E7 (t): (Qd t).drop 4=[]:=by simp[Ya]
def Qio (t): (Qd t)[0]? =some (.int .i64 t.kind):=by simp[Ya]
def Qip (t): (Qd t)[1]? =some (.str t.name):=by simp[Ya]
def Qiq (t): (Qd t)[2]? =some (.int .i64 t.sort):=by simp[Ya]
def Qir (t): (Qd t)[3]? =some (.sl false 4 (Qa t.kids)):=by simp[Ya]
def Qdk (t) (h:0 < (Qd t).length): (Qd t)[0]= .int .i64 t.kind:=by simp[Ya]
def Qdl (t) (h:1 < (Qd t).length): (Qd t)[1]= .str t.name:=by simp[Ya]
def Qdm (t) (h:2 < (Qd t).length): (Qd t)[2]= .int .i64 t.sort:=by simp[Ya]
def Qdn (t) (h:3 < (Qd t).length): (Qd t)[3]= .sl false 4 (Qa t.kids):=by simp[Ya]
mutual
theorem IF: ∀t:Tm,Q3 (Qd t)=true
 | .mk k n s ks=>by simp[Qd,Q3,AV.gpfree,YG ks]
theorem YG: ∀ts:List Tm,ZL (Qa ts)=true
 | []=>by simp[Qa,ZL]
 | t:: ts=>by simp[Qa,ZL,IF t,YG ts]
end
def Sg (k n s a): [AV.int .i64 k,.str n,.int .i64 s,.sl false 4 (Qa a)]=Qd (.mk k n s a):=by simp[Qd]
def Qfr (k n s): [AV.int .i64 k,.str n,.int .i64 s,.sl false 4 []]=Qd (.mk k n s []):=by simp[Qd,Qa]
attribute [simp] Wn Sh Xz Zi Qf E7 Qio Qip Qiq Qir Qdk Qdl Qdm Qdn IF YG
attribute [simp] Int.toNat_natCast
mutual
def Tm.nodes:Tm->Nat
 | .mk _ _ _ ks=>1+Qs ks
def Qs:List Tm->Nat
 | []=>0
 | t:: ts=>t.nodes+Qs ts
end
mutual
def Tm.mass:Tm->Nat
 | .mk _ n _ ks=>1+n.length+ks.length+Qv ks
def Qv:List Tm->Nat
 | []=>0
 | t:: ts=>t.mass+Qv ts
end
mutual
def Tm.depth:Tm->Nat
 | .mk _ _ _ ks=>XC ks+1
def XC:List Tm->Nat
 | []=>0
 | t:: ts=>max t.depth (XC ts)
end
def QI (t:Tm):t.mass=1+t.name.length+t.kids.length+Qv t.kids:=by cases t;simp[Tm.mass]
def W2 (t:Tm):t.nodes=1+Qs t.kids:=by cases t;simp[Tm.nodes]
def Ke (t:Tm):t.depth=XC t.kids+1:=by cases t;simp[Tm.depth]
def QY {x}: ∀{ks},x∈ks->x.mass<=Qv ks
 | [],h=>by cases h
 | t:: a,h=>by
  simp only[Qv];rcases List.mem_cons.1 h with rfl | h;omega;have:=QY h;omega
def G2 {x}: ∀{a},x∈a->x.depth<=XC a
 | [],h=>by cases h
 | t:: b,h=>by
  simp only[XC];rcases List.mem_cons.1 h with rfl | h;omega;have:=G2 h;omega
def VC (a b):Qv (a ++ b)=Qv a+Qv b:=by
 induction a with | nil=>simp[Qv] | cons t d c=>simp[Qv,c];omega
def YT (a b):Qs (a ++ b)=Qs a+Qs b:=by
 induction a with | nil=>simp[Qs] | cons t d c=>simp[Qs,c];omega
mutual
theorem YU: ∀t:Tm,t.nodes<=t.mass
 | .mk _ _ _ ks=>by simp only[Tm.nodes,Tm.mass];have:=Y6 ks;omega
theorem Y6: ∀ts:List Tm,Qs ts<=Qv ts
 | []=>by simp[Qs,Qv]
 | t:: ts=>by simp only[Qs,Qv];have:=YU t;have:=Y6 ts;omega
end
mutual
theorem LK: ∀t:Tm,t.depth<=t.nodes
 | .mk _ _ _ ks=>by simp only[Tm.nodes,Tm.depth];have:=T4 ks;omega
theorem T4: ∀ts:List Tm,XC ts<=Qs ts
 | []=>by simp[Qs,XC]
 | t:: ts=>by simp only[Qs,XC];have:=LK t;have:=T4 ts;omega
end
def Ej (a b:Int): (a == b)=decide (a=b):=by by_cases h:a=b <;> simp[h]
def Ek (a b:Int): (a != b)= !decide (a=b):=by by_cases h:a=b <;> simp[h]
attribute [local simp] Ej Ek
def QB {d:Type} {c b a} {x:d} (h:c=b ++ x:: a):c[b.length]? =some x:=by subst h;simp
def big:Nat:=1099511627776
def sgn (a b:Int):Int:=if a < b then -1 else if a > b then 1 else 0
def Vl (a b:Zq):Int:=if Op.bytesLess a b then -1 else if a == b then 0 else 1
def or0 (c d:Int):Int:=if c=0 then d else c
def SQ (d):or0 0 d=d:=rfl
def Cc (c):or0 c 0=c:=by unfold or0;split <;> simp_all
def My {c} (h:c≠0) (d):or0 c d=c:=by simp[or0,h]
def Oo {a b}:or0 a b=0↔a=0/\b=0:=by unfold or0;split <;> simp_all
def hdT (t u:Tm):Int:=or0 (sgn t.nodes u.nodes) (or0 (sgn t.kind u.kind) (or0 (Vl t.name u.name) (or0 (sgn t.sort u.sort) (sgn t.kids.length u.kids.length))))
mutual
def Qm:Tm->Tm->Int
 | .mk k n s ks,u=>or0 (hdT (.mk k n s ks) u) (WO ks u.kids)
def WO:List Tm->List Tm->Int
 | [],_=>0
 | _:: _,[]=>0
 | t:: ts,u:: us=>or0 (Qm t u) (WO ts us)
end
def Ob (t u):Qm t u=or0 (hdT t u) (WO t.kids u.kids):=by cases t;simp[Qm]
def MC {a b}:sgn a b=0↔a=b:=by unfold sgn;split <;> (try split) <;> omega
mutual
def AE:AV->Option (List Tm)
 | .sl _ 4 xs=>Tt xs
 | _=>none
def JY:List AV->Option Tm
 | [.int .i64 k,.str n,.int .i64 s,x]=>(AE x).map fun ks=> .mk k n s ks
 | _=>none
def Tt:List (List AV)->Option (List Tm)
 | []=>some []
 | x:: xs=>match JY x,Tt xs with
  | some t,some ts=>some (t:: ts)
  | _,_=>none
end
mutual
theorem Qlk: ∀t:Tm,JY (Qd t)=some t
 | .mk k n s ks=>by simp only[Qd,JY,AE,Ht ks,Option.map_some]
theorem Ht: ∀ts:List Tm,Tt (Qa ts)=some ts
 | []=>by simp only[Qa,Tt]
 | t:: ts=>by simp only[Qa,Tt,Qlk t,Ht ts]
end
def Rr (t:Tm):Qj->Qj
 | []=>[t]
 | x:: xs=>if Qm x t < 0 then x:: Rr t xs else t:: x:: xs
def XK:Qj->Qj
 | []=>[]
 | t:: ts=>Rr t (XK ts)
def NG:Qx->Qp->Option (AV×Qp)
 | [.gs id o sz n,.fn 30 []],bs=>if n=0 then some (.tup [],bs)else if sz=4/\n < 4611686018427387904 then(bs[id]?).bind fun cs=>
   if o+n*4<=cs.length then(Tt (ZW cs o 4 n)).bind fun ts=>if ts.all (fun t=>decide (t.mass < big))then some (.tup [],bs.set id (put cs o (Qa (XK ts)).flatten))else none else none
   else none
 | _,_=>none
end Go.Am
namespace Go.Am
def FU:Qx->Option AV
 | [.str s,.str cs]=>if(cs.all (· < 128) && decide (s.length < 4294967281) && decide (cs.length < 4294967281))=true then some (.str (Lib.trimS s cs))else none
 | _=>none
def II (bytes sz:Nat):Qx->Qp->Option (AV×Qp)
 | [.gs _ _ 0 0,.int .i64 n],bs=>if 0<=n/\n.toNat* bytes<=140737488355328/\n<=4611686018427387904 then some (.sl true sz [],bs)else none
 | _,_=>none
end Go.Am
