/-
  Ins1, Ins2, Ins3, Am28, AmT, AmO.
-/
import Derived.Shelf.Spec.SlicesInsertGrow
import Derived.Test.YtgjaamacjmjjcaaGreatDoorG07
import Derived.Test.YtgjaamacjmjjcaaGreatDoorG00
import Derived.Lib.SlTrimSet
import Derived.Lib.Bytealg
set_option linter.all false
namespace Go.Am
open Go.Shelf Go.RowKit Go.Lib Go.Proofs
variable {P:Program} {ρ:Ren}
def Q8 (cur:VC) (o:Nat) (cs:WS):VC:=(cur.toList.take o ++ cs ++ cur.toList.drop (o+cs.length)).toArray
def Wu {a o b} (h:o+b.length<=a.size): (Q8 a o b).size=a.size:=by
 simp[Q8];omega
def P9 {a o b} (h:o+b.length<=a.size) (j):
  (Q8 a o b)[j]? =if j < o then a[j]? else if j < o+b.length then b[j - o]? else a[j]? :=by
 simp only[Q8,Rm];have d: (a.toList.take o).length=o:=by simp;omega
 by_cases c:j < o;rw[Qg c,ZU,Y8 (by omega),V1 c,GJ];rw[Qe c];by_cases e:j < o+b.length;rw[Qg e,ZU,Yv (by omega),d,Y8 (by omega)];rw[Qe e,Yv (by simp;omega),Vk];have:o+b.length+ (j - (a.toList.take o ++ b).length)=j:=by simp only[Q6,d];omega
 rw[this,GJ]
def WM (w s t B b k g o c m a d p f e h)
  (z:P.underlying s=some (.slice b)) (r: (P.info? b).map (·.size)=some k) (A:w.heap[g]? =some (.cells f e (0,0))) (u:h.length=Nat.min d c*k)
  (n: ∀j v,h[j]? =some v->w.cell? (a.add j)=some v) (y:o+h.length<=f.size) (x: ∀v∈h,v.oneCell'=true):
  (Builtin.copy_ #[s,t] B #[.slice (some ⟨g,o,none⟩) c m,.slice (some a) d p]).run P w= .ok (goInt (Nat.min d c)) (w.setRow g (Q8 f o h)):=by
 have l:=run_storeCells_at (P:=P) g o e h 0 f w A (by simpa using y) x;simp only[PH]at l;rcases q:P.info? b with _ | i;simp[q]at r;simp[Builtin.copy_,run_underlying z,Builtin.lenOf,Builtin.firstCells,sizeOf,typeInfo,q,(by simpa[q]using r),<- u,(run_loadCells_list (P:=P) w a h n),l,Q8]
def MM (w l J e) (E:P.underlying l=some (.slice e)) (c) (B: ∀w,(Go.sizeOf e).run P w= .ok c w)
  (a b n K p I) (k:a.block≠b.block) {d f D A L}
  (H:w.heap[a.block]? =some (.cells d D L)) (q:w.heap[b.block]? =some (.cells f A (0,0))) (G:d.size≠0) (u:f.size≠0):
  (Extern.SlicesOverlaps.overlaps #[l,l] #[J] #[.slice (some a) n K,.slice (some b) p I]).run P w= .ok (.bool false) w:=by
 have h:w.shape? a.block=some (D,d.size):=by simp[World.shape?,H]
 have i:w.shape? b.block=some (A,f.size):=by simp[World.shape?,q]
 have x: ∀o s,w.frozen? ⟨b.block,o,s⟩=false:=fun o s=>by simp[World.frozen?,q]
 have j:w.frozen? b=false:=by simp[World.frozen?,q]
 change Sem.run P (α:=Value) (do
  let some t:=(#[l,l]:Array TypeId)[0]? | stuck "slices.overlaps: no parameter types"
  let .slice g <- underlying t | stuck "slices.overlaps: slice type expected"
  let c <- sizeOf g
  match (some a:Option Addr),(some b:Option Addr)with
  | some a,some b=>
   if n=0\/p=0\/c=0 then pure (Value.bool false)
   else if a.block != b.block && (<- frozen a) && (<- frozen b)then unsupported .addressObserved
   else do
    if a.block != b.block then do
     noView a;noView b
     if <- mayBeOne a b then return Value.bool ((<- choose (.extern "sameAddr.stringBytes" 2)) == 1)
    pure (Value.bool (a.block == b.block && a.off < b.off+p*c && b.off < a.off+n*c))
  | _,_=>pure (Value.bool false)) w=_
 by_cases C:n=0\/p=0\/c=0
 ·simp[run_underlying E,B,C]
 ·cases z:f.size with
  | zero=>exact absurd z u
  | succ M=>
   rw[z]at i;obtain⟨r,m⟩: ∃r,d.size=r+1:=⟨d.size - 1,by omega⟩;rw[m]at h;cases v:w.frozen? a <;> cases y:w.frozen? ⟨a.block,r+1,none⟩ <;>
   simp[run_underlying E,B,C,(by simpa using k),(by simpa using k),frozen,noView,viewAt,mayBeOne,stringish,shape,Sem.run,h,i,x,j,v,y]
structure Ps (P:Program) (ρ:Ren) (F:Func) (k by':Nat) (z:Value):Prop where
 mixed:P.follows .mixedOrders=true
 body:F.body=(Body2.n22 ρ).body
 ntmps:F.ntmps=95
 res:F.results= #[.tmp 6]
 f29: ∀(args:Array Value) (w:World),(callFunc (ρ.f 29) args).run P w=((Extern.SlicesOverlaps.overlaps #[(ρ.t 24),(ρ.t 24)] #[(ρ.t 4)] args).run P w).andThen fun v w'=> .ok (.value v) w'
 t0:P.underlying (ρ.t 0)=some (TypeDesc.tuple #[])
 t3:P.underlying (ρ.t 3)=some (TypeDesc.int IntKind.i64)
 a3: ∀w,(isAgg (ρ.t 3)).run P w= .ok false w
 z3: ∀w,(Go.sizeOf (ρ.t 3)).run P w= .ok 1 w
 t4:P.underlying (ρ.t 4)=some (TypeDesc.bool)
 a4: ∀w,(isAgg (ρ.t 4)).run P w= .ok false w
 z4: ∀w,(Go.sizeOf (ρ.t 4)).run P w= .ok 1 w
 z9: ∀w,(Go.sizeOf (ρ.t 9)).run P w= .ok k w
 t24:P.underlying (ρ.t 24)=some (TypeDesc.slice (ρ.t 9))
 a24: ∀w,(isAgg (ρ.t 24)).run P w= .ok false w
 z24: ∀w,(Go.sizeOf (ρ.t 24)).run P w= .ok 1 w
 i9: (P.info? (ρ.t 9)).map (fun i=>(i.zero,i.size,i.bytes))=some (some z,k,by')
 zc:z.cells.size=k
def Ps.sz {F k a z} (L:Ps P ρ F k a z): (P.info? (ρ.t 9)).map (·.size)=some k:=by
 obtain⟨i,d,g,e,h⟩:=info_parts L.i9;rw[d];simp[e]
def Qee (n i m) (a:i<=n):Nat.min (n+m - i) (n+m - (i+m))=n - i:=by simp only[Nat.min_def];split <;> omega
def Oy (m x) (h:m<=x):Nat.min m x=m:=by simp only[Nat.min_def];split <;> omega
def Un {w:World} {b j v} (h:w.cell? ⟨b,j,none⟩=some v): ∃a e c,w.heap[b]? =some (.cells a e c)/\a[j]? =some v:=by
 simp only[World.cell?]at h;split at h;rename_i a e c d;exact⟨_,_,_,d,h⟩;cases h
def Sc {w:World} {b j v a e c} (h:w.heap[b]? =some (.cells a e c)) (d:a[j]? =some v):w.cell? ⟨b,j,none⟩=some v:=by
 unfold World.cell?;rwa[h]
def setRow_other {w:World} {b x a} (h:x≠b): (w.setRow b a).heap[x]? =w.heap[x]? :=by
 simp only[World.setRow,Pz];split;rename_i e;exact absurd e.symm h;rfl
def Va {w:World} {b a d e c} (h:w.heap[b]? =some (.cells a e c)): (w.setRow b d).heap[b]? =some (.cells d e c):=by
 simp[World.setRow,Pz,h]
def G7:=@Nat.sub_mul
def GL:=@Array.replicate_succ
def GM:=@Array.replicate_zero
def GU:=@List.push_toArray
def GO:=@List.append_toArray
def Y4:=@List.nil_append
def Xb:=@List.cons_append
set_option maxHeartbeats 4000000 in
set_option maxRecDepth 100000 in
def Qi3 {F:Func} {k by':Nat} {z:Value} {g:Nat} (L:Ps P ρ F k by' z) (hF:P.funcs[g]? =some F) (hk:0 < k) (b n c i vb voff m vc:Nat) (cur:VC) (e:TypeId) (cs vs:WS) (w:World) (hi:i < n) (hm:0 < m) (hroom:n+m<=c) (hc63:c<=9223372036854775807) (hvb:vb≠b)
  (hb:w.heap[b]? =some (.cells cur e (0,0))) (hcz:c*k<=cur.size)
  (hcl:cs.length=n*k) (hvl:vs.length=m*k)
  (hcs: ∀(j:Nat) (v:Value),cs[j]? =some v->cur[j]? =some v)
  (hvs: ∀(j:Nat) (v:Value),vs[j]? =some v->w.cell? ⟨vb,voff+j,none⟩=some v) (h1c: ∀v∈cs,v.oneCell'=true) (h1v: ∀v∈vs,v.oneCell'=true):
  Calls P g #[.slice (some ⟨b,0,none⟩) n c,.int .i64 i,.slice (some ⟨vb,voff,none⟩) m vc] w fun e' w'=>
   e'= .returned (.slice (some ⟨b,0,none⟩) (n+m) c)/\w'=(w.drew.setRow b (Q8 cur ((i+m)*k) (cs.drop (i*k)))).setRow b (Q8 (Q8 cur ((i+m)*k) (cs.drop (i*k))) (i*k) vs):=by
 have t0:=L.t0;have t3:=L.t3;have a3:=L.a3;have z3:=L.z3;have t4:=L.t4;have a4:=L.a4;have z4:=L.z4;have z9:=L.z9;have t24:=L.t24;have a24:=L.a24;have z24:=L.z24;have u0:=run_underlying L.t0;have u3:=run_underlying L.t3;have u4:=run_underlying L.t4;have u24:=run_underlying L.t24;have hz1: ¬((m:Int)=0):=by omega
 have hz2: ¬((i:Int)=(n:Int)):=by omega
 have hsz:=L.sz;have hnik: (n+m)*k=n*k+m*k:=Yg _ _ _;have him: (i+m)*k=i*k+m*k:=Yg _ _ _;have hik:i*k<=n*k:=YE _ (by omega);have hck: (n+m)*k<=c*k:=YE _ hroom;have hmk:0 < m*k:=Nj hm hk;have hsub: (n - i)*k=n*k - i*k:=G7 _ _ _;have hdl: (cs.drop (i*k)).length=n*k - i*k:=by rw[UP,hcl]
 obtain⟨cv,ev,fv,hvh,hv0⟩:=Un (hvs 0 _ (Za (by omega)));have hcvz:cv.size≠0:=fun h0=>by rw[Px (by omega)]at hv0;cases hv0
 have hov: ∀lb cb,(callFunc (ρ.f 29) #[.slice (some ⟨vb,voff,none⟩) m vc,.slice (some ⟨b,(i+m)*k,none⟩) lb cb]).run P w= .ok (.value (.bool false)) w:=fun lb cb=>by rw[L.f29,MM w (ρ.t 24) (ρ.t 4) (ρ.t 9) L.t24 k L.z9 ⟨vb,voff,none⟩ ⟨b,(i+m)*k,none⟩ m vc lb cb hvb hvh hb hcvz (by omega)];rfl
 have mixed:=L.mixed;have hw1:IntKind.i64.wrap ((i:Int)+ (m:Int))=(i:Int)+ (m:Int):=by rw[IntKind.wrap_i64];omega
 have hb1: (0:Int)<=(i:Int)+ (m:Int):=by omega
 have hin:i<=n:=by omega
 have htn: ((i:Int)+ (m:Int)).toNat=i+m:=by omega
 have hb2: ¬(c=i+m):=by omega
 have hb3: (i:Int)<=(n:Int)+ (m:Int):=by omega
 have hb4: ¬(c=i):=by omega
 have hcp1: ∀ty dc sc,(Builtin.copy_ #[(ρ.t 24),(ρ.t 24)] ty #[.slice (some ⟨b,(i+m)*k,none⟩) (n+m - (i+m)) dc,.slice (some ⟨b,i*k,none⟩) (n+m - i) sc]).run P w.drew= .ok (goInt (Nat.min (n+m - i) (n+m - (i+m)))) (w.drew.setRow b (Q8 cur ((i+m)*k) (cs.drop (i*k)))):=fun ty dc sc=>WM w.drew _ _ ty (ρ.t 9) k b ((i+m)*k) (n+m - (i+m)) dc ⟨b,i*k,none⟩ (n+m - i) sc cur e (cs.drop (i*k)) L.t24 hsz hb (by rw[Qee n i m hin,hdl,hsub]) (fun j v hj=>by rw[Addr.add_lit];have:=hcs (i*k+j) v (by rwa[Vk]at hj);exact Sc (w:=w.drew) hb this) (by omega) (fun v hv=>h1c v (List.mem_of_mem_drop hv));obtain⟨cur1,hcur1⟩: ∃cur1,cur1=Q8 cur ((i+m)*k) (cs.drop (i*k)):=⟨_,rfl⟩;obtain⟨W1,hW1⟩: ∃W1,W1=w.drew.setRow b (Q8 cur ((i+m)*k) (cs.drop (i*k))):=⟨_,rfl⟩;have hbW:W1.heap[b]? =some (.cells cur1 e (0,0)):=by rw[hW1,hcur1];exact Va (w:=w.drew) hb
 have hvW:W1.heap[vb]? =some (.cells cv ev fv):=by rwa[hW1,setRow_other (w:=w.drew) hvb]
 have hs1:cur1.size=cur.size:=by rw[hcur1,Wu (by omega)]
 have hcp2: ∀(W:World),W.heap=W1.heap->∀ty dc,(Builtin.copy_ #[(ρ.t 24),(ρ.t 24)] ty #[.slice (some ⟨b,i*k,none⟩) (n+m - i) dc,.slice (some ⟨vb,voff,none⟩) m vc]).run P W= .ok (goInt (Nat.min m (n+m - i))) (W.setRow b (Q8 cur1 (i*k) vs)):=fun W hWc ty dc=>WM W _ _ ty (ρ.t 9) k b (i*k) (n+m - i) dc ⟨vb,voff,none⟩ m vc cur1 e vs L.t24 hsz (by rwa[hWc]) (by rw[hvl,Oy m (n+m - i) (by omega)]) (fun j v hj=>by rw[Addr.add_lit];have:=hvs j v hj;refine Sc (w:=W) (by rwa[hWc]) ?_;obtain⟨_,_,_,q1,q2⟩:=Un this;rw[hvh]at q1;injection q1 with q1;injection q1 with q1;rw[q1];exact q2) (by omega) h1v;rw[<- hW1]at hcp1;rw[<- hcur1];have hbody:=L.body;have hnt:=L.ntmps;have hres:=L.res;clear hcs hvs hnik him hik hsub hdl hbW hvW hs1 hck hcz hvh hb hv0 hcvz;refine calls_of_wp hF hbody ?_;simp only[hnt,V2,Zu,Xc,Nat.reduceAdd,Nat.reduceSub,GL,GM,GU,GO,Y4,Xb];go_wp2_with (simp only[hov]);go_region_law_o (refine step_copy_runI rfl _ _ (ρ.t 24) (ρ.t 24) rfl _ _ (by simp[Act.eval,Act.put]) (by simp[Act.eval,Act.put]) (hcp1 _ _ _) ?_);go_wp2_with (at_builtin;refine wpList_copy_runI _ rfl _ _ (ρ.t 24) (ρ.t 24) rfl _ _ rfl rfl (hcp2 _ rfl _ _) ?_);refine bodyPost_ret (results_tmp hres _ _ _) rfl ?_;exact⟨rfl,by rw[hcur1]⟩
end Go.Am
namespace Go.Am
open Go.Shelf Go.RowKit Go.Lib Go.Proofs
variable {P:Program} {ρ:Ren}
def Hid (p:Prop):Prop:=p
set_option maxHeartbeats 4000000 in
set_option maxRecDepth 100000 in
def QaO {F:Func} {k by':Nat} {z:Value} {g:Nat} (L:Ps P ρ F k by' z) (hF:P.funcs[g]? =some F) (hk:0 < k) (b n c vb voff m vc:Nat) (cur:VC) (e:TypeId) (vs:WS) (w:World) (hm:0 < m) (hroom:n+m<=c) (hc63:c<=9223372036854775807)
  (hb:w.heap[b]? =some (.cells cur e (0,0))) (hcz:c*k<=cur.size) (hvl:vs.length=m*k)
  (hvs: ∀(j:Nat) (v:Value),vs[j]? =some v->w.cell? ⟨vb,voff+j,none⟩=some v) (h1v: ∀v∈vs,v.oneCell'=true):
  Calls P g #[.slice (some ⟨b,0,none⟩) n c,.int .i64 n,.slice (some ⟨vb,voff,none⟩) m vc] w fun e' w'=>
   e'= .returned (.slice (some ⟨b,0,none⟩) (n+m) c)/\w'=w.setRow b (Q8 cur (n*k) vs):=by
 have t0:=L.t0;have t3:=L.t3;have a3:=L.a3;have z3:=L.z3;have t4:=L.t4;have a4:=L.a4;have z4:=L.z4;have z9:=L.z9;have t24:=L.t24;have a24:=L.a24;have z24:=L.z24;have u0:=run_underlying L.t0;have u3:=run_underlying L.t3;have u4:=run_underlying L.t4;have u24:=run_underlying L.t24;have hz1: ¬((m:Int)=0):=by omega
 have mixed:=L.mixed;have hck: (n+m)*k<=c*k:=YE _ hroom;have hnik: (n+m)*k=n*k+m*k:=Yg _ _ _;obtain⟨i0,hi0,hz0,hzs,hzb⟩:=info_parts L.i9;have hrun: ∀ty,(Builtin.append_ #[(ρ.t 24),(ρ.t 24)] ty #[.slice (some ⟨b,0,none⟩) n c,.slice (some ⟨vb,voff,none⟩) m vc]).run P w= .ok (.slice (some ⟨b,0,none⟩) (n+m) c) (w.setRow b (Q8 cur (n*k) vs)):=fun ty=>by have:=VM (P:=P) (w:=w) (t:=ρ.t 24) (ty:=ty) (A:=⟨vb,voff,none⟩) (c:=vc) L.t24 hi0 hb (by rwa[hzs]) (fun j u hj=>by rw[Addr.add_lit];exact hvs j u hj) h1v hroom (by rw[hzs];omega);rwa[hzs]at this
 have hbody:=L.body;have hnt:=L.ntmps;have hres:=L.res;clear hvs hb hcz hck hnik hi0 hz0 hzs hzb;refine calls_of_wp hF hbody ?_;simp only[hnt,V2,Zu,Xc,Nat.reduceAdd,Nat.reduceSub,GL,GM,GU,GO,Y4,Xb];go_wp2_with (at_builtin;refine Lib.wpList_append_run _ rfl _ _ _ _ rfl _ _ rfl rfl _ _ (hrun _) ?_);refine bodyPost_ret (results_tmp hres _ _ _) rfl ?_;exact⟨rfl,rfl⟩
set_option maxHeartbeats 4000000 in
set_option maxRecDepth 100000 in
def QaN {F:Func} {k by':Nat} {z:Value} {g:Nat} (L:Ps P ρ F k by' z) (hF:P.funcs[g]? =some F) (hk:0 < k) (base:Option Addr) (n c vb voff m vc:Nat) (cs vs:WS) (w:World) (hm:0 < m) (hnc:n<=c) (hroom:c < n+m) (hbig: (n+m)*by'<=140737488355328) (h63:n+m<=140737488355328)
  (hcl:cs.length=n*k) (hvl:vs.length=m*k) (hnil:base=none->n=0/\c=0)
  (hcs: ∀a,base=some a->∀(j:Nat) (v:Value),cs[j]? =some v->w.cell? (a.add j)=some v)
  (hvs: ∀(j:Nat) (v:Value),vs[j]? =some v->w.cell? ⟨vb,voff+j,none⟩=some v) (h1v: ∀v∈vs,v.oneCell'=true):
  Calls P g #[.slice base n c,.int .i64 n,.slice (some ⟨vb,voff,none⟩) m vc] w fun e' w'=>
   e'= .returned (.slice (some ⟨w.heap.size,0,none⟩) (n+m) (grownCap w (n+m) c (ρ.t 9)))/\
   w'=w.drew.alloc (.cells ((cs ++ vs).toArray ++ Builtin.zeroCells z.cells (grownCap w (n+m) c (ρ.t 9) - (n+m))) (ρ.t 9)):=by
 have t0:=L.t0;have t3:=L.t3;have a3:=L.a3;have z3:=L.z3;have t4:=L.t4;have a4:=L.a4;have z4:=L.z4;have z9:=L.z9;have t24:=L.t24;have a24:=L.a24;have z24:=L.z24;have u0:=run_underlying L.t0;have u3:=run_underlying L.t3;have u4:=run_underlying L.t4;have u24:=run_underlying L.t24;have hz1: ¬((m:Int)=0):=by omega
 have mixed:=L.mixed;obtain⟨i0,hi0,hz0,hzs,hzb⟩:=info_parts L.i9;have hfit:Builtin.nextslicecap (n+m) c*i0.bytes<=281474976710656:=by rw[hzb];exact growslice_fits hroom hbig
 have hrun: ∀ty,(Builtin.append_ #[(ρ.t 24),(ρ.t 24)] ty #[.slice base n c,.slice (some ⟨vb,voff,none⟩) m vc]).run P w= .ok (.slice (some ⟨w.heap.size,0,none⟩) (n+m) (grownCap w (n+m) c (ρ.t 9))) (w.drew.alloc (.cells ((cs ++ vs).toArray ++ Builtin.zeroCells z.cells (grownCap w (n+m) c (ρ.t 9) - (n+m))) (ρ.t 9))):=fun ty=>by rcases base with _ | a;obtain⟨h0,h00⟩:=hnil rfl;subst h0 h00;rw[Nat.zero_mul]at hcl;rw[List.length_eq_zero_iff.1 hcl];(have h48:m*i0.bytes<=281474976710656:=by rw[hzb];rw[ZV]at hbig;omega);have:=run_append_nil (P:=P) w (ρ.t 24) ty (ρ.t 9) i0 z L.t24 hi0 hz0 ⟨vb,voff,none⟩ m vc vs (by rwa[hzs]) (fun j u hj=>by rw[Addr.add_lit];exact hvs j u hj) hm (by omega) h48;simpa using this;have:=run_append_grow (P:=P) w (ρ.t 24) ty (ρ.t 9) i0 z L.t24 hi0 hz0 a n c cs (by rwa[hzs]) (fun j v hj=>hcs a rfl j v hj) ⟨vb,voff,none⟩ m vc vs (by rwa[hzs]) (fun j u hj=>by rw[Addr.add_lit];exact hvs j u hj) hroom (by omega) hfit;simpa using this
 have hbody:=L.body;have hnt:=L.ntmps;have hres:=L.res;clear hvs hcs hi0 hz0 hzs hzb hfit L;generalize z.cells=ZC at *;refine calls_of_wp hF hbody ?_;simp only[hnt,V2,Zu,Xc,Nat.reduceAdd,Nat.reduceSub,GL,GM,GU,GO,Y4,Xb];cases base with | none=>obtain⟨h0,h00⟩:=hnil rfl;subst h0 h00;go_wp2_with (at_builtin;refine Lib.wpList_append_run _ rfl _ _ _ _ rfl _ _ rfl rfl _ _ (hrun _) ?_);refine bodyPost_ret (results_tmp hres _ _ _) rfl ?_;exact⟨rfl,rfl⟩ | some a=>obtain⟨ab,ao,asp⟩:=a;go_wp2_with (at_builtin;refine Lib.wpList_append_run _ rfl _ _ _ _ rfl _ _ rfl rfl _ _ (hrun _) ?_);all_goals refine bodyPost_ret (results_tmp hres _ _ _) rfl ?_;exact⟨rfl,rfl⟩
def Ju:=@Array.getElem?_push_size
def Jy:=@Array.getElem?_push_lt
set_option maxHeartbeats 4000000 in
set_option maxRecDepth 100000 in
def QlX {F:Func} {k by':Nat} {z:Value} {g:Nat} (L:Ps P ρ F k by' z) (hF:P.funcs[g]? =some F) (hk:0 < k) (b n c i vb voff m vc:Nat) (cs vs:WS) (w:World) (hi:i < n) (hm:0 < m) (hnc:n<=c) (hroom:c < n+m) (hbig: (n+m)*by'<=140737488355328) (h63:n+m<=140737488355328)
  (hc63:c<=9223372036854775807) (hcl:cs.length=n*k) (hvl:vs.length=m*k)
  (hcs: ∀(j:Nat) (v:Value),cs[j]? =some v->w.cell? ⟨b,j,none⟩=some v)
  (hvs: ∀(j:Nat) (v:Value),vs[j]? =some v->w.cell? ⟨vb,voff+j,none⟩=some v) (h1c: ∀v∈cs,v.oneCell'=true) (h1v: ∀v∈vs,v.oneCell'=true):
  Calls P g #[.slice (some ⟨b,0,none⟩) n c,.int .i64 i,.slice (some ⟨vb,voff,none⟩) m vc] w fun e' w'=>
   e'= .returned (.slice (some ⟨w.heap.size,0,none⟩) (n+m) (grownCap w (n+m) c (ρ.t 9)))/\
   ∃ROW:VC,ROW=(cs.take (i*k)).toArray ++ Builtin.zeroCells z.cells (n+m - i)++ Builtin.zeroCells z.cells (grownCap w (n+m) c (ρ.t 9) - (n+m))/\
   w'=(((w.alloc (.cells ROW (ρ.t 9))).drew.setRow w.heap.size (Q8 ROW (i*k) vs)).drew).setRow w.heap.size (Q8 (Q8 ROW (i*k) vs) ((i+m)*k) (cs.drop (i*k))):=by
 have t0:=L.t0;have t3:=L.t3;have a3:=L.a3;have z3:=L.z3;have t4:=L.t4;have a4:=L.a4;have z4:=L.z4;have z9:=L.z9;have t24:=L.t24;have a24:=L.a24;have z24:=L.z24;have u0:=run_underlying L.t0;have u3:=run_underlying L.t3;have u4:=run_underlying L.t4;have u24:=run_underlying L.t24;have mixed:=L.mixed;obtain⟨i0,hi0,hz0,hzs,hzb⟩:=info_parts L.i9;have hz1: ¬((m:Int)=0):=by omega
 have hz2: ¬((i:Int)=(n:Int)):=by omega
 have hz3: (c:Int) < (n:Int)+ (m:Int):=by omega
 have hsz:=L.sz;have hnik: (n+m)*k=n*k+m*k:=Yg _ _ _;have him: (i+m)*k=i*k+m*k:=Yg _ _ _;have hik:i*k<=n*k:=YE _ (by omega);have hsub: (n - i)*k=n*k - i*k:=G7 _ _ _;have hnmi: (n+m - i)*k=n*k+m*k - i*k:=by rw[G7,hnik]
 have hmk:0 < m*k:=Nj hm hk;have hnk:0 < n*k:=Nj (by omega) hk;have hbw:b < w.heap.size:=block_lt_of_cell (hcs 0 _ (Za (by omega)));have hvw:vb < w.heap.size:=block_lt_of_cell (hvs 0 _ (Za (by omega)));have hkk: (n:Int)+ (m:Int) - (i:Int)=((n+m - i:Nat):Int):=by omega
 have hik2:i+ (n+m - i)=n+m:=by omega
 have hfit:Builtin.nextslicecap (n+m) c*i0.bytes<=281474976710656:=by rw[hzb];exact growslice_fits hroom hbig
 have hfit2: (n+m - i)*i0.bytes<=281474976710656:=by rw[hzb];have: (n+m - i)*by'<=(n+m)*by':=YE _ (by omega);omega
 have hold: (Builtin.firstCells i0.size i (.slice (some ⟨b,0,none⟩) i c)).run P w.drew= .ok (cs.take (i*k)).toArray w.drew:=by rw[hzs];exact run_firstCells_some w.drew k i ⟨b,0,none⟩ i c (cs.take (i*k)) (by rw[Z9];omega) (fun j v hj=>by rw[Addr.add_lit,ZV];rw[TF]at hj;split at hj;exact hcs j v hj;cases hj)
 have hrz: ∀ty,(Builtin.append_ #[(ρ.t 24),(ρ.t 3)] ty #[.slice (some ⟨b,0,none⟩) i c,.int .i64 ((n:Int)+ (m:Int) - (i:Int))]).run P w= .ok (.slice (some ⟨w.heap.size,0,none⟩) (n+m) (grownCap w (n+m) c (ρ.t 9))) (w.drew.alloc (.cells ((cs.take (i*k)).toArray ++ Builtin.zeroCells z.cells (n+m - i)++ Builtin.zeroCells z.cells (grownCap w (n+m) c (ρ.t 9) - (n+m))) (ρ.t 9))):=fun ty=>by have h:=Lib.run_append_grow_zeros w (ρ.t 24) (ρ.t 3) ty (ρ.t 9) i0 _ .i64 .i64 L.t24 L.t3 hi0 hz0 (some ⟨b,0,none⟩) i c (cs.take (i*k)) hold (n+m - i) (by omega) (by rwa[hzs]) (by omega) (by omega) hfit2 (by rwa[hik2]);rw[hik2]at h;rwa[hkk]
 obtain⟨G,hG⟩: ∃G,G=grownCap w (n+m) c (ρ.t 9):=⟨_,rfl⟩;obtain⟨ROW,hROW⟩: ∃ROW:VC,ROW=(cs.take (i*k)).toArray ++ Builtin.zeroCells z.cells (n+m - i)++ Builtin.zeroCells z.cells (G - (n+m)):=⟨_,rfl⟩;rw[<- hG]at hrz ⊢;rw[<- hROW]at hrz ⊢;have hzl: ∀x,(Builtin.zeroCells z.cells x).size=x*k:=fun x=>by simp[Builtin.zeroCells,L.zc]
 have hRl: (n+m)*k<=ROW.size:=by rw[hROW];simp only[Nb,hzl,V2,Z9];omega
 obtain⟨W1,hW1⟩: ∃W1,W1=w.drew.alloc (.cells ROW (ρ.t 9)):=⟨_,rfl⟩;rw[<- hW1]at hrz;have hN:W1.heap[w.heap.size]? =some (.cells ROW (ρ.t 9) (0,0)):=by rw[hW1];exact Ju
 have hO: ∀x,x < w.heap.size->W1.heap[x]? =w.heap[x]? :=fun x hx=>by rw[hW1];show(w.heap.push _)[x]? =_;rw[Jy hx,Uw hx]
 have hOc: ∀(W:World) x,W.heap[x]? =w.heap[x]? ->∀j v,w.cell? ⟨x,j,none⟩=some v->W.cell? ⟨x,j,none⟩=some v:=fun W x hx j v h=>by obtain⟨cu,ee,ff,q1,q2⟩:=Un h;exact Sc (by rwa[hx]) q2
 have hcpA: ∀(W:World),W.heap=W1.heap->∀ty dc,(Builtin.copy_ #[(ρ.t 24),(ρ.t 24)] ty #[.slice (some ⟨w.heap.size,i*k,none⟩) (n+m - i) dc,.slice (some ⟨vb,voff,none⟩) m vc]).run P W= .ok (goInt (Nat.min m (n+m - i))) (W.setRow w.heap.size (Q8 ROW (i*k) vs)):=fun W hW ty dc=>WM W _ _ ty (ρ.t 9) k w.heap.size (i*k) (n+m - i) dc ⟨vb,voff,none⟩ m vc ROW (ρ.t 9) vs L.t24 hsz (by rwa[hW]) (by rw[hvl,Oy m (n+m - i) (by omega)]) (fun j v hj=>by rw[Addr.add_lit];exact hOc W vb (by rw[hW];exact hO vb hvw) _ v (hvs j v hj)) (by omega) h1v;have hGn:n+m<=G:=by rw[hG];exact grownCap_ge w _ _ _
 have hG63:G<=9223372036854775807:=by have:=grownCap_le_maxLen w (n+m) c (ρ.t 9) (by unfold maxLen;omega);rw[<- hG]at this;unfold maxLen at this;omega
 have hGi: ¬(G=i):=by omega
 have hGim: ¬(G=i+m):=by omega
 have hci: ¬(c=i):=by omega
 have hbN:b≠w.heap.size:=by omega
 have hdl: (cs.drop (i*k)).length=n*k - i*k:=by rw[UP,hcl]
 have hR1: (Q8 ROW (i*k) vs).size=ROW.size:=Wu (by omega);have hcpB: ∀(W:World),W.heap=(W1.setRow w.heap.size (Q8 ROW (i*k) vs)).heap->∀ty dc sc,(Builtin.copy_ #[(ρ.t 24),(ρ.t 24)] ty #[.slice (some ⟨w.heap.size,(i+m)*k,none⟩) (n+m - (i+m)) dc,.slice (some ⟨b,i*k,none⟩) (n - i) sc]).run P W= .ok (goInt (Nat.min (n - i) (n+m - (i+m)))) (W.setRow w.heap.size (Q8 (Q8 ROW (i*k) vs) ((i+m)*k) (cs.drop (i*k)))):=fun W hW ty dc sc=>WM W _ _ ty (ρ.t 9) k w.heap.size ((i+m)*k) (n+m - (i+m)) dc ⟨b,i*k,none⟩ (n - i) sc (Q8 ROW (i*k) vs) (ρ.t 9) (cs.drop (i*k)) L.t24 hsz (by rw[hW];exact Va hN) (by rw[hdl,<- hsub,Oy (n - i) _ (by omega)]) (fun j v hj=>by rw[Addr.add_lit];exact hOc W b (by rw[hW,setRow_other hbN];exact hO b hbw) _ v (hcs (i*k+j) v (by rwa[Vk]at hj))) (by omega) (fun v hv=>h1c v (List.mem_of_mem_drop hv));have hF1: ((w.alloc (.cells ROW (ρ.t 9))).drew).heap=W1.heap:=by rw[hW1];rfl
 have hF2: (((w.alloc (.cells ROW (ρ.t 9))).drew.setRow w.heap.size (Q8 ROW (i*k) vs)).drew).heap=(W1.setRow w.heap.size (Q8 ROW (i*k) vs)).heap:=by rw[hW1];rfl
 have hF3: ((w.alloc (.cells ROW (ρ.t 9))).drew.setRow w.heap.size (Q8 ROW (i*k) vs)).heap=(W1.setRow w.heap.size (Q8 ROW (i*k) vs)).heap:=by rw[hW1];rfl
 have hw1:IntKind.i64.wrap ((i:Int)+ (m:Int))=(i:Int)+ (m:Int):=by rw[IntKind.wrap_i64];omega
 have hb1: (0:Int)<=(i:Int)+ (m:Int):=by omega
 have hin:i<=n:=by omega
 have htn: ((i:Int)+ (m:Int)).toNat=i+m:=by omega
 have hb3: (i:Int)<=(n:Int):=by omega
 have hbody:=L.body;have hnt:=L.ntmps;have hres:=L.res;have hHid:Hid (ROW=_):=hROW;clear hROW;clear L hkk hik2 hold hG hRl hcs hvs hN hO hOc hnik him hik hsub hnmi hmk hnk hfit hfit2 hdl hR1 hzl;subst hW1;refine calls_of_wp hF hbody ?_;simp only[hnt,V2,Zu,Xc,Nat.reduceAdd,Nat.reduceSub,GL,GM,GU,GO,Y4,Xb];go_wp2_with (first | at_builtin;refine Lib.wpList_append_run _ rfl _ _ _ _ rfl _ _ rfl rfl _ _ (hrz _) ?_ | at_builtin;refine wpList_copy_runI _ rfl _ _ (ρ.t 24) (ρ.t 24) rfl _ _ rfl rfl (hcpA _ hF1 _ _) ?_ | at_builtin;refine wpList_copy_runI _ rfl _ _ (ρ.t 24) (ρ.t 24) rfl _ _ rfl rfl (hcpB _ hF3 _ _ _) ?_);go_region_law_o (refine step_copy_runI rfl _ _ (ρ.t 24) (ρ.t 24) rfl _ _ (by simp[Act.eval,Act.put]) (by simp[Act.eval,Act.put]) (hcpB _ hF2 _ _ _) ?_);go_wp2;refine bodyPost_ret (results_tmp hres _ _ _) rfl ?_;refine⟨rfl,ROW,?_,rfl⟩;unfold Hid at hHid;rw[hHid]
structure Gv (P:Program) (g:Nat) (T:TypeId) (k by':Nat) (z:Value):Prop where
 hk:0 < k
 zc:z.cells.size=k
 shift: ∀(b n c i vb voff m vc:Nat) (cur:Array Value) (e:TypeId) (cs vs:List Value) (w:World) (hi:i < n) (hm:0 < m) (hroom:n+m<=c) (hc63:c<=9223372036854775807) (hvb:vb≠b)
  (hb:w.heap[b]? =some (.cells cur e (0,0))) (hcz:c*k<=cur.size)
  (hcl:cs.length=n*k) (hvl:vs.length=m*k)
  (hcs: ∀(j:Nat) (v:Value),cs[j]? =some v->cur[j]? =some v)
  (hvs: ∀(j:Nat) (v:Value),vs[j]? =some v->w.cell? ⟨vb,voff+j,none⟩=some v) (h1c: ∀v∈cs,v.oneCell'=true) (h1v: ∀v∈vs,v.oneCell'=true),
  Calls P g #[.slice (some ⟨b,0,none⟩) n c,.int .i64 i,.slice (some ⟨vb,voff,none⟩) m vc] w fun e' w'=>
   e'= .returned (.slice (some ⟨b,0,none⟩) (n+m) c)/\w'=(w.drew.setRow b (Q8 cur ((i+m)*k) (cs.drop (i*k)))).setRow b (Q8 (Q8 cur ((i+m)*k) (cs.drop (i*k))) (i*k) vs)
 endRoom: ∀(b n c vb voff m vc:Nat) (cur:Array Value) (e:TypeId) (vs:List Value) (w:World) (hm:0 < m) (hroom:n+m<=c) (hc63:c<=9223372036854775807)
  (hb:w.heap[b]? =some (.cells cur e (0,0))) (hcz:c*k<=cur.size) (hvl:vs.length=m*k)
  (hvs: ∀(j:Nat) (v:Value),vs[j]? =some v->w.cell? ⟨vb,voff+j,none⟩=some v) (h1v: ∀v∈vs,v.oneCell'=true),
  Calls P g #[.slice (some ⟨b,0,none⟩) n c,.int .i64 n,.slice (some ⟨vb,voff,none⟩) m vc] w fun e' w'=>
   e'= .returned (.slice (some ⟨b,0,none⟩) (n+m) c)/\w'=w.setRow b (Q8 cur (n*k) vs)
 endGrow: ∀(base:Option Addr) (n c vb voff m vc:Nat) (cs vs:List Value) (w:World) (hm:0 < m) (hnc:n<=c) (hroom:c < n+m) (hbig: (n+m)*by'<=140737488355328) (h63:n+m<=140737488355328)
  (hcl:cs.length=n*k) (hvl:vs.length=m*k) (hnil:base=none->n=0/\c=0)
  (hcs: ∀a,base=some a->∀(j:Nat) (v:Value),cs[j]? =some v->w.cell? (a.add j)=some v)
  (hvs: ∀(j:Nat) (v:Value),vs[j]? =some v->w.cell? ⟨vb,voff+j,none⟩=some v) (h1v: ∀v∈vs,v.oneCell'=true),
  Calls P g #[.slice base n c,.int .i64 n,.slice (some ⟨vb,voff,none⟩) m vc] w fun e' w'=>
   e'= .returned (.slice (some ⟨w.heap.size,0,none⟩) (n+m) (grownCap w (n+m) c T))/\
   w'=w.drew.alloc (.cells ((cs ++ vs).toArray ++ Builtin.zeroCells z.cells (grownCap w (n+m) c T - (n+m))) T)
 grow: ∀(b n c i vb voff m vc:Nat) (cs vs:List Value) (w:World) (hi:i < n) (hm:0 < m) (hnc:n<=c) (hroom:c < n+m) (hbig: (n+m)*by'<=140737488355328) (h63:n+m<=140737488355328)
  (hc63:c<=9223372036854775807) (hcl:cs.length=n*k) (hvl:vs.length=m*k)
  (hcs: ∀(j:Nat) (v:Value),cs[j]? =some v->w.cell? ⟨b,j,none⟩=some v)
  (hvs: ∀(j:Nat) (v:Value),vs[j]? =some v->w.cell? ⟨vb,voff+j,none⟩=some v) (h1c: ∀v∈cs,v.oneCell'=true) (h1v: ∀v∈vs,v.oneCell'=true),
  Calls P g #[.slice (some ⟨b,0,none⟩) n c,.int .i64 i,.slice (some ⟨vb,voff,none⟩) m vc] w fun e' w'=>
   e'= .returned (.slice (some ⟨w.heap.size,0,none⟩) (n+m) (grownCap w (n+m) c T))/\
   ∃ROW:Array Value,ROW=(cs.take (i*k)).toArray ++ Builtin.zeroCells z.cells (n+m - i)++ Builtin.zeroCells z.cells (grownCap w (n+m) c T - (n+m))/\
   w'=(((w.alloc (.cells ROW T)).drew.setRow w.heap.size (Q8 ROW (i*k) vs)).drew).setRow w.heap.size (Q8 (Q8 ROW (i*k) vs) ((i+m)*k) (cs.drop (i*k)))
def Ps.con {F k a z g} (L:Ps P ρ F k a z) (c:P.funcs[g]? =some F) (b:0 < k):Gv P g (ρ.t 9) k a z:=
 ⟨b,L.zc,Qi3 L c b,QaO L c b,QaN L c b,QlX L c b⟩
end Go.Am
namespace Go.Am
open Go.Shelf Go.RowKit Go.Lib Go.Proofs
variable {P:Program} {ρ:Ren}
def Iw (i k:Nat) (cs vs:WS):WS:=cs.take (i*k)++ vs ++ cs.drop (i*k)
def QjL {a b d n m i k} (r:i<=n) (g:b.length=n*k) (w:d.length=m*k) (x: (n+m)*k<=a.size)
  (e: ∀(j:Nat) (v:Value),b[j]? =some v->a[j]? =some v) (j:Nat) (v) (c: (Iw i k b d)[j]? =some v):
  (Q8 (Q8 a ((i+m)*k) (b.drop (i*k))) (i*k) d)[j]? =some v:=by
 have p: (n+m)*k=n*k+m*k:=Yg _ _ _;have t: (i+m)*k=i*k+m*k:=Yg _ _ _;have q:i*k<=n*k:=YE _ r;have u: (b.drop (i*k)).length=n*k - i*k:=by rw[UP,g]
 have y: (Q8 a ((i+m)*k) (b.drop (i*k))).size=a.size:=Wu (by omega);have l: (b.take (i*k)).length=i*k:=by rw[Z9];omega
 rw[P9 (by omega),P9 (by omega)];unfold Iw at c;rw[ZU]at c;by_cases f:j < i*k;rw[Qg f,Qg (by omega)];rw[Y8 (by omega),V1 f]at c;exact e j v c;rw[Qe f];rw[Yv (by omega),l]at c;by_cases o:j < i*k+d.length;rw[Qg o];rwa[Y8 (by omega)]at c;rw[Qe o,Qe (by omega)];rw[Yv (by omega)]at c;have s:j - i*k - d.length < (b.drop (i*k)).length:=by rcases ZI (j - i*k - d.length) (b.drop (i*k)).length with h | h;exact h;rw[ZP h]at c;cases c
 rw[Qg (by omega)];rwa[show j - (i+m)*k=j - i*k - d.length by omega]
def Qmn {a o d c n m i k} (r:i<=n) (f:d.length=n*k) (q:c.length=m*k) (x:a=(d.take (i*k)).toArray ++ o) (w: (n+m)*k<=a.size)
  (j:Nat) (v) (b: (Iw i k d c)[j]? =some v):
  (Q8 (Q8 a (i*k) c) ((i+m)*k) (d.drop (i*k)))[j]? =some v:=by
 have g: (n+m)*k=n*k+m*k:=Yg _ _ _;have s: (i+m)*k=i*k+m*k:=Yg _ _ _;have t:i*k<=n*k:=YE _ r;have u: (d.drop (i*k)).length=n*k - i*k:=by rw[UP,f]
 have z: (Q8 a (i*k) c).size=a.size:=Wu (by omega);have e: (d.take (i*k)).length=i*k:=by rw[Z9];omega
 rw[P9 (by omega),P9 (by omega)];unfold Iw at b;rw[ZU]at b;by_cases l:j < i*k;rw[Qg (by omega),Qg l];rw[Y8 (by omega)]at b;rw[x,OK (by simp;omega)];simpa using b;rw[Yv (by omega),e]at b;by_cases y:j < i*k+c.length;rw[Qg (by omega),Qe l,Qg y];rwa[Y8 (by omega)]at b;rw[Qe (by omega)];rw[Yv (by omega)]at b;have p:j - i*k - c.length < (d.drop (i*k)).length:=by rcases ZI (j - i*k - c.length) (d.drop (i*k)).length with h | h;exact h;rw[ZP h]at b;cases b
 rw[Qg (by omega)];rwa[show j - (i+m)*k=j - i*k - c.length by omega]
def QcR (w:World) (b:Nat) (N k:Nat) (fl:WS) (e:Ending) (w':World):Prop:=
 ∃b' cap cur' t,e= .returned (.slice (some ⟨b',0,none⟩) N cap)/\N<=cap/\cap<=maxLen/\w'.heap[b']? =some (.cells cur' t (0,0))/\cur'.size=cap*k/\
  (∀(j:Nat) (v:Value),fl[j]? =some v->cur'[j]? =some v)/\w'.os=w.os/\w'.tape=w.tape/\w'.output=w.output/\
  ((b'=b/\w'.heap.size=w.heap.size)\/(b'=w.heap.size/\w'.heap.size=w.heap.size+1))/\∀x,x < w.heap.size->x≠b'->w'.heap[x]? =w.heap[x]?
def OY (w:World) (x a): (w.setRow x a).heap.size=w.heap.size:=by simp[World.setRow]
def Rg (z k x) (h:z.size=k): (Builtin.zeroCells z x).size=x*k:=by simp[Builtin.zeroCells,h]
def Z2:=@List.take_of_length_le
def Qy:=@List.append_nil
def GZ:=@Array.size_push
def Qp5 {T k Z z g} (L:Gv P g T k Z z) (b n c i J l m V r e p q w) (hi:i<=n) (hm:0 < m) (R:n<=c) (M:c<=maxLen) (hvb:J≠b)
  (E: (n+m)*Z<=140737488355328) (U:n+m<=140737488355328)
  (G:w.heap[b]? =some (.cells r e (0,0))) (hcz:c*k=r.size)
  (o:p.length=n*k) (s:q.length=m*k)
  (A: ∀(j:Nat) (v:Value),p[j]? =some v->r[j]? =some v)
  (D: ∀(j:Nat) (v:Value),q[j]? =some v->w.cell? ⟨J,l+j,none⟩=some v) (Q: ∀v∈p,v.oneCell'=true) (C: ∀v∈q,v.oneCell'=true):
  Calls P g #[.slice (some ⟨b,0,none⟩) n c,.int .i64 i,.slice (some ⟨J,l,none⟩) m V] w (QcR w b (n+m) k (Iw i k p q)):=by
 have hk:=L.hk;have y:c<=9223372036854775807:=by unfold maxLen at M;omega
 have hbl:b < w.heap.size:=by rcases ZI b w.heap.size with h | h;exact h;rw[Px h]at G;cases G
 have O: ∀x p,(w.setRow x p).heap.size=w.heap.size:=fun x p=>by simp[World.setRow]
 have W: (n+m)*k=n*k+m*k:=Yg _ _ _;have hG: ∀w:World,grownCap w (n+m) c T<=maxLen:=fun w=>grownCap_le_maxLen w _ c _ (by unfold maxLen;omega);by_cases hin:i=n;subst hin;have N:Iw i k p q=p ++ q:=by unfold Iw;rw[(Z2 (by omega)),(List.drop_of_length_le (by omega)),Qy]
 by_cases d:i+m<=c;have hck: (i+m)*k<=c*k:=YE _ d;refine(L.endRoom b i c J l m V r e q w hm d y G (by omega) s D C).mono fun e2 w' ⟨I,H⟩=> ?_;subst H;refine⟨b,c,_,e,I,d,M,Va G,by rw[Wu (by omega)];omega,fun j v t=> ?_,rfl,rfl,rfl,.inl ⟨rfl,O _ _⟩,fun x _ B=>setRow_other B⟩;rw[N]at t;rw[P9 (by omega)];by_cases c1:j < i*k;rw[Qg c1];rw[Y8 (by omega)]at t;exact A j v t;rw[Qe c1];rw[Yv (by omega),o]at t;have u:j - i*k < q.length:=by rcases ZI (j - i*k) q.length with h | h;exact h;rw[ZP h]at t;cases t
 rwa[Qg (by omega)];refine(L.endGrow (some ⟨b,0,none⟩) i c J l m V p q w hm R (by omega) E U o s (fun h=>by cases h) (fun a ha j v t=>by cases ha;rw[Addr.add_lit,ZV];exact Sc G (A j v t)) D C).mono fun e2 w' ⟨I,H⟩=> ?_;subst H;refine⟨w.heap.size,_,_,T,I,grownCap_ge w _ _ _,hG w,Ju,?_,fun j v t=> ?_,rfl,rfl,rfl,.inr ⟨rfl,GZ _⟩,fun x B _=> ?_⟩;have:=grownCap_ge w (i+m) c T;rw[Nb,Rg _ k _ L.zc,V2,Q6,o,s,<- Yg,<- Yg];congr 1;omega;rw[N]at t;have u:j < (p ++ q).length:=by rcases ZI j (p ++ q).length with h | h;exact h;rw[ZP h]at t;cases t
 rw[OK (by simpa using u)];simpa using t;show(w.heap.push _)[x]? =_;rw[Jy B,Uw B];have u:i < n:=by omega
 by_cases d:n+m<=c;have hck: (n+m)*k<=c*k:=YE _ d;refine(L.shift b n c i J l m V r e p q w u hm d y hvb G (by omega) o s A D Q C).mono fun e2 w' ⟨I,H⟩=> ?_;subst H;have hik:i*k<=n*k:=YE _ hi;have him: (i+m)*k=i*k+m*k:=Yg _ _ _;have hdl: (p.drop (i*k)).length=n*k - i*k:=by rw[UP,o]
 have K: (Q8 r ((i+m)*k) (p.drop (i*k))).size=r.size:=Wu (by omega);refine⟨b,c,_,e,I,d,M,Va (Va (w:=w.drew) G),by rw[Wu (by omega),K];omega,QjL hi o s (by omega) A,rfl,rfl,rfl,.inl ⟨rfl,?_⟩,fun x _ B=> ?_⟩;rw[OY,OY];rfl;rw[setRow_other B,setRow_other (w:=w.drew) B];rfl;refine(L.grow b n c i J l m V p q w u hm R (by omega) E U y o s (fun j v t=>Sc G (A j v t)) D Q C).mono fun e2 w' ⟨I,f,hR,H⟩=> ?_;subst H;have hik:i*k<=n*k:=YE _ hi;have him: (i+m)*k=i*k+m*k:=Yg _ _ _;have hdl: (p.drop (i*k)).length=n*k - i*k:=by rw[UP,o]
 have htl: (p.take (i*k)).length=i*k:=by rw[Z9];omega
 have X:=grownCap_ge w (n+m) c T;have hsub: (n+m - i)*k=n*k+m*k - i*k:=by rw[G7,W]
 have Y:f.size=grownCap w (n+m) c T*k:=by rw[hR];simp only[Nb,Rg _ k _ L.zc,V2,htl];rw[<- Yg,<- Yg];congr 1;omega
 have hRk: (n+m)*k<=f.size:=by rw[Y];exact YE _ X
 have K: (Q8 f (i*k) q).size=f.size:=Wu (by omega);refine⟨w.heap.size,_,_,T,I,X,hG w,Va (w:=((w.alloc (.cells f T)).drew.setRow w.heap.size (Q8 f (i*k) q)).drew) (Va (w:=(w.alloc (.cells f T)).drew) (Ju)),by rw[Wu (by omega),K,Y],Qmn hi o s (by rw[hR,Ai]) hRk,rfl,rfl,rfl,.inr ⟨rfl,?_⟩,fun x B S=> ?_⟩;rw[OY];show((w.alloc (.cells f T)).drew.setRow w.heap.size (Q8 f (i*k) q)).heap.size=_;rw[OY];exact GZ _;rw[setRow_other S];show((w.alloc (.cells f T)).drew.setRow w.heap.size (Q8 f (i*k) q)).heap[x]? =_;rw[setRow_other S];show(w.heap.push _)[x]? =_;rw[Jy B,Uw B]
end Go.Am
namespace Go.Am
open Go.Shelf Go.RowKit Go.Lib Go.Proofs
def P1 (i sz n:Nat) (cs:QB) (vs:Qr):QB:=((cs.take (n*sz)).take (i*sz)++ vs.flatten ++ (cs.take (n*sz)).drop (i*sz)).map AV.strip
def KD (g:Bool) (sz N:Nat) (fl:QB) (bs:Qr):Option (AV×Qr):=
 if Q5 fl=true then(if g then some (.gs bs.length 0 sz N,bs ++ [fl])else some (.sl true sz (ZR fl 0 sz N),bs))else none
def Lt (g:Bool) (bytes sz:Nat):QB->Qr->Option (AV×Qr)
 | [.gs id o sz1 n,.int .i64 i,.sl _ sz2 vs],bs=>
  if sz2=sz/\0 < sz/\vs≠[]/\0<=i/\i<=n/\(n+vs.length)*bytes<=140737488355328/\n+vs.length<=140737488355328 then
   (if sz1=0/\n=0 then KD g sz vs.length (P1 0 sz 0 [] vs) bs
    else if sz1=sz/\o=0 then(bs[id]?).bind fun cs=>if cs≠[]/\n*sz<=cs.length then KD g sz (n+vs.length) (P1 i.toNat sz n cs vs) (bs.set id [])else none
    else none)
   else none
 | _,_=>none
section
variable {P:Program} {num:Nat->Option Nat} {β:List Blk} {w w':World} {m:Nat->Nat} {ν:Own}
def QaP [Dr] {Γ:Oj} (hD: ¬Dr.d) {g O N Y T s bs' r e flv b} (hsz:0 < O) (hN:0 < N)
  (Z:KD g O N Y s=some (r,bs')) (hfl:Y.length=N*O) (hflv: ∀(j:Nat) (c:AV),Y[j]? =some c->∃u,flv[j]? =some u/\u.oneCell'=true/\Qi num β w m c u)
  (hst: ∀c∈Y,c.strip=c)
  (o:NC num β w m ν T) (C: ∀b p,ν b=some p->b < w.heap.size/\Γ.Gb<=b/\p.isG=true)
  (G:b < w.heap.size->m b=0/\∃I,ν b=some (.g I)/\s=T.set I []) (hb1:s=T\/∃I,s=T.set I [])
  (hp:QcR w b N O flv e w'):RF num β bs' r w m ν e w':=by
 obtain⟨l,V,y,t,rfl,p1,p2,p3,p4,p5,p6,p7,p8,p9,Q⟩:=hp;have hb':l < w'.heap.size:=by grind
 have A: (l=b/\b < w.heap.size)\/w.heap.size<=l:=by omega
 have hm0:l < w.heap.size->m l=0:=fun h=>by grind
 let q:Nat:=if g then 0 else N*O;have R:Le w m w' (m1 m l q):=fun x i u h=>by obtain⟨X,g2,g3⟩:=Ui h;(have a:x≠l:=fun e=>by grind);unfold hg m1;rw[Qe a,Qg X];have:=Q x g3 a;obtain⟨cu,ee,ff,q1,q2⟩:=Un g2;exact Sc (by rw[this];omega) q2
 have L:YX (fun b=>∃p,ν b=some p) w m w' (m1 m l q):=by refine⟨p6,p7,p8,(by omega),fun x a hX=> ?_,R,fun h=>absurd h hD⟩;(have M:x≠l:=fun e=>by grind);exact⟨Q x a M,by unfold m1;grind⟩
 have S: ∀(i:Nat) (K:QB),s[i]? =some K->K≠[]->T[i]? =some K/\∀k:Blk,β[i]? =some k->k.b≠l:=fun i K h H=>by(have n:T[i]? =some K:=by rcases hb1 with rfl | ⟨I,rfl⟩;exact h;rw[QG]at h;grind);refine⟨n,fun k hk e=> ?_⟩;have hν:=(Qrs (o.2 i K k n hk H)).1;have hkb:=(C _ _ hν).1;rcases A with⟨B,W⟩ | B;obtain⟨_,I,h4,h5⟩:=G W;grind;omega
 have D:s.length=T.length:=by rcases hb1 with rfl | ⟨I,rfl⟩ <;> simp
 have J: ∀(j:Nat) (c:AV),Y[j]? =some c->∃u,y[j]? =some u/\u.oneCell'=true/\Qi num β w' (m1 m l q) c u:=fun j c hc=>by obtain⟨u,n,B,W⟩:=hflv j c hc;exact⟨u,p5 j u n,B,ZW (Ge.refl β) R c u W⟩
 unfold KD at Z;split at Z;rename_i hgp;cases g;simp only[Xa,ZM,QW,Zk]at Z;obtain⟨rfl,rfl⟩:=Z;have hq:q=N*O:=rfl;let v:Own:=YV ν l .f;have z: ∀x p,ν x=some p->x≠l->w'.heap[x]? =w.heap[x]? /\m1 m l q x=m x/\v x=some p:=fun x p a M=>⟨Q x (C x p a).1 M,by unfold m1;grind,by simp only[v,YV];grind⟩;have E: ∀x i j,ν x=some (.gc i j)->x≠l:=fun x i j a e=>by subst e;rcases A with⟨rfl,n⟩ | n;obtain⟨_,I,B,_⟩:=G n;simp_all;have:=(C _ _ a).1;omega
 refine⟨_,m1 m l q,β,v,rfl,Ge.refl β,L,⟨by rw[D];exact o.1,fun i K k n B H=> ?_⟩,rfl,?_,?_,fun x p a=> ?_⟩;obtain⟨X,g2⟩:=S i K n H;have hkb:=g2 k B;refine Ub (Ge.refl β) R (fun x a=> ?_) (fun j x a=>z x _ a (E x _ _ a)) (o.2 i K k X B H);have:x≠l:=fun e=>by subst e;rcases A with⟨W,h4⟩ | h4;obtain⟨_,I,h5,h6⟩:=G h4;rw[W,h5]at a;injection a with a;injection a with a;subst a;rw[h6,Py (by rcases ZI I T.length with h | h;exact h;rw[ZP h]at X;cases X)]at n;injection n with n;simp_all;have:=(C _ _ a).1;omega
 exact z x _ a this;simp only[Qi];refine⟨_,N,V,rfl,VB _ _ _ _,p1,p2,.inr ⟨l,0,rfl,?_⟩⟩;rw[Vp];intro i x a;obtain⟨hi,rfl⟩:=PW a;have hi2:i*O+O<=N*O:=by rw[<- Tn];exact YE _ hi
 refine⟨by simp;omega,?_⟩;rw[YW];intro j c hc;obtain⟨d,hd,rfl⟩:=ZE hc;rw[TF]at hd;split at hd;rename_i hj;rw[Vk]at hd;obtain⟨u,r1,r2,r3⟩:=J _ d hd;refine⟨u,?_,r2,by rw[Zh];omega⟩;unfold hg;rw[show m1 m l q l=N*O by simp[m1,hq],Qg (by omega)];exact Sc p3 r1;cases hd;refine .inr ⟨l,V,y,t,by rw[VB],p3,p4,by rw[VB];simp[m1,hq],by simp[v,YV]⟩;simp only[v,YV]at a;split at a;rename_i e;injection a with a;subst a e;refine⟨hb',?_,.inr rfl⟩;rcases A with⟨rfl,n⟩ | n;obtain⟨_,I,B,_⟩:=G n;exact .inr ⟨_,B⟩;omega;have:=C x p a;exact⟨by omega,.inr ⟨p,a⟩,.inl this.2.2⟩;simp only[QU,QW,Zk]at Z;obtain⟨rfl,rfl⟩:=Z;have hq:q=0:=rfl;let v:Own:=YV ν l (.g s.length);have z: ∀x p,ν x=some p->x≠l->w'.heap[x]? =w.heap[x]? /\m1 m l q x=m x/\v x=some p:=fun x p a M=>⟨Q x (C x p a).1 M,by unfold m1;grind,by simp only[v,YV];grind⟩;have E: ∀x i j,ν x=some (.gc i j)->x≠l:=fun x i j a e=>by subst e;rcases A with⟨rfl,n⟩ | n;obtain⟨_,I,B,_⟩:=G n;simp_all;have:=(C _ _ a).1;omega
 have U:Ge β (β ++ [⟨l,y.size,false⟩]):=Ge.append β _;have hk: (β ++ [(⟨l,y.size,false⟩:Blk)])[s.length]? =some ⟨l,y.size,false⟩:=by rw[D,<- o.1];simp
 refine⟨_,m1 m l q,β ++ [⟨l,y.size,false⟩],v,rfl,U,L,⟨by simp[D,o.1],fun i K k n B H=> ?_⟩,rfl,?_,trivial,fun x p a=> ?_⟩;rw[LJ]at n;split at n;rename_i hi;rw[Y8 (by rw[o.1,<- D];omega)]at B;obtain⟨X,g2⟩:=S i K n H;refine Ub U R (fun x a=> ?_) (fun j x a=>z x _ a (E x _ _ a)) (o.2 i K k X B H);have:x≠l:=fun e=>by subst e;rcases A with⟨W,h4⟩ | h4;obtain⟨_,I,h5,h6⟩:=G h4;rw[W,h5]at a;simp_all;have:=(C _ _ a).1;omega
 exact z x _ a this;rename_i hi;have hi2:i=s.length:=by rcases ZI i (s ++ [Y]).length with h | h;simp at h;omega;exfalso;rw[Q6,Rn]at h;(have: (s ++ [Y])[i]? =some K:=by rw[LJ,Qe hi];omega);rw[ZP (by simpa using h)]at this;cases this
 subst hi2;simp only[To,Mh,QW]at n;subst n;rw[hk]at B;injection B with B;subst B;refine⟨fun _=>⟨y,t,p3,⟨rfl,by rw[hfl,p4];exact YE _ p1⟩,by simp[m1,hq],by simp[v,YV],fun j c hc=> ?_⟩,fun q=>by cases q⟩;obtain⟨u,r1,r2,r3⟩:=J j c hc;refine⟨u,r1,r2,ZW U (Le.refl _ _) c u r3,?_⟩;rw[<- hst c (TD hc)];exact Xo _ _ _;simp only[Qi];exact⟨_,V,rfl,p1,p2,.inr ⟨_,⟨hk,rfl⟩,rfl,by simp[p4],hsz⟩⟩;simp only[v,YV]at a;split at a;rename_i e;injection a with a;subst a e;refine⟨hb',?_,.inl rfl⟩;rcases A with⟨rfl,n⟩ | n;obtain⟨_,I,B,_⟩:=G n;exact .inr ⟨_,B⟩;omega;have:=C x p a;exact⟨by omega,.inr ⟨p,a⟩,.inl this.2.2⟩;grind
def L1 {a:QB} (c) (h:c∈a.map AV.strip):c.strip=c:=by
 obtain⟨d,_,rfl⟩:=YL.1 h;exact OZ d
def Qm9 {g} {a:Option Addr} {i} (q:g≠[]) (k:0 < i) (h:g=[]\/∃b o,a=some ⟨b,o,none⟩/\XO num β w m g (hg w m b) o i):
  ∃(f d:Nat) (e:WS),a=some ⟨f,d,none⟩/\e.length=g.length*i/\(∀j v,e[j]? =some v->w.cell? ⟨f,d+j,none⟩=some v)/\(∀v∈e,v.oneCell'=true)/\0 < m f/\
   ∀(j:Nat) c,(g.flatten.map AV.strip)[j]? =some c->∃u,e[j]? =some u/\u.oneCell'=true/\Qi num β w m c u:=by
 rcases h with h | ⟨f,d,rfl,h⟩;grind;have l: ∀j,j < g.length*i->∃u,hg w m f (d+j)=some u/\w.cell? ⟨f,d+j,none⟩=some u/\u.oneCell'=true:=fun j p=>by obtain⟨u,n,x⟩:=(ND h k) j p;exact⟨u,n,(Ui n).2.1,x⟩
 let e:WS:=(List.range (g.length*i)).map fun j=>(w.cell? ⟨f,d+j,none⟩).getD undef;have r: ∀(j:Nat) (v:Value),e[j]? =some v->j < g.length*i/\w.cell? ⟨f,d+j,none⟩=some v:=fun j v p=>by grind
 refine⟨f,d,e,rfl,by grind,fun j v p=>(r j v p).2,fun v t=> ?_,?_,fun j c y=> ?_⟩;grind;obtain⟨u,n,_,_⟩:=l 0 (Nj (JD.2 q) k);have:=(Ui n).1;omega;obtain⟨u,A,z,B⟩:=O6 h j c y;have s:j < g.length*i:=by rw[<- Te h];grind
 grind
def LI:=@Int.toNat_natCast
def Qd6 [Dr] {Γ} (hD: ¬Dr.d) {T k by' z id g} (L:Gv P id T k by' z):Pt P num Γ (Lt g by' k) id:=by
 intro args bs r bs' f hokv w m β ν vals hG hGb hvs D A O;unfold Lt at f;split at f;rename_i y o a n i _ sz2 p;split at f;rename_i S;obtain⟨R,hk,hne,hi0,hi1,hbig,h63⟩:=S;have R:=R.symm;subst R;obtain⟨u0,e0,r0⟩:=D 0 _ rfl;obtain⟨u1,e1,r1⟩:=D 1 _ rfl;obtain⟨u2,e2,r2⟩:=D 2 _ rfl;simp only[Qi]at r0 r1 r2;obtain⟨a0,c,rfl,q1,q2,Z⟩:=r0;subst r1;obtain⟨a2,mm,vc,rfl,s1,s2,s3,K⟩:=r2;subst s1;obtain⟨vb,t,J,rfl,t1,t2,t3,t4,t5⟩:=Qm9 hne hk K;have U:=JD.2 hne;obtain⟨i,rfl⟩: ∃j:Nat,i=j:=⟨i.toNat,by omega⟩;have hva:vals= #[.slice a0 n c,.int .i64 i,.slice (some ⟨vb,t,none⟩) p.length vc]:=by apply Array.ext;omega;intro j h1 h2;simp at h2;match j,h2 with | 0,_=>grind | 1,_=>rw[Uw h1]at e1;injection e1 | 2,_=>rw[Uw h1]at e2;injection e2
 subst hva;have C:n=0->c=0->∀M,(M=bs\/∃id,M=bs.set id [])->KD g k p.length (P1 0 k 0 [] p) M=some (r,bs')->Calls P id #[.slice a0 n c,.int .i64 i,.slice (some ⟨vb,t,none⟩) p.length vc] w (RF num β bs' r w m ν):=fun hn Q M hb1 hr=>by subst hn Q;(obtain rfl:i=0:=by omega);(have I:P1 0 k 0 [] p=p.flatten.map AV.strip:=by simp[P1]);refine(L.endGrow a0 0 0 vb t p.length vc [] J w U (QY _) (by omega) (by omega) (by omega) (by simp) t1 (fun _=>⟨rfl,rfl⟩) (fun _ _ j v l=>by grind) t2 t3).mono fun e w' ⟨he,hw⟩=> ?_;subst hw;rw[I]at hr;(have q: (p.flatten.map AV.strip).length=p.length*k:=by rcases K with K | ⟨b,o,_,K⟩;grind;exact Te K);refine QaP hD (b:=w.heap.size) (flv:=J) hk U hr q t5 (fun c f=>L1 c f) A O (fun h=>by omega) hb1 ?_;have hge:=grownCap_ge w (0+p.length) 0 T;refine⟨w.heap.size,_,_,T,by rw[he,ZV],by grind,grownCap_le_maxLen w _ _ _ (by omega),Ju,?_,fun j v l=> ?_,rfl,rfl,rfl,.inr ⟨rfl,GZ _⟩,fun x hx _=> ?_⟩;rw[ZV]at hge ⊢;rw[Nb,Rg _ k _ L.zc,V2,Y4,t1,<- Yg];grind;(have hl:j < J.length:=by grind);rw[OK (by simpa using hl)];simpa using l;show(w.heap.push _)[x]? =_;rw[Jy hx,Uw hx]
 by_cases hz:a=0/\n=0;rw[Qg hz]at f;obtain⟨rfl,rfl⟩:=hz;have Q:c=0:=by omega
 exact C rfl Q bs (.inl rfl) f;rw[Qe hz]at f;by_cases E:a=k/\o=0;rw[Qg E]at f;obtain⟨E,rfl⟩:=E;subst E;rcases V:bs[y]? with _ | G;rw[V]at f;cases f;rw[V]at f;simp only[QN]at f;by_cases W:G≠[]/\n*a<=G.length;rw[Qg W]at f;obtain⟨hcne,hcl⟩:=W;rcases Z with⟨Z,q4,_⟩ | ⟨kb,Z,rfl,q4,_⟩;subst Z q4;refine C rfl rfl (bs.set y []) (.inr ⟨y,rfl⟩) ?_;obtain rfl:i=0:=by omega
 rw[ZV]at f;simpa[P1]using f;obtain⟨Y,e,p1,p2,p3,p4,p5⟩:=(A.2 y G kb V Z.1 hcne).1 Z.2;rw[ZV]at q4;let s:WS:=Y.toList.take (n*a);have hnc:n*a<=Y.size:=by omega
 have hcsl:s.length=n*a:=by simp[s];omega
 have B: ∀j,j < n*a->∃c u,G[j]? =some c/\s[j]? =some u/\u.oneCell'=true/\Qi num β w m c u:=fun j l=>by(have hj2:j < G.length:=by omega);obtain⟨u,X,g2,g3,_⟩:=p5 j _ (Za hj2);refine⟨_,u,Za hj2,?_,g2,g3⟩;simp only[s,TF,Qg l];simpa using X
 have hbl:=(O _ _ p4).1;have hik:i*a<=n*a:=YE _ (by omega);have hnm: (n+p.length)*a=n*a+p.length*a:=Yg _ _ _;have q: (p.flatten.map AV.strip).length=p.length*a:=by rcases K with K | ⟨b,o,_,K⟩;grind;exact Te K
 have I:P1 i a n G p=((G.take (n*a)).take (i*a)).map AV.strip ++ p.flatten.map AV.strip ++ ((G.take (n*a)).drop (i*a)).map AV.strip:=by simp[P1]
 have hl1: (((G.take (n*a)).take (i*a)).map AV.strip).length=i*a:=by simp;omega
 have hl3: (((G.take (n*a)).drop (i*a)).map AV.strip).length=n*a - i*a:=by simp;omega
 have hcv1: (s.take (i*a)).length=i*a:=by rw[Z9];omega
 refine(Qp5 L kb.b n c i vb t p.length vc Y e s J w (by omega) U q1 q2 (fun e=>by grind) hbig h63 p1 (by omega) hcsl t1 (fun j v l=>by simp only[s,TF]at l;split at l;simpa using l;grind) t2 (fun v hv=>by obtain⟨j,l⟩:=Ro hv;(have H:j < n*a:=by rcases ZI j s.length with h | h;omega;rw[ZP h]at l;grind);obtain⟨_,u,_,g2,g3,_⟩:=B j H;grind) t3).mono fun e2 w' hp=> ?_;refine QaP hD (b:=kb.b) hk (by omega) f ?_ ?_ (fun c f=>L1 c f) A O (fun _=>⟨p3,y,p4,rfl⟩) (.inr ⟨y,rfl⟩) hp;simp only[LI,I,Q6,hl1,q,hl3];omega;intro j c l;simp only[LI,I]at l;unfold Iw;rw[ZU]at l ⊢;by_cases c1:j < i*a;rw[Y8 (by omega)]at l;rw[Y8 (by omega)];obtain⟨d,N,rfl⟩:=ZE l;rw[V1 c1,V1 (by omega)]at N;obtain⟨c',u,X,g2,g3,g4⟩:=B j (by omega);rw[N]at X;cases X;exact⟨u,by rwa[V1 c1],g3,by rwa[Zh]⟩;rw[Yv (by omega),hl1]at l;rw[Yv (by omega),hcv1];by_cases c2:j - i*a < p.length*a;rw[Y8 (by omega)]at l;rw[Y8 (by omega)];exact t5 _ c l;rw[Yv (by omega),q]at l;rw[Yv (by omega),t1];obtain⟨d,N,rfl⟩:=ZE l;rw[Vk]at N;have H:i*a+ (j - i*a - p.length*a) < n*a:=by rcases ZI (i*a+ (j - i*a - p.length*a)) (n*a)with h | h;exact h;rw[ZP (by simp;omega)]at N;cases N
 rw[V1 H]at N;obtain⟨c',u,X,g2,g3,g4⟩:=B _ H;rw[N]at X;cases X;exact⟨u,by rwa[Vk],g3,by rwa[Zh]⟩;rw[Qe W]at f;grind;rw[Qe E]at f;grind;grind;grind
end
end Go.Am
namespace Go.Am
set_option maxRecDepth 20000
inductive Tm where
 | mk (k:Int) (n:List UInt8) (s:Int) (kids:List Tm)
def Tm.kind:Tm->Int | .mk k _ _ _=>k
def Tm.name:Tm->Yi | .mk _ n _ _=>n
def Tm.sort:Tm->Int | .mk _ _ s _=>s
abbrev Qj:=List Tm
def Tm.kids:Tm->Qj | .mk _ _ _ ks=>ks
def UI (k n s a): (Tm.mk k n s a).kind=k:=rfl
def Yy (k n s a): (Tm.mk k n s a).name=n:=rfl
def S8 (k n s a): (Tm.mk k n s a).sort=s:=rfl
def ZJ (k n s a): (Tm.mk k n s a).kids=a:=rfl
attribute [simp] UI Yy S8 ZJ
def Tm.eta (t):Tm.mk t.kind t.name t.sort t.kids=t:=by cases t;rfl
def Yp {P:Tm->Prop} (h: ∀k n s a,(∀x∈a,P x)->P (.mk k n s a)): ∀t,P t:=by
 intro t;refine Tm.rec (motive_1:=P) (motive_2:=fun a=>∀x∈a,P x) ?_ ?_ ?_ t;intro k n s a e;exact h k n s a e;intro x b;cases b;intro t f c d x b;rcases Zl.1 b with rfl | b;exact c;exact d x b
mutual
def Qd:Tm->List AV
 | .mk k n s ks=>[.int .i64 k,.str n,.int .i64 s,.sl false 4 (Qa ks)]
def Qa:List Tm->List (List AV)
 | []=>[]
 | t:: ts=>Qd t:: Qa ts
end
def ZN (t):Qd t=[.int .i64 t.kind,.str t.name,.int .i64 t.sort,.sl false 4 (Qa t.kids)]:=by cases t;simp[Qd]
def Zr (a):Qa a=a.map Qd:=by
 induction a with | nil=>simp[Qa] | cons t a b=>simp[Qa,b]
def QX (a): (Qa a).length=a.length:=by simp[Zr]
def Xf (a) (i:Nat): (Qa a)[i]? =(a[i]?).map Qd:=by simp[Zr]
def QQ (a b):Qa a ++ Qa b=Qa (a ++ b):=by simp[Zr]
def NM (a n): (Qa a).take n=Qa (a.take n):=by simp[Zr]
def NL (a n): (Qa a).drop n=Qa (a.drop n):=by simp[Zr]
def WJ:Qa []=[]:=by simp[Qa]
def ZH (t): [Qd t]=Qa [t]:=by simp[Qa]
def XA (t): (Qd t).length=4:=by simp[ZN]
def Zc (t): (Qd t).map AV.strip=Qd t:=by simp[ZN,AV.strip]
def Qc (t): (Qd t).take 4=Qd t:=by simp[ZN]
def DG (t): (Qd t).drop 4=[]:=by simp[ZN]
def Qiw (t): (Qd t)[0]? =some (.int .i64 t.kind):=by simp[ZN]
def Qix (t): (Qd t)[1]? =some (.str t.name):=by simp[ZN]
def Qiy (t): (Qd t)[2]? =some (.int .i64 t.sort):=by simp[ZN]
def Qiz (t): (Qd t)[3]? =some (.sl false 4 (Qa t.kids)):=by simp[ZN]
def QdM (t) (h:0 < (Qd t).length): (Qd t)[0]= .int .i64 t.kind:=by simp[ZN]
def QdN (t) (h:1 < (Qd t).length): (Qd t)[1]= .str t.name:=by simp[ZN]
def QdO (t) (h:2 < (Qd t).length): (Qd t)[2]= .int .i64 t.sort:=by simp[ZN]
def QdP (t) (h:3 < (Qd t).length): (Qd t)[3]= .sl false 4 (Qa t.kids):=by simp[ZN]
mutual
theorem Ha: ∀t:Tm,Q5 (Qd t)=true
 | .mk k n s ks=>by simp[Qd,Q5,AV.gpfree,ZL ks]
theorem ZL: ∀ts:List Tm,ZD (Qa ts)=true
 | []=>by simp[Qa,ZD]
 | t:: ts=>by simp[Qa,ZD,Ha t,ZL ts]
end
def SG (k n s a): [AV.int .i64 k,.str n,.int .i64 s,.sl false 4 (Qa a)]=Qd (.mk k n s a):=by simp[Qd]
def QfK (k n s): [AV.int .i64 k,.str n,.int .i64 s,.sl false 4 []]=Qd (.mk k n s []):=by simp[Qd,Qa]
attribute [simp] QX Xf XA Zc Qc DG Qiw Qix Qiy Qiz QdM QdN QdO QdP Ha ZL
attribute [simp] Int.toNat_natCast
mutual
def Tm.nodes:Tm->Nat
 | .mk _ _ _ ks=>1+Qp ks
def Qp:List Tm->Nat
 | []=>0
 | t:: ts=>t.nodes+Qp ts
end
mutual
def Tm.mass:Tm->Nat
 | .mk _ n _ ks=>1+n.length+ks.length+Qw ks
def Qw:List Tm->Nat
 | []=>0
 | t:: ts=>t.mass+Qw ts
end
mutual
def Tm.depth:Tm->Nat
 | .mk _ _ _ ks=>XF ks+1
def XF:List Tm->Nat
 | []=>0
 | t:: ts=>max t.depth (XF ts)
end
def QL (t:Tm):t.mass=1+t.name.length+t.kids.length+Qw t.kids:=by cases t;simp[Tm.mass]
def WE (t:Tm):t.nodes=1+Qp t.kids:=by cases t;simp[Tm.nodes]
def Ks (t:Tm):t.depth=XF t.kids+1:=by cases t;simp[Tm.depth]
def QR {x}: ∀{ks},x∈ks->x.mass<=Qw ks
 | [],h=>by cases h
 | t:: a,h=>by
  simp only[Qw];rcases Zl.1 h with rfl | h;omega;have:=QR h;omega
def Fo {x}: ∀{a},x∈a->x.depth<=XF a
 | [],h=>by cases h
 | t:: b,h=>by
  simp only[XF];rcases Zl.1 h with rfl | h;omega;have:=Fo h;omega
def Y3 (a b):Qw (a ++ b)=Qw a+Qw b:=by
 induction a with | nil=>simp[Qw] | cons t d c=>simp[Qw,c];omega
def ZK (a b):Qp (a ++ b)=Qp a+Qp b:=by
 induction a with | nil=>simp[Qp] | cons t d c=>simp[Qp,c];omega
mutual
theorem Yu: ∀t:Tm,t.nodes<=t.mass
 | .mk _ _ _ ks=>by simp only[Tm.nodes,Tm.mass];have:=YN ks;omega
theorem YN: ∀ts:List Tm,Qp ts<=Qw ts
 | []=>by simp[Qp,Qw]
 | t:: ts=>by simp only[Qp,Qw];have:=Yu t;have:=YN ts;omega
end
mutual
theorem LX: ∀t:Tm,t.depth<=t.nodes
 | .mk _ _ _ ks=>by simp only[Tm.nodes,Tm.depth];have:=Sw ks;omega
theorem Sw: ∀ts:List Tm,XF ts<=Qp ts
 | []=>by simp[Qp,XF]
 | t:: ts=>by simp only[Qp,XF];have:=LX t;have:=Sw ts;omega
end
def E4 (a b:Int): (a == b)=decide (a=b):=by by_cases h:a=b <;> simp[h]
def E5 (a b:Int): (a != b)= !decide (a=b):=by by_cases h:a=b <;> simp[h]
attribute [local simp] E4 E5
def Qv {d:Type} {c b a} {x:d} (h:c=b ++ x:: a):c[b.length]? =some x:=by subst h;simp
def big:Nat:=1099511627776
def sgn (a b:Int):Int:=if a < b then -1 else if a > b then 1 else 0
def Vs (a b:Yi):Int:=if Op.bytesLess a b then -1 else if a == b then 0 else 1
def or0 (c d:Int):Int:=if c=0 then d else c
def Rb (d):or0 0 d=d:=rfl
def CL (c):or0 c 0=c:=by unfold or0;split <;> simp_all
def MG {c} (h:c≠0) (d):or0 c d=c:=by simp[or0,h]
def OC {a b}:or0 a b=0↔a=0/\b=0:=by unfold or0;split <;> simp_all
def hdT (t u:Tm):Int:=or0 (sgn t.nodes u.nodes) (or0 (sgn t.kind u.kind) (or0 (Vs t.name u.name) (or0 (sgn t.sort u.sort) (sgn t.kids.length u.kids.length))))
mutual
def Qo:Tm->Tm->Int
 | .mk k n s ks,u=>or0 (hdT (.mk k n s ks) u) (WU ks u.kids)
def WU:List Tm->List Tm->Int
 | [],_=>0
 | _:: _,[]=>0
 | t:: ts,u:: us=>or0 (Qo t u) (WU ts us)
end
def Oq (t u):Qo t u=or0 (hdT t u) (WU t.kids u.kids):=by cases t;simp[Qo]
def MN {a b}:sgn a b=0↔a=b:=by unfold sgn;split <;> (try split) <;> omega
mutual
def Qan:AV->Option (List Tm)
 | .sl _ 4 xs=>TL xs
 | _=>none
def Ii:List AV->Option Tm
 | [.int .i64 k,.str n,.int .i64 s,x]=>(Qan x).map fun ks=> .mk k n s ks
 | _=>none
def TL:List (List AV)->Option (List Tm)
 | []=>some []
 | x:: xs=>match Ii x,TL xs with
  | some t,some ts=>some (t:: ts)
  | _,_=>none
end
mutual
theorem Qlq: ∀t:Tm,Ii (Qd t)=some t
 | .mk k n s ks=>by simp only[Qd,Ii,Qan,HS ks,Zn]
theorem HS: ∀ts:List Tm,TL (Qa ts)=some ts
 | []=>by simp only[Qa,TL]
 | t:: ts=>by simp only[Qa,TL,Qlq t,HS ts]
end
def RP (t:Tm):Qj->Qj
 | []=>[t]
 | x:: xs=>if Qo x t < 0 then x:: RP t xs else t:: x:: xs
def XL:Qj->Qj
 | []=>[]
 | t:: ts=>RP t (XL ts)
def NT:QB->Qr->Option (AV×Qr)
 | [.gs id o sz n,.fn 30 []],bs=>if n=0 then some (.tup [],bs)else if sz=4/\n < 4611686018427387904 then(bs[id]?).bind fun cs=>
   if o+n*4<=cs.length then(TL (ZR cs o 4 n)).bind fun ts=>if ts.all (fun t=>decide (t.mass < big))then some (.tup [],bs.set id (put cs o (Qa (XL ts)).flatten))else none else none
   else none
 | _,_=>none
end Go.Am
namespace Go.Am
def Ei:QB->Option AV
 | [.str s,.str cs]=>if(cs.all (· < 128) && decide (s.length < 4294967281) && decide (cs.length < 4294967281))=true then some (.str (Lib.trimS s cs))else none
 | _=>none
def Hc (bytes sz:Nat):QB->Qr->Option (AV×Qr)
 | [.gs _ _ 0 0,.int .i64 n],bs=>if 0<=n/\n.toNat* bytes<=140737488355328/\n<=4611686018427387904 then some (.sl true sz [],bs)else none
 | _,_=>none
end Go.Am
