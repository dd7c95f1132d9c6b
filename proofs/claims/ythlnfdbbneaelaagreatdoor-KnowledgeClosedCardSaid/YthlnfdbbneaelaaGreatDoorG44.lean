/-
  SeatIns.
-/
import Derived.Test.YthlnfdbbneaelaaGreatDoorG09
import Derived.Test.YthlnfdbbneaelaaGreatDoorProg
set_option linter.all false
namespace Go.Am
open Go.Shelf Go.RowKit Go.Lib Go.Proofs
structure L0 (k by':Nat) (z:Value):Prop where
 mixed:Tryz.prog.follows .mixedOrders=true
 f29: ∀(args:Array Value) (w:World),(callFunc 123 args).run Tryz.prog w=((Extern.SlicesOverlaps.overlaps #[26,26] #[4] args).run Tryz.prog w).andThen fun v w'=> .ok (.value v) w'
 t0:Tryz.prog.underlying 0=some (TypeDesc.tuple #[])
 t3:Tryz.prog.underlying 3=some (TypeDesc.int IntKind.i64)
 a3: ∀w,(isAgg 3).run Tryz.prog w= .ok false w
 z3: ∀w,(Go.sizeOf 3).run Tryz.prog w= .ok 1 w
 t4:Tryz.prog.underlying 4=some (TypeDesc.bool)
 a4: ∀w,(isAgg 4).run Tryz.prog w= .ok false w
 z4: ∀w,(Go.sizeOf 4).run Tryz.prog w= .ok 1 w
 z9: ∀w,(Go.sizeOf 29).run Tryz.prog w= .ok k w
 tS:Tryz.prog.underlying 47=some (TypeDesc.slice 29)
 aS: ∀w,(isAgg 47).run Tryz.prog w= .ok false w
 zS: ∀w,(Go.sizeOf 47).run Tryz.prog w= .ok 1 w
 tV:Tryz.prog.underlying 26=some (TypeDesc.slice 29)
 aV: ∀w,(isAgg 26).run Tryz.prog w= .ok false w
 zV: ∀w,(Go.sizeOf 26).run Tryz.prog w= .ok 1 w
 i9: (Tryz.prog.info? 29).map (fun i=>(i.zero,i.size,i.bytes))=some (some z,k,by')
 zc:z.cells.size=k
theorem L0.sz {k by':Nat} {z:Value} (L:L0 k by' z): (Tryz.prog.info? 29).map (·.size)=some k:=by
 obtain⟨i0,hi0,h0,h1,h2⟩:=info_parts L.i9;rw[hi0];simp[h1]
set_option maxHeartbeats 4000000 in
set_option maxRecDepth 100000 in
theorem QfT {k by':Nat} {z:Value} (L:L0 k by' z) (hk:0 < k) (b n c i vb voff m vc:Nat) (cur:Array Value) (e:TypeId) (cs vs:List Value) (w:World) (hi:i < n) (hm:0 < m) (hroom:n+m≤c) (hc63:c≤9223372036854775807) (hvb:vb≠b)
  (hb:w.heap[b]? =some (.cells cur e (0,0))) (hcz:c*k≤cur.size)
  (hcl:cs.length=n*k) (hvl:vs.length=m*k)
  (hcs: ∀(j:Nat) (v:Value),cs[j]? =some v→cur[j]? =some v)
  (hvs: ∀(j:Nat) (v:Value),vs[j]? =some v→w.cell? ⟨vb,voff+j,none⟩=some v) (h1c: ∀v∈cs,v.oneCell'=true) (h1v: ∀v∈vs,v.oneCell'=true):
  Calls Tryz.prog 77 #[.slice (some ⟨b,0,none⟩) n c,.int .i64 i,.slice (some ⟨vb,voff,none⟩) m vc] w fun e' w'=>
   e'= .returned (.slice (some ⟨b,0,none⟩) (n+m) c)∧w'=(w.drew.setRow b (Q6 cur ((i+m)*k) (cs.drop (i*k)))).setRow b (Q6 (Q6 cur ((i+m)*k) (cs.drop (i*k))) (i*k) vs):=by
 have t0:=L.t0;have t3:=L.t3;have a3:=L.a3;have z3:=L.z3;have t4:=L.t4;have a4:=L.a4;have z4:=L.z4;have z9:=L.z9;have tS:=L.tS;have aS:=L.aS;have zS:=L.zS;have tV:=L.tV;have aV:=L.aV;have zV:=L.zV
 have u0:=run_underlying L.t0;have u3:=run_underlying L.t3;have u4:=run_underlying L.t4;have uS:=run_underlying L.tS;have uV:=run_underlying L.tV
 have hz1: ¬((m:Int)=0):=by omega
 have hz2: ¬((i:Int)=(n:Int)):=by omega
 have hsz:=L.sz;have hnik: (n+m)*k=n*k+m*k:=Nat.add_mul _ _ _;have him: (i+m)*k=i*k+m*k:=Nat.add_mul _ _ _;have hik:i*k≤n*k:=Nat.mul_le_mul_right _ (by omega);have hck: (n+m)*k≤c*k:=Nat.mul_le_mul_right _ hroom;have hmk:0 < m*k:=Nat.mul_pos hm hk;have hsub: (n - i)*k=n*k - i*k:=Nat.sub_mul _ _ _;have hdl: (cs.drop (i*k)).length=n*k - i*k:=by rw[List.length_drop,hcl]
 obtain⟨cv,ev,fv,hvh,hv0⟩:=Ug (hvs 0 _ (List.getElem?_eq_getElem (by omega)));have hcvz:cv.size≠0:=fun h0=>by rw[Array.getElem?_eq_none (by omega)]at hv0;cases hv0
 have hov: ∀lb cb,(callFunc 123 #[.slice (some ⟨vb,voff,none⟩) m vc,.slice (some ⟨b,(i+m)*k,none⟩) lb cb]).run Tryz.prog w= .ok (.value (.bool false)) w:=fun lb cb=>by
  rw[L.f29,MB w 26 4 29 L.tV k L.z9 ⟨vb,voff,none⟩ ⟨b,(i+m)*k,none⟩ m vc lb cb hvb hvh hb hcvz (by omega)];rfl
 have mixed:=L.mixed;have hw1:IntKind.i64.wrap ((i:Int)+ (m:Int))=(i:Int)+ (m:Int):=by rw[IntKind.wrap_i64];omega
 have hb1: (0:Int)≤(i:Int)+ (m:Int):=by omega
 have hin:i≤n:=by omega
 have htn: ((i:Int)+ (m:Int)).toNat=i+m:=by omega
 have hb2: ¬(c=i+m):=by omega
 have hb3: (i:Int)≤(n:Int)+ (m:Int):=by omega
 have hb4: ¬(c=i):=by omega
 have hcp1: ∀ty dc sc,(Builtin.copy_ #[47,47] ty #[.slice (some ⟨b,(i+m)*k,none⟩) (n+m - (i+m)) dc,.slice (some ⟨b,i*k,none⟩) (n+m - i) sc]).run Tryz.prog w.drew= .ok (goInt (Nat.min (n+m - i) (n+m - (i+m)))) (w.drew.setRow b (Q6 cur ((i+m)*k) (cs.drop (i*k)))):=fun ty dc sc=>
  WH w.drew _ _ ty 29 k b ((i+m)*k) (n+m - (i+m)) dc ⟨b,i*k,none⟩ (n+m - i) sc cur e (cs.drop (i*k)) L.tS hsz hb (by rw[QdP n i m hin,hdl,hsub])
   (fun j v hj=>by
    rw[Addr.add_lit];have:=hcs (i*k+j) v (by rwa[List.getElem?_drop]at hj);exact TQ (w:=w.drew) hb this)
   (by omega) (fun v hv=>h1c v (List.mem_of_mem_drop hv))
 obtain⟨cur1,hcur1⟩: ∃cur1,cur1=Q6 cur ((i+m)*k) (cs.drop (i*k)):=⟨_,rfl⟩;obtain⟨W1,hW1⟩: ∃W1,W1=w.drew.setRow b (Q6 cur ((i+m)*k) (cs.drop (i*k))):=⟨_,rfl⟩;have hbW:W1.heap[b]? =some (.cells cur1 e (0,0)):=by rw[hW1,hcur1];exact W4 (w:=w.drew) hb
 have hvW:W1.heap[vb]? =some (.cells cv ev fv):=by rw[hW1,setRow_other (w:=w.drew) hvb];exact hvh
 have hs1:cur1.size=cur.size:=by rw[hcur1,Wr (by omega)]
 have hcp2: ∀(W:World),W.heap=W1.heap→∀ty dc,(Builtin.copy_ #[47,26] ty #[.slice (some ⟨b,i*k,none⟩) (n+m - i) dc,.slice (some ⟨vb,voff,none⟩) m vc]).run Tryz.prog W= .ok (goInt (Nat.min m (n+m - i))) (W.setRow b (Q6 cur1 (i*k) vs)):=fun W hWc ty dc=>
  WH W _ _ ty 29 k b (i*k) (n+m - i) dc ⟨vb,voff,none⟩ m vc cur1 e vs L.tS hsz (by rw[hWc];exact hbW) (by rw[hvl,Oj m (n+m - i) (by omega)])
   (fun j v hj=>by
    rw[Addr.add_lit];have:=hvs j v hj;refine TQ (w:=W) (by rw[hWc];exact hvW) ?_;obtain⟨_,_,_,q1,q2⟩:=Ug this;rw[hvh]at q1;injection q1 with q1
    injection q1 with q1
    rw[q1];exact q2)
   (by omega) h1v
 rw[← hW1]at hcp1;rw[← hcur1];have hbody:Tryz.f77.body=Tryz.f77.body:=rfl;have hnt:Tryz.f77.ntmps=95:=rfl;have hres:Tryz.f77.results= #[.tmp 6]:=rfl;clear hcs hvs hnik him hik hsub hdl hbW hvW hs1 hck hcz hvh hb hv0 hcvz;refine calls_of_wp Tryz.func77 hbody ?_;simp only[hnt,List.size_toArray,List.length_cons,List.length_nil,Nat.reduceAdd,Nat.reduceSub,Array.replicate_succ,
   Array.replicate_zero,List.push_toArray,List.append_toArray,List.nil_append,List.cons_append]
 go_wp2_with (simp only[hov])
 go_region_law_o (refine step_copy_runI rfl _ _ 47 47 rfl _ _ (by simp[Act.eval,Act.put]) (by simp[Act.eval,Act.put]) (hcp1 _ _ _) ?_)
 go_wp2_with (at_builtin;refine wpList_copy_runI _ rfl _ _ 47 26 rfl _ _ rfl rfl (hcp2 _ rfl _ _) ?_)
 refine bodyPost_ret (results_tmp hres _ _ _) rfl ?_;exact⟨rfl,by rw[hcur1]⟩
set_option maxHeartbeats 4000000 in
set_option maxRecDepth 100000 in
theorem DY {k by':Nat} {z:Value} (L:L0 k by' z) (hk:0 < k) (b n c vb voff m vc:Nat) (cur:Array Value) (e:TypeId) (vs:List Value) (w:World) (hm:0 < m) (hroom:n+m≤c) (hc63:c≤9223372036854775807)
  (hb:w.heap[b]? =some (.cells cur e (0,0))) (hcz:c*k≤cur.size) (hvl:vs.length=m*k)
  (hvs: ∀(j:Nat) (v:Value),vs[j]? =some v→w.cell? ⟨vb,voff+j,none⟩=some v) (h1v: ∀v∈vs,v.oneCell'=true):
  Calls Tryz.prog 77 #[.slice (some ⟨b,0,none⟩) n c,.int .i64 n,.slice (some ⟨vb,voff,none⟩) m vc] w fun e' w'=>
   e'= .returned (.slice (some ⟨b,0,none⟩) (n+m) c)∧w'=w.setRow b (Q6 cur (n*k) vs):=by
 have t0:=L.t0;have t3:=L.t3;have a3:=L.a3;have z3:=L.z3;have t4:=L.t4;have a4:=L.a4;have z4:=L.z4;have z9:=L.z9;have tS:=L.tS;have aS:=L.aS;have zS:=L.zS;have tV:=L.tV;have aV:=L.aV;have zV:=L.zV
 have u0:=run_underlying L.t0;have u3:=run_underlying L.t3;have u4:=run_underlying L.t4;have uS:=run_underlying L.tS;have uV:=run_underlying L.tV
 have hz1: ¬((m:Int)=0):=by omega
 have mixed:=L.mixed;have hck: (n+m)*k≤c*k:=Nat.mul_le_mul_right _ hroom;have hnik: (n+m)*k=n*k+m*k:=Nat.add_mul _ _ _;obtain⟨i0,hi0,hz0,hzs,hzb⟩:=info_parts L.i9;have hrun: ∀ty,(Builtin.append_ #[47,26] ty #[.slice (some ⟨b,0,none⟩) n c,.slice (some ⟨vb,voff,none⟩) m vc]).run Tryz.prog w= .ok (.slice (some ⟨b,0,none⟩) (n+m) c) (w.setRow b (Q6 cur (n*k) vs)):=fun ty=>by
  rw[Mi L.tS L.tV];have:=VE (P:=Tryz.prog) (w:=w) (t:=47) (ty:=ty) (A:=⟨vb,voff,none⟩) (c:=vc) L.tS hi0 hb (by rw[hzs];exact hvl) (fun j u hj=>by rw[Addr.add_lit];exact hvs j u hj) h1v hroom (by rw[hzs];omega);rw[hzs]at this;exact this
 have hbody:Tryz.f77.body=Tryz.f77.body:=rfl;have hnt:Tryz.f77.ntmps=95:=rfl;have hres:Tryz.f77.results= #[.tmp 6]:=rfl;clear hvs hb hcz hck hnik hi0 hz0 hzs hzb;refine calls_of_wp Tryz.func77 hbody ?_;simp only[hnt,List.size_toArray,List.length_cons,List.length_nil,Nat.reduceAdd,Nat.reduceSub,Array.replicate_succ,
   Array.replicate_zero,List.push_toArray,List.append_toArray,List.nil_append,List.cons_append]
 go_wp2_with (at_builtin;refine Lib.wpList_append_run _ rfl _ _ _ _ rfl _ _ rfl rfl _ _ (hrun _) ?_)
 refine bodyPost_ret (results_tmp hres _ _ _) rfl ?_;exact⟨rfl,rfl⟩
set_option maxHeartbeats 4000000 in
set_option maxRecDepth 100000 in
theorem DX {k by':Nat} {z:Value} (L:L0 k by' z) (hk:0 < k) (base:Option Addr) (n c vb voff m vc:Nat) (cs vs:List Value) (w:World) (hm:0 < m) (hnc:n≤c) (hroom:c < n+m) (hbig: (n+m)*by'≤140737488355328) (h63:n+m≤140737488355328)
  (hcl:cs.length=n*k) (hvl:vs.length=m*k) (hnil:base=none→n=0∧c=0)
  (hcs: ∀a,base=some a→∀(j:Nat) (v:Value),cs[j]? =some v→w.cell? (a.add j)=some v)
  (hvs: ∀(j:Nat) (v:Value),vs[j]? =some v→w.cell? ⟨vb,voff+j,none⟩=some v) (h1v: ∀v∈vs,v.oneCell'=true):
  Calls Tryz.prog 77 #[.slice base n c,.int .i64 n,.slice (some ⟨vb,voff,none⟩) m vc] w fun e' w'=>
   e'= .returned (.slice (some ⟨w.heap.size,0,none⟩) (n+m) (grownCap w (n+m) c 29))∧
   w'=w.drew.alloc (.cells ((cs ++ vs).toArray ++ Builtin.zeroCells z.cells (grownCap w (n+m) c 29 - (n+m))) 29):=by
 have t0:=L.t0;have t3:=L.t3;have a3:=L.a3;have z3:=L.z3;have t4:=L.t4;have a4:=L.a4;have z4:=L.z4;have z9:=L.z9;have tS:=L.tS;have aS:=L.aS;have zS:=L.zS;have tV:=L.tV;have aV:=L.aV;have zV:=L.zV
 have u0:=run_underlying L.t0;have u3:=run_underlying L.t3;have u4:=run_underlying L.t4;have uS:=run_underlying L.tS;have uV:=run_underlying L.tV
 have hz1: ¬((m:Int)=0):=by omega
 have mixed:=L.mixed;obtain⟨i0,hi0,hz0,hzs,hzb⟩:=info_parts L.i9;have hfit:Builtin.nextslicecap (n+m) c*i0.bytes≤281474976710656:=by rw[hzb];exact growslice_fits hroom hbig
 have hrun: ∀ty,(Builtin.append_ #[47,26] ty #[.slice base n c,.slice (some ⟨vb,voff,none⟩) m vc]).run Tryz.prog w=
   .ok (.slice (some ⟨w.heap.size,0,none⟩) (n+m) (grownCap w (n+m) c 29)) (w.drew.alloc (.cells ((cs ++ vs).toArray ++ Builtin.zeroCells z.cells (grownCap w (n+m) c 29 - (n+m))) 29)):=fun ty=>by
  rw[Mi L.tS L.tV];cases base with
  | none=>
   obtain⟨h0,h00⟩:=hnil rfl;subst h0 h00;rw[Nat.zero_mul]at hcl;rw[List.length_eq_zero_iff.1 hcl];have h48:m*i0.bytes≤281474976710656:=by rw[hzb];rw[Nat.zero_add]at hbig;omega
   have:=run_append_nil (P:=Tryz.prog) w 47 ty 29 i0 z L.tS hi0 hz0 ⟨vb,voff,none⟩ m vc vs (by rw[hzs];exact hvl) (fun j u hj=>by rw[Addr.add_lit];exact hvs j u hj) hm (by omega) h48;simpa using this
  | some a=>
   have:=run_append_grow (P:=Tryz.prog) w 47 ty 29 i0 z L.tS hi0 hz0 a n c cs (by rw[hzs];exact hcl) (fun j v hj=>hcs a rfl j v hj) ⟨vb,voff,none⟩ m vc vs (by rw[hzs];exact hvl) (fun j u hj=>by rw[Addr.add_lit];exact hvs j u hj) hroom (by omega) hfit;simpa using this
 have hbody:Tryz.f77.body=Tryz.f77.body:=rfl;have hnt:Tryz.f77.ntmps=95:=rfl;have hres:Tryz.f77.results= #[.tmp 6]:=rfl;clear hvs hcs hi0 hz0 hzs hzb hfit L;generalize z.cells=ZC at *;refine calls_of_wp Tryz.func77 hbody ?_;simp only[hnt,List.size_toArray,List.length_cons,List.length_nil,Nat.reduceAdd,Nat.reduceSub,Array.replicate_succ,
   Array.replicate_zero,List.push_toArray,List.append_toArray,List.nil_append,List.cons_append]
 cases base with
 | none=>
  obtain⟨h0,h00⟩:=hnil rfl;subst h0 h00
  go_wp2_with (at_builtin;refine Lib.wpList_append_run _ rfl _ _ _ _ rfl _ _ rfl rfl _ _ (hrun _) ?_)
  refine bodyPost_ret (results_tmp hres _ _ _) rfl ?_;exact⟨rfl,rfl⟩
 | some a=>
  obtain⟨ab,ao,asp⟩:=a
  go_wp2_with (at_builtin;refine Lib.wpList_append_run _ rfl _ _ _ _ rfl _ _ rfl rfl _ _ (hrun _) ?_)
  all_goals (refine bodyPost_ret (results_tmp hres _ _ _) rfl ?_;exact⟨rfl,rfl⟩)
set_option maxHeartbeats 4000000 in
set_option maxRecDepth 100000 in
theorem Qi2 {k by':Nat} {z:Value} (L:L0 k by' z) (hk:0 < k) (b n c i vb voff m vc:Nat) (cs vs:List Value) (w:World) (hi:i < n) (hm:0 < m) (hnc:n≤c) (hroom:c < n+m) (hbig: (n+m)*by'≤140737488355328) (h63:n+m≤140737488355328)
  (hc63:c≤9223372036854775807) (hcl:cs.length=n*k) (hvl:vs.length=m*k)
  (hcs: ∀(j:Nat) (v:Value),cs[j]? =some v→w.cell? ⟨b,j,none⟩=some v)
  (hvs: ∀(j:Nat) (v:Value),vs[j]? =some v→w.cell? ⟨vb,voff+j,none⟩=some v) (h1c: ∀v∈cs,v.oneCell'=true) (h1v: ∀v∈vs,v.oneCell'=true):
  Calls Tryz.prog 77 #[.slice (some ⟨b,0,none⟩) n c,.int .i64 i,.slice (some ⟨vb,voff,none⟩) m vc] w fun e' w'=>
   e'= .returned (.slice (some ⟨w.heap.size,0,none⟩) (n+m) (grownCap w (n+m) c 29))∧
   ∃ROW:Array Value,ROW=(cs.take (i*k)).toArray ++ Builtin.zeroCells z.cells (n+m - i)++ Builtin.zeroCells z.cells (grownCap w (n+m) c 29 - (n+m))∧
   w'=(((w.alloc (.cells ROW 29)).drew.setRow w.heap.size (Q6 ROW (i*k) vs)).drew).setRow w.heap.size (Q6 (Q6 ROW (i*k) vs) ((i+m)*k) (cs.drop (i*k))):=by
 have t0:=L.t0;have t3:=L.t3;have a3:=L.a3;have z3:=L.z3;have t4:=L.t4;have a4:=L.a4;have z4:=L.z4;have z9:=L.z9;have tS:=L.tS;have aS:=L.aS;have zS:=L.zS;have tV:=L.tV;have aV:=L.aV;have zV:=L.zV
 have u0:=run_underlying L.t0;have u3:=run_underlying L.t3;have u4:=run_underlying L.t4;have uS:=run_underlying L.tS;have uV:=run_underlying L.tV
 have mixed:=L.mixed;obtain⟨i0,hi0,hz0,hzs,hzb⟩:=info_parts L.i9;have hz1: ¬((m:Int)=0):=by omega
 have hz2: ¬((i:Int)=(n:Int)):=by omega
 have hz3: (c:Int) < (n:Int)+ (m:Int):=by omega
 have hsz:=L.sz;have hnik: (n+m)*k=n*k+m*k:=Nat.add_mul _ _ _;have him: (i+m)*k=i*k+m*k:=Nat.add_mul _ _ _;have hik:i*k≤n*k:=Nat.mul_le_mul_right _ (by omega);have hsub: (n - i)*k=n*k - i*k:=Nat.sub_mul _ _ _;have hnmi: (n+m - i)*k=n*k+m*k - i*k:=by rw[Nat.sub_mul,hnik]
 have hmk:0 < m*k:=Nat.mul_pos hm hk;have hnk:0 < n*k:=Nat.mul_pos (by omega) hk;have hbw:b < w.heap.size:=block_lt_of_cell (hcs 0 _ (List.getElem?_eq_getElem (by omega)));have hvw:vb < w.heap.size:=block_lt_of_cell (hvs 0 _ (List.getElem?_eq_getElem (by omega)));have hkk: (n:Int)+ (m:Int) - (i:Int)=((n+m - i:Nat):Int):=by omega
 have hik2:i+ (n+m - i)=n+m:=by omega
 have hfit:Builtin.nextslicecap (n+m) c*i0.bytes≤281474976710656:=by rw[hzb];exact growslice_fits hroom hbig
 have hfit2: (n+m - i)*i0.bytes≤281474976710656:=by
  rw[hzb];have: (n+m - i)*by'≤(n+m)*by':=Nat.mul_le_mul_right _ (by omega);omega
 have hold: (Builtin.firstCells i0.size i (.slice (some ⟨b,0,none⟩) i c)).run Tryz.prog w.drew= .ok (cs.take (i*k)).toArray w.drew:=by
  rw[hzs];exact run_firstCells_some w.drew k i ⟨b,0,none⟩ i c (cs.take (i*k)) (by rw[List.length_take];omega) (fun j v hj=>by
   rw[Addr.add_lit,Nat.zero_add];rw[List.getElem?_take]at hj;split at hj
   ·exact hcs j v hj
   ·cases hj)
 have hrz: ∀ty,(Builtin.append_ #[47,3] ty #[.slice (some ⟨b,0,none⟩) i c,.int .i64 ((n:Int)+ (m:Int) - (i:Int))]).run Tryz.prog w=
   .ok (.slice (some ⟨w.heap.size,0,none⟩) (n+m) (grownCap w (n+m) c 29)) (w.drew.alloc (.cells ((cs.take (i*k)).toArray ++ Builtin.zeroCells z.cells (n+m - i)++ Builtin.zeroCells z.cells (grownCap w (n+m) c 29 - (n+m))) 29)):=fun ty=>by
  have h:=Lib.run_append_grow_zeros w 47 3 ty 29 i0 _ .i64 .i64 L.tS L.t3 hi0 hz0 (some ⟨b,0,none⟩) i c (cs.take (i*k)) hold (n+m - i) (by omega) (by rw[hzs];exact hk) (by omega) (by omega) hfit2 (by rw[hik2];exact hfit);rw[hik2]at h;rw[hkk];exact h
 obtain⟨G,hG⟩: ∃G,G=grownCap w (n+m) c 29:=⟨_,rfl⟩;obtain⟨ROW,hROW⟩: ∃ROW:Array Value,ROW=(cs.take (i*k)).toArray ++ Builtin.zeroCells z.cells (n+m - i)++ Builtin.zeroCells z.cells (G - (n+m)):=⟨_,rfl⟩;rw[← hG]at hrz ⊢;rw[← hROW]at hrz ⊢;have hzl: ∀x,(Builtin.zeroCells z.cells x).size=x*k:=fun x=>by
  simp[Builtin.zeroCells,L.zc]
 have hRl: (n+m)*k≤ROW.size:=by
  rw[hROW];simp only[Array.size_append,hzl,List.size_toArray,List.length_take];omega
 obtain⟨W1,hW1⟩: ∃W1,W1=w.drew.alloc (.cells ROW 29):=⟨_,rfl⟩;rw[← hW1]at hrz;have hN:W1.heap[w.heap.size]? =some (.cells ROW 29 (0,0)):=by rw[hW1];exact Array.getElem?_push_size
 have hO: ∀x,x < w.heap.size→W1.heap[x]? =w.heap[x]? :=fun x hx=>by rw[hW1];show(w.heap.push _)[x]? =_;rw[Array.getElem?_push_lt hx,Array.getElem?_eq_getElem hx]
 have hOc: ∀(W:World) x,W.heap[x]? =w.heap[x]? →∀j v,w.cell? ⟨x,j,none⟩=some v→W.cell? ⟨x,j,none⟩=some v:=fun W x hx j v h=>by
  obtain⟨cu,ee,ff,q1,q2⟩:=Ug h;exact TQ (by rw[hx];exact q1) q2
 have hcpA: ∀(W:World),W.heap=W1.heap→∀ty dc,(Builtin.copy_ #[47,26] ty #[.slice (some ⟨w.heap.size,i*k,none⟩) (n+m - i) dc,.slice (some ⟨vb,voff,none⟩) m vc]).run Tryz.prog W= .ok (goInt (Nat.min m (n+m - i))) (W.setRow w.heap.size (Q6 ROW (i*k) vs)):=fun W hW ty dc=>
  WH W _ _ ty 29 k w.heap.size (i*k) (n+m - i) dc ⟨vb,voff,none⟩ m vc ROW 29 vs L.tS hsz (by rw[hW];exact hN) (by rw[hvl,Oj m (n+m - i) (by omega)])
   (fun j v hj=>by rw[Addr.add_lit];exact hOc W vb (by rw[hW];exact hO vb hvw) _ v (hvs j v hj))
   (by omega) h1v
 have hGn:n+m≤G:=by rw[hG];exact grownCap_ge w _ _ _
 have hG63:G≤9223372036854775807:=by
  have:=grownCap_le_maxLen w (n+m) c 29 (by unfold maxLen;omega);rw[← hG]at this;unfold maxLen at this;omega
 have hGi: ¬(G=i):=by omega
 have hGim: ¬(G=i+m):=by omega
 have hci: ¬(c=i):=by omega
 have hbN:b≠w.heap.size:=by omega
 have hdl: (cs.drop (i*k)).length=n*k - i*k:=by rw[List.length_drop,hcl]
 have hR1: (Q6 ROW (i*k) vs).size=ROW.size:=Wr (by omega);have hcpB: ∀(W:World),W.heap=(W1.setRow w.heap.size (Q6 ROW (i*k) vs)).heap→∀ty dc sc,(Builtin.copy_ #[47,47] ty #[.slice (some ⟨w.heap.size,(i+m)*k,none⟩) (n+m - (i+m)) dc,.slice (some ⟨b,i*k,none⟩) (n - i) sc]).run Tryz.prog W= .ok (goInt (Nat.min (n - i) (n+m - (i+m)))) (W.setRow w.heap.size (Q6 (Q6 ROW (i*k) vs) ((i+m)*k) (cs.drop (i*k)))):=fun W hW ty dc sc=>
  WH W _ _ ty 29 k w.heap.size ((i+m)*k) (n+m - (i+m)) dc ⟨b,i*k,none⟩ (n - i) sc (Q6 ROW (i*k) vs) 29 (cs.drop (i*k)) L.tS hsz (by rw[hW];exact W4 hN) (by rw[hdl,← hsub,Oj (n - i) _ (by omega)])
   (fun j v hj=>by
    rw[Addr.add_lit];exact hOc W b (by rw[hW,setRow_other hbN];exact hO b hbw) _ v (hcs (i*k+j) v (by rwa[List.getElem?_drop]at hj)))
   (by omega) (fun v hv=>h1c v (List.mem_of_mem_drop hv))
 have hF1: ((w.alloc (.cells ROW 29)).drew).heap=W1.heap:=by rw[hW1];rfl
 have hF2: (((w.alloc (.cells ROW 29)).drew.setRow w.heap.size (Q6 ROW (i*k) vs)).drew).heap=(W1.setRow w.heap.size (Q6 ROW (i*k) vs)).heap:=by rw[hW1];rfl
 have hF3: ((w.alloc (.cells ROW 29)).drew.setRow w.heap.size (Q6 ROW (i*k) vs)).heap=(W1.setRow w.heap.size (Q6 ROW (i*k) vs)).heap:=by rw[hW1];rfl
 have hw1:IntKind.i64.wrap ((i:Int)+ (m:Int))=(i:Int)+ (m:Int):=by rw[IntKind.wrap_i64];omega
 have hb1: (0:Int)≤(i:Int)+ (m:Int):=by omega
 have hin:i≤n:=by omega
 have htn: ((i:Int)+ (m:Int)).toNat=i+m:=by omega
 have hb3: (i:Int)≤(n:Int):=by omega
 have hbody:Tryz.f77.body=Tryz.f77.body:=rfl;have hnt:Tryz.f77.ntmps=95:=rfl;have hres:Tryz.f77.results= #[.tmp 6]:=rfl;have hHid:Hid (ROW=_):=hROW;clear hROW;clear L hkk hik2 hold hG hRl hcs hvs hN hO hOc hnik him hik hsub hnmi hmk hnk hfit hfit2 hdl hR1 hzl;subst hW1;refine calls_of_wp Tryz.func77 hbody ?_;simp only[hnt,List.size_toArray,List.length_cons,List.length_nil,Nat.reduceAdd,Nat.reduceSub,Array.replicate_succ,
   Array.replicate_zero,List.push_toArray,List.append_toArray,List.nil_append,List.cons_append]
 go_wp2_with (first
  | (at_builtin;refine Lib.wpList_append_run _ rfl _ _ _ _ rfl _ _ rfl rfl _ _ (hrz _) ?_)
  | (at_builtin;refine wpList_copy_runI _ rfl _ _ 47 26 rfl _ _ rfl rfl (hcpA _ hF1 _ _) ?_)
  | (at_builtin;refine wpList_copy_runI _ rfl _ _ 47 47 rfl _ _ rfl rfl (hcpB _ hF3 _ _ _) ?_))
 go_region_law_o (refine step_copy_runI rfl _ _ 47 47 rfl _ _ (by simp[Act.eval,Act.put]) (by simp[Act.eval,Act.put]) (hcpB _ hF2 _ _ _) ?_)
 go_wp2
 refine bodyPost_ret (results_tmp hres _ _ _) rfl ?_;refine⟨rfl,ROW,?_,rfl⟩;unfold Hid at hHid;rw[hHid]
theorem Fo:L0 4 56 (.agg #[.int .i64 0,.string ⟨#[]⟩,.int .i64 0,.slice none 0 0]) where
 mixed:=by kernel_rfl
 f29:=fun args w=>run_callFunc_extern (f:=123) (fn:=Tryz.f123) Tryz.func123 (by kernel_rfl) (by kernel_rfl) (by kernel_rfl) (e:=Extern.SlicesOverlaps.overlaps #[26,26] #[4]) (by kernel_rfl) args w
 t0:=by kernel_rfl
 t3:=by kernel_rfl
 t4:=by kernel_rfl
 tS:=by kernel_rfl
 tV:=by kernel_rfl
 i9:=by kernel_rfl
 zc:=by kernel_rfl
 a3:=fun w=>Wk (by kernel_rfl)
 a4:=fun w=>Wk (by kernel_rfl)
 aS:=fun w=>Wk (by kernel_rfl)
 aV:=fun w=>Wk (by kernel_rfl)
 z3:=fun w=>Yp (by kernel_rfl)
 z4:=fun w=>Yp (by kernel_rfl)
 z9:=fun w=>Yp (by kernel_rfl)
 zS:=fun w=>Yp (by kernel_rfl)
 zV:=fun w=>Yp (by kernel_rfl)
theorem Quk:H0 Tryz.prog 77 29 4 56 (.agg #[.int .i64 0,.string ⟨#[]⟩,.int .i64 0,.slice none 0 0]):=
 ⟨by decide,Fo.zc,QfT Fo (by decide),DY Fo (by decide),DX Fo (by decide),Qi2 Fo (by decide)⟩
end Go.Am
