/-
  Ins1, Ins2, Ins3.
-/
import Derived.Shelf.Spec.SlicesInsertGrow
import Derived.Test.YteahheknpdcoeaaGreatDoorG09
set_option linter.unusedVariables false
set_option linter.unusedSimpArgs false
namespace Go.Am
open Go.Shelf Go.RowKit Go.Lib Go.Proofs
variable {P : Program} {ρ : Ren}
def rowPut (cur : Array Value) (o : Nat) (cs : List Value) : Array Value := (cur.toList.take o ++ cs ++ cur.toList.drop (o + cs.length)).toArray
theorem rowPut_size {cur : Array Value} {o : Nat} {cs : List Value} (h : o + cs.length ≤ cur.size) : (rowPut cur o cs).size = cur.size := by
 simp [rowPut]; omega
theorem rowPut_get {cur : Array Value} {o : Nat} {cs : List Value} (h : o + cs.length ≤ cur.size) (j : Nat) :
  (rowPut cur o cs)[j]? = if j < o then cur[j]? else if j < o + cs.length then cs[j - o]? else cur[j]? := by
 simp only [rowPut,List.getElem?_toArray]
 have hl : (cur.toList.take o).length = o := by simp; omega
 by_cases h1 : j < o
 ·rw [if_pos h1,List.append_assoc,List.getElem?_append_left (by omega),List.getElem?_take_of_lt h1,Array.getElem?_toList]
 ·rw [if_neg h1]
  by_cases h2 : j < o + cs.length
  ·rw [if_pos h2,List.append_assoc,List.getElem?_append_right (by omega),hl,List.getElem?_append_left (by omega)]
  ·rw [if_neg h2,List.getElem?_append_right (by simp; omega),List.getElem?_drop]
   have : o + cs.length + (j - (cur.toList.take o ++ cs).length) = j := by simp only [List.length_append,hl]; omega
   rw [this,Array.getElem?_toList]
theorem run_copy_row_k (w : World) (dT sT ty elem : TypeId) (k g o dLen dCap : Nat) (a : Addr) (sLen sCap : Nat) (cur : Array Value) (e : TypeId) (cs : List Value)
  (hu : P.underlying dT = some (.slice elem)) (hs : (P.info? elem).map (·.size) = some k) (hg : w.heap[g]? = some (.cells cur e (0,0))) (hn : cs.length = Nat.min sLen dLen * k)
  (hsrc : ∀ j v,cs[j]? = some v → w.cell? (a.add j) = some v) (hl : o + cs.length ≤ cur.size) (h1 : ∀ v ∈ cs,v.oneCell' = true) :
  (Builtin.copy_ #[dT,sT] ty #[.slice (some ⟨g,o,none⟩) dLen dCap,.slice (some a) sLen sCap]).run P w = .ok (goInt (Nat.min sLen dLen)) (w.setRow g (rowPut cur o cs)) := by
 have hld := run_loadCells_list (P := P) w a cs hsrc
 have hst := run_storeCells_at (P := P) g o e cs 0 cur w hg (by simpa using hl) h1
 simp only [Nat.add_zero] at hst
 cases hq : P.info? elem with
 | none => simp [hq] at hs
 | some i =>
  have hi : i.size = k := by simpa [hq] using hs
  simp [Builtin.copy_,run_underlying hu,Builtin.lenOf,Builtin.firstCells,sizeOf,typeInfo,hq,hi,← hn,hld,hst,rowPut]
theorem run_overlaps_row (w : World) (tS tR e : TypeId) (ht : P.underlying tS = some (.slice e)) (size : Nat) (hz : ∀ w,(Go.sizeOf e).run P w = .ok size w)
  (a b : Addr) (la ca lb cb : Nat) (hne : a.block ≠ b.block) {ca' cb' : Array Value} {ea eb : TypeId} {fa : Nat × Nat}
  (hA : w.heap[a.block]? = some (.cells ca' ea fa)) (hB : w.heap[b.block]? = some (.cells cb' eb (0,0))) (hkA : ca'.size ≠ 0) (hkB : cb'.size ≠ 0) :
  (Extern.SlicesOverlaps.overlaps #[tS,tS] #[tR] #[.slice (some a) la ca,.slice (some b) lb cb]).run P w = .ok (.bool false) w := by
 have hnb : (a.block != b.block) = true := by simpa using hne
 have hnb' : (a.block == b.block) = false := by simpa using hne
 have hsa : w.shape? a.block = some (ea,ca'.size) := by simp [World.shape?,hA]
 have hsb : w.shape? b.block = some (eb,cb'.size) := by simp [World.shape?,hB]
 have hfb : ∀ o s,w.frozen? ⟨b.block,o,s⟩ = false := fun o s => by simp [World.frozen?,hB]
 have hfb2 : w.frozen? b = false := by simp [World.frozen?,hB]
 change Sem.run P (α := Value) (do
  let some t := (#[tS,tS] : Array TypeId)[0]? | stuck "slices.overlaps: no parameter types"
  let .slice elem ← underlying t | stuck "slices.overlaps: slice type expected"
  let size ← sizeOf elem
  match (some a : Option Addr),(some b : Option Addr) with
  | some a,some b =>
   if la = 0 ∨ lb = 0 ∨ size = 0 then pure (Value.bool false)
   else if a.block != b.block && (← frozen a) && (← frozen b) then unsupported .addressObserved
   else do
    if a.block != b.block then do
     noView a; noView b
     if ← mayBeOne a b then return Value.bool ((← choose (.extern "sameAddr.stringBytes" 2)) == 1)
    pure (Value.bool (a.block == b.block && a.off < b.off + lb * size && b.off < a.off + la * size))
  | _,_ => pure (Value.bool false)) w = _
 by_cases h0 : la = 0 ∨ lb = 0 ∨ size = 0
 ·simp [run_underlying ht,hz,h0]
 ·cases hk : cb'.size with
  | zero => exact absurd hk hkB
  | succ kB =>
   rw [hk] at hsb
   obtain ⟨kA,hkA2⟩ : ∃ kA,ca'.size = kA + 1 := ⟨ca'.size - 1,by omega⟩
   rw [hkA2] at hsa
   cases hfa : w.frozen? a <;> cases hfe : w.frozen? ⟨a.block,kA + 1,none⟩ <;>
   simp [run_underlying ht,hz,h0,hnb,hnb',frozen,noView,viewAt,mayBeOne,stringish,shape,Sem.run,hsa,hsb,hfb,hfb2,hfa,hfe]
structure InsLay (P : Program) (ρ : Ren) (F : Func) (k by' : Nat) (z : Value) : Prop where
 mixed : P.follows .mixedOrders = true
 body : F.body = (Body2.n22 ρ).body
 ntmps : F.ntmps = 95
 res : F.results = #[.tmp 6]
 f29 : ∀ (args : Array Value) (w : World),(callFunc (ρ.f 29) args).run P w = ((Extern.SlicesOverlaps.overlaps #[(ρ.t 24),(ρ.t 24)] #[(ρ.t 4)] args).run P w).andThen fun v w' => .ok (.value v) w'
 t0 : P.underlying (ρ.t 0) = some (TypeDesc.tuple #[])
 t3 : P.underlying (ρ.t 3) = some (TypeDesc.int IntKind.i64)
 a3 : ∀ w,(isAgg (ρ.t 3)).run P w = .ok false w
 z3 : ∀ w,(Go.sizeOf (ρ.t 3)).run P w = .ok 1 w
 t4 : P.underlying (ρ.t 4) = some (TypeDesc.bool)
 a4 : ∀ w,(isAgg (ρ.t 4)).run P w = .ok false w
 z4 : ∀ w,(Go.sizeOf (ρ.t 4)).run P w = .ok 1 w
 z9 : ∀ w,(Go.sizeOf (ρ.t 9)).run P w = .ok k w
 t24 : P.underlying (ρ.t 24) = some (TypeDesc.slice (ρ.t 9))
 a24 : ∀ w,(isAgg (ρ.t 24)).run P w = .ok false w
 z24 : ∀ w,(Go.sizeOf (ρ.t 24)).run P w = .ok 1 w
 i9 : (P.info? (ρ.t 9)).map (fun i => (i.zero,i.size,i.bytes)) = some (some z,k,by')
 zc : z.cells.size = k
theorem InsLay.sz {F : Func} {k by' : Nat} {z : Value} (L : InsLay P ρ F k by' z) : (P.info? (ρ.t 9)).map (·.size) = some k := by
 obtain ⟨i0,hi0,h0,h1,h2⟩ := info_parts L.i9
 rw [hi0]; simp [h1]
theorem min_sub (n i m : Nat) (hi : i ≤ n) : Nat.min (n + m - i) (n + m - (i + m)) = n - i := by simp only [Nat.min_def]; split <;> omega
theorem min_left (m x : Nat) (h : m ≤ x) : Nat.min m x = m := by simp only [Nat.min_def]; split <;> omega
theorem cell_of_heap {w : World} {b j : Nat} {v : Value} (h : w.cell? ⟨b,j,none⟩ = some v) : ∃ cur e fz,w.heap[b]? = some (.cells cur e fz) ∧ cur[j]? = some v := by
 simp only [World.cell?] at h
 split at h
 ·rename_i cur e fz hb
  exact ⟨_,_,_,hb,h⟩
 ·cases h
theorem cell_in {w : World} {b j : Nat} {v : Value} {cur : Array Value} {e : TypeId} {fz : Nat × Nat} (h : w.heap[b]? = some (.cells cur e fz)) (hj : cur[j]? = some v) : w.cell? ⟨b,j,none⟩ = some v := by
 unfold World.cell?
 rw [h]
 exact hj
theorem setRow_other {w : World} {b x : Nat} {cs : Array Value} (h : x ≠ b) : (w.setRow b cs).heap[x]? = w.heap[x]? := by
 simp only [World.setRow,Array.getElem?_modify]
 split
 ·rename_i e; exact absurd e.symm h
 ·rfl
theorem setRow_self' {w : World} {b : Nat} {cur cs : Array Value} {e : TypeId} {fz : Nat × Nat} (h : w.heap[b]? = some (.cells cur e fz)) : (w.setRow b cs).heap[b]? = some (.cells cs e fz) := by
 simp [World.setRow,Array.getElem?_modify,h]
set_option maxHeartbeats 4000000 in
set_option maxRecDepth 100000 in
theorem ins_shift {F : Func} {k by' : Nat} {z : Value} {g : Nat} (L : InsLay P ρ F k by' z) (hF : P.funcs[g]? = some F) (hk : 0 < k) (b n c i vb voff m vc : Nat) (cur : Array Value) (e : TypeId) (cs vs : List Value) (w : World) (hi : i < n) (hm : 0 < m) (hroom : n + m ≤ c) (hc63 : c ≤ 9223372036854775807) (hvb : vb ≠ b)
  (hb : w.heap[b]? = some (.cells cur e (0,0))) (hcz : c * k ≤ cur.size)
  (hcl : cs.length = n * k) (hvl : vs.length = m * k)
  (hcs : ∀ (j : Nat) (v : Value),cs[j]? = some v → cur[j]? = some v)
  (hvs : ∀ (j : Nat) (v : Value),vs[j]? = some v → w.cell? ⟨vb,voff + j,none⟩ = some v) (h1c : ∀ v ∈ cs,v.oneCell' = true) (h1v : ∀ v ∈ vs,v.oneCell' = true) :
  Calls P g #[.slice (some ⟨b,0,none⟩) n c,.int .i64 i,.slice (some ⟨vb,voff,none⟩) m vc] w fun e' w' =>
   e' = .returned (.slice (some ⟨b,0,none⟩) (n + m) c) ∧ w' = (w.drew.setRow b (rowPut cur ((i + m) * k) (cs.drop (i * k)))).setRow b (rowPut (rowPut cur ((i + m) * k) (cs.drop (i * k))) (i * k) vs) := by
 have t0 := L.t0; have t3 := L.t3; have a3 := L.a3; have z3 := L.z3; have t4 := L.t4; have a4 := L.a4; have z4 := L.z4; have z9 := L.z9; have t24 := L.t24; have a24 := L.a24; have z24 := L.z24
 have u0 := run_underlying L.t0; have u3 := run_underlying L.t3; have u4 := run_underlying L.t4; have u24 := run_underlying L.t24
 have hz1 : ¬ ((m : Int) = 0) := by omega
 have hz2 : ¬ ((i : Int) = (n : Int)) := by omega
 have hsz := L.sz
 have hnik : (n + m) * k = n * k + m * k := Nat.add_mul _ _ _
 have him : (i + m) * k = i * k + m * k := Nat.add_mul _ _ _
 have hik : i * k ≤ n * k := Nat.mul_le_mul_right _ (by omega)
 have hck : (n + m) * k ≤ c * k := Nat.mul_le_mul_right _ hroom
 have hmk : 0 < m * k := Nat.mul_pos hm hk
 have hsub : (n - i) * k = n * k - i * k := Nat.sub_mul _ _ _
 have hdl : (cs.drop (i * k)).length = n * k - i * k := by rw [List.length_drop,hcl]
 obtain ⟨cv,ev,fv,hvh,hv0⟩ := cell_of_heap (hvs 0 _ (List.getElem?_eq_getElem (by omega)))
 have hcvz : cv.size ≠ 0 := fun h0 => by rw [Array.getElem?_eq_none (by omega)] at hv0; cases hv0
 have hov : ∀ lb cb,(callFunc (ρ.f 29) #[.slice (some ⟨vb,voff,none⟩) m vc,.slice (some ⟨b,(i + m) * k,none⟩) lb cb]).run P w = .ok (.value (.bool false)) w := fun lb cb => by
  rw [L.f29,run_overlaps_row w (ρ.t 24) (ρ.t 4) (ρ.t 9) L.t24 k L.z9 ⟨vb,voff,none⟩ ⟨b,(i + m) * k,none⟩ m vc lb cb hvb hvh hb hcvz (by omega)]
  rfl
 have mixed := L.mixed
 have hw1 : IntKind.i64.wrap ((i : Int) + (m : Int)) = (i : Int) + (m : Int) := by rw [IntKind.wrap_i64]; omega
 have hb1 : (0 : Int) ≤ (i : Int) + (m : Int) := by omega
 have hin : i ≤ n := by omega
 have htn : ((i : Int) + (m : Int)).toNat = i + m := by omega
 have hb2 : ¬ (c = i + m) := by omega
 have hb3 : (i : Int) ≤ (n : Int) + (m : Int) := by omega
 have hb4 : ¬ (c = i) := by omega
 have hcp1 : ∀ ty dc sc,(Builtin.copy_ #[(ρ.t 24),(ρ.t 24)] ty #[.slice (some ⟨b,(i + m) * k,none⟩) (n + m - (i + m)) dc,.slice (some ⟨b,i * k,none⟩) (n + m - i) sc]).run P w.drew = .ok (goInt (Nat.min (n + m - i) (n + m - (i + m)))) (w.drew.setRow b (rowPut cur ((i + m) * k) (cs.drop (i * k)))) := fun ty dc sc =>
  run_copy_row_k w.drew _ _ ty (ρ.t 9) k b ((i + m) * k) (n + m - (i + m)) dc ⟨b,i * k,none⟩ (n + m - i) sc cur e (cs.drop (i * k)) L.t24 hsz hb (by rw [min_sub n i m hin,hdl,hsub])
   (fun j v hj => by
    rw [Addr.add_lit]
    have := hcs (i * k + j) v (by rwa [List.getElem?_drop] at hj)
    exact cell_in (w := w.drew) hb this)
   (by omega) (fun v hv => h1c v (List.mem_of_mem_drop hv))
 obtain ⟨cur1,hcur1⟩ : ∃ cur1,cur1 = rowPut cur ((i + m) * k) (cs.drop (i * k)) := ⟨_,rfl⟩
 obtain ⟨W1,hW1⟩ : ∃ W1,W1 = w.drew.setRow b (rowPut cur ((i + m) * k) (cs.drop (i * k))) := ⟨_,rfl⟩
 have hbW : W1.heap[b]? = some (.cells cur1 e (0,0)) := by rw [hW1,hcur1]; exact setRow_self' (w := w.drew) hb
 have hvW : W1.heap[vb]? = some (.cells cv ev fv) := by rw [hW1,setRow_other (w := w.drew) hvb]; exact hvh
 have hs1 : cur1.size = cur.size := by rw [hcur1,rowPut_size (by omega)]
 have hcp2 : ∀ (W : World),W.heap = W1.heap → ∀ ty dc,(Builtin.copy_ #[(ρ.t 24),(ρ.t 24)] ty #[.slice (some ⟨b,i * k,none⟩) (n + m - i) dc,.slice (some ⟨vb,voff,none⟩) m vc]).run P W = .ok (goInt (Nat.min m (n + m - i))) (W.setRow b (rowPut cur1 (i * k) vs)) := fun W hWc ty dc =>
  run_copy_row_k W _ _ ty (ρ.t 9) k b (i * k) (n + m - i) dc ⟨vb,voff,none⟩ m vc cur1 e vs L.t24 hsz (by rw [hWc]; exact hbW) (by rw [hvl,min_left m (n + m - i) (by omega)])
   (fun j v hj => by
    rw [Addr.add_lit]
    have := hvs j v hj
    refine cell_in (w := W) (by rw [hWc]; exact hvW) ?_
    obtain ⟨_,_,_,q1,q2⟩ := cell_of_heap this
    rw [hvh] at q1
    injection q1 with q1
    injection q1 with q1
    rw [q1]; exact q2)
   (by omega) h1v
 rw [← hW1] at hcp1
 rw [← hcur1]
 have hbody := L.body
 have hnt := L.ntmps
 have hres := L.res
 clear hcs hvs hnik him hik hsub hdl hbW hvW hs1 hck hcz hvh hb hv0 hcvz
 refine calls_of_wp hF hbody ?_
 simp only [hnt,List.size_toArray,List.length_cons,List.length_nil,Nat.reduceAdd,Nat.reduceSub,Array.replicate_succ,
   Array.replicate_zero,List.push_toArray,List.append_toArray,List.nil_append,List.cons_append]
 go_wp2_with (simp only [hov])
 go_region_law_o (refine step_copy_runI rfl _ _ (ρ.t 24) (ρ.t 24) rfl _ _ (by simp [Act.eval,Act.put]) (by simp [Act.eval,Act.put]) (hcp1 _ _ _) ?_)
 go_wp2_with (at_builtin; refine wpList_copy_runI _ rfl _ _ (ρ.t 24) (ρ.t 24) rfl _ _ rfl rfl (hcp2 _ rfl _ _) ?_)
 refine bodyPost_ret (results_tmp hres _ _ _) rfl ?_
 exact ⟨rfl,by rw [hcur1]⟩
end Go.Am
namespace Go.Am
open Go.Shelf Go.RowKit Go.Lib Go.Proofs
variable {P : Program} {ρ : Ren}
def Hid (p : Prop) : Prop := p
set_option maxHeartbeats 4000000 in
set_option maxRecDepth 100000 in
theorem ins_end_room {F : Func} {k by' : Nat} {z : Value} {g : Nat} (L : InsLay P ρ F k by' z) (hF : P.funcs[g]? = some F) (hk : 0 < k) (b n c vb voff m vc : Nat) (cur : Array Value) (e : TypeId) (vs : List Value) (w : World) (hm : 0 < m) (hroom : n + m ≤ c) (hc63 : c ≤ 9223372036854775807)
  (hb : w.heap[b]? = some (.cells cur e (0,0))) (hcz : c * k ≤ cur.size) (hvl : vs.length = m * k)
  (hvs : ∀ (j : Nat) (v : Value),vs[j]? = some v → w.cell? ⟨vb,voff + j,none⟩ = some v) (h1v : ∀ v ∈ vs,v.oneCell' = true) :
  Calls P g #[.slice (some ⟨b,0,none⟩) n c,.int .i64 n,.slice (some ⟨vb,voff,none⟩) m vc] w fun e' w' =>
   e' = .returned (.slice (some ⟨b,0,none⟩) (n + m) c) ∧ w' = w.setRow b (rowPut cur (n * k) vs) := by
 have t0 := L.t0; have t3 := L.t3; have a3 := L.a3; have z3 := L.z3; have t4 := L.t4; have a4 := L.a4; have z4 := L.z4; have z9 := L.z9; have t24 := L.t24; have a24 := L.a24; have z24 := L.z24
 have u0 := run_underlying L.t0; have u3 := run_underlying L.t3; have u4 := run_underlying L.t4; have u24 := run_underlying L.t24
 have hz1 : ¬ ((m : Int) = 0) := by omega
 have mixed := L.mixed
 have hck : (n + m) * k ≤ c * k := Nat.mul_le_mul_right _ hroom
 have hnik : (n + m) * k = n * k + m * k := Nat.add_mul _ _ _
 obtain ⟨i0,hi0,hz0,hzs,hzb⟩ := info_parts L.i9
 have hrun : ∀ ty,(Builtin.append_ #[(ρ.t 24),(ρ.t 24)] ty #[.slice (some ⟨b,0,none⟩) n c,.slice (some ⟨vb,voff,none⟩) m vc]).run P w = .ok (.slice (some ⟨b,0,none⟩) (n + m) c) (w.setRow b (rowPut cur (n * k) vs)) := fun ty => by
  have := run_append_inplace (P := P) (w := w) (t := ρ.t 24) (ty := ty) (A := ⟨vb,voff,none⟩) (c := vc) L.t24 hi0 hb (by rw [hzs]; exact hvl) (fun j u hj => by rw [Addr.add_lit]; exact hvs j u hj) h1v hroom (by rw [hzs]; omega)
  rw [hzs] at this
  exact this
 have hbody := L.body
 have hnt := L.ntmps
 have hres := L.res
 clear hvs hb hcz hck hnik hi0 hz0 hzs hzb
 refine calls_of_wp hF hbody ?_
 simp only [hnt,List.size_toArray,List.length_cons,List.length_nil,Nat.reduceAdd,Nat.reduceSub,Array.replicate_succ,
   Array.replicate_zero,List.push_toArray,List.append_toArray,List.nil_append,List.cons_append]
 go_wp2_with (at_builtin; refine Lib.wpList_append_run _ rfl _ _ _ _ rfl _ _ rfl rfl _ _ (hrun _) ?_)
 refine bodyPost_ret (results_tmp hres _ _ _) rfl ?_
 exact ⟨rfl,rfl⟩
set_option maxHeartbeats 4000000 in
set_option maxRecDepth 100000 in
theorem ins_end_grow {F : Func} {k by' : Nat} {z : Value} {g : Nat} (L : InsLay P ρ F k by' z) (hF : P.funcs[g]? = some F) (hk : 0 < k) (base : Option Addr) (n c vb voff m vc : Nat) (cs vs : List Value) (w : World) (hm : 0 < m) (hnc : n ≤ c) (hroom : c < n + m) (hbig : (n + m) * by' ≤ 140737488355328) (h63 : n + m ≤ 140737488355328)
  (hcl : cs.length = n * k) (hvl : vs.length = m * k) (hnil : base = none → n = 0 ∧ c = 0)
  (hcs : ∀ a,base = some a → ∀ (j : Nat) (v : Value),cs[j]? = some v → w.cell? (a.add j) = some v)
  (hvs : ∀ (j : Nat) (v : Value),vs[j]? = some v → w.cell? ⟨vb,voff + j,none⟩ = some v) (h1v : ∀ v ∈ vs,v.oneCell' = true) :
  Calls P g #[.slice base n c,.int .i64 n,.slice (some ⟨vb,voff,none⟩) m vc] w fun e' w' =>
   e' = .returned (.slice (some ⟨w.heap.size,0,none⟩) (n + m) (grownCap w (n + m) c (ρ.t 9))) ∧
   w' = w.drew.alloc (.cells ((cs ++ vs).toArray ++ Builtin.zeroCells z.cells (grownCap w (n + m) c (ρ.t 9) - (n + m))) (ρ.t 9)) := by
 have t0 := L.t0; have t3 := L.t3; have a3 := L.a3; have z3 := L.z3; have t4 := L.t4; have a4 := L.a4; have z4 := L.z4; have z9 := L.z9; have t24 := L.t24; have a24 := L.a24; have z24 := L.z24
 have u0 := run_underlying L.t0; have u3 := run_underlying L.t3; have u4 := run_underlying L.t4; have u24 := run_underlying L.t24
 have hz1 : ¬ ((m : Int) = 0) := by omega
 have mixed := L.mixed
 obtain ⟨i0,hi0,hz0,hzs,hzb⟩ := info_parts L.i9
 have hfit : Builtin.nextslicecap (n + m) c * i0.bytes ≤ 281474976710656 := by rw [hzb]; exact growslice_fits hroom hbig
 have hrun : ∀ ty,(Builtin.append_ #[(ρ.t 24),(ρ.t 24)] ty #[.slice base n c,.slice (some ⟨vb,voff,none⟩) m vc]).run P w =
   .ok (.slice (some ⟨w.heap.size,0,none⟩) (n + m) (grownCap w (n + m) c (ρ.t 9))) (w.drew.alloc (.cells ((cs ++ vs).toArray ++ Builtin.zeroCells z.cells (grownCap w (n + m) c (ρ.t 9) - (n + m))) (ρ.t 9))) := fun ty => by
  cases base with
  | none =>
   obtain ⟨h0,h00⟩ := hnil rfl
   subst h0 h00
   rw [Nat.zero_mul] at hcl
   rw [List.length_eq_zero_iff.1 hcl]
   have h48 : m * i0.bytes ≤ 281474976710656 := by rw [hzb]; rw [Nat.zero_add] at hbig; omega
   have := run_append_nil (P := P) w (ρ.t 24) ty (ρ.t 9) i0 z L.t24 hi0 hz0 ⟨vb,voff,none⟩ m vc vs (by rw [hzs]; exact hvl) (fun j u hj => by rw [Addr.add_lit]; exact hvs j u hj) hm (by omega) h48
   simpa using this
  | some a =>
   have := run_append_grow (P := P) w (ρ.t 24) ty (ρ.t 9) i0 z L.t24 hi0 hz0 a n c cs (by rw [hzs]; exact hcl) (fun j v hj => hcs a rfl j v hj) ⟨vb,voff,none⟩ m vc vs (by rw [hzs]; exact hvl) (fun j u hj => by rw [Addr.add_lit]; exact hvs j u hj) hroom (by omega) hfit
   simpa using this
 have hbody := L.body
 have hnt := L.ntmps
 have hres := L.res
 clear hvs hcs hi0 hz0 hzs hzb hfit L
 generalize z.cells = ZC at *
 refine calls_of_wp hF hbody ?_
 simp only [hnt,List.size_toArray,List.length_cons,List.length_nil,Nat.reduceAdd,Nat.reduceSub,Array.replicate_succ,
   Array.replicate_zero,List.push_toArray,List.append_toArray,List.nil_append,List.cons_append]
 cases base with
 | none =>
  obtain ⟨h0,h00⟩ := hnil rfl
  subst h0 h00
  go_wp2_with (at_builtin; refine Lib.wpList_append_run _ rfl _ _ _ _ rfl _ _ rfl rfl _ _ (hrun _) ?_)
  refine bodyPost_ret (results_tmp hres _ _ _) rfl ?_
  exact ⟨rfl,rfl⟩
 | some a =>
  obtain ⟨ab,ao,asp⟩ := a
  go_wp2_with (at_builtin; refine Lib.wpList_append_run _ rfl _ _ _ _ rfl _ _ rfl rfl _ _ (hrun _) ?_)
  all_goals (refine bodyPost_ret (results_tmp hres _ _ _) rfl ?_; exact ⟨rfl,rfl⟩)
set_option maxHeartbeats 4000000 in
set_option maxRecDepth 100000 in
theorem ins_grow {F : Func} {k by' : Nat} {z : Value} {g : Nat} (L : InsLay P ρ F k by' z) (hF : P.funcs[g]? = some F) (hk : 0 < k) (b n c i vb voff m vc : Nat) (cs vs : List Value) (w : World) (hi : i < n) (hm : 0 < m) (hnc : n ≤ c) (hroom : c < n + m) (hbig : (n + m) * by' ≤ 140737488355328) (h63 : n + m ≤ 140737488355328)
  (hc63 : c ≤ 9223372036854775807) (hcl : cs.length = n * k) (hvl : vs.length = m * k)
  (hcs : ∀ (j : Nat) (v : Value),cs[j]? = some v → w.cell? ⟨b,j,none⟩ = some v)
  (hvs : ∀ (j : Nat) (v : Value),vs[j]? = some v → w.cell? ⟨vb,voff + j,none⟩ = some v) (h1c : ∀ v ∈ cs,v.oneCell' = true) (h1v : ∀ v ∈ vs,v.oneCell' = true) :
  Calls P g #[.slice (some ⟨b,0,none⟩) n c,.int .i64 i,.slice (some ⟨vb,voff,none⟩) m vc] w fun e' w' =>
   e' = .returned (.slice (some ⟨w.heap.size,0,none⟩) (n + m) (grownCap w (n + m) c (ρ.t 9))) ∧
   ∃ ROW : Array Value,ROW = (cs.take (i * k)).toArray ++ Builtin.zeroCells z.cells (n + m - i) ++ Builtin.zeroCells z.cells (grownCap w (n + m) c (ρ.t 9) - (n + m)) ∧
   w' = (((w.alloc (.cells ROW (ρ.t 9))).drew.setRow w.heap.size (rowPut ROW (i * k) vs)).drew).setRow w.heap.size (rowPut (rowPut ROW (i * k) vs) ((i + m) * k) (cs.drop (i * k))) := by
 have t0 := L.t0; have t3 := L.t3; have a3 := L.a3; have z3 := L.z3; have t4 := L.t4; have a4 := L.a4; have z4 := L.z4; have z9 := L.z9; have t24 := L.t24; have a24 := L.a24; have z24 := L.z24
 have u0 := run_underlying L.t0; have u3 := run_underlying L.t3; have u4 := run_underlying L.t4; have u24 := run_underlying L.t24
 have mixed := L.mixed
 obtain ⟨i0,hi0,hz0,hzs,hzb⟩ := info_parts L.i9
 have hz1 : ¬ ((m : Int) = 0) := by omega
 have hz2 : ¬ ((i : Int) = (n : Int)) := by omega
 have hz3 : (c : Int) < (n : Int) + (m : Int) := by omega
 have hsz := L.sz
 have hnik : (n + m) * k = n * k + m * k := Nat.add_mul _ _ _
 have him : (i + m) * k = i * k + m * k := Nat.add_mul _ _ _
 have hik : i * k ≤ n * k := Nat.mul_le_mul_right _ (by omega)
 have hsub : (n - i) * k = n * k - i * k := Nat.sub_mul _ _ _
 have hnmi : (n + m - i) * k = n * k + m * k - i * k := by rw [Nat.sub_mul,hnik]
 have hmk : 0 < m * k := Nat.mul_pos hm hk
 have hnk : 0 < n * k := Nat.mul_pos (by omega) hk
 have hbw : b < w.heap.size := block_lt_of_cell (hcs 0 _ (List.getElem?_eq_getElem (by omega)))
 have hvw : vb < w.heap.size := block_lt_of_cell (hvs 0 _ (List.getElem?_eq_getElem (by omega)))
 have hkk : (n : Int) + (m : Int) - (i : Int) = ((n + m - i : Nat) : Int) := by omega
 have hik2 : i + (n + m - i) = n + m := by omega
 have hfit : Builtin.nextslicecap (n + m) c * i0.bytes ≤ 281474976710656 := by rw [hzb]; exact growslice_fits hroom hbig
 have hfit2 : (n + m - i) * i0.bytes ≤ 281474976710656 := by
  rw [hzb]; have : (n + m - i) * by' ≤ (n + m) * by' := Nat.mul_le_mul_right _ (by omega); omega
 have hold : (Builtin.firstCells i0.size i (.slice (some ⟨b,0,none⟩) i c)).run P w.drew = .ok (cs.take (i * k)).toArray w.drew := by
  rw [hzs]
  exact run_firstCells_some w.drew k i ⟨b,0,none⟩ i c (cs.take (i * k)) (by rw [List.length_take]; omega) (fun j v hj => by
   rw [Addr.add_lit,Nat.zero_add]
   rw [List.getElem?_take] at hj
   split at hj
   ·exact hcs j v hj
   ·cases hj)
 have hrz : ∀ ty,(Builtin.append_ #[(ρ.t 24),(ρ.t 3)] ty #[.slice (some ⟨b,0,none⟩) i c,.int .i64 ((n : Int) + (m : Int) - (i : Int))]).run P w =
   .ok (.slice (some ⟨w.heap.size,0,none⟩) (n + m) (grownCap w (n + m) c (ρ.t 9))) (w.drew.alloc (.cells ((cs.take (i * k)).toArray ++ Builtin.zeroCells z.cells (n + m - i) ++ Builtin.zeroCells z.cells (grownCap w (n + m) c (ρ.t 9) - (n + m))) (ρ.t 9))) := fun ty => by
  have h := Lib.run_append_grow_zeros w (ρ.t 24) (ρ.t 3) ty (ρ.t 9) i0 _ .i64 .i64 L.t24 L.t3 hi0 hz0 (some ⟨b,0,none⟩) i c (cs.take (i * k)) hold (n + m - i) (by omega) (by rw [hzs]; exact hk) (by omega) (by omega) hfit2 (by rw [hik2]; exact hfit)
  rw [hik2] at h
  rw [hkk]
  exact h
 obtain ⟨G,hG⟩ : ∃ G,G = grownCap w (n + m) c (ρ.t 9) := ⟨_,rfl⟩
 obtain ⟨ROW,hROW⟩ : ∃ ROW : Array Value,ROW = (cs.take (i * k)).toArray ++ Builtin.zeroCells z.cells (n + m - i) ++ Builtin.zeroCells z.cells (G - (n + m)) := ⟨_,rfl⟩
 rw [← hG] at hrz ⊢
 rw [← hROW] at hrz ⊢
 have hzl : ∀ x,(Builtin.zeroCells z.cells x).size = x * k := fun x => by
  simp [Builtin.zeroCells,L.zc]
 have hRl : (n + m) * k ≤ ROW.size := by
  rw [hROW]
  simp only [Array.size_append,hzl,List.size_toArray,List.length_take]
  omega
 obtain ⟨W1,hW1⟩ : ∃ W1,W1 = w.drew.alloc (.cells ROW (ρ.t 9)) := ⟨_,rfl⟩
 rw [← hW1] at hrz
 have hN : W1.heap[w.heap.size]? = some (.cells ROW (ρ.t 9) (0,0)) := by rw [hW1]; exact Array.getElem?_push_size
 have hO : ∀ x,x < w.heap.size → W1.heap[x]? = w.heap[x]? := fun x hx => by rw [hW1]; show (w.heap.push _)[x]? = _; rw [Array.getElem?_push_lt hx,Array.getElem?_eq_getElem hx]
 have hOc : ∀ (W : World) x,W.heap[x]? = w.heap[x]? → ∀ j v,w.cell? ⟨x,j,none⟩ = some v → W.cell? ⟨x,j,none⟩ = some v := fun W x hx j v h => by
  obtain ⟨cu,ee,ff,q1,q2⟩ := cell_of_heap h
  exact cell_in (by rw [hx]; exact q1) q2
 have hcpA : ∀ (W : World),W.heap = W1.heap → ∀ ty dc,(Builtin.copy_ #[(ρ.t 24),(ρ.t 24)] ty #[.slice (some ⟨w.heap.size,i * k,none⟩) (n + m - i) dc,.slice (some ⟨vb,voff,none⟩) m vc]).run P W = .ok (goInt (Nat.min m (n + m - i))) (W.setRow w.heap.size (rowPut ROW (i * k) vs)) := fun W hW ty dc =>
  run_copy_row_k W _ _ ty (ρ.t 9) k w.heap.size (i * k) (n + m - i) dc ⟨vb,voff,none⟩ m vc ROW (ρ.t 9) vs L.t24 hsz (by rw [hW]; exact hN) (by rw [hvl,min_left m (n + m - i) (by omega)])
   (fun j v hj => by rw [Addr.add_lit]; exact hOc W vb (by rw [hW]; exact hO vb hvw) _ v (hvs j v hj))
   (by omega) h1v
 have hGn : n + m ≤ G := by rw [hG]; exact grownCap_ge w _ _ _
 have hG63 : G ≤ 9223372036854775807 := by
  have := grownCap_le_maxLen w (n + m) c (ρ.t 9) (by unfold maxLen; omega)
  rw [← hG] at this
  unfold maxLen at this
  omega
 have hGi : ¬ (G = i) := by omega
 have hGim : ¬ (G = i + m) := by omega
 have hci : ¬ (c = i) := by omega
 have hbN : b ≠ w.heap.size := by omega
 have hdl : (cs.drop (i * k)).length = n * k - i * k := by rw [List.length_drop,hcl]
 have hR1 : (rowPut ROW (i * k) vs).size = ROW.size := rowPut_size (by omega)
 have hcpB : ∀ (W : World),W.heap = (W1.setRow w.heap.size (rowPut ROW (i * k) vs)).heap → ∀ ty dc sc,(Builtin.copy_ #[(ρ.t 24),(ρ.t 24)] ty #[.slice (some ⟨w.heap.size,(i + m) * k,none⟩) (n + m - (i + m)) dc,.slice (some ⟨b,i * k,none⟩) (n - i) sc]).run P W = .ok (goInt (Nat.min (n - i) (n + m - (i + m)))) (W.setRow w.heap.size (rowPut (rowPut ROW (i * k) vs) ((i + m) * k) (cs.drop (i * k)))) := fun W hW ty dc sc =>
  run_copy_row_k W _ _ ty (ρ.t 9) k w.heap.size ((i + m) * k) (n + m - (i + m)) dc ⟨b,i * k,none⟩ (n - i) sc (rowPut ROW (i * k) vs) (ρ.t 9) (cs.drop (i * k)) L.t24 hsz (by rw [hW]; exact setRow_self' hN) (by rw [hdl,← hsub,min_left (n - i) _ (by omega)])
   (fun j v hj => by
    rw [Addr.add_lit]
    exact hOc W b (by rw [hW,setRow_other hbN]; exact hO b hbw) _ v (hcs (i * k + j) v (by rwa [List.getElem?_drop] at hj)))
   (by omega) (fun v hv => h1c v (List.mem_of_mem_drop hv))
 have hF1 : ((w.alloc (.cells ROW (ρ.t 9))).drew).heap = W1.heap := by rw [hW1]; rfl
 have hF2 : (((w.alloc (.cells ROW (ρ.t 9))).drew.setRow w.heap.size (rowPut ROW (i * k) vs)).drew).heap = (W1.setRow w.heap.size (rowPut ROW (i * k) vs)).heap := by rw [hW1]; rfl
 have hF3 : ((w.alloc (.cells ROW (ρ.t 9))).drew.setRow w.heap.size (rowPut ROW (i * k) vs)).heap = (W1.setRow w.heap.size (rowPut ROW (i * k) vs)).heap := by rw [hW1]; rfl
 have hw1 : IntKind.i64.wrap ((i : Int) + (m : Int)) = (i : Int) + (m : Int) := by rw [IntKind.wrap_i64]; omega
 have hb1 : (0 : Int) ≤ (i : Int) + (m : Int) := by omega
 have hin : i ≤ n := by omega
 have htn : ((i : Int) + (m : Int)).toNat = i + m := by omega
 have hb3 : (i : Int) ≤ (n : Int) := by omega
 have hbody := L.body
 have hnt := L.ntmps
 have hres := L.res
 have hHid : Hid (ROW = _) := hROW
 clear hROW
 clear L hkk hik2 hold hG hRl hcs hvs hN hO hOc hnik him hik hsub hnmi hmk hnk hfit hfit2 hdl hR1 hzl
 subst hW1
 refine calls_of_wp hF hbody ?_
 simp only [hnt,List.size_toArray,List.length_cons,List.length_nil,Nat.reduceAdd,Nat.reduceSub,Array.replicate_succ,
   Array.replicate_zero,List.push_toArray,List.append_toArray,List.nil_append,List.cons_append]
 go_wp2_with (first
  | (at_builtin; refine Lib.wpList_append_run _ rfl _ _ _ _ rfl _ _ rfl rfl _ _ (hrz _) ?_)
  | (at_builtin; refine wpList_copy_runI _ rfl _ _ (ρ.t 24) (ρ.t 24) rfl _ _ rfl rfl (hcpA _ hF1 _ _) ?_)
  | (at_builtin; refine wpList_copy_runI _ rfl _ _ (ρ.t 24) (ρ.t 24) rfl _ _ rfl rfl (hcpB _ hF3 _ _ _) ?_))
 go_region_law_o (refine step_copy_runI rfl _ _ (ρ.t 24) (ρ.t 24) rfl _ _ (by simp [Act.eval,Act.put]) (by simp [Act.eval,Act.put]) (hcpB _ hF2 _ _ _) ?_)
 go_wp2
 refine bodyPost_ret (results_tmp hres _ _ _) rfl ?_
 refine ⟨rfl,ROW,?_,rfl⟩
 unfold Hid at hHid
 rw [hHid]
end Go.Am
namespace Go.Am
open Go.Shelf Go.RowKit Go.Lib Go.Proofs
variable {P : Program} {ρ : Ren}
def insV (i k : Nat) (cs vs : List Value) : List Value := cs.take (i * k) ++ vs ++ cs.drop (i * k)
theorem row_shift {cur : Array Value} {cs vs : List Value} {n m i k : Nat} (hi : i ≤ n) (hcl : cs.length = n * k) (hvl : vs.length = m * k) (hsz : (n + m) * k ≤ cur.size)
  (hcs : ∀ (j : Nat) (v : Value),cs[j]? = some v → cur[j]? = some v) (j : Nat) (v : Value) (hj : (insV i k cs vs)[j]? = some v) :
  (rowPut (rowPut cur ((i + m) * k) (cs.drop (i * k))) (i * k) vs)[j]? = some v := by
 have hnik : (n + m) * k = n * k + m * k := Nat.add_mul _ _ _
 have him : (i + m) * k = i * k + m * k := Nat.add_mul _ _ _
 have hik : i * k ≤ n * k := Nat.mul_le_mul_right _ hi
 have hdl : (cs.drop (i * k)).length = n * k - i * k := by rw [List.length_drop,hcl]
 have h1 : (rowPut cur ((i + m) * k) (cs.drop (i * k))).size = cur.size := rowPut_size (by omega)
 have htl : (cs.take (i * k)).length = i * k := by rw [List.length_take]; omega
 rw [rowPut_get (by omega),rowPut_get (by omega)]
 unfold insV at hj
 rw [List.append_assoc] at hj
 by_cases c1 : j < i * k
 ·rw [if_pos c1,if_pos (by omega)]
  rw [List.getElem?_append_left (by omega),List.getElem?_take_of_lt c1] at hj
  exact hcs j v hj
 ·rw [if_neg c1]
  rw [List.getElem?_append_right (by omega),htl] at hj
  by_cases c2 : j < i * k + vs.length
  ·rw [if_pos c2]
   rw [List.getElem?_append_left (by omega)] at hj
   exact hj
  ·rw [if_neg c2,if_neg (by omega)]
   rw [List.getElem?_append_right (by omega)] at hj
   have hlt : j - i * k - vs.length < (cs.drop (i * k)).length := by
    rcases Nat.lt_or_ge (j - i * k - vs.length) (cs.drop (i * k)).length with h | h
    ·exact h
    ·rw [List.getElem?_eq_none h] at hj; cases hj
   rw [if_pos (by omega)]
   rw [show j - (i + m) * k = j - i * k - vs.length by omega]
   exact hj
theorem row_grow {ROW zs : Array Value} {cs vs : List Value} {n m i k : Nat} (hi : i ≤ n) (hcl : cs.length = n * k) (hvl : vs.length = m * k) (hR : ROW = (cs.take (i * k)).toArray ++ zs) (hsz : (n + m) * k ≤ ROW.size)
  (j : Nat) (v : Value) (hj : (insV i k cs vs)[j]? = some v) :
  (rowPut (rowPut ROW (i * k) vs) ((i + m) * k) (cs.drop (i * k)))[j]? = some v := by
 have hnik : (n + m) * k = n * k + m * k := Nat.add_mul _ _ _
 have him : (i + m) * k = i * k + m * k := Nat.add_mul _ _ _
 have hik : i * k ≤ n * k := Nat.mul_le_mul_right _ hi
 have hdl : (cs.drop (i * k)).length = n * k - i * k := by rw [List.length_drop,hcl]
 have h1 : (rowPut ROW (i * k) vs).size = ROW.size := rowPut_size (by omega)
 have htl : (cs.take (i * k)).length = i * k := by rw [List.length_take]; omega
 rw [rowPut_get (by omega),rowPut_get (by omega)]
 unfold insV at hj
 rw [List.append_assoc] at hj
 by_cases c1 : j < i * k
 ·rw [if_pos (by omega),if_pos c1]
  rw [List.getElem?_append_left (by omega)] at hj
  rw [hR,Array.getElem?_append_left (by simp; omega)]
  simpa using hj
 ·rw [List.getElem?_append_right (by omega),htl] at hj
  by_cases c2 : j < i * k + vs.length
  ·rw [if_pos (by omega),if_neg c1,if_pos c2]
   rw [List.getElem?_append_left (by omega)] at hj
   exact hj
  ·rw [if_neg (by omega)]
   rw [List.getElem?_append_right (by omega)] at hj
   have hlt : j - i * k - vs.length < (cs.drop (i * k)).length := by
    rcases Nat.lt_or_ge (j - i * k - vs.length) (cs.drop (i * k)).length with h | h
    ·exact h
    ·rw [List.getElem?_eq_none h] at hj; cases hj
   rw [if_pos (by omega)]
   rw [show j - (i + m) * k = j - i * k - vs.length by omega]
   exact hj
def InsPost (w : World) (b : Nat) (N k : Nat) (fl : List Value) (e : Ending) (w' : World) : Prop :=
 ∃ b' cap cur' t,e = .returned (.slice (some ⟨b',0,none⟩) N cap) ∧ N ≤ cap ∧ cap ≤ maxLen ∧ w'.heap[b']? = some (.cells cur' t (0,0)) ∧ cur'.size = cap * k ∧
  (∀ (j : Nat) (v : Value),fl[j]? = some v → cur'[j]? = some v) ∧ w'.os = w.os ∧ w'.tape = w.tape ∧ w'.output = w.output ∧
  ((b' = b ∧ w'.heap.size = w.heap.size) ∨ (b' = w.heap.size ∧ w'.heap.size = w.heap.size + 1)) ∧ ∀ x,x < w.heap.size → x ≠ b' → w'.heap[x]? = w.heap[x]?
theorem setRow_size (w : World) (x : Nat) (cs : Array Value) : (w.setRow x cs).heap.size = w.heap.size := by simp [World.setRow]
theorem zeroCells_size (z : Array Value) (k x : Nat) (h : z.size = k) : (Builtin.zeroCells z x).size = x * k := by simp [Builtin.zeroCells,h]
theorem ins_all {F : Func} {k by' : Nat} {z : Value} {g : Nat} (L : InsLay P ρ F k by' z) (hF : P.funcs[g]? = some F) (hk : 0 < k) (b n c i vb voff m vc : Nat) (cur : Array Value) (e : TypeId) (cs vs : List Value) (w : World) (hi : i ≤ n) (hm : 0 < m) (hnc : n ≤ c) (hcm : c ≤ maxLen) (hvb : vb ≠ b)
  (hbig : (n + m) * by' ≤ 140737488355328) (h63 : n + m ≤ 140737488355328)
  (hb : w.heap[b]? = some (.cells cur e (0,0))) (hcz : c * k = cur.size)
  (hcl : cs.length = n * k) (hvl : vs.length = m * k)
  (hcs : ∀ (j : Nat) (v : Value),cs[j]? = some v → cur[j]? = some v)
  (hvs : ∀ (j : Nat) (v : Value),vs[j]? = some v → w.cell? ⟨vb,voff + j,none⟩ = some v) (h1c : ∀ v ∈ cs,v.oneCell' = true) (h1v : ∀ v ∈ vs,v.oneCell' = true) :
  Calls P g #[.slice (some ⟨b,0,none⟩) n c,.int .i64 i,.slice (some ⟨vb,voff,none⟩) m vc] w (InsPost w b (n + m) k (insV i k cs vs)) := by
 have hc63 : c ≤ 9223372036854775807 := by unfold maxLen at hcm; omega
 have hbl : b < w.heap.size := by
  rcases Nat.lt_or_ge b w.heap.size with h | h
  ·exact h
  ·rw [Array.getElem?_eq_none h] at hb; cases hb
 have hsz2 : ∀ x cs,(w.setRow x cs).heap.size = w.heap.size := fun x cs => by simp [World.setRow]
 have hnmk : (n + m) * k = n * k + m * k := Nat.add_mul _ _ _
 have hG : ∀ w : World,grownCap w (n + m) c (ρ.t 9) ≤ maxLen := fun w => grownCap_le_maxLen w _ c _ (by unfold maxLen; omega)
 by_cases hin : i = n
 ·subst hin
  have htk : cs.take (i * k) = cs := List.take_of_length_le (by omega)
  have hdk : cs.drop (i * k) = [] := List.drop_of_length_le (by omega)
  have hfl : insV i k cs vs = cs ++ vs := by unfold insV; rw [htk,hdk,List.append_nil]
  by_cases hroom : i + m ≤ c
  ·have hck : (i + m) * k ≤ c * k := Nat.mul_le_mul_right _ hroom
   refine (ins_end_room L hF hk b i c vb voff m vc cur e vs w hm hroom hc63 hb (by omega) hvl hvs h1v).mono fun e2 w' ⟨he,hw⟩ => ?_
   subst hw
   refine ⟨b,c,_,e,he,hroom,hcm,setRow_self' hb,by rw [rowPut_size (by omega)]; omega,fun j v hj => ?_,rfl,rfl,rfl,.inl ⟨rfl,hsz2 _ _⟩,fun x _ hx => setRow_other hx⟩
   rw [hfl] at hj
   rw [rowPut_get (by omega)]
   by_cases c1 : j < i * k
   ·rw [if_pos c1]
    rw [List.getElem?_append_left (by omega)] at hj
    exact hcs j v hj
   ·rw [if_neg c1]
    rw [List.getElem?_append_right (by omega),hcl] at hj
    have hlt : j - i * k < vs.length := by
     rcases Nat.lt_or_ge (j - i * k) vs.length with h | h
     ·exact h
     ·rw [List.getElem?_eq_none h] at hj; cases hj
    rw [if_pos (by omega)]
    exact hj
  ·refine (ins_end_grow L hF hk (some ⟨b,0,none⟩) i c vb voff m vc cs vs w hm hnc (by omega) hbig h63 hcl hvl (fun h => by cases h) (fun a ha j v hj => by
    injection ha with ha; subst ha; rw [Addr.add_lit,Nat.zero_add]; exact cell_in hb (hcs j v hj)) hvs h1v).mono fun e2 w' ⟨he,hw⟩ => ?_
   subst hw
   refine ⟨w.heap.size,_,_,ρ.t 9,he,grownCap_ge w _ _ _,hG w,Array.getElem?_push_size,?_,fun j v hj => ?_,rfl,rfl,rfl,.inr ⟨rfl,Array.size_push _⟩,fun x hx _ => ?_⟩
   ·have := grownCap_ge w (i + m) c (ρ.t 9)
    rw [Array.size_append,zeroCells_size _ k _ L.zc,List.size_toArray,List.length_append,hcl,hvl,← Nat.add_mul,← Nat.add_mul]
    congr 1; omega
   ·rw [hfl] at hj
    have hlt : j < (cs ++ vs).length := by
     rcases Nat.lt_or_ge j (cs ++ vs).length with h | h
     ·exact h
     ·rw [List.getElem?_eq_none h] at hj; cases hj
    rw [Array.getElem?_append_left (by simpa using hlt)]
    simpa using hj
   ·show (w.heap.push _)[x]? = _
    rw [Array.getElem?_push_lt hx,Array.getElem?_eq_getElem hx]
 ·have hlt : i < n := by omega
  by_cases hroom : n + m ≤ c
  ·have hck : (n + m) * k ≤ c * k := Nat.mul_le_mul_right _ hroom
   refine (ins_shift L hF hk b n c i vb voff m vc cur e cs vs w hlt hm hroom hc63 hvb hb (by omega) hcl hvl hcs hvs h1c h1v).mono fun e2 w' ⟨he,hw⟩ => ?_
   subst hw
   have hik : i * k ≤ n * k := Nat.mul_le_mul_right _ hi
   have him : (i + m) * k = i * k + m * k := Nat.add_mul _ _ _
   have hdl : (cs.drop (i * k)).length = n * k - i * k := by rw [List.length_drop,hcl]
   have hs1 : (rowPut cur ((i + m) * k) (cs.drop (i * k))).size = cur.size := rowPut_size (by omega)
   refine ⟨b,c,_,e,he,hroom,hcm,setRow_self' (setRow_self' (w := w.drew) hb),by rw [rowPut_size (by omega),hs1]; omega,row_shift hi hcl hvl (by omega) hcs,rfl,rfl,rfl,.inl ⟨rfl,?_⟩,fun x _ hx => ?_⟩
   ·rw [setRow_size,setRow_size]; rfl
   ·rw [setRow_other hx,setRow_other (w := w.drew) hx]; rfl
  ·refine (ins_grow L hF hk b n c i vb voff m vc cs vs w hlt hm hnc (by omega) hbig h63 hc63 hcl hvl (fun j v hj => cell_in hb (hcs j v hj)) hvs h1c h1v).mono fun e2 w' ⟨he,ROW,hR,hw⟩ => ?_
   subst hw
   have hik : i * k ≤ n * k := Nat.mul_le_mul_right _ hi
   have him : (i + m) * k = i * k + m * k := Nat.add_mul _ _ _
   have hdl : (cs.drop (i * k)).length = n * k - i * k := by rw [List.length_drop,hcl]
   have htl : (cs.take (i * k)).length = i * k := by rw [List.length_take]; omega
   have hge := grownCap_ge w (n + m) c (ρ.t 9)
   have hsub : (n + m - i) * k = n * k + m * k - i * k := by rw [Nat.sub_mul,hnmk]
   have hRs : ROW.size = grownCap w (n + m) c (ρ.t 9) * k := by
    rw [hR]
    simp only [Array.size_append,zeroCells_size _ k _ L.zc,List.size_toArray,htl]
    rw [← Nat.add_mul,← Nat.add_mul]
    congr 1; omega
   have hRk : (n + m) * k ≤ ROW.size := by rw [hRs]; exact Nat.mul_le_mul_right _ hge
   have h0 : (w.alloc (.cells ROW (ρ.t 9))).heap[w.heap.size]? = some (.cells ROW (ρ.t 9) (0,0)) := Array.getElem?_push_size
   have hs1 : (rowPut ROW (i * k) vs).size = ROW.size := rowPut_size (by omega)
   refine ⟨w.heap.size,_,_,ρ.t 9,he,hge,hG w,setRow_self' (w := ((w.alloc (.cells ROW (ρ.t 9))).drew.setRow w.heap.size (rowPut ROW (i * k) vs)).drew) (setRow_self' (w := (w.alloc (.cells ROW (ρ.t 9))).drew) h0),by rw [rowPut_size (by omega),hs1,hRs],
    row_grow hi hcl hvl (by rw [hR,Array.append_assoc]) hRk,rfl,rfl,rfl,.inr ⟨rfl,?_⟩,fun x hx hx2 => ?_⟩
   ·rw [setRow_size]
    show ((w.alloc (.cells ROW (ρ.t 9))).drew.setRow w.heap.size (rowPut ROW (i * k) vs)).heap.size = _
    rw [setRow_size]
    exact Array.size_push _
   ·rw [setRow_other hx2]
    show ((w.alloc (.cells ROW (ρ.t 9))).drew.setRow w.heap.size (rowPut ROW (i * k) vs)).heap[x]? = _
    rw [setRow_other hx2]
    show (w.heap.push _)[x]? = _
    rw [Array.getElem?_push_lt hx,Array.getElem?_eq_getElem hx]
end Go.Am
