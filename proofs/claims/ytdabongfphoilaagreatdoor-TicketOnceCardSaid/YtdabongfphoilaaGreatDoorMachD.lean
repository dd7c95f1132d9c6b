/-
  AM, part 13: what an abstract operation reads and writes; independent operations commute.
-/
import Derived.Test.YtdabongfphoilaaGreatDoorMachC
import Derived.LoopN
set_option linter.unusedVariables false
set_option linter.unusedSimpArgs false

namespace Go.Am

def rdO : AO → List Nat
  | .t n => [n]
  | .c _ => []
def rdOs (xs : List AO) : List Nat := xs.flatMap rdO
def rdOpt : Option AO → List Nat
  | some x => rdO x
  | none => []

def rdOp : AOp → List Nat
  | .mov x => rdO x
  | .mvs n => [n]
  | .box x => rdO x
  | .alloc _ => []
  | .gbox x => rdO x
  | .galloc _ => []
  | .fad s _ => [s]
  | .fadr p _ => [p]
  | .ldf s _ _ _ => [s]
  | .ldfm s _ => [s]
  | .ld p _ _ => [p]
  | .ldg p _ _ => [p]
  | .ldm p => [p]
  | .stf s _ _ x => s :: rdO x
  | .stfm s _ n => [s, n]
  | .st p _ x => p :: rdO x
  | .stm p n => [p, n]
  | .bin _ x y => rdO x ++ rdO y
  | .eqb _ x y => rdO x ++ rdO y
  | .eqn _ x => rdO x
  | .eqa _ _ x y => rdO x ++ rdO y
  | .isn _ x => rdO x
  | .un _ x => rdO x
  | .conv _ x => rdO x
  | .call _ args => rdOs args
  | .callv g args => rdO g ++ rdOs args
  | .lens x => rdO x
  | .lenl x => rdO x
  | .app _ _ s x => rdO s ++ rdO x
  | .appg _ _ s x => rdO s ++ rdO x
  | .appz _ _ n x => n :: rdO x
  | .frz n _ => [n]
  | .zlit => []
  | .appzz s x => rdO s ++ rdO x
  | .clr _ x => rdO x
  | .mx x y => rdO x ++ rdO y
  | .mn x y => rdO x ++ rdO y
  | .mksl _ parts => rdOs parts
  | .mkst _ parts => rdOs (parts.map fun p => p.2.2)
  | .idxa _ x i => rdO x ++ rdO i
  | .idx x i => rdO x ++ rdO i
  | .slcs x lo hi => rdO x ++ (rdOpt lo ++ rdOpt hi)
  | .slcl _ x lo hi => rdO x ++ (rdOpt lo ++ rdOpt hi)
  | .slz _ x => rdO x
  | .pick c a b => rdO c ++ (rdO a ++ rdO b)
  | .ext x _ => rdO x
  | .mkfn _ caps => rdOs caps
  | .nilck x => rdO x
  | .mkm => []
  | .lkm _ _ x i _ => rdO x ++ rdO i
  | .upm _ x k y => rdO x ++ (rdO k ++ rdO y)

def wrOp : AOp → List Nat
  | .mvs n => [n]
  | .ldfm s _ => [s]
  | .stf s _ _ _ => [s]
  | .stfm s _ n => [s, n]
  | .stm _ n => [n]
  | .app _ _ s _ => rdO s
  | .appg _ _ s _ => rdO s
  | .appz _ _ n _ => [n]
  | .frz n _ => [n]
  | _ => []

def bsOp : AOp → Nat
  | .gbox _ => 2
  | .galloc _ => 2
  | .ldg _ _ _ => 1
  | .ldm _ => 2
  | .st _ _ _ => 2
  | .stm _ _ => 2
  | .call _ _ => 2
  | .callv _ _ => 2
  | .appg _ _ _ _ => 2
  | .appz _ _ _ _ => 2
  | .frz _ _ => 2
  | .clr _ _ => 2
  | .mkm => 2
  | .lkm _ _ _ _ _ => 1
  | .upm _ _ _ _ => 2
  | _ => 0

def merge (op : AOp) (τ s : St) : St := { env := fun j => if j ∈ wrOp op then s.env j else τ.env j, bs := if bsOp op = 2 then s.bs else τ.bs }

theorem merge_nil {op : AOp} {τ s : St} (h : wrOp op = []) (hb : bsOp op ≠ 2) : merge op τ s = τ := by
  unfold merge
  rw [h]
  simp [hb]

theorem val_congr {ρ ρ' : Nat → AV} {x : AO} (h : ∀ j ∈ rdO x, ρ' j = ρ j) : val ρ' x = val ρ x := by
  cases x with
  | t n => simp only [val]; rw [h n (by simp [rdO])]
  | c v => rfl

theorem vals_congr {ρ ρ' : Nat → AV} : ∀ {xs : List AO}, (∀ j ∈ rdOs xs, ρ' j = ρ j) → xs.map (val ρ') = xs.map (val ρ)
  | [], _ => rfl
  | x :: xs, h => by
    simp only [List.map_cons]
    rw [val_congr (fun j hj => h j (by simp [rdOs]; exact .inl hj)), vals_congr (fun j hj => h j (by simp only [rdOs, List.flatMap_cons, List.mem_append]; exact .inr hj))]

theorem opt_congr {ρ ρ' : Nat → AV} {x : Option AO} (h : ∀ j ∈ rdOpt x, ρ' j = ρ j) : x.map (val ρ') = x.map (val ρ) := by
  cases x with
  | none => rfl
  | some x => simp only [Option.map_some]; rw [val_congr (by simpa [rdOpt] using h)]

theorem st_eq {s t : St} (h1 : ∀ j, s.env j = t.env j) (h2 : s.bs = t.bs) : s = t := by
  cases s; cases t
  simp only [St.mk.injEq]
  exact ⟨funext h1, h2⟩

theorem frz_merge {σ τ : St} {n sz : Nat} (h0 : τ.env n = σ.env n) (h1 : τ.bs = σ.bs) : frzAt τ n sz = (frzAt σ n sz).map fun p => (p.1, { env := upd τ.env n .undef, bs := p.2.bs }) := by
  unfold frzAt
  rw [h0, h1]
  split
  · split
    · split
      · simp
      · rename_i id _ _ _ _ _ _
        cases σ.bs[id]? with
        | none => rfl
        | some cs =>
          simp only [Option.bind_some]
          split <;> rfl
    · split <;> simp
  · rfl

theorem frz_env {σ : St} {n sz : Nat} {p : AV × St} (h : frzAt σ n sz = some p) : p.2.env = upd σ.env n .undef := by
  unfold frzAt at h
  split at h
  · split at h
    · split at h
      · injection h with h; subst h; rfl
      · rename_i id _ _ _ _ _ _
        cases hb : σ.bs[id]? with
        | none => rw [hb] at h; cases h
        | some cs =>
          rw [hb] at h
          simp only [Option.bind_some] at h
          split at h
          · injection h with h; subst h; rfl
          · cases h
    · split at h
      · injection h with h; subst h; rfl
      · cases h
  · cases h

set_option maxHeartbeats 1000000 in
theorem exec_merge {K : CallF} {op : AOp} {σ τ : St} (hr : ∀ j ∈ rdOp op, τ.env j = σ.env j) (hb : bsOp op ≠ 0 → τ.bs = σ.bs) :
    exec K op τ = (exec K op σ).map fun p => (p.1, merge op τ p.2) := by
  cases op
  case mov x =>
    have hm : ∀ s' : St, merge (.mov x) τ s' = τ := fun _ => merge_nil rfl (show (0 : Nat) ≠ 2 by omega)
    simp only [exec]; rw [val_congr hr]; split <;> simp [hm]
  case mvs n =>
    have h0 := hr n (by simp [rdOp])
    simp only [exec, h0]
    split
    · simp only [Option.map_some, Option.some.injEq, Prod.mk.injEq, true_and]
      exact st_eq (fun j => by simp only [merge, wrOp, upd, List.mem_singleton]; split <;> rfl) (by simp [merge, bsOp])
    · rfl
  case box x =>
    have hm : ∀ s' : St, merge (.box x) τ s' = τ := fun _ => merge_nil rfl (show (0 : Nat) ≠ 2 by omega)
    simp only [exec]; rw [val_congr hr]; simp [hm, Function.comp_def]
  case alloc zs =>
    have hm : ∀ s' : St, merge (.alloc zs) τ s' = τ := fun _ => merge_nil rfl (show (0 : Nat) ≠ 2 by omega)
    simp [exec, hm]
  case gbox x =>
    have h0 := hb (by simp [bsOp])
    simp only [exec, h0]; rw [val_congr hr]
    cases cellsOf (val σ.env x) with
    | none => rfl
    | some cs =>
      simp only [Option.bind_some]
      split
      · simp only [Option.map_some, Option.some.injEq, Prod.mk.injEq, true_and]
        exact st_eq (fun j => by simp [merge, wrOp]) (by simp [merge, bsOp])
      · rfl
  case galloc zs =>
    have h0 := hb (by simp [bsOp])
    simp only [exec, h0]
    split
    · simp only [Option.map_some, Option.some.injEq, Prod.mk.injEq, true_and]
      exact st_eq (fun j => by simp [merge, wrOp]) (by simp [merge, bsOp])
    · rfl
  case fad s off =>
    have hm : ∀ s' : St, merge (.fad s off) τ s' = τ := fun _ => merge_nil rfl (show (0 : Nat) ≠ 2 by omega)
   
    have h0 := hr s (by simp [rdOp])
    simp only [exec, h0]; split <;> simp [hm]
  case fadr p off =>
    have hm : ∀ s' : St, merge (.fadr p off) τ s' = τ := fun _ => merge_nil rfl (show (0 : Nat) ≠ 2 by omega)
   
    have h0 := hr p (by simp [rdOp])
    simp only [exec, h0]; split <;> simp [hm]
  case ldf s off sz ag =>
    have hm : ∀ s' : St, merge (.ldf s off sz ag) τ s' = τ := fun _ => merge_nil rfl (show (0 : Nat) ≠ 2 by omega)
   
    have h0 := hr s (by simp [rdOp])
    simp only [exec, h0]; split <;> simp [hm, Function.comp_def]
  case ldfm s off =>
    have h0 := hr s (by simp [rdOp])
    simp only [exec, h0]
    split
    · rename_i cs hcs
      cases cs[off]? with
      | none => rfl
      | some c =>
        simp only [Option.bind_some]
        split
        · simp only [Option.map_some, Option.some.injEq, Prod.mk.injEq, true_and]
          exact st_eq (fun j => by simp only [merge, wrOp, upd, List.mem_singleton]; split <;> rfl) (by simp [merge, bsOp])
        · rfl
    · rfl
  case ld p sz ag =>
    have hm : ∀ s' : St, merge (.ld p sz ag) τ s' = τ := fun _ => merge_nil rfl (show (0 : Nat) ≠ 2 by omega)
   
    have h0 := hr p (by simp [rdOp])
    simp only [exec, h0]; split <;> simp [hm, Function.comp_def]
  case ldg p sz ag =>
    have hm : ∀ s' : St, merge (.ldg p sz ag) τ s' = τ := fun _ => merge_nil rfl (show (1 : Nat) ≠ 2 by omega)
   
    have h0 := hr p (by simp [rdOp])
    have h1 := hb (by simp [bsOp])
    simp only [exec, h0, h1]
    split
    · rename_i i of hcs
      cases σ.bs[i]? with
      | none => rfl
      | some cs => simp [hm, Function.comp_def]
    · rfl
  case ldm p =>
    have h0 := hr p (by simp [rdOp])
    have h1 := hb (by simp [bsOp])
    simp only [exec, h0, h1]
    split
    · rename_i i of hcs
      cases σ.bs[i]? with
      | none => rfl
      | some cs =>
        simp only [Option.bind_some]
        cases cs[of]? with
        | none => rfl
        | some c =>
          simp only [Option.bind_some]
          split
          · simp only [Option.map_some, Option.some.injEq, Prod.mk.injEq, true_and]
            exact st_eq (fun j => by simp [merge, wrOp]) (by simp [merge, bsOp])
          · rfl
    · rfl
  case stf s off sz x =>
    have h0 := hr s (by simp [rdOp])
    simp only [exec, h0]; rw [val_congr (fun j hj => hr j (by simp [rdOp, hj]))]
    split
    · rename_i cs hcs
      cases cellsOf (val σ.env x) with
      | none => rfl
      | some vs =>
        simp only [Option.bind_some]
        split
        · simp only [Option.map_some, Option.some.injEq, Prod.mk.injEq, true_and]
          exact st_eq (fun j => by simp only [merge, wrOp, upd, List.mem_singleton]; split <;> rfl) (by simp [merge, bsOp])
        · rfl
    · rfl
  case stfm s off n =>
    have h0 := hr s (by simp [rdOp])
    have h1 := hr n (by simp [rdOp])
    simp only [exec, h0, h1]
    split
    · rename_i cs hcs
      split
      · simp only [Option.map_some, Option.some.injEq, Prod.mk.injEq, true_and]
        refine st_eq (fun j => ?_) (by simp [merge, bsOp])
        simp only [merge, wrOp, upd, List.mem_cons, List.not_mem_nil, or_false]
        by_cases e1 : j = s <;> by_cases e2 : j = n <;> simp [e1, e2]
      · rfl
    · rfl
  case st p sz x =>
    have h0 := hr p (by simp [rdOp])
    have h1 := hb (by simp [bsOp])
    simp only [exec, h0, h1]; rw [val_congr (fun j hj => hr j (by simp [rdOp, hj]))]
    split
    · rename_i i of hcs
      cases σ.bs[i]? with
      | none => rfl
      | some cs =>
        simp only [Option.bind_some]
        cases cellsOf (val σ.env x) with
        | none => rfl
        | some vs =>
          simp only [Option.bind_some]
          split
          · simp only [Option.map_some, Option.some.injEq, Prod.mk.injEq, true_and]
            exact st_eq (fun j => by simp [merge, wrOp]) (by simp [merge, bsOp])
          · rfl
    · rfl
  case stm p n =>
    have h0 := hr p (by simp [rdOp])
    have h1 := hb (by simp [bsOp])
    have h2 := hr n (by simp [rdOp])
    simp only [exec, h0, h1, h2]
    split
    · rename_i i of hcs
      cases σ.bs[i]? with
      | none => rfl
      | some cs =>
        simp only [Option.bind_some]
        split
        · simp only [Option.map_some, Option.some.injEq, Prod.mk.injEq, true_and]
          exact st_eq (fun j => by simp only [merge, wrOp, upd, List.mem_singleton]; split <;> rfl) (by simp [merge, bsOp])
        · rfl
    · rfl
  case bin op x y =>
    have hm : ∀ s' : St, merge (.bin op x y) τ s' = τ := fun _ => merge_nil rfl (show (0 : Nat) ≠ 2 by omega)
    simp only [exec]; rw [val_congr (fun j hj => hr j (by simp [rdOp, hj])), val_congr (x := y) (fun j hj => hr j (by simp [rdOp, hj]))]; simp [hm, Function.comp_def]
  case eqb ne x y =>
    have hm : ∀ s' : St, merge (.eqb ne x y) τ s' = τ := fun _ => merge_nil rfl (show (0 : Nat) ≠ 2 by omega)
    simp only [exec]; rw [val_congr (fun j hj => hr j (by simp [rdOp, hj])), val_congr (x := y) (fun j hj => hr j (by simp [rdOp, hj]))]; split <;> simp [hm]
  case eqn ne x =>
    have hm : ∀ s' : St, merge (.eqn ne x) τ s' = τ := fun _ => merge_nil rfl (show (0 : Nat) ≠ 2 by omega)
    simp only [exec]; rw [val_congr hr]; split <;> simp [hm]
  case eqa ne ks x y =>
    have hm : ∀ s' : St, merge (.eqa ne ks x y) τ s' = τ := fun _ => merge_nil rfl (show (0 : Nat) ≠ 2 by omega)
    simp only [exec]; rw [val_congr (fun j hj => hr j (by simp [rdOp, hj])), val_congr (x := y) (fun j hj => hr j (by simp [rdOp, hj]))]; split <;> simp [hm, Function.comp_def]
  case isn ne x =>
    have hm : ∀ s' : St, merge (.isn ne x) τ s' = τ := fun _ => merge_nil rfl (show (0 : Nat) ≠ 2 by omega)
    simp only [exec]; rw [val_congr hr]; split <;> simp [hm]
  case un op x =>
    have hm : ∀ s' : St, merge (.un op x) τ s' = τ := fun _ => merge_nil rfl (show (0 : Nat) ≠ 2 by omega)
    simp only [exec]; rw [val_congr hr]; simp [hm, Function.comp_def]
  case conv k x =>
    have hm : ∀ s' : St, merge (.conv k x) τ s' = τ := fun _ => merge_nil rfl (show (0 : Nat) ≠ 2 by omega)
    simp only [exec]; rw [val_congr hr]; split <;> simp [hm]
  case call f args =>
    have h0 := hb (by simp [bsOp])
    simp only [exec, h0]; rw [vals_congr hr]
    split
    · simp only [Option.map_map, Function.comp_def]
      congr 1
    · rfl
  case callv g args =>
    have h0 := hb (by simp [bsOp])
    simp only [exec, h0]; rw [vals_congr (fun j hj => hr j (by simp [rdOp, hj])), val_congr (fun j hj => hr j (by simp [rdOp, hj]))]
    split
    · split
      · simp only [Option.map_map, Function.comp_def]
        congr 1
      · rfl
    · rfl
  case lens x =>
    have hm : ∀ s' : St, merge (.lens x) τ s' = τ := fun _ => merge_nil rfl (show (0 : Nat) ≠ 2 by omega)
    simp only [exec]; rw [val_congr hr]; split <;> simp [hm]
  case lenl x =>
    have hm : ∀ s' : St, merge (.lenl x) τ s' = τ := fun _ => merge_nil rfl (show (0 : Nat) ≠ 2 by omega)
    simp only [exec]; rw [val_congr hr]; split <;> simp [hm]
  case app bytes sz s x =>
    simp only [exec]; rw [val_congr (x := x) (fun j hj => hr j (by simp [rdOp, hj]))]
    cases s with
    | t n =>
      have h0 := hr n (by simp [rdOp, rdO])
      simp only [h0]
      split
      · rename_i sz1 xs ρ o2 sz2 ys e1 e2
        simp only [Prod.mk.injEq] at e1
        obtain ⟨e1, rfl⟩ := e1
        simp only [e1, e2]
        split
        · simp only [Option.map_some, Option.some.injEq, Prod.mk.injEq, true_and]
          exact st_eq (fun j => by simp only [merge, wrOp, rdO, upd, List.mem_singleton]; split <;> rfl) (by simp [merge, bsOp])
        · rfl
      · rename_i hne
        split
        · rename_i sz1 xs ρ o2 sz2 ys e1 e2
          simp only [Prod.mk.injEq] at e1
          exact (hne sz1 xs _ o2 sz2 ys (by simp only [Prod.mk.injEq]; exact ⟨e1.1, rfl⟩) e2).elim
        · rfl
    | c vc =>
      have hm : ∀ s' : St, merge (.app bytes sz (.c vc) x) τ s' = τ := fun _ => merge_nil rfl (show (0 : Nat) ≠ 2 by omega)
      simp only [hm]
      split
      · rename_i sz1 xs ρ o2 sz2 ys e1 e2
        simp only [Prod.mk.injEq] at e1
        obtain ⟨rfl, rfl⟩ := e1
        simp only [e2]
        split <;> rfl
      · rename_i hne
        split
        · rename_i sz1 xs ρ o2 sz2 ys e1 e2
          simp only [Prod.mk.injEq] at e1
          exact (hne sz1 xs _ o2 sz2 ys (by simp only [Prod.mk.injEq]; exact ⟨e1.1, rfl⟩) e2).elim
        · rfl
  case frz n sz =>
    have h0 := hr n (by simp [rdOp])
    have h1 := hb (by simp [bsOp])
    simp only [exec, frz_merge h0 h1]
    cases hf : frzAt σ n sz with
    | none => rfl
    | some p =>
      simp only [Option.map_some, Option.some.injEq, Prod.mk.injEq, true_and]
      exact st_eq (fun j => by simp only [merge, wrOp, frz_env hf, upd, List.mem_singleton]; split <;> rfl) (by simp [merge, bsOp])
  case appz bytes sz n x =>
    have h0 := hr n (by simp [rdOp])
    have h1 := hb (by simp [bsOp])
    simp only [exec, frz_merge h0 h1]; rw [val_congr (x := x) (fun j hj => hr j (by simp [rdOp, hj]))]
    cases hf : frzAt σ n sz with
    | none => rfl
    | some p =>
      obtain ⟨v, s⟩ := p
      have he := frz_env hf
      simp only at he
      cases v <;> simp only [Option.map_some] <;> try rfl
      rename_i ow sz1 xs
      cases ow <;> try rfl
      cases hx : val σ.env x <;> (try simp only []) <;> try rfl
      split
      · simp only [Option.map_some, Option.some.injEq, Prod.mk.injEq, true_and]
        exact st_eq (fun j => by simp only [merge, wrOp, he, upd, List.mem_singleton]; split <;> rfl) (by simp [merge, bsOp])
      · rfl
  case clr sz x =>
    have h1 := hb (by simp [bsOp])
    simp only [exec, h1]; rw [val_congr hr]
    split
    · split
      · split
        · simp only [Option.map_some, Option.some.injEq, Prod.mk.injEq, true_and]
          exact st_eq (fun j => by simp [merge, wrOp]) (by simp [merge, bsOp, h1])
        · rename_i id _ _ _ _ _ _
          cases σ.bs[id]? with
          | none => rfl
          | some cs =>
            simp only [Option.bind_some]
            split
            · simp only [Option.map_some, Option.some.injEq, Prod.mk.injEq, true_and]
              exact st_eq (fun j => by simp [merge, wrOp]) (by simp [merge, bsOp])
            · rfl
      · rfl
    · rfl
  case appg bytes sz s x =>
    have hb1 := hb (by simp [bsOp])
    simp only [exec, hb1]; rw [val_congr (x := x) (fun j hj => hr j (by simp [rdOp, hj]))]
    cases s with
    | t n =>
      have h0 := hr n (by simp [rdOp, rdO])
      simp only [h0]
      cases hn : σ.env n <;> (try simp only []) <;> try rfl
      rename_i ow sz1 xs
      cases ow <;> try rfl
      cases xs <;> try rfl
      cases hx : val σ.env x <;> (try simp only []) <;> try rfl
      split
      · split
        · rfl
        · split
          · simp only [Option.map_some, Option.some.injEq, Prod.mk.injEq, true_and]
            exact st_eq (fun j => by simp only [merge, wrOp, rdO, upd, List.mem_singleton]; split <;> rfl) (by simp [merge, bsOp])
          · rfl
      · rfl
    | c vc =>
      cases vc <;> (try simp only []) <;> try rfl
      rename_i ow sz1 xs
      cases ow <;> try rfl
      cases xs <;> try rfl
      cases hx : val σ.env x <;> (try simp only []) <;> try rfl
      split
      · split
        · rfl
        · split
          · simp only [Option.map_some, Option.some.injEq, Prod.mk.injEq, true_and]
            exact st_eq (fun j => by simp [merge, wrOp, rdO]) (by simp [merge, bsOp])
          · rfl
      · rfl
  case zlit =>
    have hm : ∀ s' : St, merge .zlit τ s' = τ := fun _ => merge_nil rfl (show (0 : Nat) ≠ 2 by omega)
    simp [exec, hm]
  case appzz s x =>
    have hm : ∀ s' : St, merge (.appzz s x) τ s' = τ := fun _ => merge_nil rfl (show (0 : Nat) ≠ 2 by omega)
    simp only [exec]; rw [val_congr (fun j hj => hr j (by simp [rdOp, hj])), val_congr (x := x) (fun j hj => hr j (by simp [rdOp, hj]))]; split
    · simp [hm]
    · rfl
  case mx x y =>
    have hm : ∀ s' : St, merge (.mx x y) τ s' = τ := fun _ => merge_nil rfl (show (0 : Nat) ≠ 2 by omega)
    simp only [exec]; rw [val_congr (fun j hj => hr j (by simp [rdOp, hj])), val_congr (x := y) (fun j hj => hr j (by simp [rdOp, hj]))]; split
    · split <;> simp [hm]
    · rfl
  case mn x y =>
    have hm : ∀ s' : St, merge (.mn x y) τ s' = τ := fun _ => merge_nil rfl (show (0 : Nat) ≠ 2 by omega)
    simp only [exec]; rw [val_congr (fun j hj => hr j (by simp [rdOp, hj])), val_congr (x := y) (fun j hj => hr j (by simp [rdOp, hj]))]; split
    · split <;> simp [hm]
    · rfl
  case mksl sz parts =>
    have hm : ∀ s' : St, merge (.mksl sz parts) τ s' = τ := fun _ => merge_nil rfl (show (0 : Nat) ≠ 2 by omega)
    simp only [exec]; rw [vals_congr hr]; simp [hm, Function.comp_def]
  case mkst zs parts =>
    have hm : ∀ s' : St, merge (.mkst zs parts) τ s' = τ := fun _ => merge_nil rfl (show (0 : Nat) ≠ 2 by omega)
   
    simp only [exec]
    have : parts.map (fun p => (p.1, p.2.1, val τ.env p.2.2)) = parts.map (fun p => (p.1, p.2.1, val σ.env p.2.2)) := by
      apply List.map_congr_left
      intro p hp
      rw [val_congr (fun j hj => hr j (by simp only [rdOp, rdOs, List.mem_flatMap, List.mem_map]; exact ⟨p.2.2, ⟨p, hp, rfl⟩, hj⟩))]
    rw [this]
    simp [hm, Function.comp_def]
  case idxa sz x i =>
    have hm : ∀ s' : St, merge (.idxa sz x i) τ s' = τ := fun _ => merge_nil rfl (show (0 : Nat) ≠ 2 by omega)
    simp only [exec]; rw [val_congr (fun j hj => hr j (by simp [rdOp, hj])), val_congr (x := i) (fun j hj => hr j (by simp [rdOp, hj]))]; split
    · split <;> simp [hm, Function.comp_def]
    · split <;> simp [hm]
    · rfl
  case idx x i =>
    have hm : ∀ s' : St, merge (.idx x i) τ s' = τ := fun _ => merge_nil rfl (show (0 : Nat) ≠ 2 by omega)
    simp only [exec]; rw [val_congr (fun j hj => hr j (by simp [rdOp, hj])), val_congr (x := i) (fun j hj => hr j (by simp [rdOp, hj]))]; split
    · split <;> simp [hm, Function.comp_def]
    · rfl
  case slcs x lo hi =>
    have hm : ∀ s' : St, merge (.slcs x lo hi) τ s' = τ := fun _ => merge_nil rfl (show (0 : Nat) ≠ 2 by omega)
   
    simp only [exec]; rw [val_congr (fun j hj => hr j (by simp [rdOp, hj])), opt_congr (x := lo) (fun j hj => hr j (by simp [rdOp, hj])), opt_congr (x := hi) (fun j hj => hr j (by simp [rdOp, hj]))]
    split
    · cases bound _ _ (hi.map (val σ.env)) with
      | none => rfl
      | some H => simp [hm, Function.comp_def]
    · rfl
  case slcl sz x lo hi =>
    have hm : ∀ s' : St, merge (.slcl sz x lo hi) τ s' = τ := fun _ => merge_nil rfl (show (0 : Nat) ≠ 2 by omega)
   
    simp only [exec]; rw [val_congr (fun j hj => hr j (by simp [rdOp, hj])), opt_congr (x := lo) (fun j hj => hr j (by simp [rdOp, hj])), opt_congr (x := hi) (fun j hj => hr j (by simp [rdOp, hj]))]
    split
    · split
      · cases bound _ _ (hi.map (val σ.env)) with
        | none => rfl
        | some H => simp [hm, Function.comp_def]
      · rfl
    · split
      · cases bound _ _ (hi.map (val σ.env)) with
        | none => rfl
        | some H => simp [hm, Function.comp_def]
      · split
        · cases bound _ _ (hi.map (val σ.env)) with
          | none => rfl
          | some H => simp [hm, Function.comp_def]
        · rfl
    · rfl
  case slz sz x =>
    have hm : ∀ s' : St, merge (.slz sz x) τ s' = τ := fun _ => merge_nil rfl (show (0 : Nat) ≠ 2 by omega)
    simp only [exec]; rw [val_congr hr]; split
    · split <;> simp [hm]
    · rfl
  case pick c x y =>
    have hm : ∀ s' : St, merge (.pick c x y) τ s' = τ := fun _ => merge_nil rfl (show (0 : Nat) ≠ 2 by omega)
   
    simp only [exec]; rw [val_congr (fun j hj => hr j (by simp [rdOp, hj])), val_congr (x := x) (fun j hj => hr j (by simp [rdOp, hj])), val_congr (x := y) (fun j hj => hr j (by simp [rdOp, hj]))]
    split
    · split <;> simp [hm]
    · split <;> simp [hm]
    · rfl
  case ext x i =>
    have hm : ∀ s' : St, merge (.ext x i) τ s' = τ := fun _ => merge_nil rfl (show (0 : Nat) ≠ 2 by omega)
   
    simp only [exec]; rw [val_congr hr]
    split
    · rename_i vs hv
      cases vs[i]? with
      | none => rfl
      | some c => simp only [Option.bind_some]; split <;> simp [hm]
    · rfl
  case mkfn f caps =>
    have hm : ∀ s' : St, merge (.mkfn f caps) τ s' = τ := fun _ => merge_nil rfl (show (0 : Nat) ≠ 2 by omega)
    simp only [exec]; rw [vals_congr hr]; split <;> simp [hm]
  case nilck x =>
    have hm : ∀ s' : St, merge (.nilck x) τ s' = τ := fun _ => merge_nil rfl (show (0 : Nat) ≠ 2 by omega)
    simp only [exec]; rw [val_congr hr]; split <;> simp [hm]
  case mkm =>
    have h0 := hb (by simp [bsOp])
    simp only [exec, h0, Option.map_some, Option.some.injEq, Prod.mk.injEq, true_and]
    exact st_eq (fun j => by simp [merge, wrOp]) (by simp [merge, bsOp])
  case lkm s ok x i z =>
    have hm : ∀ s' : St, merge (.lkm s ok x i z) τ s' = τ := fun _ => merge_nil rfl (show (1 : Nat) ≠ 2 by omega)
    have h1 := hb (by simp [bsOp])
    simp only [exec, h1]; rw [val_congr (fun j hj => hr j (by simp [rdOp, hj])), val_congr (x := i) (fun j hj => hr j (by simp [rdOp, hj]))]
    split
    · rename_i id hid
      cases σ.bs[id]? with
      | none => rfl
      | some cs =>
        simp only [Option.bind_some]
        split
        · rfl
        · cases findM s (cs.drop 1) (val σ.env i) with
          | none => rfl
          | some r =>
            simp only [Option.bind_some]
            split <;> simp [hm]
    · rfl
  case upm s x k y =>
    have h1 := hb (by simp [bsOp])
    simp only [exec, h1]; rw [val_congr (fun j hj => hr j (by simp [rdOp, hj])), val_congr (x := k) (fun j hj => hr j (by simp [rdOp, hj])), val_congr (x := y) (fun j hj => hr j (by simp [rdOp, hj]))]
    split
    · rename_i id hid
      cases σ.bs[id]? with
      | none => rfl
      | some cs =>
        simp only [Option.bind_some]
        split
        · rfl
        · cases updM s (cs.drop 1) (val σ.env k) (val σ.env y).strip with
          | none => rfl
          | some ys =>
            simp only [Option.map_some, Option.some.injEq, Prod.mk.injEq, true_and]
            exact st_eq (fun j => by simp [merge, wrOp]) (by simp [merge, bsOp])
    · rfl
end Go.Am

namespace Go.Am

def rdA (x : AOper) : List Nat := rdOp x.op ++ (match x.guard with
  | some (t, _) => [t]
  | none => [])
def wrA (x : AOper) : List Nat := wrOp x.op ++ x.dst.toList

def disj (a b : List Nat) : Bool := a.all fun j => !b.contains j

def indep (x y : AOper) : Bool := disj (wrA x) (rdA y ++ wrA y) && disj (wrA y) (rdA x) &&
  (decide (bsOp x.op = 0) || decide (bsOp y.op = 0) || (decide (bsOp x.op = 1) && decide (bsOp y.op = 1)))

def mergeA (x : AOper) (τ s : St) : St := { env := fun j => if j ∈ wrA x then s.env j else τ.env j, bs := if bsOp x.op = 2 then s.bs else τ.bs }

theorem setD_get (ρ : Nat → AV) (d : Option Nat) (v : AV) (j : Nat) : setD ρ d v j = if j ∈ d.toList then v else ρ j := by
  cases d with
  | none => simp [setD]
  | some d => simp [setD, upd]

theorem exec_frame {K : CallF} {op : AOp} {σ σ1 : St} {v : AV} (h : exec K op σ = some (v, σ1)) : σ1 = merge op σ σ1 := by
  have := exec_merge (K := K) (op := op) (σ := σ) (τ := σ) (fun _ _ => rfl) (fun _ => rfl)
  rw [h] at this
  simp only [Option.map_some, Option.some.injEq, Prod.mk.injEq, true_and] at this
  exact this

theorem runOp_merge {K : CallF} {x : AOper} {σ τ : St} (hr : ∀ j ∈ rdA x, τ.env j = σ.env j) (hb : bsOp x.op ≠ 0 → τ.bs = σ.bs) :
    runOp K x τ = (runOp K x σ).map (mergeA x τ) := by
  have he := exec_merge (K := K) (op := x.op) (σ := σ) (τ := τ) (fun j hj => hr j (by simp [rdA, hj])) hb
  have hbody : ((exec K x.op τ).map fun p => ({ p.2 with env := setD p.2.env x.dst p.1 } : St)) = ((exec K x.op σ).map fun p => ({ p.2 with env := setD p.2.env x.dst p.1 } : St)).map (mergeA x τ) := by
    rw [he]
    simp only [Option.map_map, Function.comp_def]
    congr 1
    funext p
    refine st_eq (fun j => ?_) ?_
    · simp only [mergeA, merge, wrA, List.mem_append, setD_get]
      by_cases h1 : j ∈ x.dst.toList <;> by_cases h2 : j ∈ wrOp x.op <;> simp [h1, h2]
    · simp [mergeA, merge]
  unfold runOp
  cases hg : x.guard with
  | none => exact hbody
  | some tb =>
    obtain ⟨t, b⟩ := tb
    simp only
    rw [hr t (by simp [rdA, hg])]
    have hskip : (some { τ with env := setD τ.env x.dst (.tup []) } : Option St) = (some ({ σ with env := setD σ.env x.dst (.tup []) } : St)).map (mergeA x τ) := by
      simp only [Option.map_some, Option.some.injEq]
      refine st_eq (fun j => ?_) ?_
      · simp only [mergeA, wrA, List.mem_append, setD_get]
        by_cases h1 : j ∈ x.dst.toList
        · simp [h1]
        · by_cases h2 : j ∈ wrOp x.op
          · simp only [h1, h2, if_false, or_false, if_true]
            exact hr j (by
              have : ∀ op : AOp, ∀ j ∈ wrOp op, j ∈ rdOp op := by
                intro op j hj
                cases op <;> simp only [wrOp, rdOp, List.mem_cons, List.mem_append, List.not_mem_nil, or_false] at hj ⊢ <;> first | exact hj | exact .inl hj | exact .inr hj | (exact hj.elim)
              simp only [rdA, List.mem_append]
              exact .inl (this _ _ h2))
          · simp [h1, h2]
      · simp only [mergeA]
        by_cases h2 : bsOp x.op = 2
        · simp only [h2, if_true]; exact hb (by omega)
        · simp [h2]
    split
    · split
      · exact hbody
      · exact hskip
    · exact hskip
    · rfl

theorem disj_spec {a b : List Nat} (h : disj a b = true) : ∀ j ∈ a, j ∉ b := by
  unfold disj at h
  rw [List.all_eq_true] at h
  intro j hj
  simpa using h j hj

theorem runOp_comm {K : CallF} {x y : AOper} {σ σ1 σ2 : St} (hi : indep x y = true) (h1 : runOp K x σ = some σ1) (h2 : runOp K y σ1 = some σ2) :
    ∃ τ, runOp K y σ = some τ ∧ runOp K x τ = some σ2 := by
  unfold indep at hi
  simp only [Bool.and_eq_true, Bool.or_eq_true, decide_eq_true_eq] at hi
  obtain ⟨⟨hi1, hi2⟩, hi3⟩ := hi
  have d1 := disj_spec hi1
  have d2 := disj_spec hi2
  have f1 := runOp_merge (K := K) (x := x) (σ := σ) (τ := σ) (fun _ _ => rfl) (fun _ => rfl)
  rw [h1] at f1
  simp only [Option.map_some, Option.some.injEq] at f1
  have f2 := runOp_merge (K := K) (x := y) (σ := σ1) (τ := σ1) (fun _ _ => rfl) (fun _ => rfl)
  rw [h2] at f2
  simp only [Option.map_some, Option.some.injEq] at f2
  have e1 : ∀ j, σ1.env j = if j ∈ wrA x then σ1.env j else σ.env j := fun j => congrArg (fun s : St => s.env j) f1
  have b1 : σ1.bs = if bsOp x.op = 2 then σ1.bs else σ.bs := congrArg St.bs f1
  have e2 : ∀ j, σ2.env j = if j ∈ wrA y then σ2.env j else σ1.env j := fun j => congrArg (fun s : St => s.env j) f2
  have b2 : σ2.bs = if bsOp y.op = 2 then σ2.bs else σ1.bs := congrArg St.bs f2
  have g1 := runOp_merge (K := K) (x := y) (σ := σ1) (τ := σ) (fun j hj => by
    rw [e1 j, if_neg (fun h => d1 j h (List.mem_append_left _ hj))]) (fun hne => by
    rw [b1, if_neg (by omega)])
  rw [h2, Option.map_some] at g1
  have g2 := runOp_merge (K := K) (x := x) (σ := σ) (τ := mergeA y σ σ2) (fun j hj => by
    simp only [mergeA]
    rw [if_neg (fun h => d2 j h hj)]) (fun hne => by
    simp only [mergeA]
    rw [if_neg (by omega)])
  rw [h1, Option.map_some] at g2
  refine ⟨_, g1, ?_⟩
  rw [g2]
  congr 1
  refine st_eq (fun j => ?_) ?_
  · simp only [mergeA]
    by_cases hx : j ∈ wrA x
    · rw [if_pos hx, e2 j, if_neg (fun h => d1 j hx (List.mem_append_right _ h))]
    · rw [if_neg hx]
      by_cases hy : j ∈ wrA y
      · rw [if_pos hy]
      · rw [if_neg hy, e2 j, if_neg hy, e1 j, if_neg hx]
  · simp only [mergeA]
    by_cases hx : bsOp x.op = 2
    · rw [if_pos hx, b2, if_neg (by omega)]
    · rw [if_neg hx]
      by_cases hy : bsOp y.op = 2
      · rw [if_pos hy]
      · rw [if_neg hy, b2, if_neg hy, b1, if_neg hx]

/-- An operation that nothing before it hinders comes first. -/
theorem runOps_bring {K : CallF} (f : Nat → AOper) (i : Nat) : ∀ (L : List Nat) (σ σn : St), L.Pairwise (· < ·) → i ∈ L → (∀ j ∈ L, j < i → indep (f j) (f i) = true) →
    runOps K (L.map f) σ = some σn → ∃ σ', runOp K (f i) σ = some σ' ∧ runOps K ((L.erase i).map f) σ' = some σn
  | [], _, _, _, hi, _, _ => by simp at hi
  | j :: L, σ, σn, hp, hi, hd, hr => by
    simp only [List.map_cons, runOps] at hr
    cases h1 : runOp K (f j) σ with
    | none => rw [h1] at hr; cases hr
    | some σ1 =>
      rw [h1, Option.bind_some] at hr
      by_cases hji : j = i
      · subst hji
        exact ⟨σ1, h1, by rw [List.erase_cons_head]; exact hr⟩
      · have hiL : i ∈ L := by
          rcases List.mem_cons.1 hi with h | h
          · exact absurd h.symm hji
          · exact h
        have hlt : j < i := (List.pairwise_cons.1 hp).1 i hiL
        obtain ⟨σ2, g1, g2⟩ := runOps_bring f i L σ1 σn (List.pairwise_cons.1 hp).2 hiL (fun k hk => hd k (List.mem_cons_of_mem _ hk)) hr
        obtain ⟨τ, k1, k2⟩ := runOp_comm (hd j (by simp) hlt) h1 g1
        refine ⟨τ, k1, ?_⟩
        rw [List.erase_cons_tail (by simpa using hji), List.map_cons, runOps, k2, Option.bind_some]
        exact g2
end Go.Am

namespace Go.Am

structure En where
  j : Nat
  g : Option (Nat × Bool)
  q : Nat
  s : Nat
  off : Nat

def entryOf (x : AOper) (j : Nat) : Option En := match x.op, x.dst with
  | .fad s off, some q => some ⟨j, x.guard, q, s, off⟩
  | _, _ => none

def entries (xs : List AOper) : List En := xs.zipIdx.filterMap fun p => entryOf p.1 p.2

def ptOf (E : List En) (prec : Nat → Nat → Bool) (i : Nat) (g : Option (Nat × Bool)) (q s off : Nat) : Bool :=
  E.any fun en => prec i en.j && (decide (en.g = none) || decide (en.g = g)) && decide (en.q = q) && decide (en.s = s) && decide (en.off = off)

def stable (E : List En) (prec : Nat → Nat → Bool) (xs : List AOper) : Bool :=
  E.all fun en => xs.zipIdx.all fun p => (decide (p.2 = en.j) || !decide (p.1.dst = some en.q)) && !decide (p.1.dst = some en.s) &&
    (match en.g with
      | some (t, _) => !decide (p.1.dst = some t) || prec en.j p.2
      | none => true)

def guardOk (cops : Array Oper) (x : AOper) (o : Oper) : Bool := match x.guard, o.guard with
  | none, none => true
  | some (t, b), some (j, b2) => decide (b = b2) && decide (((cops[j]?).bind (·.dst)) = some t)
  | _, _ => false

def okOper (P : Program) (num : Nat → Option Nat) (N : Nat) (E : List En) (prec : Nat → Nat → Bool) (cops : Array Oper) (i : Nat) (x : AOper) (o : Oper) : Bool :=
  decide (x.dst = o.dst) && (match x.dst with
    | some d => decide (d < N)
    | none => true) && guardOk cops x o && okOp P num (ptOf E prec i x.guard) x.op o.op

def okAll (P : Program) (num : Nat → Option Nat) (N : Nat) (prec : Nat → Nat → Bool) (cops : Array Oper) (xs : List AOper) : Bool :=
  decide (xs.length = cops.size) && stable (entries xs) prec xs && xs.zipIdx.all fun p => match cops[p.2]? with
    | some o => okOper P num N (entries xs) prec cops p.2 p.1 o
    | none => false

def gOK (σ : St) : Option (Nat × Bool) → Prop
  | none => True
  | some (t, b) => σ.env t = .bool b

def RS (E : List En) (D : Nat → Prop) (σ : St) (a : Act) : Prop := ∀ en ∈ E, D en.j → gOK σ en.g → PtrAt a en.q en.s en.off

theorem mem_entries {xs : List AOper} {en : En} (h : en ∈ entries xs) : ∃ x, xs[en.j]? = some x ∧ x.op = .fad en.s en.off ∧ x.dst = some en.q ∧ x.guard = en.g := by
  unfold entries at h
  rw [List.mem_filterMap] at h
  obtain ⟨⟨x, j⟩, h1, h2⟩ := h
  have h3 : xs[j]? = some x := by
    rw [List.mem_iff_getElem?] at h1
    obtain ⟨k, hk⟩ := h1
    rw [List.getElem?_zipIdx] at hk
    cases hx : xs[k]? with
    | none => rw [hx] at hk; cases hk
    | some y =>
      rw [hx] at hk
      simp only [Option.map_some, Option.some.injEq, Prod.mk.injEq] at hk
      obtain ⟨rfl, rfl⟩ := hk
      simpa using hx
  simp only [entryOf] at h2
  split at h2
  · rename_i s off q e1 e2
    injection h2 with h2
    subst h2
    exact ⟨x, h3, e1, e2, rfl⟩
  · cases h2

theorem zip_all {xs : List AOper} {f : AOper × Nat → Bool} (h : xs.zipIdx.all f = true) {i : Nat} {x : AOper} (hx : xs[i]? = some x) : f (x, i) = true := by
  rw [List.all_eq_true] at h
  refine h (x, i) (List.mem_of_getElem? (i := i) ?_)
  rw [List.getElem?_zipIdx, hx]
  simp

section
variable {P : Program} {num : Nat → Option Nat} {β : List Blk} {w w' : World} {m : Nat → Nat} {ν : Own} {N : Nat} {w0 : World} {m0 : Nat → Nat} {T : Nat → Prop} {β0 : List Blk} {σ σ1 σ2 : St} {a : Act}
  {next : Act → World → Prop} {Q : Exit → Act → World → Prop} {K : CallF} {v : AV} {Γ : Glob} {xs : List AOper} {cops : Array Oper} {prec : Nat → Nat → Bool}

theorem exec_wr {op : AOp} (h : exec K op σ = some (v, σ1)) : ∀ j ∈ wrOp op, σ1.env j = .undef ∨ ∃ cs, σ1.env j = .bx cs := by
  intro j hj
  cases op <;> simp only [wrOp, List.not_mem_nil, List.mem_cons, or_false] at hj
  case mvs n =>
    subst hj
    simp only [exec] at h
    split at h
    · injection h with h; injection h with _ h; subst h; exact .inl (by simp [upd])
    · cases h
  case ldfm s off =>
    subst hj
    simp only [exec] at h
    split at h
    · rename_i cs hcs
      cases hc : cs[off]? with
      | none => rw [hc] at h; cases h
      | some c =>
        rw [hc] at h
        simp only [Option.bind_some] at h
        split at h
        · injection h with h; injection h with _ h; subst h; exact .inr ⟨_, by simp [upd]; rfl⟩
        · cases h
    · cases h
  case stf s off sz x =>
    subst hj
    simp only [exec] at h
    split at h
    · rename_i cs hcs
      cases hc : cellsOf (val σ.env x) with
      | none => rw [hc] at h; cases h
      | some c =>
        rw [hc] at h
        simp only [Option.bind_some] at h
        split at h
        · injection h with h; injection h with _ h; subst h; exact .inr ⟨_, by simp [upd]; rfl⟩
        · cases h
    · cases h
  case stfm s off n =>
    simp only [exec] at h
    split at h
    · rename_i cs hcs
      split at h
      · rename_i hne
        injection h with h; injection h with _ h; subst h
        rcases hj with rfl | rfl
        · exact .inr ⟨_, by simp [upd]; rfl⟩
        · exact .inl (by simp only [upd]; rw [if_neg (fun e => hne.1 e.symm)]; simp)
      · cases h
    · cases h
  case stm p n =>
    subst hj
    simp only [exec] at h
    split at h
    · rename_i i of hcs
      cases hc : σ.bs[i]? with
      | none => rw [hc] at h; cases h
      | some c =>
        rw [hc] at h
        simp only [Option.bind_some] at h
        split at h
        · injection h with h; injection h with _ h; subst h; exact .inl (by simp [upd])
        · cases h
    · cases h
  case frz n sz =>
    subst hj
    simp only [exec] at h
    have := frz_env h
    simp only at this
    exact .inl (by rw [this]; simp [upd])
  case appz bytes sz n x =>
    subst hj
    simp only [exec] at h
    split at h
    · rename_i s _ _ _ hf _
      have := frz_env hf
      simp only at this
      split at h
      · injection h with h; injection h with _ h; subst h
        exact .inl (by rw [this]; simp [upd])
      · cases h
    · cases h
  case appg bytes sz s x =>
    cases s with
    | c v => simp [rdO] at hj
    | t n =>
      simp only [rdO, List.mem_singleton] at hj
      subst hj
      simp only [exec] at h
      split at h
      · rename_i e1 e2
        simp only [Prod.mk.injEq] at e1
        obtain ⟨_, rfl⟩ := e1
        split at h
        · split at h
          · cases h
          · split at h
            · injection h with h; injection h with _ h; subst h; exact .inl (by simp [upd])
            · cases h
        · cases h
      · cases h
  case app bytes sz s x =>
    cases s with
    | c v => simp [rdO] at hj
    | t n =>
      simp only [rdO, List.mem_singleton] at hj
      subst hj
      simp only [exec] at h
      split at h
      · rename_i sz1 ys ρ o2 sz2 zs e1 e2
        simp only [Prod.mk.injEq] at e1
        obtain ⟨e1, rfl⟩ := e1
        split at h
        · injection h with h; injection h with _ h; subst h; exact .inl (by simp [upd])
        · cases h
      · cases h

theorem exec_bool {op : AOp} (h : exec K op σ = some (v, σ1)) {t : Nat} {b : Bool} (ht : σ1.env t = .bool b) : σ.env t = .bool b := by
  by_cases hj : t ∈ wrOp op
  · rcases exec_wr h t hj with h1 | ⟨cs, h1⟩ <;> rw [h1] at ht <;> cases ht
  · have := congrArg (fun s : St => s.env t) (exec_frame h)
    simp only [merge] at this
    rw [if_neg hj] at this
    rw [← this]
    exact ht

theorem PtrAt_put {q s off : Nat} {d : Option Nat} {u : Value} (h : PtrAt a q s off) (h1 : d ≠ some q) (h2 : d ≠ some s) : PtrAt (a.put d u) q s off := by
  obtain ⟨b, p1, p2⟩ := h
  cases d with
  | none => exact ⟨b, p1, p2⟩
  | some d =>
    have e1 : d ≠ q := fun e => h1 (by rw [e])
    have e2 : d ≠ s := fun e => h2 (by rw [e])
    refine ⟨b, ?_, ?_⟩
    · simp only [Act.put, Array.getD_eq_getD_getElem?] at p1 ⊢
      rw [Array.getElem?_setIfInBounds_ne e2]
      exact p1
    · simp only [Act.put, Array.getD_eq_getD_getElem?] at p2 ⊢
      rw [Array.getElem?_setIfInBounds_ne e1]
      exact p2

theorem wanted_of {x : AOper} {o : Oper} (hI : Inv num N w0 m0 T β0 σ a w m β ν) (hg : guardOk cops x o = true) :
    (x.guard = none → Region.wanted o (yielded cops a.tmps) = true) ∧ (∀ t b c, x.guard = some (t, b) → σ.env t = .bool c → Region.wanted o (yielded cops a.tmps) = decide (c = b)) ∧
      ∀ t b, x.guard = some (t, b) → σ.env t = .tup [] → Region.wanted o (yielded cops a.tmps) = false := by
  unfold guardOk at hg
  split at hg
  · rename_i e1 e2
    refine ⟨fun _ => by simp [Region.wanted, e2], fun t b c h => (by rw [e1] at h; cases h), fun t b h => (by rw [e1] at h; cases h)⟩
  · rename_i t b j b2 e1 e2
    simp only [Bool.and_eq_true, decide_eq_true_eq] at hg
    obtain ⟨rfl, hg⟩ := hg
    refine ⟨(fun h => by rw [e1] at h; cases h), fun t2 b3 c h hc => ?_, fun t2 b3 h hc => ?_⟩
    · rw [e1] at h
      injection h with h
      injection h with h3 h4
      subst h3 h4
      obtain ⟨_, h5⟩ := hI.at_ (n := t) (by rw [hc]; simp)
      have h6 := hI.slots t _ h5
      rw [hc] at h6
      obtain ⟨h6, _⟩ := h6
      simp only [RepV] at h6
      simp only [Region.wanted, e2, yielded, hg, Option.bind_some, h5, h6]
      cases c <;> cases b <;> rfl
    · rw [e1] at h
      injection h with h
      injection h with h3 h4
      subst h3 h4
      obtain ⟨_, h5⟩ := hI.at_ (n := t) (by rw [hc]; simp)
      have h6 := hI.slots t _ h5
      rw [hc] at h6
      obtain ⟨h6, _⟩ := h6
      simp only [RepV] at h6
      obtain ⟨us, h6, _⟩ := h6
      simp only [Region.wanted, e2, yielded, hg, Option.bind_some, h5, h6]
      cases b <;> rfl
  · cases hg

/-- One operation of a region. -/
theorem region_step (hI : Inv num N w0 m0 T β0 σ a w m β ν) (hE : Enters P num) (hK : KOk P num Γ K) (hG : Γ.G w0) (hGb : Γ.Gb ≤ w0.heap.size) (hT : ∀ b, T b → Γ.Gb ≤ b)
    {D : Nat → Prop} {i : Nat} {x : AOper} (hall : okAll P num N prec cops xs = true) (hx : xs[i]? = some x) (hD : ¬ D i) (hpre : ∀ k, prec i k = true → D k) (hdown : ∀ j k, D j → prec j k = true → D k)
    (hRS : RS (entries xs) D σ a) (hr : runOp K x σ = some σ2)
    (h : ∀ a' w' m' β' ν', Inv num N w0 m0 T β0 σ2 a' w' m' β' ν' → RS (entries xs) (fun j => D j ∨ j = i) σ2 a' → next a' w') : wpOp P cops Q i next a w := by
  unfold okAll at hall
  simp only [Bool.and_eq_true, decide_eq_true_eq] at hall
  obtain ⟨⟨hlen, hst⟩, hall⟩ := hall
  have hox := zip_all hall hx
  simp only at hox
  split at hox
  · rename_i o ho
    unfold okOper at hox
    simp only [Bool.and_eq_true, decide_eq_true_eq] at hox
    obtain ⟨⟨⟨hdst, hdN⟩, hgd⟩, hop⟩ := hox
    have hstab : ∀ en ∈ entries xs, (i = en.j ∨ x.dst ≠ some en.q) ∧ x.dst ≠ some en.s ∧ ∀ t b, en.g = some (t, b) → x.dst = some t → prec en.j i = true := fun en hen => by
      unfold stable at hst
      rw [List.all_eq_true] at hst
      have := zip_all (hst en hen) hx
      simp only [Bool.and_eq_true, Bool.or_eq_true, decide_eq_true_eq, Bool.not_eq_true', decide_eq_false_iff_not] at this
      refine ⟨this.1.1, this.1.2, fun t b hg hd => ?_⟩
      have h2 := this.2
      rw [hg] at h2
      simp only [Bool.or_eq_true, Bool.not_eq_true', decide_eq_false_iff_not] at h2
      exact h2.resolve_left (fun hn => hn hd)
    obtain ⟨hw1, hw2, hw3⟩ := wanted_of hI hgd
    -- the operation runs
    have run : (∀ t b, x.guard = some (t, b) → σ.env t = .bool b) → Region.wanted o (yielded cops a.tmps) = true → ((exec K x.op σ).map fun p => ({ p.2 with env := setD p.2.env x.dst p.1 } : St)) = some σ2 → wpOp P cops Q i next a w := by
      intro hgu hwant hex
      cases he : exec K x.op σ with
      | none => rw [he] at hex; cases hex
      | some p =>
        obtain ⟨v, σ1⟩ := p
        rw [he] at hex
        simp only [Option.map_some, Option.some.injEq] at hex
        subst hex
        unfold wpOp
        simp only [ho, hwant, if_true]
        refine .inl (op_sound hI hE hK hG hGb hT (pt := ptOf (entries xs) prec i x.guard) (fun q s off hp => ?_) hop he fun u w' m' β' ν' k1 k2 k3 => ?_)
        · unfold ptOf at hp
          rw [List.any_eq_true] at hp
          obtain ⟨en, hen, hp⟩ := hp
          simp only [Bool.and_eq_true, Bool.or_eq_true, decide_eq_true_eq] at hp
          obtain ⟨⟨⟨⟨p1, p2⟩, rfl⟩, rfl⟩, rfl⟩ := hp
          refine hRS en hen (hpre _ p1) ?_
          rcases p2 with p2 | p2
          · rw [p2]; exact trivial
          · rw [p2]
            cases hxg : x.guard with
            | none => exact trivial
            | some tb => obtain ⟨t, b⟩ := tb; exact hgu t b hxg
        · rw [← hdst]
          have hRS2 : RS (entries xs) (fun j => D j ∨ j = i) { σ1 with env := setD σ1.env x.dst v } (a.put x.dst u) := by
            intro en hen hDj hgk
            obtain ⟨st1, st2, st3⟩ := hstab en hen
            by_cases hji : en.j = i
            · obtain ⟨y, y1, y2, y3, _⟩ := mem_entries hen
              rw [hji, hx] at y1
              injection y1 with y1
              subst y1
              obtain ⟨b, b1, b2⟩ := k3 _ _ y2
              have hne : en.q ≠ en.s := fun e => st2 (by rw [y3, e])
              rw [y3]
              rw [y3] at hdN
              have hqN : en.q < N := by simpa using hdN
              refine ⟨b, ?_, ?_⟩
              · simp only [Act.put, Array.getD_eq_getD_getElem?] at b1 ⊢
                rw [Array.getElem?_setIfInBounds_ne hne]
                exact b1
              · simp only [Act.put, Array.getD_eq_getD_getElem?]
                rw [Array.getElem?_setIfInBounds_self_of_lt (by rw [hI.size]; exact hqN), b2]
                rfl
            · have hDj2 : D en.j := hDj.resolve_right hji
              refine PtrAt_put (hRS en hen hDj2 ?_) (st1.resolve_left (fun e => hji e.symm)) st2
              cases heg : en.g with
              | none => exact trivial
              | some tb =>
                obtain ⟨t, b⟩ := tb
                rw [heg] at hgk
                simp only [gOK, setD_get] at hgk ⊢
                split at hgk
                · rename_i hd
                  exact absurd (hdown en.j i hDj2 (st3 t b heg (by simpa using hd))) hD
                · exact exec_bool he hgk
          cases hxd : x.dst with
          | none =>
            rw [hxd] at hRS2 h
            exact h _ w' m' β' ν' k1 hRS2
          | some d =>
            rw [hxd] at hRS2 hdN h
            exact h _ w' m' β' _ (k1.put k2 d (by simpa using hdN)) hRS2
    unfold runOp at hr
    cases hxg : x.guard with
    | none =>
      rw [hxg] at hr
      exact run (fun t b h => by rw [hxg] at h; cases h) (hw1 hxg) hr
    | some tb =>
      obtain ⟨t, b⟩ := tb
      rw [hxg] at hr
      simp only at hr
      -- the operation is passed over
      have skip : σ.env t ≠ .bool b → Region.wanted o (yielded cops a.tmps) = false → { σ with env := setD σ.env x.dst (.tup []) } = σ2 → wpOp P cops Q i next a w := by
        intro hc hwant hr
        subst hr
        unfold wpOp
        simp only [ho]
        rw [hwant, if_neg (by simp), ← hdst]
        have hRS2 : RS (entries xs) (fun j => D j ∨ j = i) { σ with env := setD σ.env x.dst (.tup []) } (a.put x.dst undef) := by
          intro en hen hDj hgk
          obtain ⟨st1, st2, st3⟩ := hstab en hen
          have hback : ∀ t2 b2, en.g = some (t2, b2) → D en.j ∨ en.j = i → σ.env t2 = .bool b2 := fun t2 b2 heg hDj => by
            rw [heg] at hgk
            simp only [gOK, setD_get] at hgk
            split at hgk
            · cases hgk
            · exact hgk
          by_cases hji : en.j = i
          · exfalso
            obtain ⟨y, y1, y2, y3, y4⟩ := mem_entries hen
            rw [hji, hx] at y1
            injection y1 with y1
            subst y1
            exact hc (hback t b (y4.symm.trans hxg) (.inr hji))
          · have hDj2 : D en.j := hDj.resolve_right hji
            refine PtrAt_put (hRS en hen hDj2 ?_) (st1.resolve_left (fun e => hji e.symm)) st2
            cases heg : en.g with
            | none => exact trivial
            | some tb2 =>
              obtain ⟨t2, b2⟩ := tb2
              exact hback t2 b2 heg (.inl hDj2)
        cases hxd : x.dst with
        | none =>
          rw [hxd] at hRS2 h
          exact h _ w m β ν hI hRS2
        | some d =>
          rw [hxd] at hRS2 hdN h
          exact h _ w m β _ (hI.put (v := .tup []) (u := undef) ((SlotV_ok rfl).2 ⟨by simp only [RepV]; exact ⟨#[], rfl, rfl, by simp only [RepT]⟩, trivial⟩) d (by simpa using hdN)) hRS2
      split at hr
      · rename_i c hc
        have hwant := hw2 t b c hxg hc
        split at hr
        · rename_i hcb
          subst hcb
          exact run (fun t2 b2 h => by rw [hxg] at h; injection h with h; injection h with h1 h2; subst h1 h2; exact hc) (by rw [hwant]; simp) hr
        · rename_i hcb
          injection hr with hr
          exact skip (by rw [hc]; intro e; injection e with e; exact hcb e) (by rw [hwant]; simpa using hcb) hr
      · rename_i hc
        injection hr with hr
        exact skip (by rw [hc]; intro e; cases e) (hw3 t b hxg hc) hr
      · cases hr
  · cases hox

/-- In the order of the text. -/
theorem region_seq (hE : Enters P num) (hK : KOk P num Γ K) (hG : Γ.G w0) (hGb : Γ.Gb ≤ w0.heap.size) (hT : ∀ b, T b → Γ.Gb ≤ b) {σn : St}
    (hall : okAll P num N (fun i k => decide (k < i)) cops xs = true) (hQ : ∀ a' w' m' β' ν', Inv num N w0 m0 T β0 σn a' w' m' β' ν' → Q .normal a' w') :
    ∀ (n k : Nat) (σ : St) (a : Act) (w : World) (m : Nat → Nat) (β : List Blk) (ν : Own), k + n = xs.length → runOps K (xs.drop k) σ = some σn → Inv num N w0 m0 T β0 σ a w m β ν → RS (entries xs) (fun j => j < k) σ a →
      wpOps P cops Q (List.range' k n) a w
  | 0, k, σ, a, w, m, β, ν, hk, hr, hI, _ => by
    rw [List.drop_eq_nil_of_le (by omega)] at hr
    injection hr with hr
    subst hr
    exact hQ a w m β ν hI
  | n + 1, k, σ, a, w, m, β, ν, hk, hr, hI, hRS => by
    have hkl : k < xs.length := by omega
    rw [List.drop_eq_getElem_cons hkl] at hr
    simp only [runOps] at hr
    cases h1 : runOp K xs[k] σ with
    | none => rw [h1] at hr; cases hr
    | some σ1 =>
      rw [h1, Option.bind_some] at hr
      rw [List.range'_succ, wpOps_cons]
      refine region_step hI hE hK hG hGb hT hall (List.getElem?_eq_getElem hkl) (D := fun j => j < k) (by omega) (fun j hj => by simpa using hj) (fun i j hi hj => Nat.lt_trans (show j < i by simpa using hj) hi) hRS h1 fun a' w' m' β' ν' k1 k2 => ?_
      exact region_seq hE hK hG hGb hT hall hQ n (k + 1) σ1 a' w' m' β' ν' (by omega) hr k1 (fun en hen hj hg => k2 en hen (by omega) hg)
end
end Go.Am

namespace Go.Am

def precD (cops : Array Oper) (i k : Nat) : Bool := match cops[i]? with
  | some o => o.after.any fun e => Region.binds .any e && decide (e.on = k)
  | none => false

def reach (cops : Array Oper) : Nat → Nat → Nat → Bool
  | 0, _, _ => false
  | f + 1, i, j => precD cops i j || (match cops[i]? with
    | some o => o.after.any fun e => Region.binds .any e && decide (j < e.on) && reach cops f e.on j
    | none => false)

def edgesDown (cops : Array Oper) : Bool := (List.range cops.size).all fun i => match cops[i]? with
  | some o => o.after.all fun e => !Region.binds .any e || decide (e.on < i)
  | none => true

def nthA (xs : List AOper) (i : Nat) : AOper := xs.getD i ⟨none, .alloc [], none⟩

def apartOk (cops : Array Oper) (xs : List AOper) : Bool := (List.range xs.length).all fun i => (List.range i).all fun j => indep (nthA xs j) (nthA xs i) || reach cops xs.length i j

def okReg (P : Program) (num : Nat → Option Nat) (N : Nat) (draw : Bool) (cops : Array Oper) (xs : List AOper) : Bool :=
  if draw then okAll P num N (precD cops) cops xs && edgesDown cops && apartOk cops xs else okAll P num N (fun i k => decide (k < i)) cops xs

theorem reach_of {cops : Array Oper} {L : Nat → Prop} (hdown : ∀ j k, L j → precD cops j k = true → L k) : ∀ (f i j : Nat), (∀ k, precD cops i k = true → L k) → reach cops f i j = true → L j
  | 0, _, _, _, h => by simp [reach] at h
  | f + 1, i, j, hi, h => by
    simp only [reach, Bool.or_eq_true] at h
    rcases h with h | h
    · exact hi j h
    · split at h
      · rename_i o ho
        rw [Array.any_eq_true'] at h
        obtain ⟨e, he, h⟩ := h
        simp only [Bool.and_eq_true, decide_eq_true_eq] at h
        have hL : L e.on := hi e.on (by
          unfold precD
          rw [ho]
          simp only
          rw [Array.any_eq_true']
          exact ⟨e, he, by simp [h.1.1]⟩)
        exact reach_of hdown f e.on j (fun k hk => hdown _ k hL hk) h.2
      · cases h

def rem (n : Nat) (listed : Array Bool) : List Nat := (List.range n).filter fun i => !listed.getD i true

theorem mem_rem {n i : Nat} {listed : Array Bool} : i ∈ rem n listed ↔ i < n ∧ listed.getD i true = false := by
  unfold rem
  rw [List.mem_filter, List.mem_range]
  simp

theorem rem_erase {n i : Nat} {listed : Array Bool} (hn : listed.size = n) (hi : i ∈ rem n listed) : rem n (listed.setIfInBounds i true) = (rem n listed).erase i := by
  have hnd : (rem n listed).Nodup := List.Pairwise.filter _ List.nodup_range
  rw [List.Nodup.erase_eq_filter hnd]
  unfold rem
  rw [List.filter_filter]
  apply List.filter_congr
  intro x hx
  rw [List.mem_range] at hx
  by_cases hxi : x = i
  · subst hxi
    simp [hn, hx]
  · rw [getD_set_ne true (fun e => hxi e.symm)]
    simp [hxi]

section
variable {P : Program} {num : Nat → Option Nat} {β : List Blk} {w w' : World} {m : Nat → Nat} {ν : Own} {N : Nat} {w0 : World} {m0 : Nat → Nat} {T : Nat → Prop} {β0 : List Blk} {σ σ1 σ2 : St} {a : Act}
  {next : Act → World → Prop} {Q : Exit → Act → World → Prop} {K : CallF} {v : AV} {Γ : Glob} {xs : List AOper} {cops : Array Oper}

theorem nthA_eq {i : Nat} (h : i < xs.length) : xs[i]? = some (nthA xs i) := by
  unfold nthA
  rw [List.getElem?_eq_getElem h]
  simp [h]

theorem okAll_len {prec : Nat → Nat → Bool} (h : okAll P num N prec cops xs = true) : xs.length = cops.size := by
  unfold okAll at h
  simp only [Bool.and_eq_true, decide_eq_true_eq] at h
  exact h.1.1

theorem region_any (hE : Enters P num) (hK : KOk P num Γ K) (hG : Γ.G w0) (hGb : Γ.Gb ≤ w0.heap.size) (hT : ∀ b, T b → Γ.Gb ≤ b) {σn : St}
    (hall : okAll P num N (precD cops) cops xs = true) (hed : edgesDown cops = true) (hap : apartOk cops xs = true) (hQ : ∀ a' w' m' β' ν', Inv num N w0 m0 T β0 σn a' w' m' β' ν' → Q .normal a' w') :
    ∀ (fuel : Nat) (listed : Array Bool) (σ : St) (a : Act) (w : World) (m : Nat → Nat) (β : List Blk) (ν : Own), listed.size = xs.length → (rem xs.length listed).length = fuel →
      runOps K ((rem xs.length listed).map (nthA xs)) σ = some σn → (∀ j k, listed.getD j false = true → precD cops j k = true → listed.getD k false = true) →
      Inv num N w0 m0 T β0 σ a w m β ν → RS (entries xs) (fun j => listed.getD j false = true) σ a → wpAny P .any cops Q fuel listed a w := by
  intro fuel
  have hlen := okAll_len hall
  have hdownE : ∀ i k, precD cops i k = true → k < i := fun i k h => by
    unfold precD at h
    split at h
    · rename_i o ho
      rw [Array.any_eq_true'] at h
      obtain ⟨e, he, h⟩ := h
      simp only [Bool.and_eq_true, decide_eq_true_eq] at h
      have hi : i < cops.size := (Array.getElem?_eq_some_iff.1 ho).1
      unfold edgesDown at hed
      rw [List.all_eq_true] at hed
      have := hed i (List.mem_range.2 hi)
      rw [ho] at this
      simp only [Array.all_eq_true_iff_forall_mem, Bool.or_eq_true, Bool.not_eq_true', decide_eq_true_eq] at this
      rcases this e he with h1 | h1
      · rw [h.1] at h1; cases h1
      · omega
    · cases h
  have hDor : ∀ (listed : Array Bool) (j : Nat), listed.size = xs.length → j < xs.length → listed.getD j true = false ∨ listed.getD j false = true := fun listed j h1 h2 => by
    rw [Array.getD_eq_getD_getElem?, Array.getD_eq_getD_getElem?, Array.getElem?_eq_getElem (by omega)]
    cases listed[j] <;> simp
  induction fuel with
  | zero =>
    intro listed σ a w m β ν hs hl hr _ hI _
    have h0 : rem xs.length listed = [] := List.eq_nil_of_length_eq_zero hl
    rw [h0] at hr
    injection hr with hr
    subst hr
    refine ⟨?_, hQ a w m β ν hI⟩
    cases hrd : Region.ready .any cops listed with
    | nil => rfl
    | cons i is =>
      exfalso
      have hi : i ∈ Region.ready .any cops listed := by rw [hrd]; simp
      obtain ⟨h1, o, h2, _⟩ := mem_ready.1 hi
      have : i ∈ rem xs.length listed := mem_rem.2 ⟨by rw [hlen]; exact (Array.getElem?_eq_some_iff.1 h2).1, h1⟩
      rw [h0] at this
      cases this
  | succ fuel ih =>
    intro listed σ a w m β ν hs hl hr hdown hI hRS
    refine ⟨fun h0 => ?_, fun i hi => ?_⟩
    · exfalso
      -- the least that is left is ready
      cases hrem : rem xs.length listed with
      | nil => rw [hrem] at hl; simp at hl
      | cons i is =>
        have hi : i ∈ rem xs.length listed := by rw [hrem]; simp
        obtain ⟨h1, h2⟩ := mem_rem.1 hi
        have hsort : (rem xs.length listed).Pairwise (· < ·) := List.Pairwise.filter _ List.pairwise_lt_range
        rw [hrem] at hsort
        have hmin := (List.pairwise_cons.1 hsort).1
        have hready : i ∈ Region.ready .any cops listed := by
          refine mem_ready.2 ⟨h2, cops[i]'(by omega), Array.getElem?_eq_getElem _, fun e he hb => ?_⟩
          have hp : precD cops i e.on = true := by
            unfold precD
            rw [Array.getElem?_eq_getElem (by omega)]
            simp only
            rw [Array.any_eq_true']
            exact ⟨e, he, by simp [hb]⟩
          have hlt := hdownE i e.on hp
          rcases hDor listed e.on hs (by omega) with h3 | h3
          · have : e.on ∈ rem xs.length listed := mem_rem.2 ⟨by omega, h3⟩
            rw [hrem] at this
            rcases List.mem_cons.1 this with h4 | h4
            · omega
            · have := hmin _ h4; omega
          · exact h3
        rw [h0] at hready
        cases hready
    · obtain ⟨h1, o, h2, h3⟩ := mem_ready.1 hi
      have hin : i < xs.length := by rw [hlen]; exact (Array.getElem?_eq_some_iff.1 h2).1
      have hir : i ∈ rem xs.length listed := mem_rem.2 ⟨hin, h1⟩
      have hpre : ∀ k, precD cops i k = true → listed.getD k false = true := fun k hk => by
        unfold precD at hk
        rw [h2] at hk
        simp only at hk
        rw [Array.any_eq_true'] at hk
        obtain ⟨e, he, hk⟩ := hk
        simp only [Bool.and_eq_true, decide_eq_true_eq] at hk
        rw [← hk.2]
        exact h3 e he hk.1
      have hsort : (rem xs.length listed).Pairwise (· < ·) := List.Pairwise.filter _ List.pairwise_lt_range
      have hind : ∀ j ∈ rem xs.length listed, j < i → indep (nthA xs j) (nthA xs i) = true := fun j hj hji => by
        unfold apartOk at hap
        rw [List.all_eq_true] at hap
        have := hap i (List.mem_range.2 hin)
        rw [List.all_eq_true] at this
        have := this j (List.mem_range.2 hji)
        simp only [Bool.or_eq_true] at this
        rcases this with h | h
        · exact h
        · have hL := reach_of (L := fun j => listed.getD j false = true) hdown _ i j hpre h
          obtain ⟨k1, k2⟩ := mem_rem.1 hj
          rw [Array.getD_eq_getD_getElem?, Array.getElem?_eq_getElem (by omega)] at hL k2
          simp only [Option.getD_some] at hL k2
          rw [hL] at k2
          cases k2
      obtain ⟨σ', g1, g2⟩ := runOps_bring (nthA xs) i _ σ σn hsort hir hind hr
      have hnD : ¬ listed.getD i false = true := fun h => by
        rw [Array.getD_eq_getD_getElem?, Array.getElem?_eq_getElem (by omega)] at h h1
        simp only [Option.getD_some] at h h1
        rw [h] at h1
        cases h1
      refine region_step hI hE hK hG hGb hT hall (nthA_eq hin) hnD hpre hdown hRS g1 fun a' w' m' β' ν' k1 k2 => ?_
      have hset : ∀ j, (listed.setIfInBounds i true).getD j false = true → listed.getD j false = true ∨ j = i := fun j hj => by
        by_cases e : j = i
        · exact .inr e
        · rw [getD_set_ne false (fun h => e h.symm)] at hj; exact .inl hj
      have hself : (listed.setIfInBounds i true).getD i false = true := by simp [hs, hin]
      refine ih (listed.setIfInBounds i true) σ' a' w' m' β' ν' (by simpa using hs) ?_ ?_ (fun j k hj hk => ?_) k1 (fun en hen hj hg => k2 en hen (hset _ hj) hg)
      · rw [rem_erase hs hir, List.length_erase_of_mem hir, hl]; rfl
      · rw [rem_erase hs hir]; exact g2
      · rcases hset j hj with h | h
        · exact getD_set_true (hdown j k h hk)
        · rw [h] at hk; exact getD_set_true (hpre k hk)

theorem map_nthA : (List.range xs.length).map (nthA xs) = xs := by
  apply List.ext_getElem?
  intro i
  rw [List.getElem?_map]
  by_cases hi : i < xs.length
  · rw [List.getElem?_range hi, nthA_eq hi]; rfl
  · rw [List.getElem?_eq_none (by simp; omega), List.getElem?_eq_none (by omega)]; rfl

theorem region_sound (hmix : P.follows .mixedOrders = true) (hE : Enters P num) (hK : KOk P num Γ K) (hG : Γ.G w0) (hGb : Γ.Gb ≤ w0.heap.size) (hT : ∀ b, T b → Γ.Gb ≤ b) {σn : St} {id : Nat} {dr : Bool}
    (hok : okReg P num N dr cops xs = true) (hI : Inv num N w0 m0 T β0 σ a w m β ν) (hr : runOps K xs σ = some σn) (hQ : ∀ a' w' m' β' ν', Inv num N w0 m0 T β0 σn a' w' m' β' ν' → Q .normal a' w') :
    (Code.region id cops dr).wp P Q a w := by
  cases dr
  · simp only [okReg, Bool.false_eq_true, if_false] at hok
    refine wp_region ?_
    rw [List.range_eq_range', ← okAll_len hok]
    exact region_seq hE hK hG hGb hT hok hQ xs.length 0 σ a w m β ν (by omega) (by simpa using hr) hI (fun en _ hj _ => absurd hj (by omega))
  · simp only [okReg, if_true, Bool.and_eq_true] at hok
    obtain ⟨⟨h1, h2⟩, h3⟩ := hok
    refine wp_region_any hmix ?_
    have hlen := okAll_len h1
    have hrem : rem xs.length (Array.replicate cops.size false) = List.range xs.length := by
      unfold rem
      rw [List.filter_eq_self]
      intro x hx
      rw [List.mem_range] at hx
      simp [← hlen, hx]
    have hno : ∀ j, (Array.replicate cops.size false).getD j false = false := fun j => by
      rw [Array.getD_eq_getD_getElem?]
      by_cases h : j < cops.size <;> simp [h]
    rw [← hlen]
    have hno' : ∀ j, (Array.replicate xs.length false).getD j false = false := by rw [hlen]; exact hno
    rw [← hlen] at hrem
    exact region_any hE hK hG hGb hT h1 h2 h3 hQ xs.length _ σ a w.drew m β ν (by simp) (by rw [hrem]; simp) (by rw [hrem, map_nthA]; exact hr)
      (fun j k hj _ => by rw [hno'] at hj; cases hj) hI.drew (fun en _ hj _ => by have h0 := hno' en.j; simp only [h0] at hj; cases hj)

def okCode (P : Program) (num : Nat → Option Nat) (N : Nat) : AC → Code → Bool
  | .bad, _ => true
  | .skip, .skip => true
  | .reg dr xs, .region _ ops dr2 => decide (dr = dr2) && okReg P num N dr ops xs
  | .seq a b, .seq c d => okCode P num N a c && okCode P num N b d
  | .cond c a b, .cond c2 a2 b2 => okO num c c2 && okCode P num N a a2 && okCode P num N b b2
  | .block id c, .block id2 c2 => decide (id = id2) && okCode P num N c c2
  | .loop c, .loop c2 => okCode P num N c c2
  | .exit id, .exit id2 => decide (id = id2)
  | .ret, .ret => true
  | _, _ => false

def Ex.toExit : Ex → Exit
  | .normal => .normal
  | .exit i => .exit i
  | .ret => .ret

theorem code_sound (hmix : P.follows .mixedOrders = true) (hE : Enters P num) (hK : KOk P num Γ K) (hG : Γ.G w0) (hGb : Γ.Gb ≤ w0.heap.size) (hT : ∀ b, T b → Γ.Gb ≤ b) {n : Nat} :
    ∀ (c : AC) (cc : Code), okCode P num N c cc = true → ∀ (σ : St) (a : Act) (w : World) (m : Nat → Nat) (β : List Blk) (ν : Own) (ex : Ex) (σ' : St) (Q : Exit → Act → World → Prop),
      runC K n c σ = some (ex, σ') → Inv num N w0 m0 T β0 σ a w m β ν → (∀ a' w' m' β' ν', Inv num N w0 m0 T β0 σ' a' w' m' β' ν' → Q ex.toExit a' w') → cc.wp P Q a w := by
  intro c
  induction c with
  | bad =>
    intro cc hok σ a w m β ν ex σ' Q hr
    simp [runC] at hr
  | skip =>
    intro cc hok σ a w m β ν ex σ' Q hr hI hQ
    cases cc <;> simp [okCode] at hok
    simp only [runC, Option.some.injEq, Prod.mk.injEq] at hr
    obtain ⟨rfl, rfl⟩ := hr
    exact wp_skip (hQ a w m β ν hI)
  | reg dr xs =>
    intro cc hok σ a w m β ν ex σ' Q hr hI hQ
    cases cc <;> simp only [okCode, Bool.and_eq_true, decide_eq_true_eq] at hok <;> try (cases hok; done)
    obtain ⟨rfl, hok⟩ := hok
    simp only [runC] at hr
    cases h1 : runOps K xs σ with
    | none => rw [h1] at hr; cases hr
    | some s =>
      rw [h1] at hr
      simp only [Option.map_some, Option.some.injEq, Prod.mk.injEq] at hr
      obtain ⟨rfl, rfl⟩ := hr
      exact region_sound hmix hE hK hG hGb hT hok hI h1 hQ
  | seq x y ihx ihy =>
    intro cc hok σ a w m β ν ex σ' Q hr hI hQ
    cases cc <;> simp only [okCode, Bool.and_eq_true] at hok <;> try (cases hok; done)
    refine wp_seq ?_
    simp only [runC] at hr
    split at hr
    · rename_i s h1
      refine ihx _ hok.1 σ a w m β ν .normal s _ h1 hI fun a' w' m' β' ν' k => ?_
      exact ihy _ hok.2 s a' w' m' β' ν' ex σ' Q hr k hQ
    · rename_i hne
      refine ihx _ hok.1 σ a w m β ν ex σ' _ hr hI fun a' w' m' β' ν' k => ?_
      cases ex
      · exact absurd hr (hne σ')
      · exact hQ a' w' m' β' ν' k
      · exact hQ a' w' m' β' ν' k
  | cond c x y ihx ihy =>
    intro cc hok σ a w m β ν ex σ' Q hr hI hQ
    cases cc <;> simp only [okCode, Bool.and_eq_true] at hok <;> try (cases hok; done)
    obtain ⟨⟨h0, h1⟩, h2⟩ := hok
    simp only [runC] at hr
    split at hr
    · rename_i hv
      have g := (hI.val h0 (by rw [hv]; rfl)).1
      rw [hv] at g
      simp only [RepV] at g
      exact wp_cond_true g (ihx _ h1 σ a w m β ν ex σ' Q hr hI hQ)
    · rename_i hv
      have g := (hI.val h0 (by rw [hv]; rfl)).1
      rw [hv] at g
      simp only [RepV] at g
      exact wp_cond_false g (ihy _ h2 σ a w m β ν ex σ' Q hr hI hQ)
    · cases hr
  | block id x ihx =>
    intro cc hok σ a w m β ν ex σ' Q hr hI hQ
    cases cc <;> simp only [okCode, Bool.and_eq_true, decide_eq_true_eq] at hok <;> try (cases hok; done)
    obtain ⟨rfl, hok⟩ := hok
    refine wp_block ?_
    simp only [runC] at hr
    split at hr
    · rename_i i s h1
      simp only [Option.some.injEq, Prod.mk.injEq] at hr
      obtain ⟨rfl, rfl⟩ := hr
      refine ihx _ hok σ a w m β ν (.exit i) s _ h1 hI fun a' w' m' β' ν' k => ?_
      have hq := hQ a' w' m' β' ν' k
      simp only [Ex.toExit, Exit.inBlock]
      split
      · rename_i e; rw [if_pos e] at hq; exact hq
      · rename_i e; rw [if_neg e] at hq; exact hq
    · rename_i hne
      refine ihx _ hok σ a w m β ν ex σ' _ hr hI fun a' w' m' β' ν' k => ?_
      have hq := hQ a' w' m' β' ν' k
      cases ex
      · exact hq
      · exact absurd hr (hne _ _)
      · exact hq
  | loop x ihx =>
    intro cc hok σ a w m β ν ex σ' Q hr hI hQ
    cases cc <;> simp only [okCode] at hok <;> try (cases hok; done)
    rename_i c2
    simp only [runC] at hr
    refine wp_loop_rounds n ?_
    have key : ∀ (k : Nat) (σ : St) (a : Act) (w : World) (m : Nat → Nat) (β : List Blk) (ν : Own), iter (runC K n x) k σ = some (ex, σ') → Inv num N w0 m0 T β0 σ a w m β ν → Code.rounds P c2 Q k a w := by
      intro k
      induction k with
      | zero => intro σ a w m β ν h; simp [iter] at h
      | succ k ih =>
        intro σ a w m β ν h hI
        rw [rounds_succ]
        simp only [iter] at h
        split at h
        · rename_i s h1
          refine ihx _ hok σ a w m β ν .normal s _ h1 hI fun a' w' m' β' ν' k2 => ?_
          exact ih s a' w' m' β' ν' h k2
        · rename_i hne
          refine ihx _ hok σ a w m β ν ex σ' _ h hI fun a' w' m' β' ν' k2 => ?_
          cases ex
          · exact absurd h (hne σ')
          · exact hQ a' w' m' β' ν' k2
          · exact hQ a' w' m' β' ν' k2
    exact key n σ a w m β ν hr hI
  | exit id =>
    intro cc hok σ a w m β ν ex σ' Q hr hI hQ
    cases cc <;> simp only [okCode, decide_eq_true_eq] at hok <;> try (cases hok; done)
    subst hok
    simp only [runC, Option.some.injEq, Prod.mk.injEq] at hr
    obtain ⟨rfl, rfl⟩ := hr
    exact wp_exit (hQ a w m β ν hI)
  | ret =>
    intro cc hok σ a w m β ν ex σ' Q hr hI hQ
    cases cc <;> simp [okCode] at hok
    simp only [runC, Option.some.injEq, Prod.mk.injEq] at hr
    obtain ⟨rfl, rfl⟩ := hr
    exact wp_ret (hQ a w m β ν hI)
end
end Go.Am

namespace Go.Am

def okRes (P : Program) : List ARes → List ResultVar → Bool
  | [], [] => true
  | .tmp t :: rs, .tmp t2 :: vs => decide (t = t2) && okRes P rs vs
  | .cell t sz ag :: rs, .cell t2 ty :: vs => decide (t = t2) && sizeIs P ty sz && aggIs P ty ag && okRes P rs vs
  | _, _ => false

def okFun (P : Program) (num : Nat → Option Nat) (f : AFun) (fn : Func) : Bool :=
  decide (f.ntmps = fn.ntmps) && decide (f.nparams ≤ f.ntmps) && okRes P f.res fn.results.toList && (match fn.body with
    | some c => okCode P num f.ntmps f.body c
    | none => false)

/-- An oracle: a function whose contract is proved by other means. -/
def OrcOk (P : Program) (num : Nat → Option Nat) (Γ : Glob) (h : List AV → List (List AV) → Option (AV × List (List AV))) (g : Nat) : Prop :=
  ∀ (args : List AV) (bs : List (List AV)) (r : AV) (bs' : List (List AV)), h args bs = some (r, bs') → okVals args = true →
    ∀ (w : World) (m : Nat → Nat) (β : List Blk) (ν : Own) (vs : Array Value), Γ.G w → Γ.Gb ≤ w.heap.size → vs.size = args.length →
      (∀ (i : Nat) (c : AV), args[i]? = some c → ∃ u, vs[i]? = some u ∧ RepV num β w m c u) → Boxes num β w m ν bs →
      (∀ b p, ν b = some p → b < w.heap.size ∧ Γ.Gb ≤ b ∧ p.isG = true) →
      Calls P g vs w (CallPost num β bs' r w m ν)

/-- A pure oracle. -/
def PureOk (P : Program) (num : Nat → Option Nat) (Γ : Glob) (h : List AV → Option AV) (g : Nat) : Prop :=
  ∀ (args : List AV) (r : AV), h args = some r → okVals args = true → ∀ (w : World) (m : Nat → Nat) (β : List Blk) (vs : Array Value), Γ.G w → Γ.Gb ≤ w.heap.size → vs.size = args.length →
    (∀ (i : Nat) (c : AV), args[i]? = some c → ∃ u, vs[i]? = some u ∧ RepV num β w m c u) →
    Calls P g vs w fun e w' => ∃ v m' ν', e = .returned v ∧ Step (fun _ => False) w m w' m' ∧ r.ok = true ∧ RepV num β w' m' r v ∧ OwnV w' m' ν' .f r v ∧ ∀ b p, ν' b = some p → b < w'.heap.size ∧ w.heap.size ≤ b ∧ p = .f

def pureOrc (h : List AV → Option AV) : List AV → List (List AV) → Option (AV × List (List AV)) := fun args bs => (h args).map fun r => (r, bs)

/-- The table fits the program. -/
structure Fits (P : Program) (num : Nat → Option Nat) (Γ : Glob) (tb : Nat → Option AFn) : Prop where
  mix : P.follows .mixedOrders = true
  enters : Enters P num
  code : ∀ (f g : Nat) (fn : AFun), num f = some g → tb f = some (.code fn) → ∃ F, P.funcs[g]? = some F ∧ okFun P num fn F = true
  orc : ∀ (f g : Nat) (h : List AV → List (List AV) → Option (AV × List (List AV))), num f = some g → tb f = some (.orc h) → OrcOk P num Γ h g

section
variable {P : Program} {num : Nat → Option Nat} {β : List Blk} {w w' : World} {m : Nat → Nat} {ν : Own} {N : Nat} {w0 : World} {m0 : Nat → Nat} {T : Nat → Prop} {β0 : List Blk} {σ : St} {a : Act} {Γ : Glob} {tb : Nat → Option AFn}

/-- What the results' slots own. -/
def resPl : List ARes → Nat → Bool
  | [.tmp t], n => decide (t = n)
  | _, _ => false

def outOwn (rs : List ARes) (ν : Own) : Own := fun b => match ν b with
  | some (.s n) => if resPl rs n then some .f else none
  | some p => if p.isG then some p else none
  | none => none

theorem readRes_one (hI : Inv num N w0 m0 T β0 σ a w m β ν) {r : ARes} {rv : ResultVar} {v : AV} (ho : okRes P [r] [rv] = true) (hr : readRes σ.env r = some v) :
    ∃ u, (match rv with
      | .tmp t => (pure (a.tmps.getD t undef) : Sem Value)
      | .cell t ty => do loadVar ty (← asAddr (a.tmps.getD t undef))).run P w = .ok u w ∧ v.ok = true ∧ RepV num β w m v u ∧ OwnV w m (outOwn [r] ν) .f v u := by
  cases r with
  | tmp t =>
    cases rv with
    | cell t2 ty => simp [okRes] at ho
    | tmp t2 =>
      simp only [okRes, Bool.and_true, decide_eq_true_eq] at ho
      subst ho
      simp only [readRes] at hr
      split at hr
      · rename_i hk
        injection hr with hr
        subst hr
        obtain ⟨_, h2⟩ := hI.at_ (n := t) (fun e => by rw [e] at hk; cases hk)
        have h3 := hI.slots t _ h2
        rw [SlotV_ok hk] at h3
        refine ⟨a.tmps.getD t undef, rfl, hk, h3.1, ?_⟩
        exact OwnV_keep (θ := fun _ => .f) (fun b hb => ⟨rfl, rfl, by unfold outOwn; rw [hb]; simp [resPl]⟩) h3.2
      · cases hr
  | cell t sz ag =>
    cases rv with
    | tmp t2 => simp [okRes] at ho
    | cell t2 ty =>
      simp only [okRes, Bool.and_true, Bool.and_eq_true, decide_eq_true_eq] at ho
      obtain ⟨⟨rfl, h1⟩, h2⟩ := ho
      simp only [readRes] at hr
      split at hr
      · rename_i cs hcs
        obtain ⟨b, cur, e, _, hq, hb, hz, hc⟩ := hI.box_at (q := t) (off := 0) hcs (.inr ⟨rfl, rfl⟩)
        obtain ⟨u, g1, g2, g3, g4⟩ := run_load_cells (w := w) (num := num) (β := β) (m := m) (ν := outOwn [.cell t sz ag] ν) (o := 0) (b := b) h1 h2 hr (fun i c hi => by
          obtain ⟨u, k1, k2, k3, _⟩ := hc i c hi
          exact ⟨u, by rw [Nat.zero_add, cell_of_row w b i cur e (0, 0) hb]; exact k1, k2, k3⟩)
        have hq2 : a.tmps.getD t undef = .pointer (some ⟨b, 0, none⟩) := hq
        refine ⟨u, ?_, g2, g3, g4 _⟩
        simp only [hq2, asAddr, Sem.run_bind, Sem.run_pure, Result.andThen_ok]
        exact g1
      · cases hr

theorem readAll_many (hI : Inv num N w0 m0 T β0 σ a w m β ν) : ∀ {rs : List ARes} {rvs : List ResultVar} {vs : List AV}, okRes P rs rvs = true → readAll σ.env rs = some vs →
    ∃ us : List Value, (rvs.mapM fun (rv : ResultVar) => (match rv with
      | .tmp t => (pure (a.tmps.getD t undef) : Sem Value)
      | .cell t ty => do loadVar ty (← asAddr (a.tmps.getD t undef)))).run P w = .ok us w ∧ us.length = vs.length ∧ ∀ (i : Nat) (c : AV), vs[i]? = some c → ∃ u, us[i]? = some u ∧ c.ok = true ∧ RepV num β w m c u
  | [], [], vs, _, hr => by
    simp only [readAll, Option.some.injEq] at hr
    subst hr
    exact ⟨[], by simp, rfl, fun i c h => by simp at h⟩
  | r :: rs, rv :: rvs, vs, ho, hr => by
    simp only [readAll] at hr
    split at hr
    · rename_i v vs2 h1 h2
      injection hr with hr
      subst hr
      have ho2 : okRes P [r] [rv] = true ∧ okRes P rs rvs = true := by
        cases r <;> cases rv <;> simp only [okRes, Bool.and_eq_true, Bool.and_true, Bool.false_eq_true] at ho ⊢ <;> first | exact ho | exact ho.elim
      obtain ⟨u, g1, g2, g3, _⟩ := readRes_one (P := P) hI ho2.1 h1
      obtain ⟨us, k1, k2, k3⟩ := readAll_many hI ho2.2 h2
      refine ⟨u :: us, ?_, by simp [k2], fun i c hc => ?_⟩
      · rw [List.mapM_cons]
        simp only [Sem.run_bind, g1, Result.andThen_ok, k1, Sem.run_pure]
      · cases i with
        | zero => simp at hc; subst hc; exact ⟨u, rfl, g2, g3⟩
        | succ i => simpa using k3 i c (by simpa using hc)
    · cases hr
  | [], _ :: _, _, h, _ => by simp [okRes] at h
  | r :: _, [], _, h, _ => by cases r <;> simp [okRes] at h

theorem pure_orc {h : List AV → Option AV} {g : Nat} (hP : PureOk P num Γ h g) : OrcOk P num Γ (pureOrc h) g := by
  intro args bs r bs' hc hok w m β ν vs hG hGb hvs hrep hbox hlt
  unfold pureOrc at hc
  cases hh : h args with
  | none => rw [hh] at hc; cases hc
  | some r2 =>
    rw [hh] at hc
    simp only [Option.map_some, Option.some.injEq, Prod.mk.injEq] at hc
    obtain ⟨rfl, rfl⟩ := hc
    refine (hP args r2 hh hok w m β vs hG hGb hvs hrep).mono fun e w' he => ?_
    obtain ⟨v, m', ν', rfl, hS, h1, h2, h3, h4⟩ := he
    have hjoin : ∀ b p, ν b = some p → (fun b => match ν b with
        | some p => some p
        | none => ν' b : Own) b = some p := fun b p hb => by simp only [hb]
    refine ⟨v, m', β, (fun b => match ν b with
        | some p => some p
        | none => ν' b), rfl, Ge.refl β, ⟨hS.os, hS.tape, hS.output, hS.size, fun b hb _ => hS.same b hb id, hS.le⟩, ⟨hbox.1, fun i cs b hb1 hb2 hne => ?_, hbox.2.2⟩, h1, h2, ?_, fun b p hp => ?_⟩
    · exact BoxK_keep (Ge.refl β) hS.le (fun x hx => ⟨(hS.same x (hlt x _ hx).1 id).1, (hS.same x (hlt x _ hx).1 id).2, hjoin x _ hx⟩)
        (fun j x hx => ⟨(hS.same x (hlt x _ hx).1 id).1, (hS.same x (hlt x _ hx).1 id).2, hjoin x _ hx⟩) (hbox.2.1 i cs b hb1 hb2 hne)
    · refine OwnV_keep (θ := id) (fun b hb => ⟨rfl, rfl, ?_⟩) h3
      have := h4 b _ hb
      cases hν : ν b with
      | none => simp only; exact hb
      | some q => have := (hlt b q hν).1; omega
    · simp only at hp
      split at hp
      · rename_i q hq
        injection hp with hp
        subst hp
        have := hlt b q hq
        exact ⟨Nat.lt_of_lt_of_le this.1 hS.size, .inr ⟨q, hq⟩, .inl this.2.2⟩
      · have := h4 b p hp
        exact ⟨this.1, .inl this.2.1, .inr this.2.2⟩

/-- The frame of a call at its start. -/
theorem start_inv {f : AFun} {F : Func} {args : List AV} {bs : List (List AV)} {vs : Array Value} (hnp : args.length = f.nparams) (hnt : f.ntmps = F.ntmps) (hpt : f.nparams ≤ f.ntmps) (hok : okVals args = true)
    (hvs : vs.size = args.length) (hrep : ∀ (i : Nat) (c : AV), args[i]? = some c → ∃ u, vs[i]? = some u ∧ RepV num β w m c u) (hbox : Boxes num β w m ν bs)
    (hlt : ∀ b p, ν b = some p → b < w.heap.size ∧ Γ.Gb ≤ b ∧ p.isG = true) :
    Inv num f.ntmps w m (fun b => ∃ p, ν b = some p) β { env := argEnv args, bs } { tmps := vs ++ Array.replicate (F.ntmps - vs.size) undef, defers := [] } w m β ν := by
  refine ⟨rfl, by simp; omega, fun t ht => ?_, fun t v hv => ?_, hbox.1, hbox.2.1, hbox.2.2, fun b p hb => ⟨(hlt b p hb).1, .inr ⟨p, hb⟩⟩, Step.refl _ w m, Ge.refl β⟩
  · simp only [argEnv]
    rw [List.getD_eq_getElem?_getD, List.getElem?_eq_none (by omega)]
    rfl
  · simp only [argEnv]
    rw [List.getD_eq_getElem?_getD]
    cases hat : args[t]? with
    | none => exact trivial
    | some c =>
      obtain ⟨u, g1, g2⟩ := hrep t c hat
      have hck : c.ok = true := by
        unfold okVals at hok
        rw [List.all_eq_true] at hok
        exact hok c (List.mem_of_getElem? hat)
      have hlt2 : t < vs.size := by
        rcases Nat.lt_or_ge t vs.size with h | h
        · exact h
        · rw [Array.getElem?_eq_none h] at g1; cases g1
      rw [Array.getElem?_append_left hlt2, g1] at hv
      injection hv with hv
      subst hv
      simp only [Option.getD_some]
      exact (SlotV_ok (by rw [strip_ok]; exact hck)).2 ⟨by rw [RepV_strip]; exact g2, OwnV_strip _ _ _⟩

/-- The frame of a call at its end. -/
theorem end_sound {f : AFun} {F : Func} {bs bs' : List (List AV)} {r : AV} (hres : okRes P f.res F.results.toList = true) (hbox : Boxes num β w m ν bs) (σ' : St) (hfin : finish f bs.length σ' = some (r, bs'))
    (a' : Act) (w' : World) (m' : Nat → Nat) (β' : List Blk) (ν' : Own) (hI : Inv num f.ntmps w m (fun b => ∃ p, ν b = some p) β σ' a' w' m' β' ν') :
    a'.defers = [] ∧ ∃ v, (results F a'.tmps).run P w' = .ok v w' ∧ CallPost num β bs' r w m ν (.returned v) w' := by
  refine ⟨hI.defers, ?_⟩
  -- the boxes behind the call
  have hboxes : ∀ rs, Boxes num β w' m' (outOwn rs ν') (σ'.bs.take bs.length) := fun rs => by
    have hge := hI.ge
    have hle : bs.length ≤ σ'.bs.length := by
      rw [← hI.blen]
      rcases Nat.lt_or_ge β'.length bs.length with h | h
      · exfalso
        have h0 : β'.length < β.length := by rw [hbox.1]; exact h
        have := hge β'.length _ (List.getElem?_eq_getElem h0)
        rw [List.getElem?_eq_none (Nat.le_refl _)] at this
        cases this
      · exact h
    refine ⟨by rw [List.length_take, hbox.1]; omega, fun i cs b h1 h2 hne => ?_, fun i cs h1 => ?_⟩
    · rw [List.getElem?_take] at h1
      split at h1
      · have hb2 := hI.boxes i cs b h1 (hge i b h2) hne
        have hb3 := hI.gpf i cs h1
        rw [gpfreeL_get] at hb3
        refine ⟨fun hmp => ?_, fun hmp => ?_⟩
        · obtain ⟨cur, e, q1, q2, q3, q4, q5⟩ := hb2.1 hmp
          refine ⟨cur, e, q1, q2, q3, by unfold outOwn; rw [q4]; rfl, fun j c hc => ?_⟩
          obtain ⟨u, p1, p2, p3, p4⟩ := q5 j c hc
          exact ⟨u, p1, p2, RepV_free c u (hb3 j c hc) p3, OwnV_keep (θ := id) (fun x hx => ⟨rfl, rfl, by unfold outOwn; rw [hx]; rfl⟩) p4⟩
        · obtain ⟨es, clock, xs, q1, q2, q3, q4, q5, q6⟩ := hb2.2 hmp
          refine ⟨es, clock, xs, q1, q2, by unfold outOwn; rw [q3]; rfl, q4, q5, fun j c hc => ?_⟩
          obtain ⟨e2, k, v, p1, p2, p3, p4⟩ := q6 j c hc
          have hf := hb3 (j + 1) c (by rw [q4]; simpa using hc)
          rw [p2] at hf
          simp only [AV.gpfree, gpfreeL, Bool.and_true, Bool.and_eq_true] at hf
          exact ⟨e2, k, v, p1, p2, RepV_free k _ hf.1 p3, RepV_free v _ hf.2 p4⟩
      · cases h1
    · rw [List.getElem?_take] at h1
      split at h1
      · exact hI.gpf i cs h1
      · cases h1
  have hboxesAll : ∀ rs, Boxes num β' w' m' (outOwn rs ν') σ'.bs := fun rs => by
    refine ⟨hI.blen, fun i cs b h1 h2 hne => ?_, hI.gpf⟩
    exact BoxK_keep (Ge.refl β') (Le.refl w' m') (fun x hx => ⟨rfl, rfl, by unfold outOwn; rw [hx]; rfl⟩) (fun _ x hx => ⟨rfl, rfl, by unfold outOwn; rw [hx]; rfl⟩) (hI.boxes i cs b h1 h2 hne)
  have hown : ∀ rs b p, outOwn rs ν' b = some p → b < w'.heap.size ∧ (w.heap.size ≤ b ∨ ∃ q, ν b = some q) ∧ (p.isG = true ∨ p = .f) := fun rs b p hp => by
    unfold outOwn at hp
    split at hp
    · rename_i n hn
      split at hp
      · injection hp with hp
        subst hp
        have := hI.lt b _ hn
        exact ⟨this.1, this.2, .inr rfl⟩
      · cases hp
    · rename_i q hq
      split at hp
      · rename_i hg
        injection hp with hp
        subst hp
        have := hI.lt b _ hq
        exact ⟨this.1, this.2, .inl hg⟩
      · cases hp
    · cases hp
  have hrun : ∀ us : List Value, (F.results.toList.mapM fun (rv : ResultVar) => (match rv with
      | .tmp t => (pure (a'.tmps.getD t undef) : Sem Value)
      | .cell t ty => do loadVar ty (← asAddr (a'.tmps.getD t undef)))).run P w' = .ok us w' →
      (results F a'.tmps).run P w' = .ok (if h : us.toArray.size = 1 then us.toArray[0] else .tuple us.toArray) w' := fun us hus => by
    unfold results
    rw [Array.mapM_eq_mapM_toList]
    simp only [Sem.run_bind, Sem.run_map, Sem.run_pure]
    exact congrArg (fun z : Result (List Value) => (z.andThen fun a w' => .ok a.toArray w').andThen (fun (a : Array Value) w' => .ok (if h : a.size = 1 then a[0] else .tuple a) w')) hus
  unfold finish at hfin
  split at hfin
  · rename_i v0 hv0
    obtain ⟨us, k1, k2, k3⟩ := readAll_many hI hres hv0
    obtain ⟨r0, hr0⟩ : ∃ r0, f.res = [r0] := by
      cases hfr : f.res with
      | nil => rw [hfr] at hv0; simp [readAll] at hv0
      | cons r0 rs =>
        cases rs with
        | nil => exact ⟨r0, rfl⟩
        | cons r1 rs =>
          rw [hfr] at hv0
          simp only [readAll] at hv0
          split at hv0
          · rename_i x1 x2 e1 e2
            split at e2
            · injection e2 with e2
              subst e2
              simp at hv0
            · cases e2
          · cases hv0
    obtain ⟨rv0, hrv0⟩ : ∃ rv0, F.results.toList = [rv0] := by
      cases hfr : F.results.toList with
      | nil => rw [hfr, hr0] at hres; cases r0 <;> simp [okRes] at hres
      | cons rv0 rs =>
        cases rs with
        | nil => exact ⟨rv0, rfl⟩
        | cons rv1 rs => rw [hfr, hr0] at hres; cases r0 <;> cases rv0 <;> simp [okRes] at hres
    rw [hr0, hrv0] at hres
    rw [hr0] at hv0
    simp only [readAll] at hv0
    split at hv0
    · rename_i x1 x2 e1 e2
      injection e2 with e2
      subst e2
      injection hv0 with hv0
      injection hv0 with hv0 _
      subst hv0
      obtain ⟨u, g1, g2, g3, g4⟩ := readRes_one (P := P) hI hres e1
      have hus : us = [u] := by
        rw [hrv0] at k1
        simp only [List.mapM_cons, List.mapM_nil, Sem.run_bind, g1, Result.andThen_ok, Sem.run_pure] at k1
        injection k1 with k1
        exact k1.symm
      subst hus
      split at hfin
      · simp only [Option.some.injEq, Prod.mk.injEq] at hfin
        obtain ⟨rfl, rfl⟩ := hfin
        exact ⟨u, hrun [u] k1, u, m', β', outOwn [r0] ν', rfl, hI.ge, hI.step, hboxesAll [r0], g2, g3, g4, hown [r0]⟩
      · split at hfin
        · rename_i hgp
          simp only [Option.some.injEq, Prod.mk.injEq] at hfin
          obtain ⟨rfl, rfl⟩ := hfin
          exact ⟨u, hrun [u] k1, u, m', β, outOwn [r0] ν', rfl, Ge.refl β, hI.step, hboxes [r0], g2, RepV_free _ _ hgp g3, g4, hown [r0]⟩
        · cases hfin
    · cases hv0
  · rename_i vs0 hv0 hne
    obtain ⟨us, k1, k2, k3⟩ := readAll_many hI hres hne
    have hsz : ¬ us.toArray.size = 1 := by
      simp only [List.size_toArray, k2]
      intro h1
      match vs0, h1 with
      | [v1], _ => exact hv0 v1 rfl
    have hret : (results F a'.tmps).run P w' = .ok (.tuple us.toArray) w' := by have := hrun us k1; rwa [dif_neg hsz] at this
    split at hfin
    · simp only [Option.some.injEq, Prod.mk.injEq] at hfin
      obtain ⟨rfl, rfl⟩ := hfin
      refine ⟨.tuple us.toArray, hret, .tuple us.toArray, m', β', outOwn [] ν', rfl, hI.ge, hI.step, hboxesAll [], rfl, ?_, trivial, hown []⟩
      simp only [RepV]
      refine ⟨us.toArray, rfl, by simp [k2], ?_⟩
      rw [RepT_get]
      intro i c hci
      obtain ⟨d, hd, rfl⟩ := map_strip_get hci
      obtain ⟨u, g1, _, g3⟩ := k3 i d hd
      exact ⟨u, by simpa using g1, by rw [RepV_strip]; exact g3⟩
    · split at hfin
      · rename_i hgp
        simp only [Option.some.injEq, Prod.mk.injEq] at hfin
        obtain ⟨rfl, rfl⟩ := hfin
        refine ⟨.tuple us.toArray, hret, .tuple us.toArray, m', β, outOwn [] ν', rfl, Ge.refl β, hI.step, hboxes [], rfl, ?_, trivial, hown []⟩
        simp only [RepV]
        refine ⟨us.toArray, rfl, by simp [k2], ?_⟩
        rw [RepT_get]
        intro i c hci
        obtain ⟨d, hd, rfl⟩ := map_strip_get hci
        obtain ⟨u, g1, _, g3⟩ := k3 i d hd
        rw [gpfreeL_get] at hgp
        exact ⟨u, by simpa using g1, by rw [RepV_strip]; exact RepV_free d u (hgp i d hd) g3⟩
      · cases hfin
  · cases hfin

theorem callN_sound (hF : Fits P num Γ tb) : ∀ n, KOk P num Γ (callN tb n) := by
  intro n
  induction n with
  | zero => intro f g args bs r bs' _ h; simp [callN] at h
  | succ n ih =>
    intro f g args bs r bs' hfg hc hok w m β ν vs hG hGb hvs hrep hbox hlt
    simp only [callN] at hc
    split at hc
    · cases hc
    · rename_i h htb
      exact hF.orc f g h hfg htb args bs r bs' hc hok w m β ν vs hG hGb hvs hrep hbox hlt
    · rename_i fn htb
      split at hc
      · rename_i hnp
        obtain ⟨F, hFf, hokF⟩ := hF.code f g fn hfg htb
        unfold okFun at hokF
        simp only [Bool.and_eq_true, decide_eq_true_eq] at hokF
        obtain ⟨⟨⟨hnt, hpt⟩, hres⟩, hbody⟩ := hokF
        split at hbody
        · rename_i cc hcc
          have hInv := start_inv (ν := ν) hnp hnt hpt hok hvs hrep hbox hlt
          refine calls_of_wp hFf hcc ?_
          split at hc
          · rename_i σ' hrc
            refine code_sound hF.mix hF.enters ih hG hGb (fun b hb => by obtain ⟨p, hp⟩ := hb; exact (hlt b p hp).2.1) fn.body cc hbody _ _ w m β ν .normal σ' _ hrc hInv fun a' w' m' β' ν' hI => ?_
            exact end_sound hres hbox σ' hc a' w' m' β' ν' hI
          · rename_i σ' hrc
            refine code_sound hF.mix hF.enters ih hG hGb (fun b hb => by obtain ⟨p, hp⟩ := hb; exact (hlt b p hp).2.1) fn.body cc hbody _ _ w m β ν .ret σ' _ hrc hInv fun a' w' m' β' ν' hI => ?_
            exact end_sound hres hbox σ' hc a' w' m' β' ν' hI
          · cases hc
        · cases hbody
      · cases hc
end
#print axioms callN_sound
end Go.Am

namespace Go.Am

def cl0 (sz : Nat) : AC := .reg false [⟨some 2, .mov (.c (.sl true sz [])), none⟩]
def cl1 : AC := .reg false [⟨some 3, .mov (.t 0), none⟩, ⟨some 4, .isn false (.t 3), none⟩]
def cl2 (g : Bool) (sz : Nat) : AC := .reg false [⟨some 2, .mov (.c (if g then .gs 0 0 0 0 else .sl true sz [])), none⟩]
def cl3 (g : Bool) (bytes sz : Nat) : AC := .reg false [⟨some 5, .mksl sz [], none⟩, ⟨some 6, .mov (.t 0), none⟩,
  ⟨some 7, if g then .appg bytes sz (.t 5) (.t 6) else .app bytes sz (.t 5) (.t 6), none⟩, ⟨some 2, if g then .mov (.t 7) else .mvs 7, none⟩]

/-- The same at a slice without elements. -/
def cl3z : AC := .reg false [⟨some 5, .zlit, none⟩, ⟨some 6, .mov (.t 0), none⟩, ⟨some 7, .appzz (.t 5) (.t 6), none⟩, ⟨some 2, .mov (.t 7), none⟩]
def cl3e (g e : Bool) (bytes sz : Nat) : AC := if g && e then cl3z else cl3 g bytes sz

def okClone (P : Program) (num : Nat → Option Nat) (g : Bool) (bytes sz : Nat) (F : Func) : Bool :=
  decide (F.ntmps = 8) && okRes P [.tmp 2] F.results.toList && (match F.body with
    | some (.seq r0 (.seq (.seq r1 (.cond (.tmp 4) (.seq r2 .ret) .skip)) (.seq r3 .ret))) =>
      okCode P num 8 (cl0 sz) r0 && okCode P num 8 cl1 r1 && okCode P num 8 (cl2 g sz) r2 && (okCode P num 8 (cl3e g true bytes sz) r3 && okCode P num 8 (cl3e g false bytes sz) r3)
    | _ => false)

def cloneR (g : Bool) (bytes sz : Nat) (ys : List (List AV)) (bs : List (List AV)) : Option (AV × List (List AV)) :=
  if ys.length * bytes ≤ 140737488355328 then
    (if g then (if ys.length = 0 then some (.gs 0 0 0 0, bs) else if gpfreeE ys then some (.gs bs.length 0 sz ys.length, bs ++ [ys.flatten.map AV.strip]) else none)
      else some (.sl true sz ys, bs))
    else none

def cloneO (g : Bool) (bytes sz : Nat) : List AV → List (List AV) → Option (AV × List (List AV))
  | [.sl _ s ys], bs => if s = sz then cloneR g bytes sz ys bs else none
  | _, _ => none

def cloneF : AFun := { nparams := 1, ntmps := 8, res := [.tmp 2], body := .skip, keep := true }

theorem run_cl3 {K : CallF} {g : Bool} {bytes sz : Nat} {o : Bool} {ys : List (List AV)} {r : AV} {bs' : List (List AV)} (σ : St) (h0 : σ.env 0 = .sl o sz ys) (h : cloneR g bytes sz ys σ.bs = some (r, bs')) :
    ∃ σ3, runC K 0 (.seq (cl3e g ys.isEmpty bytes sz) .ret) σ = some (.ret, σ3) ∧ finish cloneF 0 σ3 = some (r, bs') := by
  unfold cloneR at h
  split at h
  · rename_i hb
    cases g
    · simp only [Bool.false_eq_true, if_false, Option.some.injEq, Prod.mk.injEq] at h
      obtain ⟨rfl, rfl⟩ := h
      refine ⟨_, by simp [runC, cl3e, cl3, runOps, runOp, exec, elemsOf, setD, upd, h0, val, AV.strip, AV.ok, hb]; rfl, ?_⟩
      simp [finish, readAll, readRes, cloneF, upd, AV.ok]
    · simp only [if_true] at h
      split at h
      · rename_i hy
        simp only [Option.some.injEq, Prod.mk.injEq] at h
        obtain ⟨rfl, rfl⟩ := h
        have hy2 : ys = [] := List.eq_nil_of_length_eq_zero hy
        subst hy2
        refine ⟨_, by simp [runC, cl3e, cl3z, runOps, runOp, exec, elemsOf, setD, upd, h0, val, AV.strip, AV.ok]; rfl, ?_⟩
        simp [finish, readAll, readRes, cloneF, upd, AV.ok]
      · rename_i hy
        split at h
        · rename_i hgp
          simp only [Option.some.injEq, Prod.mk.injEq] at h
          obtain ⟨rfl, rfl⟩ := h
          have hy3 : ys ≠ [] := fun e => hy (by rw [e]; rfl)
          have hie : ys.isEmpty = false := by cases ys <;> simp_all
          refine ⟨_, by simp [runC, cl3e, hie, cl3, runOps, runOp, exec, elemsOf, setD, upd, h0, val, AV.strip, AV.ok, hb, hgp, hy3]; rfl, ?_⟩
          simp [finish, readAll, readRes, cloneF, upd, AV.ok]
        · cases h
  · cases h

section
variable {P : Program} {num : Nat → Option Nat} {Γ : Glob}

theorem clone_orc (hmix : P.follows .mixedOrders = true) (hE : Enters P num) {g : Bool} {bytes sz id : Nat} {F : Func} (hFf : P.funcs[id]? = some F) (hok : okClone P num g bytes sz F = true) :
    OrcOk P num Γ (cloneO g bytes sz) id := by
  intro args bs r bs' hc hokv w m β ν vs hG hGb hvs hrep hbox hlt
  have hK : KOk P num Γ (fun _ _ _ => none) := fun _ _ _ _ _ _ _ h => by cases h
  have hT : ∀ b, (∃ p, ν b = some p) → Γ.Gb ≤ b := fun b hb => by obtain ⟨p, hp⟩ := hb; exact (hlt b p hp).2.1
  unfold cloneO at hc
  split at hc
  · rename_i _ o s ys
    split at hc
    · rename_i hcond
      subst hcond
      unfold okClone at hok
      simp only [Bool.and_eq_true, decide_eq_true_eq] at hok
      obtain ⟨⟨hnt, hres⟩, hbody⟩ := hok
      split at hbody
      · rename_i r0 r1 r2 r3 hcc
        simp only [Bool.and_eq_true] at hbody
        obtain ⟨⟨⟨k0, k1⟩, k2⟩, k3⟩ := hbody
        have hInv := start_inv (num := num) (f := cloneF) (F := F) (ν := ν) (Γ := Γ) rfl hnt.symm (show 1 ≤ 8 by omega) hokv hvs hrep hbox hlt
        have hend := end_sound (f := cloneF) (F := F) (r := r) (bs' := bs') hres hbox
        have hfin0 : ∀ σ' k, finish cloneF k σ' = finish cloneF 0 σ' := fun σ' k => by
          unfold finish
          split <;> rfl
        refine calls_of_wp hFf hcc ?_
        refine wp_seq ?_
        refine code_sound hmix hE hK hG hGb hT (n := 0) _ _ k0 _ _ w m β ν .normal _ _ (by simp [runC, cl0, runOps, runOp, exec, setD, val, AV.ok]; rfl) hInv fun a1 w1 m1 β1 ν1 hI1 => ?_
        refine wp_seq (wp_seq ?_)
        cases ys with
        | nil =>
          refine code_sound hmix hE hK hG hGb hT (n := 0) _ _ k1 _ _ w1 m1 β1 ν1 .normal _ _ (by simp [runC, cl1, runOps, runOp, exec, setD, val, AV.ok, upd, argEnv, AV.strip]; rfl) hI1 fun a2 w2 m2 β2 ν2 hI2 => ?_
          have hb : ∃ b, a2.eval (.tmp 4) = .bool b := by
            obtain ⟨_, h2⟩ := hI2.at_ (n := 4) (by simp [upd])
            have h3 := hI2.slots 4 _ h2
            simp only [upd] at h3
            obtain ⟨⟨b, h3⟩, _⟩ := h3
            exact ⟨b, h3⟩
          obtain ⟨b, hb⟩ := hb
          cases b
          · refine wp_cond_false hb (wp_skip ?_)
            obtain ⟨σ3, e1, e2⟩ := run_cl3 (K := fun _ _ _ => none) (o := false) (σ := { env := upd (upd (upd (argEnv [.sl o s []]) 2 (.sl true s [])) 3 (.sl false s [])) 4 .anyb, bs := bs }) (by simp [upd, argEnv, AV.strip]) hc
            exact code_sound hmix hE hK hG hGb hT (n := 0) (.seq (cl3e g _ bytes s) .ret) (.seq r3 .ret) (by simp [okCode, k3]) _ _ w2 m2 β2 ν2 .ret σ3 _ e1 hI2 fun a3 w3 m3 β3 ν3 hI3 => hend σ3 (by rw [hfin0]; exact e2) a3 w3 m3 β3 ν3 hI3
          · refine wp_cond_true hb (wp_seq ?_)
            refine code_sound hmix hE hK hG hGb hT (n := 0) _ _ k2 _ _ w2 m2 β2 ν2 .normal { env := upd (upd (upd (upd (argEnv [.sl o s []]) 2 (.sl true s [])) 3 (.sl false s [])) 4 .anyb) 2 (if g then .gs 0 0 0 0 else .sl true s []), bs := bs } _
              (by cases g <;> simp [runC, cl2, runOps, runOp, exec, setD, val, AV.ok]) hI2 fun a3 w3 m3 β3 ν3 hI3 => ?_
            refine wp_ret ?_
            refine hend _ ?_ a3 w3 m3 β3 ν3 hI3
            rw [hfin0]
            cases g
            · simp [cloneR] at hc
              obtain ⟨rfl, rfl⟩ := hc
              simp [finish, readAll, readRes, cloneF, upd, AV.ok]
            · simp [cloneR] at hc
              obtain ⟨rfl, rfl⟩ := hc
              simp [finish, readAll, readRes, cloneF, upd, AV.ok]
        | cons y ys =>
          refine code_sound hmix hE hK hG hGb hT (n := 0) _ _ k1 _ _ w1 m1 β1 ν1 .normal _ _ (by simp [runC, cl1, runOps, runOp, exec, setD, val, AV.ok, upd, argEnv, AV.strip]; rfl) hI1 fun a2 w2 m2 β2 ν2 hI2 => ?_
          have hb : a2.eval (.tmp 4) = .bool false := by
            obtain ⟨_, h2⟩ := hI2.at_ (n := 4) (by simp [upd])
            have h3 := hI2.slots 4 _ h2
            simp only [upd] at h3
            obtain ⟨h3, _⟩ := h3
            exact h3
          refine wp_cond_false hb (wp_skip ?_)
          obtain ⟨σ3, e1, e2⟩ := run_cl3 (K := fun _ _ _ => none) (o := false) (σ := { env := upd (upd (upd (argEnv [.sl o s (y :: ys)]) 2 (.sl true s [])) 3 (.sl false s (y :: ys))) 4 (.bool false), bs := bs }) (by simp [upd, argEnv, AV.strip]) hc
          exact code_sound hmix hE hK hG hGb hT (n := 0) (.seq (cl3e g _ bytes s) .ret) (.seq r3 .ret) (by simp [okCode, k3]) _ _ w2 m2 β2 ν2 .ret σ3 _ e1 hI2 fun a3 w3 m3 β3 ν3 hI3 => hend σ3 (by rw [hfin0]; exact e2) a3 w3 m3 β3 ν3 hI3
      · cases hbody
    · cases hc
  · cases hc
end
end Go.Am
