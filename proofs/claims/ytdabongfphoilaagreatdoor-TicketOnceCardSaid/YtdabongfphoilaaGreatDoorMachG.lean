/-
  AM, part 24: what the world's first blocks hold; pure oracles out of contracts.
-/
import Derived.Test.YtdabongfphoilaaGreatDoorMachE
import Derived.Below
import Derived.Lib.Bytealg
import Derived.Lib.IndexAny
import Derived.Lib.ItoaNum
import Derived.Lib.LaidTab
import Derived.Lib.ConvBytes
import Derived.Sort.Grow
import Derived.Deep.Draws
import Derived.Lib.AtoiErrMem
import Derived.Lib.AtoiAll
import Derived.SizedLaws
import Derived.Deep.Slices
import Derived.ChangeArms
import Derived.DataReads
import Derived.Carry
import Derived.ReadAgain
import Derived.ChangeSame
import Derived.OpenShut
set_option linter.unusedVariables false
set_option linter.unusedSimpArgs false

namespace Go.Am
open Go.RowKit

/-- Where the listed variables end. -/
def gEnd (P : Program) : Nat := max (max ((P.globalNamed "internal/strconv.uint64pow10").getD 0) ((P.globalNamed "strconv.ErrSyntax").getD 0)) ((P.globalNamed "strconv.ErrRange").getD 0) + 1

theorem var_step {P : Program} {X : Nat → Prop} {w w' : World} {m m' : Nat → Nat} {B : Nat} (hS : Step X w m w' m') (hX : ∀ b, X b → B ≤ b) (hb : B ≤ w.heap.size) {n : String} (hn : (P.globalNamed n).getD 0 < B) : w'.var? P n = w.var? P n := by
  unfold World.var?
  cases hg : P.globalNamed n with
  | none => rfl
  | some g =>
    rw [hg] at hn
    simp only [Option.getD_some] at hn
    simp only [Option.bind_some]
    rw [(hS.same g (by omega) (fun hx => by have := hX g hx; omega)).1]

theorem var_lt {P : Program} {w : World} {n : String} {cs : Array Value} (h : w.var? P n = some cs) : (P.globalNamed n).getD 0 < w.heap.size := by
  unfold World.var? at h
  cases hg : P.globalNamed n with
  | none => rw [hg] at h; cases h
  | some g =>
    rw [hg] at h
    simp only [Option.bind_some] at h
    simp only [Option.getD_some]
    rcases Nat.lt_or_ge g w.heap.size with h1 | h1
    · exact h1
    · rw [Array.getElem?_eq_none h1] at h; cases h

/-- What the listed variables hold. -/
def laidG (P : Program) (w : World) : Prop := Lib.TabIs P w "internal/strconv.uint64pow10" .u64 Lib.pow10Tab ∧
  (∃ tp p, w.var? P "strconv.ErrSyntax" = some #[.iface tp p]) ∧ (∃ tp p, w.var? P "strconv.ErrRange" = some #[.iface tp p])

theorem gEnd_le {P : Program} {w : World} (h : laidG P w) : gEnd P ≤ w.heap.size := by
  obtain ⟨h1, ⟨_, _, h2⟩, ⟨_, _, h3⟩⟩ := h
  have g1 := var_lt h1
  have g2 := var_lt h2
  have g3 := var_lt h3
  unfold gEnd
  omega

def glob (P : Program) : Glob where
  G := laidG P
  Gb := gEnd P
  step := fun X w m w' m' hS hX hb hG => by
    unfold laidG Lib.TabIs at *
    rw [var_step hS hX hb (by unfold gEnd; omega), var_step hS hX hb (by unfold gEnd; omega), var_step hS hX hb (by unfold gEnd; omega)]
    exact hG

theorem step_below {w w' : World} {m : Nat → Nat} (h : Below w.heap.size w w') : Step (fun _ => False) w m w' m := by
  refine ⟨h.os, h.tape, h.output, h.size, fun b hb _ => ⟨h.block b hb, rfl⟩, fun b i u hu => ?_⟩
  unfold hg at hu ⊢
  split at hu
  · rename_i hi
    rw [if_pos hi]
    have hb : b < w.heap.size := by
      rcases Nat.lt_or_ge b w.heap.size with h1 | h1
      · exact h1
      · exfalso
        unfold World.cell? at hu
        rw [Array.getElem?_eq_none h1] at hu
        cases hu
    unfold World.cell? at hu ⊢
    rw [h.block b hb]
    exact hu
  · cases hu

section
variable {P : Program} {num : Nat → Option Nat} {Γ : Glob}

/-- A pure oracle out of a contract that lays new blocks at most. -/
theorem pure_below {h : List AV → Option AV} {g : Nat}
    (hc : ∀ (args : List AV) (r : AV), h args = some r → ∀ (w : World) (m : Nat → Nat) (β : List Blk) (vs : Array Value), Γ.G w → vs.size = args.length →
      (∀ (i : Nat) (c : AV), args[i]? = some c → ∃ u, vs[i]? = some u ∧ RepV num β w m c u) →
      Calls P g vs w fun e w' => ∃ v, e = .returned v ∧ Below w.heap.size w w' ∧ r.ok = true ∧ (∀ w' m', RepV num β w' m' r v) ∧ (∀ w' m' ν', OwnV w' m' ν' .f r v)) :
    PureOk P num Γ h g := by
  intro args r hr hok w m β vs hG hGb hvs hrep
  refine (hc args r hr w m β vs hG hvs hrep).mono fun e w' he => ?_
  obtain ⟨v, he, hB, h1, h2, h3⟩ := he
  exact ⟨v, m, fun _ => none, he, step_below hB, h1, h2 w' m, h3 w' m _, fun b p hp => by cases hp⟩

theorem arr1 {vs : Array Value} {u : Value} (h : vs.size = 1) (h0 : vs[0]? = some u) : vs = #[u] := by
  apply Array.ext_getElem?
  intro i
  cases i with
  | zero => rw [h0]; rfl
  | succ i => rw [Array.getElem?_eq_none (by omega), Array.getElem?_eq_none (by simp)]
theorem arr2 {vs : Array Value} {u v : Value} (h : vs.size = 2) (h0 : vs[0]? = some u) (h1 : vs[1]? = some v) : vs = #[u, v] := by
  apply Array.ext_getElem?
  intro i
  match i with
  | 0 => rw [h0]; rfl
  | 1 => rw [h1]; rfl
  | i + 2 => rw [Array.getElem?_eq_none (by omega), Array.getElem?_eq_none (by simp)]

theorem bytes_list (s : List UInt8) : (⟨s.toArray⟩ : ByteArray).data.toList = s := by simp
theorem bytes_size (s : List UInt8) : (⟨s.toArray⟩ : ByteArray).size = s.length := by simp [ByteArray.size]

-- strings.Compare
theorem compareBytes_eq : ∀ a b : List UInt8, Lib.compareBytes a b = if Op.bytesLess a b then -1 else if a == b then 0 else 1
  | [], [] => rfl
  | [], _ :: _ => by simp [Lib.compareBytes, Op.bytesLess]
  | _ :: _, [] => by simp [Lib.compareBytes, Op.bytesLess]
  | a :: as, b :: bs => by
    simp only [Lib.compareBytes, Op.bytesLess, compareBytes_eq as bs]
    by_cases h1 : a < b
    · simp [h1]
    · by_cases h2 : b < a
      · have hne : (a == b) = false := by
          rw [beq_eq_false_iff_ne]; intro e; subst e; exact h1 h2
        simp [h1, h2, hne]
      · have he : a = b := by
          apply UInt8.toNat_inj.1
          rw [UInt8.lt_iff_toNat_lt] at h1 h2
          omega
        subst he
        simp [h1]

theorem cmp_orc {g : Nat} (hC : ∀ (a b : ByteArray) (w : World), Calls P g #[.string a, .string b] w fun e w' => e = .returned (.int .i64 (Lib.compareBytes a.data.toList b.data.toList)) ∧ w' = w) : OrcOk P num Γ (pureOrc cmpO) g := by
  refine pure_orc (pure_below fun args r hr w m β vs hG hvs hrep => ?_)
  unfold cmpO at hr
  split at hr
  · rename_i a b
    injection hr with hr
    subst hr
    obtain ⟨u, h0, h1⟩ := hrep 0 _ rfl
    obtain ⟨u2, h2, h3⟩ := hrep 1 _ rfl
    simp only [RepV] at h1 h3
    subst h1 h3
    rw [arr2 hvs h0 h2]
    refine (hC _ _ w).mono fun e w' he => ?_
    obtain ⟨rfl, rfl⟩ := he
    rw [bytes_list, bytes_list, compareBytes_eq]
    exact ⟨_, rfl, Below.refl _ _, rfl, fun _ _ => by simp only [RepV], fun _ _ _ => trivial⟩
  · cases hr

-- strings.ContainsAny
theorem containsAny_eq (cs : List UInt8) : ∀ s : List UInt8, Lib.containsAny s cs = s.any fun b => cs.contains b
  | [] => by simp [Lib.containsAny, Lib.indexAny]
  | b :: s => by
    have ih := containsAny_eq cs s
    have hge := Lib.indexAny_ge cs s
    rw [List.any_cons, ← ih]
    unfold Lib.containsAny
    rw [Lib.indexAny]
    cases hc : cs.contains b
    · simp only [Bool.false_or, Bool.false_eq_true, if_false]
      by_cases h1 : Lib.indexAny s cs = -1
      · simp [h1]
      · have : (Lib.indexAny s cs == -1) = false := by simpa using h1
        rw [this]
        simp only [Bool.false_eq_true, if_false]
        have h2 : 0 ≤ Lib.indexAny s cs := by omega
        have h3 : 0 ≤ Lib.indexAny s cs + 1 := by omega
        simp [h2, h3]
    · simp

theorem any_orc {g : Nat} (hC : ∀ (s chars : ByteArray) (w : World), s.size < 4294967281 → chars.size < 4294967281 → (∀ (j : Nat) b, s.data.toList[j]? = some b → b.toNat < 128) → (∀ (j : Nat) b, chars.data.toList[j]? = some b → b.toNat < 128) →
    Calls P g #[.string s, .string chars] w fun e w' => e = .returned (.bool (Lib.containsAny s.data.toList chars.data.toList)) ∧ Below w.heap.size w w') : OrcOk P num Γ (pureOrc anyO) g := by
  refine pure_orc (pure_below fun args r hr w m β vs hG hvs hrep => ?_)
  unfold anyO at hr
  split at hr
  · rename_i s cs
    split at hr
    · rename_i hcond
      injection hr with hr
      subst hr
      simp only [Bool.and_eq_true, decide_eq_true_eq] at hcond
      obtain ⟨⟨⟨c1, c2⟩, c3⟩, c4⟩ := hcond
      obtain ⟨u, h0, h1⟩ := hrep 0 _ rfl
      obtain ⟨u2, h2, h3⟩ := hrep 1 _ rfl
      simp only [RepV] at h1 h3
      subst h1 h3
      rw [arr2 hvs h0 h2]
      have asc : ∀ l : List UInt8, l.all (· < 128) = true → ∀ (j : Nat) b, (⟨l.toArray⟩ : ByteArray).data.toList[j]? = some b → b.toNat < 128 := fun l hl j b hj => by
        rw [bytes_list] at hj
        rw [List.all_eq_true] at hl
        have := hl b (List.mem_of_getElem? hj)
        have h2 := of_decide_eq_true this
        rw [UInt8.lt_iff_toNat_lt] at h2
        exact h2
      refine (hC _ _ w (by rw [bytes_size]; omega) (by rw [bytes_size]; omega) (asc s c2) (asc cs c1)).mono fun e w' he => ?_
      obtain ⟨rfl, hB⟩ := he
      rw [bytes_list, bytes_list, containsAny_eq]
      exact ⟨_, rfl, hB, rfl, fun _ _ => by simp only [RepV], fun _ _ _ => trivial⟩
    · cases hr
  · cases hr

-- strconv.Itoa
theorem decDigits_eq2 : ∀ n : Nat, Lib.decDigits n = decN n := by
  intro n
  induction n using Nat.strongRecOn with
  | ind n ih =>
    by_cases h : n < 10
    · rw [Lib.decDigits_one h, decN_small h]
    · rw [Lib.decDigits, dif_neg h, decN_large h, ih (n / 10) (by omega)]
theorem itoa_eq (n : Int) : Lib.itoa n = dec n := by
  unfold Lib.itoa dec
  split
  · rw [decDigits_eq2]
  · rw [decDigits_eq2]; congr 1; omega

theorem below_grow (w : World) (k : Nat) (os : Array Obj) : Below w.heap.size w (Sort.grow (w.drewN k) os) :=
  ⟨rfl, rfl, rfl, by simp [Sort.grow, World.drewN], fun b hb => by
    show ((w.drewN k).heap ++ os)[b]? = _
    rw [Array.getElem?_append_left (by simpa [World.drewN] using hb)]
    rfl⟩

theorem itoa_orc {g : Nat} (hC : ∀ (n : Int), -9223372036854775808 ≤ n → n ≤ 9223372036854775807 → ∀ (w : World), Lib.TabIs P w "internal/strconv.uint64pow10" .u64 Lib.pow10Tab →
    Calls P g #[.int .i64 n] w fun e w' => e = .returned (.string ⟨(Lib.itoa n).toArray⟩) ∧ ∃ k os, w' = Sort.grow (w.drewN k) os) : OrcOk P num (glob P) (pureOrc itoaO) g := by
  refine pure_orc (pure_below fun args r hr w m β vs hG hvs hrep => ?_)
  unfold itoaO at hr
  split at hr
  · rename_i n
    split at hr
    · rename_i hn
      injection hr with hr
      subst hr
      obtain ⟨u, h0, h1⟩ := hrep 0 _ rfl
      simp only [RepV] at h1
      subst h1
      rw [arr1 hvs h0]
      refine (hC n hn.1 hn.2 w hG.1).mono fun e w' he => ?_
      obtain ⟨rfl, k, os, rfl⟩ := he
      rw [itoa_eq]
      exact ⟨_, rfl, below_grow w k os, rfl, fun _ _ => by simp only [RepV], fun _ _ _ => trivial⟩
    · cases hr
  · cases hr

-- strconv.Atoi
theorem atoi_orc {g : Nat} (h1 : ∀ (s : ByteArray), s.size ≤ 9223372036854775806 → ∀ (v : Int), Lib.atoiAll s.data.toList = .ok v → ∀ (w : World),
      Calls P g #[.string s] w fun e w' => e = .returned (.tuple #[.int .i64 v, .nilIface]) ∧ Below w.heap.size w w')
    (h2 : ∀ (s : ByteArray), s.size ≤ 281474976710656 → Lib.atoiAll s.data.toList = Lib.NumEnd.syntax → ∀ (tp : TypeId) (p : Value) (w : World), w.var? P "strconv.ErrSyntax" = some #[.iface tp p] →
      Calls P g #[.string s] w fun e w' => ∃ t x, e = .returned (.tuple #[.int .i64 0, .iface t x]) ∧ Below w.heap.size w w')
    (h3 : ∀ (s : ByteArray), s.size ≤ 281474976710656 → Lib.atoiAll s.data.toList = .range → ∀ (tp : TypeId) (p : Value) (w : World), w.var? P "strconv.ErrRange" = some #[.iface tp p] →
      Calls P g #[.string s] w fun e w' => ∃ t x, e = .returned (.tuple #[.int .i64 (Lib.atoiSat s.data.toList), .iface t x]) ∧ Below w.heap.size w w') :
    OrcOk P num (glob P) (pureOrc atoiO) g := by
  refine pure_orc (pure_below fun args r hr w m β vs hG hvs hrep => ?_)
  unfold atoiO at hr
  split at hr
  · rename_i s
    split at hr
    · rename_i hs
      obtain ⟨u, h0, hu⟩ := hrep 0 _ rfl
      simp only [RepV] at hu
      subst hu
      rw [arr1 hvs h0]
      obtain ⟨hg1, ⟨tp1, p1, hg2⟩, ⟨tp2, p2, hg3⟩⟩ := hG
      cases ha : Lib.atoiAll s with
      | ok v =>
        rw [ha] at hr
        injection hr with hr
        subst hr
        refine (h1 ⟨s.toArray⟩ (by rw [bytes_size]; omega) v (by rw [bytes_list]; exact ha) w).mono fun e w' he => ?_
        obtain ⟨rfl, hB⟩ := he
        refine ⟨_, rfl, hB, rfl, fun _ _ => ?_, fun _ _ _ => trivial⟩
        simp only [RepV]
        exact ⟨_, rfl, rfl, by simp [RepT, RepV]⟩
      | range =>
        rw [ha] at hr
        injection hr with hr
        subst hr
        refine (h3 ⟨s.toArray⟩ (by rw [bytes_size]; omega) (by rw [bytes_list]; exact ha) tp2 p2 w hg3).mono fun e w' he => ?_
        obtain ⟨t, x, rfl, hB⟩ := he
        rw [bytes_list]
        refine ⟨_, rfl, hB, rfl, fun _ _ => ?_, fun _ _ _ => trivial⟩
        simp only [RepV]
        exact ⟨_, rfl, rfl, by simp [RepT, RepV]⟩
      | _ =>
        rw [ha] at hr
        injection hr with hr
        subst hr
        refine (h2 ⟨s.toArray⟩ (by rw [bytes_size]; omega) (by rw [bytes_list]; exact ha) tp1 p1 w hg2).mono fun e w' he => ?_
        obtain ⟨t, x, rfl, hB⟩ := he
        refine ⟨_, rfl, hB, rfl, fun _ _ => ?_, fun _ _ _ => trivial⟩
        simp only [RepV]
        exact ⟨_, rfl, rfl, by simp [RepT, RepV]⟩
    · cases hr
  · cases hr
end
end Go.Am

namespace Go.Am

section
variable {P : Program} {num : Nat → Option Nat} {Γ : Glob} {tb : Nat → Option AFn}

/-- A function that can be entered. -/
def Ent (P : Program) (g : Nat) : Prop := ∃ fn, P.funcs[g]? = some fn ∧ (fn.name == "runtime.NumGoroutine") = false ∧ fn.body.isNone = false

/-- An entry of the table fits. -/
def Fit1 (P : Program) (num : Nat → Option Nat) (Γ : Glob) (tb : Nat → Option AFn) (f g : Nat) : Prop :=
  (∀ fn, tb f = some (.code fn) → ∃ F, P.funcs[g]? = some F ∧ okFun P num fn F = true) ∧ ∀ h, tb f = some (.orc h) → OrcOk P num Γ h g

theorem ent_of {g : Nat} {F : Func} (hF : P.funcs[g]? = some F) (h1 : (F.name == "runtime.NumGoroutine") = false) (h2 : F.body.isNone = false) : Ent P g := ⟨F, hF, h1, h2⟩

theorem fit_code {f g : Nat} {fn : AFun} {F : Func} (ht : tb f = some (.code fn)) (hF : P.funcs[g]? = some F) (hok : okFun P num fn F = true) : Fit1 P num Γ tb f g := by
  refine ⟨fun fn2 h => ?_, fun h2 h => ?_⟩
  · rw [ht] at h
    injection h with h
    injection h with h
    subst h
    exact ⟨F, hF, hok⟩
  · rw [ht] at h
    injection h with h
    cases h

theorem fit_orc {f g : Nat} {h : List AV → List (List AV) → Option (AV × List (List AV))} (ht : tb f = some (.orc h)) (hO : OrcOk P num Γ h g) : Fit1 P num Γ tb f g := by
  refine ⟨fun fn2 h => ?_, fun h2 h3 => ?_⟩
  · rw [ht] at h
    injection h with h
    cases h
  · rw [ht] at h3
    injection h3 with h3
    injection h3 with h3
    subst h3
    exact hO

theorem lookup_mem {L : List (Nat × Nat)} {f g : Nat} (h : L.lookup f = some g) : (f, g) ∈ L := by
  induction L with
  | nil => cases h
  | cons p L ih =>
    obtain ⟨a, b⟩ := p
    rw [List.lookup_cons] at h
    by_cases hab : f = a
    · subst hab
      simp at h
      subst h
      simp
    · have : (f == a) = false := by simpa using hab
      rw [this] at h
      exact List.mem_cons_of_mem _ (ih h)

theorem enters_of {L : List (Nat × Nat)} (h : ∀ p ∈ L, Ent P p.2) : Enters P (fun f => L.lookup f) := fun f g hfg => h (f, g) (lookup_mem hfg)

theorem fits_of {L : List (Nat × Nat)} (hmix : P.follows .mixedOrders = true) (hE : Enters P (fun f => L.lookup f)) (h : ∀ p ∈ L, Fit1 P (fun f => L.lookup f) Γ tb p.1 p.2) : Fits P (fun f => L.lookup f) Γ tb where
  mix := hmix
  enters := hE
  code := fun f g fn hfg ht => (h (f, g) (lookup_mem hfg)).1 fn ht
  orc := fun f g k hfg ht => (h (f, g) (lookup_mem hfg)).2 k ht

theorem fcons {α : Type} {p : α → Prop} {a : α} {l : List α} (h : p a) (hl : ∀ x ∈ l, p x) : ∀ x ∈ a :: l, p x := fun x hx => by
  rcases List.mem_cons.1 hx with rfl | hx
  · exact h
  · exact hl x hx
theorem fnil {α : Type} {p : α → Prop} : ∀ x ∈ ([] : List α), p x := fun x hx => by cases hx
end
end Go.Am

namespace Go.Am

/-- Everything that stands is published. -/
def mW (w : World) : Nat → Nat := fun b => match w.heap[b]? with
  | some (.cells c _ _) => c.size
  | _ => 0

theorem hg_mW (w : World) (b i : Nat) : hg w (mW w) b i = w.cell? ⟨b, i, none⟩ := by
  unfold hg mW World.cell?
  cases h : w.heap[b]? with
  | none => simp
  | some o =>
    cases o <;> simp

def ShpF (R : TypeId → List AV → Prop) : List Field → List AV → Prop
  | [], avs => avs = []
  | f :: fs, avs => ∃ p q, avs = p ++ q ∧ R f.type p ∧ ShpF R fs q

/-- The cells of a value of a type that has ints, bools, strings, slices and structs alone. -/
def Shp (P : Program) : Nat → TypeId → List AV → Prop
  | 0, _, _ => False
  | n + 1, t, avs => match P.underlying t with
    | some (.int k) => ∃ i, avs = [.int k i] ∧ (Lit.int k i).wf = true
    | some .bool => ∃ b, avs = [.bool b]
    | some .string => ∃ s : List UInt8, avs = [.str s] ∧ s.length ≤ reachBytes
    | some (.slice e) => ∃ xs : List (List AV), avs = [.sl false (P.cellsOf e) xs] ∧ xs.length * P.bytesOf e ≤ reachBytes ∧ ∀ x ∈ xs, Shp P n e x
    | some (.struct fs) => ShpF (Shp P n) fs.toList avs
    | _ => False

def layB (P : Program) (tot : Nat) : List Field → Nat → Bool
  | [], o => decide (o = tot)
  | f :: fs, o => decide (f.offset = o) && layB P tot fs (o + P.cellsOf f.type)

/-- A closed set of such types. -/
def okSet (P : Program) (S : List TypeId) : Bool := S.all fun t => match P.underlying t with
  | some (.int _) => decide (P.cellsOf t = 1)
  | some .bool => decide (P.cellsOf t = 1)
  | some .string => decide (P.cellsOf t = 1)
  | some (.slice e) => S.contains e && decide (0 < P.cellsOf e) && decide (P.cellsOf t = 1)
  | some (.struct fs) => fs.toList.all (fun f => S.contains f.type) && layB P (P.cellsOf t) fs.toList 0
  | _ => false

theorem list_of {α : Type} {Q : Nat → α → Prop} : ∀ {n : Nat}, (∀ i, i < n → ∃ x, Q i x) → ∃ xs : List α, xs.length = n ∧ ∀ i x, xs[i]? = some x → Q i x
  | 0, _ => ⟨[], rfl, fun i x h => by simp at h⟩
  | n + 1, h => by
    obtain ⟨xs, h1, h2⟩ := list_of (n := n) fun i hi => h i (by omega)
    obtain ⟨x, hx⟩ := h n (by omega)
    refine ⟨xs ++ [x], by simp [h1], fun i y hy => ?_⟩
    rcases Nat.lt_trichotomy i n with hi | hi | hi
    · rw [List.getElem?_append_left (by omega)] at hy
      exact h2 i y hy
    · subst hi
      rw [List.getElem?_append_right (by omega), h1, Nat.sub_self] at hy
      simp at hy
      subst hy
      exact hx
    · rw [List.getElem?_eq_none (by simp; omega)] at hy
      cases hy

theorem weights_all {H : Type} {P : Program} {e : TypeId} {ds : List (DataW H)} : ∀ {d : DataW H}, d ∈ ds → ∀ n ∈ d.weights P e, n ∈ DataW.weightsAll P e ds := by
  induction ds with
  | nil => intro d h; cases h
  | cons a ds ih =>
    intro d h n hn
    simp only [DataW.weightsAll, List.mem_append]
    rcases List.mem_cons.1 h with rfl | h
    · exact .inl hn
    · exact .inr (ih h n hn)

section
variable {H : Type} {enc : TypeId × Value → H} {P : Program} {w : World} {base : Nat} {spare : Nat → Bool} {held : Bool} {num : Nat → Option Nat} {β : List Blk} {S : List TypeId}

/-- Cells that read as a type of the set. -/
theorem trod_shape (hS : okSet P S = true) : ∀ (fuel : Nat) (t : TypeId) (cs : List Value) (x : DataW H × List MemPlace), t ∈ S → DataW.trod enc P w base spare held fuel t cs = some x →
    (∀ n ∈ x.1.weights P t, n ≤ reachBytes) → ∃ avs, Shp P fuel t avs ∧ avs.length = cs.length ∧ cs.length = P.cellsOf t ∧ RepC num β w (mW w) avs (fun i => cs[i]?) 0 := by
  intro fuel
  induction fuel with
  | zero => intro t cs x _ h; simp [DataW.trod] at h
  | succ fuel ih =>
    intro t cs x ht h hwt
    have hs := List.all_eq_true.1 hS t ht
    simp only [Shp]
    split at hs
    · rename_i k hu
      simp only [decide_eq_true_eq] at hs
      obtain ⟨n, rfl, rfl, hwf⟩ := DataW.trod_int hu h
      exact ⟨_, ⟨n, rfl, hwf⟩, rfl, by rw [hs]; rfl, by simp [RepC, RepV]; rfl⟩
    · rename_i hu
      simp only [decide_eq_true_eq] at hs
      have : ∃ b, cs = [.bool b] := by
        unfold DataW.trod at h
        rw [hu] at h
        split at h <;> simp_all
      obtain ⟨b, rfl⟩ := this
      exact ⟨_, ⟨b, rfl⟩, rfl, by rw [hs]; rfl, by simp [RepC, RepV]; rfl⟩
    · rename_i hu
      simp only [decide_eq_true_eq] at hs
      obtain ⟨s, rfl, rfl, hmx⟩ := DataW.trod_string hu h
      refine ⟨_, ⟨s.data.toList, rfl, hwt _ (by simp [DataW.weights])⟩, rfl, by rw [hs]; rfl, ?_⟩
      simp only [RepC, RepV]
      exact ⟨⟨_, rfl, rfl, by simp⟩, trivial⟩
    · rename_i e hu
      simp only [Bool.and_eq_true, decide_eq_true_eq] at hs
      obtain ⟨⟨hse, hc0⟩, hc1⟩ := hs
      have he : e ∈ S := by simpa using hse
      rcases DataW.trod_slice hu h with ⟨rfl, rfl⟩ | ⟨a, len, cap, elems, rest, n, hn, rfl, rfl, hb, hl, hm, hlen, hel, _, _⟩
      · refine ⟨_, ⟨[], rfl, by simp, by simp⟩, rfl, by rw [hc1]; rfl, ?_⟩
        simp only [RepC, RepV]
        exact ⟨⟨_, rfl, rfl, none, 0, 0, rfl, rfl, Nat.le_refl _, Nat.zero_le _, .inl trivial⟩, trivial⟩
      · injection hn with hn
        subst hn
        have hel2 : ∀ i, i < len → ∃ av, Shp P fuel e av ∧ av.length = P.cellsOf e ∧ ∃ cs' : List Value, (∀ j, j < P.cellsOf e → w.cell? ((a.add (i * P.cellsOf e)).add j) = cs'[j]?) ∧ cs'.length = P.cellsOf e ∧ RepC num β w (mW w) av (fun j => cs'[j]?) 0 := by
          intro i hi
          have h1 := hel i hi
          have h2 : elems[i]? = some (elems[i]'(by omega)) := List.getElem?_eq_getElem (by omega)
          rw [h2] at h1
          obtain ⟨cs', g1, g2⟩ := Option.bind_eq_some_iff.1 h1
          obtain ⟨_, g3, g4⟩ := World.cells?_some g1
          obtain ⟨av, k1, k2, k3, k4⟩ := ih e cs' _ he g2 (fun n hn => hwt n (by
            simp only [DataW.weights, hu, List.mem_cons, List.mem_append]
            right; left
            refine weights_all (d := (elems[i]'(by omega)).1) ?_ n hn
            exact List.mem_map.2 ⟨_, List.getElem_mem _, rfl⟩))
          exact ⟨av, k1, by rw [k2, k3], cs', g4, g3, k4⟩
        obtain ⟨xs, x1, x2⟩ := list_of hel2
        refine ⟨_, ⟨xs, rfl, ?_, fun x hx => ?_⟩, rfl, by rw [hc1]; rfl, ?_⟩
        · have := hwt ((elems.length + rest.length) * P.bytesOf e) (by simp [DataW.weights, hu])
          refine Nat.le_trans (Nat.mul_le_mul_right _ ?_) this
          omega
        · obtain ⟨i, hi⟩ := List.getElem?_of_mem hx
          exact (x2 i x hi).1
        · simp only [RepC, RepV]
          refine ⟨⟨_, rfl, rfl, some a, len, cap, rfl, x1, hl, hm, ?_⟩, trivial⟩
          by_cases h0 : xs = []
          · exact .inl h0
          · right
            have hl0 : 0 < len := by rw [← x1]; exact List.length_pos_iff.2 h0
            have hsp : a.spot = none := by
              obtain ⟨av, _, _, cs', g4, g3, _⟩ := hel2 0 hl0
              have h1 := g4 0 hc0
              rw [List.getElem?_eq_getElem (by omega)] at h1
              unfold World.cell? at h1
              split at h1
              · split at h1
                · cases h1
                · rename_i hq; simpa [Addr.add] using hq
              · cases h1
            obtain ⟨ab, ao, asp⟩ := a
            simp only at hsp
            subst hsp
            refine ⟨ab, ao, rfl, ?_⟩
            rw [RepE_get]
            intro i x hx
            obtain ⟨k1, k2, cs', g4, g3, k4⟩ := x2 i x hx
            refine ⟨k2, ?_⟩
            rw [RepC_get] at k4 ⊢
            intro j c hj
            obtain ⟨u, u1, u2, u3⟩ := k4 j c hj
            have hjl : j < P.cellsOf e := by
              rcases Nat.lt_or_ge j x.length with hh | hh
              · omega
              · rw [List.getElem?_eq_none hh] at hj; cases hj
            refine ⟨u, ?_, u2, u3⟩
            rw [hg_mW]
            have := g4 j hjl
            simp only [Nat.zero_add] at u1
            rw [u1, add_none, add_none] at this
            exact this
    · rename_i fs hu
      simp only [Bool.and_eq_true] at hs
      obtain ⟨hs1, hs2⟩ := hs
      obtain ⟨xs, n, hn, rfl, hcl, hxl, hf⟩ := DataW.trod_struct hu h
      injection hn with hn
      subst hn
      have key : ∀ (l : List Field) (k o : Nat), fs.toList.drop k = l → layB P (P.cellsOf t) l o = true → ∃ avs, ShpF (Shp P fuel) l avs ∧ avs.length + o = P.cellsOf t ∧ RepC num β w (mW w) avs (fun i => cs[i]?) o := by
        intro l
        induction l with
        | nil =>
          intro k o _ hl
          simp only [layB, decide_eq_true_eq] at hl
          exact ⟨[], rfl, by simpa using hl, by simp [RepC]⟩
        | cons f l ihl =>
          intro k o hk hl
          simp only [layB, Bool.and_eq_true, decide_eq_true_eq] at hl
          obtain ⟨rfl, hl2⟩ := hl
          have hkf : fs.toList[k]? = some f := by
            have : (fs.toList.drop k)[0]? = some f := by rw [hk]; rfl
            simpa using this
          have hk2 : fs.toList.drop (k + 1) = l := by
            rw [← List.drop_drop, hk]; rfl
          obtain ⟨q, q1, q2, q3⟩ := ihl (k + 1) _ hk2 hl2
          have hkf2 : fs[k]? = some f := by simpa using hkf
          have hfm : f.type ∈ S := by
            have := List.all_eq_true.1 hs1 f (List.mem_of_getElem? hkf)
            simpa using this
          have h1 := hf k f hkf2
          have hkl : k < xs.length := by
            rw [hxl]; exact (Array.getElem?_eq_some_iff.1 hkf2).1
          rw [List.getElem?_eq_getElem hkl] at h1
          obtain ⟨p, p1, p2, p3, p4⟩ := ih f.type _ _ hfm h1 (fun n hn => hwt n (by
            simp only [DataW.weights, hu]
            exact DataW.weights_mem_each (j := k) (t := f.type) (d := xs[k].1) (by simp [hkf2]) (by simp [List.getElem?_eq_getElem hkl]) n hn))
          rw [p3] at p2
          refine ⟨p ++ q, ⟨p, q, rfl, p1, q1⟩, by simp; omega, ?_⟩
          rw [RepC_get] at p4 q3 ⊢
          intro i c hi
          by_cases hil : i < p.length
          · rw [List.getElem?_append_left hil] at hi
            obtain ⟨u, u1, u2, u3⟩ := p4 i c hi
            refine ⟨u, ?_, u2, u3⟩
            simp only [Nat.zero_add] at u1
            rw [List.getElem?_take] at u1
            split at u1
            · rwa [List.getElem?_drop] at u1
            · cases u1
          · rw [List.getElem?_append_right (by omega)] at hi
            obtain ⟨u, u1, u2, u3⟩ := q3 (i - p.length) c hi
            refine ⟨u, ?_, u2, u3⟩
            rwa [show f.offset + P.cellsOf f.type + (i - p.length) = f.offset + i by omega] at u1
      obtain ⟨avs, a1, a2, a3⟩ := key fs.toList 0 0 (by simp) hs2
      exact ⟨avs, a1, by omega, hcl, a3⟩
    · cases hs
end
end Go.Am

namespace Go.Am
open Go.RowKit Go.ChangeShapes Go.WideShapes

section
variable {P : Program} {num : Nat → Option Nat} {tb : Nat → Option AFn} {W : World}

/-- A law that the machine finds true. -/
theorem law_calls (hF : Fits P num (glob P) tb) {f g : Nat} (hnum : num f = some g) {args : List AV} {vs : Array Value} (hG : laidG P W) (hok : okVals args = true) (hvs : vs.size = args.length)
    (hrep : ∀ (i : Nat) (c : AV), args[i]? = some c → ∃ u, vs[i]? = some u ∧ RepV num [] W (mW W) c u) (hc : call tb f args [] = some (.bool true, [])) :
    Calls P g vs W fun e W' => e = .returned (.bool true) ∧ Below W.heap.size W W' := by
  obtain ⟨n, hn⟩ := call_iff.1 hc
  refine (callN_sound hF n f g args [] _ _ hnum hn hok W (mW W) [] (fun _ => none) vs hG (gEnd_le hG) hvs hrep ⟨rfl, fun i cs k h => by simp at h, fun i cs h => by simp at h⟩ (fun b p h => by cases h)).mono fun e W' he => ?_
  obtain ⟨v, m', β', ν', he, _, hS, _, _, hr, _, _⟩ := he
  simp only [RepV] at hr
  subst hr
  exact ⟨he, hS.os, hS.tape, hS.output, hS.size, fun k hk => (hS.same k hk (fun ⟨p, hp⟩ => by cases hp)).1⟩

section
variable {H : Type} {enc : TypeId × Value → H} {S : List TypeId} {base b0 : Nat} {spare : Nat → Bool} {held : Bool} {r : Reach}

theorem arg_struct (hS : okSet P S = true) {t : TypeId} (ht : t ∈ S) {fs : Array Field} (hu : P.underlying t = some (.struct fs)) {v : Value} {d : DataW H} {p : List MemPlace} (hv : Value.okWide P W r b0 t v)
    (h : DataW.Trod enc P W base spare held t v d p) (hw : ∀ n ∈ d.weights P t, n ≤ reachBytes) : ∃ n avs, Shp P n t avs ∧ RepV num [] W (mW W) (.agg avs) v := by
  obtain ⟨cs, rfl, hsz⟩ := okWide_struct hu hv
  obtain ⟨fuel, hf⟩ := h
  obtain ⟨avs, h1, h2, h3, h4⟩ := trod_shape (num := num) (β := []) hS fuel t _ _ ht hf hw
  refine ⟨fuel, avs, h1, ?_⟩
  simp only [RepV]
  have hc : (Value.agg cs).cells = cs := rfl
  rw [hc] at h2 h4
  refine ⟨cs, rfl, by simpa using h2.symm, ?_⟩
  simpa using h4

/-- The arguments read behind the call as they did. -/
theorem trodAll_below (K : Kids P (· < P.types.size)) (hz : ∀ t e, t < P.types.size → P.underlying t = some (.slice e) → 0 < P.cellsOf e) {W' : World} (hb : Below W.heap.size W W') {sp : Nat → Bool} :
    ∀ {ts : List TypeId} {vs : List Value} {ds : List (DataW H)} {ps : List MemPlace}, (∀ t ∈ ts, t < P.types.size) → DataW.TrodAll enc P W 0 (fun _ => true) true ts vs ds ps → (∀ p ∈ ps, p.block < W.heap.size) → (∀ p ∈ ps, sp p.block = true) →
      DataW.TrodAll enc P W' 0 sp true ts vs ds ps
  | [], [], [], _, _, h, _, _ => h
  | _ :: _, _ :: _, _ :: _, _, hT, ⟨p, q, ⟨n, h1⟩, h2, e⟩, hlt, hs => by
    subst e
    refine ⟨p, q, ⟨n, ?_⟩, trodAll_below K hz hb (fun t ht => hT t (List.mem_cons_of_mem _ ht)) h2 (fun x hx => hlt x (List.mem_append_right _ hx)) (fun x hx => hs x (List.mem_append_right _ hx)), rfl⟩
    exact DataW.trod_carry n _ _ _ (DataW.trod_respare K hz n _ _ _ (hT _ (List.mem_cons_self ..)) h1 (fun x hx => hs x (List.mem_append_left _ hx))) (fun x hx => hb.same (hlt x (List.mem_append_left _ hx)))

theorem post_of_below {f : Func} {s : ChangeSpec} {apart fresh handsOn again : Bool} {W W' : World} {args : Array Value} {v : Value} {ds gs : List (DataW H)} {before pa pv : List MemPlace}
    (hW : DataW.Whole enc P f.params.toList s.vars apart W args.toList ds gs before)
    (hres : ∀ (b : Nat) (sp : Nat → Bool) (hd : Bool), DataW.TrodAll enc P W' b sp hd f.resultTypes.toList (v.resultList f.resultTypes.size) (s.fn H (ds ++ gs)).results [])
    (hargs : ∀ sp : Nat → Bool, (∀ p ∈ before, sp p.block = true) → DataW.TrodAll enc P W' 0 sp true f.params.toList args.toList (s.fn H (ds ++ gs)).args pa)
    (hvars : ∀ sp : Nat → Bool, (∀ p ∈ before, sp p.block = true) → DataW.TrodVars enc P W' sp s.vars (s.fn H (ds ++ gs)).vars pv)
    (hps : before = pa ++ pv) (hb : Below W.heap.size W W')
    (hok : ∀ (j : Nat) (t : TypeId) (r : Value), f.resultTypes[j]? = some t → (v.resultList f.resultTypes.size)[j]? = some r → Value.okWide P W' .any 0 t r) :
    s.post enc P f apart fresh handsOn again W args v W' := by
  have hlt : ∀ p ∈ before, p.block < W.heap.size := fun p hp => hW.lt p hp
  have hold : ∀ p ∈ before, (fun b => decide (b < W.heap.size)) p.block = true := fun p hp => by simpa using hlt p hp
  refine ⟨ds, gs, before, [], pa, pv, hW, hres _ _ _, hargs _ hold, hvars _ hold, World.keptBut_mono (fun p hp => ⟨hp, ?_⟩) (hb.frame (· ∈ before)), fun _ => ?_⟩
  · rw [hps, List.mem_append] at hp
    exact Or.inr hp
  · obtain ⟨_, _, _, _, _, hz, hn⟩ := hW
    refine ⟨hok, _, _, ([] ++ pa) ++ pv, ⟨[] ++ pa, pv, trodAll_append (hargs _ (fun _ _ => rfl)) (hres _ _ _), hvars _ (fun _ _ => rfl), rfl, ?_, ?_⟩, ?_⟩
    · intro b off hp
      have hin : MemPlace.cell b off ∈ before := by rw [hps]; simpa using hp
      rw [hb.frozen (hlt _ hin)]
      exact hz b off hin
    · intro ha
      have := hn ha
      rw [hps] at this
      simpa using this
    · intro p hp _
      rw [hps]
      simpa using hp
end
end
end Go.Am
