/-
  SeatRead.
-/
import Derived.Test.YteahheknpdcoeaaGreatDoorG10
import Derived.Test.YteahheknpdcoeaaGreatDoorG24
import Derived.Test.YteahheknpdcoeaaGreatDoorChecked
set_option linter.unusedVariables false
set_option linter.unusedSimpArgs false
namespace Go.Proofs.YteahheknpdcoeaaGreatDoor
open Go.Am
def tset : List TypeId := [3,9,4,5,41,44,40,33,22,24,43]
theorem tset_ok : okSet Tryz.prog tset = true := by kernel_rfl
theorem list_map {α : Type} {f : α → List AV} : ∀ {xs : List (List AV)},(∀ x ∈ xs,∃ a,x = f a) → ∃ l : List α,xs = l.map f
 | [],_ => ⟨[],rfl⟩
 | x :: xs,h => by
  obtain ⟨a,ha⟩ := h x (by simp)
  obtain ⟨l,hl⟩ := list_map (xs := xs) fun y hy => h y (by simp [hy])
  exact ⟨a :: l,by simp [ha,hl]⟩
theorem list_map2 {α : Type} {f : α → List AV} {q : α → Prop} : ∀ {xs : List (List AV)},(∀ x ∈ xs,∃ a,x = f a ∧ q a) → ∃ l : List α,xs = l.map f ∧ ∀ a ∈ l,q a
 | [],_ => ⟨[],rfl,by simp⟩
 | x :: xs,h => by
  obtain ⟨a,ha,hq⟩ := h x (by simp)
  obtain ⟨l,hl,hql⟩ := list_map2 (xs := xs) fun y hy => h y (by simp [hy])
  refine ⟨a :: l,by simp [ha,hl],fun b hb => ?_⟩
  rcases List.mem_cons.1 hb with rfl | hb
  ·exact hq
  ·exact hql b hb
theorem shp_int {n : Nat} {avs : List AV} (h : Shp Tryz.prog n 3 avs) : ∃ i,avs = [.int .i64 i] := by
 cases n with
 | zero => simp [Shp] at h
 | succ n =>
  simp only [Shp,Tryz.underlying3] at h
  obtain ⟨i,h1,_⟩ := h
  exact ⟨i,h1⟩
theorem shp_str {n : Nat} {avs : List AV} (h : Shp Tryz.prog n 9 avs) : ∃ s : List UInt8,avs = [.str s] ∧ s.length ≤ reachBytes := by
 cases n with
 | zero => simp [Shp] at h
 | succ n =>
  simp only [Shp,Tryz.underlying9] at h
  exact h
theorem shp_bool {n : Nat} {avs : List AV} (h : Shp Tryz.prog n 4 avs) : ∃ b : Bool,avs = [.bool b] := by
 cases n with
 | zero => simp [Shp] at h
 | succ n =>
  simp only [Shp,Tryz.underlying4] at h
  exact h
theorem wf_u8 {i : Int} (h : (Lit.int .u8 i).wf = true) : ∃ n : Nat,i = n ∧ n < 256 := by
 simp only [Lit.wf] at h
 have h2 : IntKind.u8.min ≤ i ∧ i ≤ IntKind.u8.max := by simpa using h
 have h3 : IntKind.u8.min = 0 := rfl
 have h4 : IntKind.u8.max = 255 := rfl
 exact ⟨i.toNat,by omega,by omega⟩
theorem shp_u8 {n : Nat} {avs : List AV} (h : Shp Tryz.prog n 5 avs) : ∃ i : Nat,avs = [.int .u8 (i : Int)] ∧ i < 256 := by
 cases n with
 | zero => simp [Shp] at h
 | succ n =>
  simp only [Shp,Tryz.underlying5] at h
  obtain ⟨i,rfl,hw⟩ := h
  obtain ⟨k,rfl,hk⟩ := wf_u8 hw
  exact ⟨k,rfl,hk⟩
theorem wf_u16 {i : Int} (h : (Lit.int .u16 i).wf = true) : ∃ n : Nat,i = n ∧ n < 65536 := by
 simp only [Lit.wf] at h
 have h2 : IntKind.u16.min ≤ i ∧ i ≤ IntKind.u16.max := by simpa using h
 have h3 : IntKind.u16.min = 0 := rfl
 have h4 : IntKind.u16.max = 65535 := rfl
 exact ⟨i.toNat,by omega,by omega⟩
theorem shp_u16 {n : Nat} {avs : List AV} (h : Shp Tryz.prog n 41 avs) : ∃ i : Nat,avs = [.int .u16 (i : Int)] ∧ i < 65536 := by
 cases n with
 | zero => simp [Shp] at h
 | succ n =>
  simp only [Shp,Tryz.underlying41] at h
  obtain ⟨i,rfl,hw⟩ := h
  obtain ⟨k,rfl,hk⟩ := wf_u16 hw
  exact ⟨k,rfl,hk⟩
theorem cells33 : Tryz.prog.cellsOf 33 = 4 := by kernel_rfl
theorem bytes33 : Tryz.prog.bytesOf 33 = 56 := by kernel_rfl
theorem shp_term : ∀ (n : Nat) (avs : List AV),Shp Tryz.prog n 33 avs → ∃ t : Tm,avs = encT t := by
 intro n
 induction n using Nat.strongRecOn with
 | ind n ih =>
  intro avs h
  cases n with
  | zero => simp [Shp] at h
  | succ n =>
   simp only [Shp,Tryz.underlying33,ShpF] at h
   obtain ⟨p1,q1,rfl,h1,p2,q2,rfl,h2,p3,q3,rfl,h3,p4,q4,rfl,h4,rfl⟩ := h
   obtain ⟨k,rfl⟩ := shp_int h1
   obtain ⟨s,rfl,_⟩ := shp_str h2
   obtain ⟨so,rfl⟩ := shp_int h3
   cases n with
   | zero => simp [Shp] at h4
   | succ n =>
    simp only [Shp,Tryz.underlying22] at h4
    obtain ⟨xs,rfl,_,hx⟩ := h4
    obtain ⟨l,rfl⟩ := list_map (f := encT) (xs := xs) fun x hxx => ih n (by omega) x (hx x hxx)
    exact ⟨.mk k s so l,by simp [encT,encTs_map,cells33]⟩
theorem shp_terms {n : Nat} {avs : List AV} (h : Shp Tryz.prog n 22 avs) : ∃ l : List Tm,avs = [.sl false 4 (encTs l)] ∧ l.length * 56 ≤ reachBytes := by
 cases n with
 | zero => simp [Shp] at h
 | succ n =>
  simp only [Shp,Tryz.underlying22] at h
  obtain ⟨xs,rfl,hb,hx⟩ := h
  obtain ⟨l,rfl⟩ := list_map (f := encT) (xs := xs) fun x hxx => shp_term n x (hx x hxx)
  rw [bytes33] at hb
  exact ⟨l,by rw [encTs_map,cells33],by simpa using hb⟩
theorem shp_frame {n : Nat} {avs : List AV} (h : Shp Tryz.prog n 24 avs) : ∃ f : Fr,avs = encF f := by
 cases n with
 | zero => simp [Shp] at h
 | succ n =>
  simp only [Shp,Tryz.underlying24,ShpF] at h
  obtain ⟨p1,q1,rfl,h1,p2,q2,rfl,h2,rfl⟩ := h
  obtain ⟨a,rfl,_⟩ := shp_terms h1
  obtain ⟨b,rfl,_⟩ := shp_terms h2
  exact ⟨⟨a,b⟩,by simp [encF]⟩
theorem cells5 : Tryz.prog.cellsOf 5 = 1 := by kernel_rfl
theorem bytes5 : Tryz.prog.bytesOf 5 = 1 := by kernel_rfl
theorem shp_bytes {n : Nat} {avs : List AV} (h : Shp Tryz.prog n 44 avs) : ∃ b : List Nat,avs = [.sl false 1 (encB b)] ∧ b.length ≤ reachBytes ∧ ∀ k ∈ b,k < 256 := by
 cases n with
 | zero => simp [Shp] at h
 | succ n =>
  simp only [Shp,Tryz.underlying44] at h
  obtain ⟨xs,rfl,hb,hx⟩ := h
  obtain ⟨l,rfl,hl⟩ := list_map2 (f := fun k : Nat => [AV.int .u8 (k : Int)]) (q := fun k => k < 256) (xs := xs) fun x hxx => shp_u8 (hx x hxx)
  rw [bytes5] at hb
  exact ⟨l,by rw [cells5]; rfl,by simpa using hb,hl⟩
theorem cells44 : Tryz.prog.cellsOf 44 = 1 := by kernel_rfl
theorem bytes44 : Tryz.prog.bytesOf 44 = 24 := by kernel_rfl
theorem shp_descs {n : Nat} {avs : List AV} (h : Shp Tryz.prog n 40 avs) : ∃ l : List (List Nat),avs = [.sl false 1 (encBs l)] ∧ l.length * 24 ≤ reachBytes ∧ ∀ b ∈ l,∀ k ∈ b,k < 256 := by
 cases n with
 | zero => simp [Shp] at h
 | succ n =>
  simp only [Shp,Tryz.underlying40] at h
  obtain ⟨xs,rfl,hb,hx⟩ := h
  obtain ⟨l,rfl,hl⟩ := list_map2 (f := fun b : List Nat => [AV.sl false 1 (encB b)]) (q := fun b => ∀ k ∈ b,k < 256) (xs := xs) fun x hxx => by
   obtain ⟨b,h1,_,h2⟩ := shp_bytes (hx x hxx)
   exact ⟨b,h1,h2⟩
  rw [bytes44] at hb
  exact ⟨l,by rw [cells44]; rfl,by simpa using hb,hl⟩
theorem shp_draft {n : Nat} {avs : List AV} (h : Shp Tryz.prog n 43 avs) : ∃ d : Dr13,avs = encD d ∧ d.t.length * 24 ≤ reachBytes ∧ (∀ b ∈ d.t,∀ k ∈ b,k < 256) ∧ d.s < 65536 := by
 cases n with
 | zero => simp [Shp] at h
 | succ n =>
  simp only [Shp,Tryz.underlying43,ShpF] at h
  obtain ⟨p1,q1,rfl,h1,p2,q2,rfl,h2,p3,q3,rfl,h3,rfl⟩ := h
  obtain ⟨a,rfl,ha,hk⟩ := shp_descs h1
  obtain ⟨b,rfl⟩ := shp_bool h2
  obtain ⟨c,rfl,hc⟩ := shp_u16 h3
  exact ⟨⟨a,b,c⟩,by simp [encD],ha,hk,hc⟩
section
open Go.RowKit Go.ChangeShapes Go.WideShapes
variable {P : Program} {num : Nat → Option Nat} {W : World} {H : Type} {enc : TypeId × Value → H} {S : List TypeId} {base b0 : Nat} {spare : Nat → Bool} {held : Bool} {r : Reach}
theorem arg_slice [Dr] (hS : okSet P S = true) {t e : TypeId} (ht : t ∈ S) (hu : P.underlying t = some (.slice e)) {v : Value} {d : DataW H} {p : List MemPlace} (hv : Value.okWide P W r b0 t v)
  (h : DataW.Trod enc P W base spare held t v d p) (hw : ∀ n ∈ d.weights P t,n ≤ reachBytes) : ∃ n xs,Shp P n t [.sl false (P.cellsOf e) xs] ∧ RepV num [] W (mW W) (.sl false (P.cellsOf e) xs) v := by
 obtain ⟨a,len,cap,rfl⟩ := okWide_slice hu hv
 obtain ⟨fuel,hf⟩ := h
 obtain ⟨avs,h1,h2,h3,h4⟩ := trod_shape (num := num) (β := []) hS fuel t _ _ ht hf hw
 cases fuel with
 | zero => simp [Shp] at h1
 | succ n =>
  have h1' := h1
  simp only [Shp,hu] at h1
  obtain ⟨xs,rfl,hb,hx⟩ := h1
  refine ⟨n + 1,xs,h1',?_⟩
  simp only [RepC] at h4
  obtain ⟨⟨u,h5,h6⟩,_⟩ := h4
  simp [Value.cells] at h5
  subst h5
  exact h6.2
end
end Go.Proofs.YteahheknpdcoeaaGreatDoor
