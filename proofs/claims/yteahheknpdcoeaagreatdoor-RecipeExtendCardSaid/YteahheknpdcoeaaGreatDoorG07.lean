/-
  Am12, Am13.
-/
import Derived.Test.YteahheknpdcoeaaGreatDoorG06
set_option linter.unusedVariables false
set_option linter.unusedSimpArgs false
namespace Go.Am
def dirOr (pt : Nat → Nat → Nat → Bool) (q s off : Nat) : Bool := pt q s off || (decide (q = s) && decide (off = 0))
def okCall1 (num : Nat → Option Nat) (b : Builtin) (x : AO) (c : Call) (ty : TypeId → Bool) : Bool :=
 match c with
 | ⟨.builtin b',⟨[y]⟩,⟨[t]⟩⟩ => decide (b = b') && ty t && okO num x y
 | _ => false
def okOp (P : Program) (num : Nat → Option Nat) (pt : Nat → Nat → Nat → Bool) (x : AOp) (o : Op) : Bool :=
 match x with
 | .mov x => (match o with | .move y => okO num x y | .assign y => okO num x y | _ => false)
 | .mvs n => (match o with | .move (.tmp t) => decide (n = t) | .assign (.tmp t) => decide (n = t) | _ => false)
 | .box x => (match o with | .box _ y => okO num x y | _ => false)
 | .alloc zs => (match o with | .alloc t => zeroIs P t zs | _ => false)
 | .gbox x => (match o with | .box _ y => okO num x y | _ => false)
 | .galloc zs => (match o with | .alloc t => zeroIs P t zs | _ => false)
 | .fad s off => (match o with
  | .fieldAddr ty (.tmp q) f => (decide (q = s) && fieldIs P ty f off) || (List.range (off + 1)).any fun o2 => pt q s o2 && fieldIs P ty f (off - o2)
  | _ => false)
 | .fadr p off => (match o with | .fieldAddr ty (.tmp q) f => decide (p = q) && fieldIs P ty f off | _ => false)
 | .ldf s off sz ag => (match o with | .load t (.tmp q) => sizeIs P t sz && aggIs P t ag && dirOr pt q s off | _ => false)
 | .ldfm s off => (match o with | .load t (.tmp q) => aggIs P t false && dirOr pt q s off | _ => false)
 | .ld p sz ag => (match o with | .load t (.tmp q) => decide (p = q) && sizeIs P t sz && aggIs P t ag | _ => false)
 | .ldg p sz ag => (match o with | .load t (.tmp q) => decide (p = q) && sizeIs P t sz && aggIs P t ag | _ => false)
 | .ldm p => (match o with | .load t (.tmp q) => decide (p = q) && aggIs P t false | _ => false)
 | .stf s off sz x => (match o with | .store t (.tmp q) y => sizeIs P t sz && okO num x y && dirOr pt q s off | _ => false)
 | .stn s off sz x _ => (match o with | .store t (.tmp q) y => sizeIs P t sz && okO num x y && dirOr pt q s off | _ => false)
 | .stfm s off n => (match o with | .store t (.tmp q) (.tmp n2) => decide (n = n2) && sizeIs P t 1 && dirOr pt q s off | _ => false)
 | .st p sz x => (match o with | .store t (.tmp q) y => decide (p = q) && sizeIs P t sz && okO num x y | _ => false)
 | .stm p n => (match o with | .store t (.tmp q) (.tmp n2) => decide (p = q) && decide (n = n2) && sizeIs P t 1 | _ => false)
 | .bin op x y => (match o with | .binOp op2 _ x2 y2 _ => decide (op = op2) && okO num x x2 && okO num y y2 | _ => false)
 | .eqb ne x y => (match o with | .binOp op2 t x2 y2 _ => decide (op2 = if ne then .neq else .eql) && boolT P t && okO num x x2 && okO num y y2 | _ => false)
 | .eqn ne x => (match o with | .binOp op2 t x2 (.const .nilIface) _ => decide (op2 = if ne then .neq else .eql) && ifaceT P t && okO num x x2 | _ => false)
 | .eqa ne ks x y => (match o with | .binOp op2 t x2 y2 _ => decide (op2 = if ne then .neq else .eql) && eqaT P t ks && okO num x x2 && okO num y y2 | _ => false)
 | .isn ne x => (match o with | .binOp op2 t x2 (.const (.slice none 0 0)) _ => decide (op2 = if ne then .neq else .eql) && slT P t && okO num x x2 | _ => false)
 | .un op x => (match o with | .unOp op2 _ x2 => decide (op = op2) && okO num x x2 | _ => false)
 | .conv k x => (match o with | .convert s t x2 => intT P s t k && okO num x x2 | _ => false)
 | .call f args => (match o with | .call ⟨.value (.func g),⟨ys⟩,_⟩ => decide (num f = some g) && okOs num args ys | _ => false)
 | .callv g args => (match o with | .call ⟨.value x2,⟨ys⟩,_⟩ => okO num g x2 && okOs num args ys | _ => false)
 | .lens x => (match o with | .call c => okCall1 num .len x c (strT P) | _ => false)
 | .lenl x => (match o with | .call c => okCall1 num .len x c (slT P) | _ => false)
 | .app bytes sz s x => (match o with | .call ⟨.builtin .append,⟨[s2,x2]⟩,⟨[t,t2]⟩⟩ => decide (t = t2) && appT P t bytes sz && okO num s s2 && okO num x x2 | _ => false)
 | .appg bytes sz s x => (match o with | .call ⟨.builtin .append,⟨[s2,x2]⟩,⟨[t,t2]⟩⟩ => decide (t = t2) && appT P t bytes sz && okO num s s2 && okO num x x2 | _ => false)
 | .appz bytes sz n x => (match o with | .call ⟨.builtin .append,⟨[.tmp n2,x2]⟩,⟨[t,t2]⟩⟩ => decide (t = t2) && decide (n = n2) && appT P t bytes sz && okO num x x2 | _ => false)
 | .zlit => (match o with | .buildSlice t 0 ⟨[]⟩ => (match P.underlying t with | some (.slice e) => (match P.info? e with | some i => slLit P t i.size 0 | none => false) | _ => false) | _ => false)
 | .appzz s x => (match o with | .call ⟨.builtin .append,⟨[s2,x2]⟩,⟨[t,t2]⟩⟩ => decide (t = t2) && (match P.underlying t with | some (.slice e) => (match P.info? e with | some i => appT P t i.bytes i.size | none => false) | _ => false) && okO num s s2 && okO num x x2 | _ => false)
 | .frz n _ => (match o with | .move (.tmp t) => decide (n = t) | .assign (.tmp t) => decide (n = t) | _ => false)
 | .clr sz x => (match o with | .call c => okCall1 num .clear x c (fun t => clrT P t sz) | _ => false)
 | .mx x y => (match o with | .call ⟨.builtin .max,⟨[x2,y2]⟩,_⟩ => okO num x x2 && okO num y y2 | _ => false)
 | .mn x y => (match o with | .call ⟨.builtin .min,⟨[x2,y2]⟩,_⟩ => okO num x x2 && okO num y y2 | _ => false)
 | .mksl sz parts => (match o with | .buildSlice t n ⟨ps⟩ => decide (n = ps.length) && decide (ps.map (·.1) = List.range n) && slLit P t sz n && okOs num parts (ps.map (·.2)) | _ => false)
 | .mkst zs parts => (match o with | .build t ⟨ps⟩ => stOk P num t zs parts ps | _ => false)
 | .idxa sz x i => (match o with | .indexAddr t x2 i2 => elemIs P t sz && okO num x x2 && okO num i i2 | _ => false)
 | .idx x i => (match o with | .index t x2 i2 => strT P t && okO num x x2 && okO num i i2 | _ => false)
 | .slcs x lo hi => (match o with | .slice t x2 lo2 hi2 none => strT P t && okO num x x2 && okOpt num lo lo2 && okOpt num hi hi2 | _ => false)
 | .slcl sz x lo hi => (match o with | .slice t x2 lo2 hi2 none => elemIs P t sz && okO num x x2 && okOpt num lo lo2 && okOpt num hi hi2 | _ => false)
 | .slz sz x => (match o with | .slice t x2 none (some (.const (.int _ 0))) (some (.const (.int _ 0))) => elemIs P t sz && okO num x x2 | _ => false)
 | .pick c x y => (match o with | .pick c2 x2 y2 => okO num c c2 && okO num x x2 && okO num y y2 | _ => false)
 | .ext x i => (match o with | .extract x2 i2 => decide (i = i2) && okO num x x2 | _ => false)
 | .mkfn f caps => (match o with | .makeFunc (.func g) ⟨[]⟩ ⟨cs⟩ => decide (num f = some g) && okOs num caps cs | _ => false)
 | .nilck x => (match o with | .nilCheck x2 => okO num x x2 | _ => false)
 | .fld off sz ag x => (match o with | .field t x2 f => fldIs P t f off sz ag && okO num x x2 | _ => false)
 | .mkg bytes sz zs x => (match o with | .makeSlice t (.tmp l) (.tmp c) => decide (l = c) && mkT P t bytes sz zs && okO num x (.tmp l) | _ => false)
 | .ldfz s off sz _ _ => (match o with | .load t (.tmp q) => sizeIs P t sz && aggIs P t true && dirOr pt q s off | _ => false)
 | .appM bytes sz s x => (match o with | .call ⟨.builtin .append,⟨[s2,x2]⟩,⟨[t,t2]⟩⟩ => decide (t = t2) && appT P t bytes sz && okO num s s2 && okO num x x2 | _ => false)
 | .stq p sz x _ => (match o with | .store t (.tmp q) y => decide (p = q) && sizeIs P t sz && okO num x y | _ => false)
 | .slcx sz x lo hi => (match o with | .slice t x2 lo2 hi2 none => elemIs P t sz && okO num x x2 && okOpt num lo lo2 && okOpt num hi hi2 | _ => false)
 | .slcc sz x lo hi mx => (match o with | .slice t x2 lo2 (some hi2) (some mx2) => elemIs P t sz && okO num x x2 && okOpt num lo lo2 && okO num hi hi2 && okO num mx mx2 | _ => false)
 | .mkm => (match o with | .makeMap _ none => true | _ => false)
 | .lkm s ok x i z => (match o with | .lookup t x2 i2 ok2 => decide (ok = ok2) && lkT P s t z && okO num x x2 && okO num i i2 | _ => false)
 | .upm s x k y => (match o with | .mapUpdate t x2 k2 y2 => mapT P s t && okO num x x2 && okO num k k2 && okO num y y2 | _ => false)
theorem zip_of {ps : List (Nat × Operand)} (h : ps.map (·.1) = List.range ps.length) : (ps.map (·.2)).zipIdx.map (fun p => (p.2,p.1)) = ps := by
 apply List.ext_getElem?
 intro i
 rw [List.getElem?_map,List.getElem?_zipIdx,List.getElem?_map]
 cases hp : ps[i]? with
 | none => rfl
 | some p =>
  have hlt : i < ps.length := by
   rcases Nat.lt_or_ge i ps.length with h | h
   ·exact h
   ·rw [List.getElem?_eq_none h] at hp; cases hp
  have := congrArg (fun l => l[i]?) h
  simp only [List.getElem?_map,hp,Option.map_some,List.getElem?_range hlt,Option.some.injEq] at this
  simp [← this]
section
variable {P : Program} {num : Nat → Option Nat} {β : List Blk} {w w' : World} {m : Nat → Nat} {ν : Own} {N : Nat} {w0 : World} {m0 : Nat → Nat} {T : Nat → Prop} {β0 : List Blk} {σ σ1 : St} {a : Act}
 {o : Oper} {next : Act → World → Prop} {Q : Exit → Act → World → Prop} {K : CallF} {v : AV}
theorem dirOr_of {pt : Nat → Nat → Nat → Bool} {q s off : Nat} (h : dirOr pt q s off = true) (hpt : ∀ q s off,pt q s off = true → PtrAt a q s off) : PtrAt a q s off ∨ (q = s ∧ off = 0) := by
 unfold dirOr at h
 simp only [Bool.or_eq_true,Bool.and_eq_true,decide_eq_true_eq] at h
 exact h.imp (hpt _ _ _) id
theorem op_sound [Dr] {Γ : Glob} (hI : Inv num N w0 m0 T β0 σ a w m β ν) (hE : Enters P num) (hK : KOk P num Γ K) (hG : Γ.G w0) (hGb : Γ.Gb ≤ w0.heap.size) (hT : ∀ b,T b → Γ.Gb ≤ b)
  {pt : Nat → Nat → Nat → Bool} (hpt : ∀ q s off,pt q s off = true → PtrAt a q s off) {x : AOp} (hok : okOp P num pt x o.op = true) (he : exec K x σ = some (v,σ1))
  (h : ∀ (u : Value) (w' : World) (m' : Nat → Nat) (β' : List Blk) (ν' : Own),Inv num N w0 m0 T β0 σ1 a w' m' β' ν' → SlotV num β' w' m' ν' .f (fun i => .fc i) v u →
   (∀ s off,x = .fad s off → ∃ b,a.tmps.getD s undef = .pointer (some ⟨b,0,none⟩) ∧ u = .pointer (some ⟨b,off,none⟩)) → next (a.put o.dst u) w') : o.wp P a w next Q := by
 have hA : (∀ s off,x ≠ .fad s off) → Aft num N w0 m0 T β0 σ1 a v fun u w' => next (a.put o.dst u) w' := fun hne u w' m' β' ν' k1 k2 => h u w' m' β' ν' k1 k2 fun s off e => absurd e (hne s off)
 have hS : (∀ s off,x ≠ .fad s off) → ∀ w' m' β' ν',Inv num N w0 m0 T β0 σ1 a w' m' β' ν' → v = .undef → next (a.put o.dst undef) w' := fun hne w' m' β' ν' k1 k2 => h undef w' m' β' ν' k1 (by subst k2; exact trivial) fun s off e => absurd e (hne s off)
 cases x <;> simp only [okOp] at hok
 case mov x =>
  split at hok
  ·rename_i y ho; exact ex_mov hI (.inl ho) hok he (hA (by simp))
  ·rename_i y ho; exact ex_mov hI (.inr ho) hok he (hA (by simp))
  ·cases hok
 case mvs n =>
  split at hok
  ·rename_i y ho; simp only [decide_eq_true_eq] at hok; subst hok; exact ex_mvs hI (.inl ho) he (hA (by simp))
  ·rename_i y ho; simp only [decide_eq_true_eq] at hok; subst hok; exact ex_mvs hI (.inr ho) he (hA (by simp))
  ·cases hok
 case box x =>
  split at hok
  ·rename_i t y ho; exact ex_box hI ho hok he (hA (by simp))
  ·cases hok
 case alloc zs =>
  split at hok
  ·rename_i t ho; exact ex_alloc hI ho hok he (hA (by simp))
  ·cases hok
 case gbox x =>
  split at hok
  ·rename_i t y ho; exact ex_gbox hI ho hok he (hA (by simp))
  ·cases hok
 case galloc zs =>
  split at hok
  ·rename_i t ho; exact ex_galloc hI ho hok he (hA (by simp))
  ·cases hok
 case fad s off =>
  split at hok
  ·rename_i ty q f ho
   have hbx : ∃ cs,σ.env s = .bx cs := by
    simp only [exec] at he
    split at he
    ·exact ⟨_,by assumption⟩
    ·cases he
   obtain ⟨cs,hcs⟩ := hbx
   obtain ⟨b,cur,e,h1,h2,_⟩ := hI.box_at (q := s) (off := 0) hcs (.inr ⟨rfl,rfl⟩)
   simp only [Bool.or_eq_true,Bool.and_eq_true,decide_eq_true_eq,List.any_eq_true,List.mem_range] at hok
   rcases hok with ⟨rfl,hf⟩ | ⟨o2,ho2,hp,hf⟩
   ·refine ex_fad hI ho hf h2 he fun k1 k2 => ?_
    rw [Nat.zero_add]
    refine h _ w m β ν k1 (by subst k2; exact trivial) fun s2 off2 e => ?_
    injection e with e1 e2
    subst e1 e2
    exact ⟨b,h2,rfl⟩
   ·obtain ⟨b2,p1,p2⟩ := hpt _ _ _ hp
    refine ex_fad hI ho hf (show a.eval (.tmp q) = _ from p2) he fun k1 k2 => ?_
    rw [show o2 + (off - o2) = off by omega]
    refine h _ w m β ν k1 (by subst k2; exact trivial) fun s2 off2 e => ?_
    injection e with e1 e2
    subst e1 e2
    exact ⟨b2,p1,rfl⟩
  ·cases hok
 case fadr p off =>
  split at hok
  ·rename_i ty q f ho
   simp only [Bool.and_eq_true,decide_eq_true_eq] at hok
   obtain ⟨rfl,hf⟩ := hok
   exact ex_fadr hI ho hf he (hA (by simp))
  ·cases hok
 case ldf s off sz ag =>
  split at hok
  ·rename_i t q ho
   simp only [Bool.and_eq_true] at hok
   exact ex_ldf hI ho hok.1.1 hok.1.2 (dirOr_of hok.2 hpt) he (hA (by simp))
  ·cases hok
 case ldfm s off =>
  split at hok
  ·rename_i t q ho
   simp only [Bool.and_eq_true] at hok
   exact ex_ldfm hI ho hok.1 (dirOr_of hok.2 hpt) he (hA (by simp))
  ·cases hok
 case ld p sz ag =>
  split at hok
  ·rename_i t q ho
   simp only [Bool.and_eq_true,decide_eq_true_eq] at hok
   obtain ⟨⟨rfl,h1⟩,h2⟩ := hok
   exact ex_ld hI ho h1 h2 he (hA (by simp))
  ·cases hok
 case ldg p sz ag =>
  split at hok
  ·rename_i t q ho
   simp only [Bool.and_eq_true,decide_eq_true_eq] at hok
   obtain ⟨⟨rfl,h1⟩,h2⟩ := hok
   exact ex_ldg hI ho h1 h2 he (hA (by simp))
  ·cases hok
 case ldm p =>
  split at hok
  ·rename_i t q ho
   simp only [Bool.and_eq_true,decide_eq_true_eq] at hok
   obtain ⟨rfl,h2⟩ := hok
   exact ex_ldm hI ho h2 he (hA (by simp))
  ·cases hok
 case stf s off sz x =>
  split at hok
  ·rename_i t q y ho
   simp only [Bool.and_eq_true] at hok
   exact ex_stf hI ho hok.1.1 hok.1.2 (dirOr_of hok.2 hpt) he (hS (by simp))
  ·cases hok
 case stn s off sz x zs =>
  split at hok
  ·rename_i t q y ho
   simp only [Bool.and_eq_true] at hok
   exact ex_stn hI ho hok.1.1 hok.1.2 (dirOr_of hok.2 hpt) he (hS (by simp))
  ·cases hok
 case stfm s off n =>
  split at hok
  ·rename_i t q n2 ho
   simp only [Bool.and_eq_true,decide_eq_true_eq] at hok
   obtain ⟨⟨rfl,h1⟩,h2⟩ := hok
   exact ex_stfm hI ho h1 (dirOr_of h2 hpt) he (hS (by simp))
  ·cases hok
 case st p sz x =>
  split at hok
  ·rename_i t q y ho
   simp only [Bool.and_eq_true,decide_eq_true_eq] at hok
   obtain ⟨⟨rfl,h1⟩,h2⟩ := hok
   exact ex_st hI ho h1 h2 he (hS (by simp))
  ·cases hok
 case stm p n =>
  split at hok
  ·rename_i t q n2 ho
   simp only [Bool.and_eq_true,decide_eq_true_eq] at hok
   obtain ⟨⟨rfl,rfl⟩,h1⟩ := hok
   exact ex_stm hI ho h1 he (hS (by simp))
  ·cases hok
 case bin op x y =>
  split at hok
  ·rename_i op2 t x2 y2 t2 ho
   simp only [Bool.and_eq_true,decide_eq_true_eq] at hok
   obtain ⟨⟨rfl,h1⟩,h2⟩ := hok
   exact ex_bin hI ho h1 h2 he (hA (by simp))
  ·cases hok
 case eqb ne x y =>
  split at hok
  ·rename_i op2 t x2 y2 t2 ho
   simp only [Bool.and_eq_true,decide_eq_true_eq] at hok
   obtain ⟨⟨⟨rfl,h1⟩,h2⟩,h3⟩ := hok
   exact ex_eqb hI ho h1 h2 h3 he (hA (by simp))
  ·cases hok
 case eqn ne x =>
  split at hok
  ·rename_i op2 t x2 t2 ho
   simp only [Bool.and_eq_true,decide_eq_true_eq] at hok
   obtain ⟨⟨rfl,h1⟩,h2⟩ := hok
   exact ex_eqn hI ho h1 h2 he (hA (by simp))
  ·cases hok
 case eqa ne ks x y =>
  split at hok
  ·rename_i op2 t x2 y2 t2 ho
   simp only [Bool.and_eq_true,decide_eq_true_eq] at hok
   obtain ⟨⟨⟨rfl,h1⟩,h2⟩,h3⟩ := hok
   exact ex_eqa hI ho h1 h2 h3 he (hA (by simp))
  ·cases hok
 case isn ne x =>
  split at hok
  ·rename_i op2 t x2 t2 ho
   simp only [Bool.and_eq_true,decide_eq_true_eq] at hok
   obtain ⟨⟨rfl,h1⟩,h2⟩ := hok
   exact ex_isn hI ho h1 h2 he (hA (by simp))
  ·cases hok
 case un op x =>
  split at hok
  ·rename_i op2 t x2 ho
   simp only [Bool.and_eq_true,decide_eq_true_eq] at hok
   obtain ⟨rfl,h1⟩ := hok
   exact ex_un hI ho h1 he (hA (by simp))
  ·cases hok
 case conv k x =>
  split at hok
  ·rename_i s t x2 ho
   simp only [Bool.and_eq_true] at hok
   exact ex_conv hI ho hok.1 hok.2 he (hA (by simp))
  ·cases hok
 case call f args =>
  split at hok
  ·rename_i g ys ts ho
   simp only [Bool.and_eq_true,decide_eq_true_eq] at hok
   exact ex_call hI hE hK hG hGb hT ho hok.1 hok.2 he (hA (by simp))
  ·cases hok
 case callv g args =>
  split at hok
  ·rename_i x2 ys ts ho
   simp only [Bool.and_eq_true] at hok
   exact ex_callv hI hE hK hG hGb hT ho hok.1 hok.2 he (hA (by simp))
  ·cases hok
 case lens x =>
  split at hok
  ·rename_i c ho
   unfold okCall1 at hok
   split at hok
   ·rename_i b2 y t
    simp only [Bool.and_eq_true,decide_eq_true_eq] at hok
    obtain ⟨⟨rfl,h1⟩,h2⟩ := hok
    exact ex_lens hI ho h1 h2 he (hA (by simp))
   ·cases hok
  ·cases hok
 case lenl x =>
  split at hok
  ·rename_i c ho
   unfold okCall1 at hok
   split at hok
   ·rename_i b2 y t
    simp only [Bool.and_eq_true,decide_eq_true_eq] at hok
    obtain ⟨⟨rfl,h1⟩,h2⟩ := hok
    exact ex_lenl hI ho h1 h2 he (hA (by simp))
   ·cases hok
  ·cases hok
 case app bytes sz s x =>
  split at hok
  ·rename_i s2 x2 t t2 ho
   simp only [Bool.and_eq_true,decide_eq_true_eq] at hok
   obtain ⟨⟨⟨rfl,h1⟩,h2⟩,h3⟩ := hok
   exact ex_app hI ho h1 h2 h3 he (hA (by simp))
  ·cases hok
 case appg bytes sz s x =>
  split at hok
  ·rename_i s2 x2 t t2 ho
   simp only [Bool.and_eq_true,decide_eq_true_eq] at hok
   obtain ⟨⟨⟨rfl,h1⟩,h2⟩,h3⟩ := hok
   exact ex_appg hI ho h1 h2 h3 he (hA (by simp))
  ·cases hok
 case appz bytes sz n x =>
  split at hok
  ·rename_i n2 x2 t t2 ho
   simp only [Bool.and_eq_true,decide_eq_true_eq] at hok
   obtain ⟨⟨⟨rfl,rfl⟩,h2⟩,h3⟩ := hok
   exact ex_appz hI ho h2 h3 he (hA (by simp))
  ·cases hok
 case zlit =>
  split at hok
  ·rename_i t ho
   split at hok
   ·split at hok
    ·exact ex_zlit hI ho hok he (hA (by simp))
    ·cases hok
   ·cases hok
  ·cases hok
 case appzz s x =>
  split at hok
  ·rename_i s2 x2 t t2 ho
   simp only [Bool.and_eq_true,decide_eq_true_eq] at hok
   obtain ⟨⟨⟨rfl,h1⟩,h2⟩,h3⟩ := hok
   split at h1
   ·split at h1
    ·exact ex_appzz hI ho h1 h2 h3 he (hA (by simp))
    ·cases h1
   ·cases h1
  ·cases hok
 case frz n sz =>
  split at hok
  ·rename_i y ho; simp only [decide_eq_true_eq] at hok; subst hok; exact ex_frz hI (.inl ho) he (hA (by simp))
  ·rename_i y ho; simp only [decide_eq_true_eq] at hok; subst hok; exact ex_frz hI (.inr ho) he (hA (by simp))
  ·cases hok
 case clr sz x =>
  split at hok
  ·rename_i c ho
   unfold okCall1 at hok
   split at hok
   ·rename_i b2 y t
    simp only [Bool.and_eq_true,decide_eq_true_eq] at hok
    obtain ⟨⟨rfl,h1⟩,h2⟩ := hok
    exact ex_clr hI ho h1 h2 he (hA (by simp))
   ·cases hok
  ·cases hok
 case mx x y =>
  split at hok
  ·rename_i x2 y2 ts ho
   simp only [Bool.and_eq_true] at hok
   exact ex_mx hI ho hok.1 hok.2 he (hA (by simp))
  ·cases hok
 case mn x y =>
  split at hok
  ·rename_i x2 y2 ts ho
   simp only [Bool.and_eq_true] at hok
   exact ex_mn hI ho hok.1 hok.2 he (hA (by simp))
  ·cases hok
 case mksl sz parts =>
  split at hok
  ·rename_i t n ps ho
   simp only [Bool.and_eq_true,decide_eq_true_eq] at hok
   obtain ⟨⟨⟨rfl,h1⟩,h2⟩,h3⟩ := hok
   have hz := zip_of h1
   refine ex_mksl (ps := ps.map (·.2)) (t := t) hI ?_ (by simpa using h2) h3 he (hA (by simp))
   rw [ho,hz,List.length_map]
  ·cases hok
 case mkst zs parts =>
  split at hok
  ·rename_i t ps ho
   exact ex_mkst hI ho hok he (hA (by simp))
  ·cases hok
 case idxa sz x i =>
  split at hok
  ·rename_i t x2 i2 ho
   simp only [Bool.and_eq_true] at hok
   exact ex_idxa hI ho hok.1.1 hok.1.2 hok.2 he (hA (by simp))
  ·cases hok
 case idx x i =>
  split at hok
  ·rename_i t x2 i2 ho
   simp only [Bool.and_eq_true] at hok
   exact ex_idx hI ho hok.1.1 hok.1.2 hok.2 he (hA (by simp))
  ·cases hok
 case slcs x lo hi =>
  split at hok
  ·rename_i t x2 lo2 hi2 ho
   simp only [Bool.and_eq_true] at hok
   exact ex_slcs hI ho hok.1.1.1 hok.1.1.2 hok.1.2 hok.2 he (hA (by simp))
  ·cases hok
 case slcl sz x lo hi =>
  split at hok
  ·rename_i t x2 lo2 hi2 ho
   simp only [Bool.and_eq_true] at hok
   exact ex_slcl hI ho hok.1.1.1 hok.1.1.2 hok.1.2 hok.2 he (hA (by simp))
  ·cases hok
 case slz sz x =>
  split at hok
  ·rename_i t x2 k1 k2 ho
   simp only [Bool.and_eq_true] at hok
   exact ex_slz hI ho hok.1 hok.2 he (hA (by simp))
  ·cases hok
 case pick c x y =>
  split at hok
  ·rename_i c2 x2 y2 ho
   simp only [Bool.and_eq_true] at hok
   exact ex_pick hI ho hok.1.1 hok.1.2 hok.2 he (hA (by simp))
  ·cases hok
 case ext x i =>
  split at hok
  ·rename_i x2 i2 ho
   simp only [Bool.and_eq_true,decide_eq_true_eq] at hok
   obtain ⟨rfl,h1⟩ := hok
   exact ex_ext hI ho h1 he (hA (by simp))
  ·cases hok
 case mkfn f caps =>
  split at hok
  ·rename_i g cs ho
   simp only [Bool.and_eq_true,decide_eq_true_eq] at hok
   exact ex_mkfn hI ho hok.1 hok.2 he (hA (by simp))
  ·cases hok
 case nilck x =>
  split at hok
  ·rename_i x2 ho
   exact ex_nilck hI ho hok he (hA (by simp))
  ·cases hok
 case fld off sz ag x =>
  split at hok
  ·rename_i t x2 f ho
   simp only [Bool.and_eq_true] at hok
   exact ex_fld hI ho hok.1 hok.2 he (hA (by simp))
  ·cases hok
 case mkg bytes sz zs x =>
  split at hok
  ·rename_i t l c ho
   simp only [Bool.and_eq_true,decide_eq_true_eq] at hok
   obtain ⟨⟨rfl,h1⟩,h2⟩ := hok
   exact ex_mkg hI ho h1 h2 he (hA (by simp))
  ·cases hok
 case ldfz s off sz fo fz =>
  split at hok
  ·rename_i t q ho
   simp only [Bool.and_eq_true] at hok
   exact ex_ldfz hI ho hok.1.1 hok.1.2 (dirOr_of hok.2 hpt) he (hA (by simp))
  ·cases hok
 case appM bytes sz s x =>
  split at hok
  ·rename_i s2 x2 t t2 ho
   simp only [Bool.and_eq_true,decide_eq_true_eq] at hok
   obtain ⟨⟨⟨rfl,h1⟩,h2⟩,h3⟩ := hok
   exact ex_appM hI ho h1 h2 h3 he (hA (by simp))
  ·cases hok
 case stq p sz x q =>
  split at hok
  ·rename_i t q2 y ho
   simp only [Bool.and_eq_true,decide_eq_true_eq] at hok
   obtain ⟨⟨rfl,h1⟩,h2⟩ := hok
   have he2 : exec K (.st p sz x) σ = some (v,σ1) := by
    simp only [exec] at he ⊢
    split at he
    ·rename_i i o2 i2 o3 e1 e2
     rw [e1]
     split at he
     ·cases he
     ·exact he
    ·cases he
   exact ex_st hI ho h1 h2 he2 (hS (by simp))
  ·cases hok
 case slcx sz x lo hi =>
  split at hok
  ·rename_i ho
   simp only [Bool.and_eq_true] at hok
   exact ex_slcx hI ho hok.1.1.1 hok.1.1.2 hok.1.2 hok.2 he (hA (by simp))
  ·cases hok
 case slcc sz x lo hi mx =>
  split at hok
  ·rename_i ho
   simp only [Bool.and_eq_true] at hok
   exact ex_slcc hI ho hok.1.1.1.1 hok.1.1.1.2 hok.1.1.2 hok.1.2 hok.2 he (hA (by simp))
  ·cases hok
 case mkm =>
  split at hok
  ·rename_i t ho
   exact ex_mkm hI ho he (hA (by simp))
  ·cases hok
 case lkm s ok x i z =>
  split at hok
  ·rename_i t x2 i2 ok2 ho
   simp only [Bool.and_eq_true,decide_eq_true_eq] at hok
   obtain ⟨⟨⟨rfl,h1⟩,h2⟩,h3⟩ := hok
   exact ex_lkm hI ho h1 h2 h3 he (hA (by simp))
  ·cases hok
 case upm s x k y =>
  split at hok
  ·rename_i t x2 k2 y2 ho
   simp only [Bool.and_eq_true] at hok
   obtain ⟨⟨⟨h1,h2⟩,h3⟩,h4⟩ := hok
   exact ex_upm hI ho h1 h2 h3 h4 he (hS (by simp))
  ·cases hok
end
end Go.Am
namespace Go.Am
def rdO : AO → List Nat
 | .t n => [n]
 | .c _ => []
def rdOs (xs : List AO) : List Nat := xs.flatMap rdO
def rdOpt : Option AO → List Nat
 | some x => rdO x
 | none => []
def rdOp : AOp → List Nat
 | .mov x => rdO x
 | .mvs n => [n]
 | .box x => rdO x
 | .alloc _ => []
 | .gbox x => rdO x
 | .galloc _ => []
 | .fad s _ => [s]
 | .fadr p _ => [p]
 | .ldf s _ _ _ => [s]
 | .ldfm s _ => [s]
 | .ld p _ _ => [p]
 | .ldg p _ _ => [p]
 | .ldm p => [p]
 | .stf s _ _ x => s :: rdO x
 | .stn s _ _ x _ => s :: rdO x
 | .stfm s _ n => [s,n]
 | .st p _ x => p :: rdO x
 | .stm p n => [p,n]
 | .bin _ x y => rdO x ++ rdO y
 | .eqb _ x y => rdO x ++ rdO y
 | .eqn _ x => rdO x
 | .eqa _ _ x y => rdO x ++ rdO y
 | .isn _ x => rdO x
 | .un _ x => rdO x
 | .conv _ x => rdO x
 | .call _ args => rdOs args
 | .callv g args => rdO g ++ rdOs args
 | .lens x => rdO x
 | .lenl x => rdO x
 | .app _ _ s x => rdO s ++ rdO x
 | .appg _ _ s x => rdO s ++ rdO x
 | .appz _ _ n x => n :: rdO x
 | .frz n _ => [n]
 | .zlit => []
 | .appzz s x => rdO s ++ rdO x
 | .clr _ x => rdO x
 | .mx x y => rdO x ++ rdO y
 | .mn x y => rdO x ++ rdO y
 | .mksl _ parts => rdOs parts
 | .mkst _ parts => rdOs (parts.map fun p => p.2.2)
 | .idxa _ x i => rdO x ++ rdO i
 | .idx x i => rdO x ++ rdO i
 | .slcs x lo hi => rdO x ++ (rdOpt lo ++ rdOpt hi)
 | .slcl _ x lo hi => rdO x ++ (rdOpt lo ++ rdOpt hi)
 | .slz _ x => rdO x
 | .pick c a b => rdO c ++ (rdO a ++ rdO b)
 | .ext x _ => rdO x
 | .mkfn _ caps => rdOs caps
 | .nilck x => rdO x
 | .mkm => []
 | .ldfz s _ _ _ _ => [s]
 | .mkg _ _ _ x => rdO x
 | .fld _ _ _ x => rdO x
 | .appM _ _ s x => rdO s ++ rdO x
 | .stq p _ x q => p :: q :: rdO x
 | .slcx _ x lo hi => rdO x ++ (rdOpt lo ++ rdOpt hi)
 | .slcc _ x lo hi mx => rdO x ++ (rdOpt lo ++ (rdO hi ++ rdO mx))
 | .lkm _ _ x i _ => rdO x ++ rdO i
 | .upm _ x k y => rdO x ++ (rdO k ++ rdO y)
def wrOp : AOp → List Nat
 | .mvs n => [n]
 | .ldfm s _ => [s]
 | .stf s _ _ _ => [s]
 | .stn s _ _ _ _ => [s]
 | .stfm s _ n => [s,n]
 | .stm _ n => [n]
 | .app _ _ s _ => rdO s
 | .appg _ _ s _ => rdO s
 | .appz _ _ n _ => [n]
 | .frz n _ => [n]
 | .ldfz s _ _ _ _ => [s]
 | _ => []
def bsOp : AOp → Nat
 | .gbox _ => 2
 | .galloc _ => 2
 | .ldg _ _ _ => 1
 | .ldm _ => 2
 | .st _ _ _ => 2
 | .stm _ _ => 2
 | .call _ _ => 2
 | .callv _ _ => 2
 | .appg _ _ _ _ => 2
 | .appz _ _ _ _ => 2
 | .frz _ _ => 2
 | .clr _ _ => 2
 | .mkm => 2
 | .ldfz _ _ _ _ _ => 2
 | .mkg _ _ _ _ => 2
 | .lkm _ _ _ _ _ => 1
 | .appM _ _ _ _ => 2
 | .slcx _ _ _ _ => 1
 | .stq _ _ _ _ => 2
 | .upm _ _ _ _ => 2
 | _ => 0
def merge (op : AOp) (τ s : St) : St := { env := fun j => if j ∈ wrOp op then s.env j else τ.env j,bs := if bsOp op = 2 then s.bs else τ.bs }
theorem merge_nil {op : AOp} {τ s : St} (h : wrOp op = []) (hb : bsOp op ≠ 2) : merge op τ s = τ := by
 unfold merge
 rw [h]
 simp [hb]
theorem val_congr {ρ ρ' : Nat → AV} {x : AO} (h : ∀ j ∈ rdO x,ρ' j = ρ j) : val ρ' x = val ρ x := by
 cases x with
 | t n => simp only [val]; rw [h n (by simp [rdO])]
 | c v => rfl
theorem vals_congr [Dr] {ρ ρ' : Nat → AV} : ∀ {xs : List AO},(∀ j ∈ rdOs xs,ρ' j = ρ j) → xs.map (val ρ') = xs.map (val ρ)
 | [],_ => rfl
 | x :: xs,h => by
  simp only [List.map_cons]
  rw [val_congr (fun j hj => h j (by simp [rdOs]; exact .inl hj)),vals_congr (fun j hj => h j (by simp only [rdOs,List.flatMap_cons,List.mem_append]; exact .inr hj))]
theorem opt_congr [Dr] {ρ ρ' : Nat → AV} {x : Option AO} (h : ∀ j ∈ rdOpt x,ρ' j = ρ j) : x.map (val ρ') = x.map (val ρ) := by
 cases x with
 | none => rfl
 | some x => simp only [Option.map_some]; rw [val_congr (by simpa [rdOpt] using h)]
theorem st_eq {s t : St} (h1 : ∀ j,s.env j = t.env j) (h2 : s.bs = t.bs) : s = t := by
 cases s; cases t
 simp only [St.mk.injEq]
 exact ⟨funext h1,h2⟩
theorem frz_merge {σ τ : St} {n sz : Nat} (h0 : τ.env n = σ.env n) (h1 : τ.bs = σ.bs) : frzAt τ n sz = (frzAt σ n sz).map fun p => (p.1,{ env := upd τ.env n .undef,bs := p.2.bs }) := by
 unfold frzAt
 rw [h0,h1]
 split
 ·split
  ·split
   ·simp
   ·rename_i id _ _ _ _ _ _
    cases σ.bs[id]? with
    | none => rfl
    | some cs =>
     simp only [Option.bind_some]
     split <;> rfl
  ·split <;> simp
 ·rfl
theorem frz_env {σ : St} {n sz : Nat} {p : AV × St} (h : frzAt σ n sz = some p) : p.2.env = upd σ.env n .undef := by
 unfold frzAt at h
 split at h
 ·split at h
  ·split at h
   ·injection h with h; subst h; rfl
   ·rename_i id _ _ _ _ _ _
    cases hb : σ.bs[id]? with
    | none => rw [hb] at h; cases h
    | some cs =>
     rw [hb] at h
     simp only [Option.bind_some] at h
     split at h
     ·injection h with h; subst h; rfl
     ·cases h
  ·split at h
   ·injection h with h; subst h; rfl
   ·cases h
 ·cases h
set_option maxHeartbeats 1000000 in
theorem exec_merge [Dr] {K : CallF} {op : AOp} {σ τ : St} (hr : ∀ j ∈ rdOp op,τ.env j = σ.env j) (hb : bsOp op ≠ 0 → τ.bs = σ.bs) :
  exec K op τ = (exec K op σ).map fun p => (p.1,merge op τ p.2) := by
 cases op
 case mov x =>
  have hm : ∀ s' : St,merge (.mov x) τ s' = τ := fun _ => merge_nil rfl (show (0 : Nat) ≠ 2 by omega)
  simp only [exec]; rw [val_congr hr]; split <;> simp [hm]
 case mvs n =>
  have h0 := hr n (by simp [rdOp])
  simp only [exec,h0]
  split
  ·simp only [Option.map_some,Option.some.injEq,Prod.mk.injEq,true_and]
   exact st_eq (fun j => by simp only [merge,wrOp,upd,List.mem_singleton]; split <;> rfl) (by simp [merge,bsOp])
  ·rfl
 case box x =>
  have hm : ∀ s' : St,merge (.box x) τ s' = τ := fun _ => merge_nil rfl (show (0 : Nat) ≠ 2 by omega)
  simp only [exec]; rw [val_congr hr]; simp [hm,Function.comp_def]
 case alloc zs =>
  have hm : ∀ s' : St,merge (.alloc zs) τ s' = τ := fun _ => merge_nil rfl (show (0 : Nat) ≠ 2 by omega)
  simp [exec,hm]
 case gbox x =>
  have h0 := hb (by simp [bsOp])
  simp only [exec,h0]; rw [val_congr hr]
  cases cellsOf (val σ.env x) with
  | none => rfl
  | some cs =>
   simp only [Option.map_some,Option.some.injEq,Prod.mk.injEq,true_and]
   exact st_eq (fun j => by simp [merge,wrOp]) (by simp [merge,bsOp])
 case galloc zs =>
  have h0 := hb (by simp [bsOp])
  simp only [exec,h0,Option.map_some,Option.some.injEq,Prod.mk.injEq,true_and]
  exact st_eq (fun j => by simp [merge,wrOp]) (by simp [merge,bsOp])
 case fad s off =>
  have hm : ∀ s' : St,merge (.fad s off) τ s' = τ := fun _ => merge_nil rfl (show (0 : Nat) ≠ 2 by omega)
  
  have h0 := hr s (by simp [rdOp])
  simp only [exec,h0]; split <;> simp [hm]
 case fadr p off =>
  have hm : ∀ s' : St,merge (.fadr p off) τ s' = τ := fun _ => merge_nil rfl (show (0 : Nat) ≠ 2 by omega)
  
  have h0 := hr p (by simp [rdOp])
  simp only [exec,h0]; split <;> simp [hm]
 case ldf s off sz ag =>
  have hm : ∀ s' : St,merge (.ldf s off sz ag) τ s' = τ := fun _ => merge_nil rfl (show (0 : Nat) ≠ 2 by omega)
  
  have h0 := hr s (by simp [rdOp])
  simp only [exec,h0]; split <;> simp [hm,Function.comp_def]
 case ldfm s off =>
  have h0 := hr s (by simp [rdOp])
  simp only [exec,h0]
  split
  ·rename_i cs hcs
   cases cs[off]? with
   | none => rfl
   | some c =>
    simp only [Option.bind_some]
    split
    ·simp only [Option.map_some,Option.some.injEq,Prod.mk.injEq,true_and]
     exact st_eq (fun j => by simp only [merge,wrOp,upd,List.mem_singleton]; split <;> rfl) (by simp [merge,bsOp])
    ·rfl
  ·rfl
 case ld p sz ag =>
  have hm : ∀ s' : St,merge (.ld p sz ag) τ s' = τ := fun _ => merge_nil rfl (show (0 : Nat) ≠ 2 by omega)
  
  have h0 := hr p (by simp [rdOp])
  simp only [exec,h0]; split <;> simp [hm,Function.comp_def]
 case ldg p sz ag =>
  have hm : ∀ s' : St,merge (.ldg p sz ag) τ s' = τ := fun _ => merge_nil rfl (show (1 : Nat) ≠ 2 by omega)
  
  have h0 := hr p (by simp [rdOp])
  have h1 := hb (by simp [bsOp])
  simp only [exec,h0,h1]
  split
  ·rename_i i of hcs
   cases σ.bs[i]? with
   | none => rfl
   | some cs => simp [hm,Function.comp_def]
  ·rfl
 case ldm p =>
  have h0 := hr p (by simp [rdOp])
  have h1 := hb (by simp [bsOp])
  simp only [exec,h0,h1]
  split
  ·rename_i i of hcs
   cases σ.bs[i]? with
   | none => rfl
   | some cs =>
    simp only [Option.bind_some]
    cases cs[of]? with
    | none => rfl
    | some c =>
     simp only [Option.bind_some]
     split
     ·simp only [Option.map_some,Option.some.injEq,Prod.mk.injEq,true_and]
      exact st_eq (fun j => by simp [merge,wrOp]) (by simp [merge,bsOp])
     ·rfl
  ·rfl
 case stf s off sz x =>
  have h0 := hr s (by simp [rdOp])
  simp only [exec,h0]; rw [val_congr (fun j hj => hr j (by simp [rdOp,hj]))]
  split
  ·rename_i cs hcs
   cases cellsOf (val σ.env x) with
   | none => rfl
   | some vs =>
    simp only [Option.bind_some]
    split
    ·simp only [Option.map_some,Option.some.injEq,Prod.mk.injEq,true_and]
     exact st_eq (fun j => by simp only [merge,wrOp,upd,List.mem_singleton]; split <;> rfl) (by simp [merge,bsOp])
    ·rfl
  ·rfl
 case stn s off sz x zs =>
  have h0 := hr s (by simp [rdOp])
  simp only [exec,h0]; rw [val_congr (fun j hj => hr j (by simp [rdOp,hj]))]
  split
  ·rename_i cs hcs
   cases cellsOf (val σ.env x) with
   | none => rfl
   | some vs =>
    simp only [Option.bind_some]
    split
    ·simp only [Option.map_some,Option.some.injEq,Prod.mk.injEq,true_and]
     exact st_eq (fun j => by simp only [merge,wrOp,upd,List.mem_singleton]; split <;> rfl) (by simp [merge,bsOp])
    ·rfl
  ·rfl
 case stfm s off n =>
  have h0 := hr s (by simp [rdOp])
  have h1 := hr n (by simp [rdOp])
  simp only [exec,h0,h1]
  split
  ·rename_i cs hcs
   split
   ·simp only [Option.map_some,Option.some.injEq,Prod.mk.injEq,true_and]
    refine st_eq (fun j => ?_) (by simp [merge,bsOp])
    simp only [merge,wrOp,upd,List.mem_cons,List.not_mem_nil,or_false]
    by_cases e1 : j = s <;> by_cases e2 : j = n <;> simp [e1,e2]
   ·rfl
  ·rfl
 case st p sz x =>
  have h0 := hr p (by simp [rdOp])
  have h1 := hb (by simp [bsOp])
  simp only [exec,h0,h1]; rw [val_congr (fun j hj => hr j (by simp [rdOp,hj]))]
  split
  ·rename_i i of hcs
   cases σ.bs[i]? with
   | none => rfl
   | some cs =>
    simp only [Option.bind_some]
    cases cellsOf (val σ.env x) with
    | none => rfl
    | some vs =>
     simp only [Option.bind_some]
     split
     ·simp only [Option.map_some,Option.some.injEq,Prod.mk.injEq,true_and]
      exact st_eq (fun j => by simp [merge,wrOp]) (by simp [merge,bsOp])
     ·rfl
  ·rfl
 case stm p n =>
  have h0 := hr p (by simp [rdOp])
  have h1 := hb (by simp [bsOp])
  have h2 := hr n (by simp [rdOp])
  simp only [exec,h0,h1,h2]
  split
  ·rename_i i of hcs
   cases σ.bs[i]? with
   | none => rfl
   | some cs =>
    simp only [Option.bind_some]
    split
    ·simp only [Option.map_some,Option.some.injEq,Prod.mk.injEq,true_and]
     exact st_eq (fun j => by simp only [merge,wrOp,upd,List.mem_singleton]; split <;> rfl) (by simp [merge,bsOp])
    ·rfl
  ·rfl
 case bin op x y =>
  have hm : ∀ s' : St,merge (.bin op x y) τ s' = τ := fun _ => merge_nil rfl (show (0 : Nat) ≠ 2 by omega)
  simp only [exec]; rw [val_congr (fun j hj => hr j (by simp [rdOp,hj])),val_congr (x := y) (fun j hj => hr j (by simp [rdOp,hj]))]; simp [hm,Function.comp_def]
 case eqb ne x y =>
  have hm : ∀ s' : St,merge (.eqb ne x y) τ s' = τ := fun _ => merge_nil rfl (show (0 : Nat) ≠ 2 by omega)
  simp only [exec]; rw [val_congr (fun j hj => hr j (by simp [rdOp,hj])),val_congr (x := y) (fun j hj => hr j (by simp [rdOp,hj]))]; split <;> simp [hm]
 case eqn ne x =>
  have hm : ∀ s' : St,merge (.eqn ne x) τ s' = τ := fun _ => merge_nil rfl (show (0 : Nat) ≠ 2 by omega)
  simp only [exec]; rw [val_congr hr]; split <;> simp [hm]
 case eqa ne ks x y =>
  have hm : ∀ s' : St,merge (.eqa ne ks x y) τ s' = τ := fun _ => merge_nil rfl (show (0 : Nat) ≠ 2 by omega)
  simp only [exec]; rw [val_congr (fun j hj => hr j (by simp [rdOp,hj])),val_congr (x := y) (fun j hj => hr j (by simp [rdOp,hj]))]; split <;> simp [hm,Function.comp_def]
 case isn ne x =>
  have hm : ∀ s' : St,merge (.isn ne x) τ s' = τ := fun _ => merge_nil rfl (show (0 : Nat) ≠ 2 by omega)
  simp only [exec]; rw [val_congr hr]; split <;> simp [hm]
 case un op x =>
  have hm : ∀ s' : St,merge (.un op x) τ s' = τ := fun _ => merge_nil rfl (show (0 : Nat) ≠ 2 by omega)
  simp only [exec]; rw [val_congr hr]; simp [hm,Function.comp_def]
 case conv k x =>
  have hm : ∀ s' : St,merge (.conv k x) τ s' = τ := fun _ => merge_nil rfl (show (0 : Nat) ≠ 2 by omega)
  simp only [exec]; rw [val_congr hr]; split <;> simp [hm]
 case call f args =>
  have h0 := hb (by simp [bsOp])
  simp only [exec,h0]; rw [vals_congr hr]
  split
  ·simp only [Option.map_map,Function.comp_def]
   congr 1
  ·rfl
 case callv g args =>
  have h0 := hb (by simp [bsOp])
  simp only [exec,h0]; rw [vals_congr (fun j hj => hr j (by simp [rdOp,hj])),val_congr (fun j hj => hr j (by simp [rdOp,hj]))]
  split
  ·split
   ·simp only [Option.map_map,Function.comp_def]
    congr 1
   ·rfl
  ·rfl
 case lens x =>
  have hm : ∀ s' : St,merge (.lens x) τ s' = τ := fun _ => merge_nil rfl (show (0 : Nat) ≠ 2 by omega)
  simp only [exec]; rw [val_congr hr]; split <;> simp [hm]
 case lenl x =>
  have hm : ∀ s' : St,merge (.lenl x) τ s' = τ := fun _ => merge_nil rfl (show (0 : Nat) ≠ 2 by omega)
  simp only [exec]; rw [val_congr hr]; split <;> simp [hm]
 case app bytes sz s x =>
  simp only [exec]; rw [val_congr (x := x) (fun j hj => hr j (by simp [rdOp,hj]))]
  cases s with
  | t n =>
   have h0 := hr n (by simp [rdOp,rdO])
   simp only [h0]
   split
   ·rename_i sz1 xs ρ o2 sz2 ys e1 e2
    simp only [Prod.mk.injEq] at e1
    obtain ⟨e1,rfl⟩ := e1
    simp only [e1,e2]
    split
    ·simp only [Option.map_some,Option.some.injEq,Prod.mk.injEq,true_and]
     exact st_eq (fun j => by simp only [merge,wrOp,rdO,upd,List.mem_singleton]; split <;> rfl) (by simp [merge,bsOp])
    ·rfl
   ·rename_i hne
    split
    ·rename_i sz1 xs ρ o2 sz2 ys e1 e2
     simp only [Prod.mk.injEq] at e1
     exact (hne sz1 xs _ o2 sz2 ys (by simp only [Prod.mk.injEq]; exact ⟨e1.1,rfl⟩) e2).elim
    ·rfl
  | c vc =>
   have hm : ∀ s' : St,merge (.app bytes sz (.c vc) x) τ s' = τ := fun _ => merge_nil rfl (show (0 : Nat) ≠ 2 by omega)
   simp only [hm]
   split
   ·rename_i sz1 xs ρ o2 sz2 ys e1 e2
    simp only [Prod.mk.injEq] at e1
    obtain ⟨rfl,rfl⟩ := e1
    simp only [e2]
    split <;> rfl
   ·rename_i hne
    split
    ·rename_i sz1 xs ρ o2 sz2 ys e1 e2
     simp only [Prod.mk.injEq] at e1
     exact (hne sz1 xs _ o2 sz2 ys (by simp only [Prod.mk.injEq]; exact ⟨e1.1,rfl⟩) e2).elim
    ·rfl
 case frz n sz =>
  have h0 := hr n (by simp [rdOp])
  have h1 := hb (by simp [bsOp])
  simp only [exec,frz_merge h0 h1]
  cases hf : frzAt σ n sz with
  | none => rfl
  | some p =>
   simp only [Option.map_some,Option.some.injEq,Prod.mk.injEq,true_and]
   exact st_eq (fun j => by simp only [merge,wrOp,frz_env hf,upd,List.mem_singleton]; split <;> rfl) (by simp [merge,bsOp])
 case appz bytes sz n x =>
  have h0 := hr n (by simp [rdOp])
  have h1 := hb (by simp [bsOp])
  simp only [exec,frz_merge h0 h1]; rw [val_congr (x := x) (fun j hj => hr j (by simp [rdOp,hj]))]
  cases hf : frzAt σ n sz with
  | none => rfl
  | some p =>
   obtain ⟨v,s⟩ := p
   have he := frz_env hf
   simp only at he
   cases v <;> simp only [Option.map_some] <;> try rfl
   rename_i ow sz1 xs
   cases ow <;> try rfl
   cases hx : val σ.env x <;> (try simp only []) <;> try rfl
   split
   ·simp only [Option.map_some,Option.some.injEq,Prod.mk.injEq,true_and]
    exact st_eq (fun j => by simp only [merge,wrOp,he,upd,List.mem_singleton]; split <;> rfl) (by simp [merge,bsOp])
   ·rfl
 case clr sz x =>
  have h1 := hb (by simp [bsOp])
  simp only [exec,h1]; rw [val_congr hr]
  split
  ·split
   ·split
    ·simp only [Option.map_some,Option.some.injEq,Prod.mk.injEq,true_and]
     exact st_eq (fun j => by simp [merge,wrOp]) (by simp [merge,bsOp,h1])
    ·rename_i id _ _ _ _ _ _
     cases σ.bs[id]? with
     | none => rfl
     | some cs =>
      simp only [Option.bind_some]
      split
      ·simp only [Option.map_some,Option.some.injEq,Prod.mk.injEq,true_and]
       exact st_eq (fun j => by simp [merge,wrOp]) (by simp [merge,bsOp])
      ·rfl
   ·rfl
  ·rfl
 case appg bytes sz s x =>
  have hb1 := hb (by simp [bsOp])
  simp only [exec,hb1]; rw [val_congr (x := x) (fun j hj => hr j (by simp [rdOp,hj]))]
  cases s with
  | t n =>
   have h0 := hr n (by simp [rdOp,rdO])
   simp only [h0]
   cases hn : σ.env n <;> (try simp only []) <;> try rfl
   rename_i ow sz1 xs
   cases ow <;> try rfl
   cases xs <;> try rfl
   cases hx : val σ.env x <;> (try simp only []) <;> try rfl
   split
   ·split
    ·rfl
    ·simp only [Option.map_some,Option.some.injEq,Prod.mk.injEq,true_and]
     exact st_eq (fun j => by simp only [merge,wrOp,rdO,upd,List.mem_singleton]; split <;> rfl) (by simp [merge,bsOp])
   ·rfl
  | c vc =>
   cases vc <;> (try simp only []) <;> try rfl
   rename_i ow sz1 xs
   cases ow <;> try rfl
   cases xs <;> try rfl
   cases hx : val σ.env x <;> (try simp only []) <;> try rfl
   split
   ·split
    ·rfl
    ·simp only [Option.map_some,Option.some.injEq,Prod.mk.injEq,true_and]
     exact st_eq (fun j => by simp [merge,wrOp,rdO]) (by simp [merge,bsOp])
   ·rfl
 case zlit =>
  have hm : ∀ s' : St,merge .zlit τ s' = τ := fun _ => merge_nil rfl (show (0 : Nat) ≠ 2 by omega)
  simp [exec,hm]
 case appzz s x =>
  have hm : ∀ s' : St,merge (.appzz s x) τ s' = τ := fun _ => merge_nil rfl (show (0 : Nat) ≠ 2 by omega)
  simp only [exec]; rw [val_congr (fun j hj => hr j (by simp [rdOp,hj])),val_congr (x := x) (fun j hj => hr j (by simp [rdOp,hj]))]; split
  ·simp [hm]
  ·rfl
 case mx x y =>
  have hm : ∀ s' : St,merge (.mx x y) τ s' = τ := fun _ => merge_nil rfl (show (0 : Nat) ≠ 2 by omega)
  simp only [exec]; rw [val_congr (fun j hj => hr j (by simp [rdOp,hj])),val_congr (x := y) (fun j hj => hr j (by simp [rdOp,hj]))]; split
  ·split <;> simp [hm]
  ·rfl
 case mn x y =>
  have hm : ∀ s' : St,merge (.mn x y) τ s' = τ := fun _ => merge_nil rfl (show (0 : Nat) ≠ 2 by omega)
  simp only [exec]; rw [val_congr (fun j hj => hr j (by simp [rdOp,hj])),val_congr (x := y) (fun j hj => hr j (by simp [rdOp,hj]))]; split
  ·split <;> simp [hm]
  ·rfl
 case mksl sz parts =>
  have hm : ∀ s' : St,merge (.mksl sz parts) τ s' = τ := fun _ => merge_nil rfl (show (0 : Nat) ≠ 2 by omega)
  simp only [exec]; rw [vals_congr hr]; simp [hm,Function.comp_def]
 case mkst zs parts =>
  have hm : ∀ s' : St,merge (.mkst zs parts) τ s' = τ := fun _ => merge_nil rfl (show (0 : Nat) ≠ 2 by omega)
  
  simp only [exec]
  have : parts.map (fun p => (p.1,p.2.1,val τ.env p.2.2)) = parts.map (fun p => (p.1,p.2.1,val σ.env p.2.2)) := by
   apply List.map_congr_left
   intro p hp
   rw [val_congr (fun j hj => hr j (by simp only [rdOp,rdOs,List.mem_flatMap,List.mem_map]; exact ⟨p.2.2,⟨p,hp,rfl⟩,hj⟩))]
  rw [this]
  simp [hm,Function.comp_def]
 case idxa sz x i =>
  have hm : ∀ s' : St,merge (.idxa sz x i) τ s' = τ := fun _ => merge_nil rfl (show (0 : Nat) ≠ 2 by omega)
  simp only [exec]; rw [val_congr (fun j hj => hr j (by simp [rdOp,hj])),val_congr (x := i) (fun j hj => hr j (by simp [rdOp,hj]))]; split
  ·split <;> simp [hm,Function.comp_def]
  ·split <;> simp [hm]
  ·rfl
 case idx x i =>
  have hm : ∀ s' : St,merge (.idx x i) τ s' = τ := fun _ => merge_nil rfl (show (0 : Nat) ≠ 2 by omega)
  simp only [exec]; rw [val_congr (fun j hj => hr j (by simp [rdOp,hj])),val_congr (x := i) (fun j hj => hr j (by simp [rdOp,hj]))]; split
  ·split <;> simp [hm,Function.comp_def]
  ·rfl
 case slcs x lo hi =>
  have hm : ∀ s' : St,merge (.slcs x lo hi) τ s' = τ := fun _ => merge_nil rfl (show (0 : Nat) ≠ 2 by omega)
  
  simp only [exec]; rw [val_congr (fun j hj => hr j (by simp [rdOp,hj])),opt_congr (x := lo) (fun j hj => hr j (by simp [rdOp,hj])),opt_congr (x := hi) (fun j hj => hr j (by simp [rdOp,hj]))]
  split
  ·cases bound _ _ (hi.map (val σ.env)) with
   | none => rfl
   | some H => simp [hm,Function.comp_def]
  ·rfl
 case slcl sz x lo hi =>
  have hm : ∀ s' : St,merge (.slcl sz x lo hi) τ s' = τ := fun _ => merge_nil rfl (show (0 : Nat) ≠ 2 by omega)
  
  simp only [exec]; rw [val_congr (fun j hj => hr j (by simp [rdOp,hj])),opt_congr (x := lo) (fun j hj => hr j (by simp [rdOp,hj])),opt_congr (x := hi) (fun j hj => hr j (by simp [rdOp,hj]))]
  split
  ·split
   ·cases bound _ _ (hi.map (val σ.env)) with
    | none => rfl
    | some H => simp [hm,Function.comp_def]
   ·rfl
  ·split
   ·cases bound _ _ (hi.map (val σ.env)) with
    | none => rfl
    | some H => simp [hm,Function.comp_def]
   ·split
    ·cases bound _ _ (hi.map (val σ.env)) with
     | none => rfl
     | some H => simp [hm,Function.comp_def]
    ·rfl
  ·rfl
 case slz sz x =>
  have hm : ∀ s' : St,merge (.slz sz x) τ s' = τ := fun _ => merge_nil rfl (show (0 : Nat) ≠ 2 by omega)
  simp only [exec]; rw [val_congr hr]; split
  ·split <;> simp [hm]
  ·rfl
 case pick c x y =>
  have hm : ∀ s' : St,merge (.pick c x y) τ s' = τ := fun _ => merge_nil rfl (show (0 : Nat) ≠ 2 by omega)
  
  simp only [exec]; rw [val_congr (fun j hj => hr j (by simp [rdOp,hj])),val_congr (x := x) (fun j hj => hr j (by simp [rdOp,hj])),val_congr (x := y) (fun j hj => hr j (by simp [rdOp,hj]))]
  split
  ·split <;> simp [hm]
  ·split <;> simp [hm]
  ·rfl
 case ext x i =>
  have hm : ∀ s' : St,merge (.ext x i) τ s' = τ := fun _ => merge_nil rfl (show (0 : Nat) ≠ 2 by omega)
  
  simp only [exec]; rw [val_congr hr]
  split
  ·rename_i vs hv
   cases vs[i]? with
   | none => rfl
   | some c => simp only [Option.bind_some]; split <;> simp [hm]
  ·rfl
 case mkfn f caps =>
  have hm : ∀ s' : St,merge (.mkfn f caps) τ s' = τ := fun _ => merge_nil rfl (show (0 : Nat) ≠ 2 by omega)
  simp only [exec]; rw [vals_congr hr]; split <;> simp [hm]
 case nilck x =>
  have hm : ∀ s' : St,merge (.nilck x) τ s' = τ := fun _ => merge_nil rfl (show (0 : Nat) ≠ 2 by omega)
  simp only [exec]; rw [val_congr hr]; split <;> simp [hm]
 case fld off sz ag x =>
  have hm : ∀ s' : St,merge (.fld off sz ag x) τ s' = τ := fun _ => merge_nil rfl (show (0 : Nat) ≠ 2 by omega)
  simp only [exec]; rw [val_congr hr]; split <;> simp [hm,Function.comp_def]
 case mkg bytes sz zs x =>
  have h0 := hb (by simp [bsOp])
  simp only [exec,h0]; rw [val_congr hr]
  split
  ·split
   ·simp only [Option.map_some,Option.some.injEq,Prod.mk.injEq,true_and]
    exact st_eq (fun j => by simp [merge,wrOp]) (by simp [merge,bsOp])
   ·rfl
  ·rfl
 case ldfz s off sz fo fz =>
  have h0 := hr s (by simp [rdOp])
  have h1 := hb (by simp [bsOp])
  simp only [exec,h0,h1]
  split
  ·rename_i cs hcs
   split
   ·rename_i id o sz1 k hfo
    split
    ·cases σ.bs[id]? with
     | none => rfl
     | some c2 =>
      simp only [Option.bind_some]
      split
      ·cases rdCells (cs.set fo (.sl false fz (chunks c2 o fz k))) off sz true with
       | none => rfl
       | some v2 =>
        simp only [Option.map_some,Option.some.injEq,Prod.mk.injEq,true_and]
        exact st_eq (fun j => by simp only [merge,wrOp,upd,List.mem_singleton]; split <;> rfl) (by simp [merge,bsOp])
      ·rfl
    ·split
     ·cases rdCells (cs.set fo (.sl false fz [])) off sz true with
      | none => rfl
      | some v2 =>
       simp only [Option.map_some,Option.some.injEq,Prod.mk.injEq,true_and]
       exact st_eq (fun j => by simp only [merge,wrOp,List.mem_singleton]; split <;> simp_all) (by simp [merge,bsOp,h1])
     ·rfl
   ·rfl
  ·rfl
 case appM bytes sz s x =>
  have h0 := hb (by simp [bsOp])
  simp only [exec,h0]; rw [val_congr (x := s) (fun j hj => hr j (by simp [rdOp,hj])),val_congr (x := x) (fun j hj => hr j (by simp [rdOp,hj]))]
  simp only [Option.map_map,Function.comp_def]
  congr 1
 case stq p sz x q =>
  have h0 := hr p (by simp [rdOp])
  have h2 := hr q (by simp [rdOp])
  have h1 := hb (by simp [bsOp])
  simp only [exec,h0,h1,h2]; rw [val_congr (fun j hj => hr j (by simp [rdOp,hj]))]
  split
  ·rename_i i of i2 of2 hcs hcs2
   split
   ·rfl
   ·cases σ.bs[i]? with
    | none => rfl
    | some cs =>
     simp only [Option.bind_some]
     cases cellsOf (val σ.env x) with
     | none => rfl
     | some vs =>
      simp only [Option.bind_some]
      split
      ·simp only [Option.map_some,Option.some.injEq,Prod.mk.injEq,true_and]
       exact st_eq (fun j => by simp [merge,wrOp]) (by simp [merge,bsOp])
      ·rfl
  ·rfl
 case slcx sz x lo hi =>
  have hm : ∀ s' : St,merge (.slcx sz x lo hi) τ s' = τ := fun _ => merge_nil rfl (show (1 : Nat) ≠ 2 by omega)
  have h0 := hb (by simp [bsOp])
  simp only [exec,h0]; rw [val_congr (fun j hj => hr j (by simp [rdOp,hj])),opt_congr (x := lo) (fun j hj => hr j (by simp [rdOp,hj])),opt_congr (x := hi) (fun j hj => hr j (by simp [rdOp,hj]))]
  split
  ·rename_i id of sz1 kn hA
   split
   ·cases σ.bs[id]? with
    | none => rfl
    | some cs =>
     simp only [Option.bind_some]
     cases bound _ _ (hi.map (val σ.env)) with
     | none => rfl
     | some H => simp [hm,Function.comp_def]
   ·rfl
  ·rfl
 case slcc sz x lo hi mx =>
  have hm : ∀ s' : St,merge (.slcc sz x lo hi mx) τ s' = τ := fun _ => merge_nil rfl (show (0 : Nat) ≠ 2 by omega)
  simp only [exec]; rw [val_congr (x := x) (fun j hj => hr j (by simp [rdOp,hj])),opt_congr (x := lo) (fun j hj => hr j (by simp [rdOp,hj])),val_congr (x := hi) (fun j hj => hr j (by simp [rdOp,hj])),val_congr (x := mx) (fun j hj => hr j (by simp [rdOp,hj]))]
  split
  ·cases bound _ _ (some (val σ.env mx)) with
   | none => rfl
   | some M =>
    simp only [Option.bind_some]
    cases bound _ _ (some (val σ.env hi)) with
    | none => rfl
    | some H => simp [hm,Function.comp_def]
  ·cases bound _ _ (some (val σ.env mx)) with
   | none => rfl
   | some M =>
    simp only [Option.bind_some]
    cases bound _ _ (some (val σ.env hi)) with
    | none => rfl
    | some H => simp [hm,Function.comp_def]
  ·rfl
 case mkm =>
  have h0 := hb (by simp [bsOp])
  simp only [exec,h0,Option.map_some,Option.some.injEq,Prod.mk.injEq,true_and]
  exact st_eq (fun j => by simp [merge,wrOp]) (by simp [merge,bsOp])
 case lkm s ok x i z =>
  have hm : ∀ s' : St,merge (.lkm s ok x i z) τ s' = τ := fun _ => merge_nil rfl (show (1 : Nat) ≠ 2 by omega)
  have h1 := hb (by simp [bsOp])
  simp only [exec,h1]; rw [val_congr (fun j hj => hr j (by simp [rdOp,hj])),val_congr (x := i) (fun j hj => hr j (by simp [rdOp,hj]))]
  split
  ·rename_i id hid
   cases σ.bs[id]? with
   | none => rfl
   | some cs =>
    simp only [Option.bind_some]
    split
    ·rfl
    ·cases findM s (cs.drop 1) (val σ.env i) with
     | none => rfl
     | some r =>
      simp only [Option.bind_some]
      split <;> simp [hm]
  ·rfl
 case upm s x k y =>
  have h1 := hb (by simp [bsOp])
  simp only [exec,h1]; rw [val_congr (fun j hj => hr j (by simp [rdOp,hj])),val_congr (x := k) (fun j hj => hr j (by simp [rdOp,hj])),val_congr (x := y) (fun j hj => hr j (by simp [rdOp,hj]))]
  split
  ·rename_i id hid
   cases σ.bs[id]? with
   | none => rfl
   | some cs =>
    simp only [Option.bind_some]
    split
    ·rfl
    ·cases updM s (cs.drop 1) (val σ.env k) (val σ.env y).strip with
     | none => rfl
     | some ys =>
      simp only [Option.map_some,Option.some.injEq,Prod.mk.injEq,true_and]
      exact st_eq (fun j => by simp [merge,wrOp]) (by simp [merge,bsOp])
  ·rfl
end Go.Am
