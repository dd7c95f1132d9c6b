/-
  Am12, Am13, Am14.
-/
import Derived.Test.YtpdmcibimbjknaaGreatDoorG06
set_option linter.unusedVariables false
set_option linter.unusedSimpArgs false
namespace Go.Am
def TU (pt:Nat→Nat→Nat→Bool) (q s off:Nat):Bool:=pt q s off || (decide (q=s) && decide (off=0))
def Td (num:Nat→Option Nat) (b:Builtin) (x:AO) (c:Call) (ty:TypeId→Bool):Bool:=
 match c with
 | ⟨.builtin b',⟨[y]⟩,⟨[t]⟩⟩=>decide (b=b') && ty t && okO num x y
 | _=>false
def Qa2 (P:Program) (num:Nat→Option Nat) (pt:Nat→Nat→Nat→Bool) (x:AOp) (o:Op):Bool:=
 match x with
 | .mov x=>(match o with | .move y=>okO num x y | .assign y=>okO num x y | _=>false)
 | .mvs n=>(match o with | .move (.tmp t)=>decide (n=t) | .assign (.tmp t)=>decide (n=t) | _=>false)
 | .box x=>(match o with | .box _ y=>okO num x y | _=>false)
 | .alloc zs=>(match o with | .alloc t=>TN P t zs | _=>false)
 | .gbox x=>(match o with | .box _ y=>okO num x y | _=>false)
 | .galloc zs=>(match o with | .alloc t=>TN P t zs | _=>false)
 | .fad s off=>(match o with
  | .fieldAddr ty (.tmp q) f=>(decide (q=s) && Ug P ty f off) || (List.range (off+1)).any fun o2=>pt q s o2 && Ug P ty f (off - o2)
  | _=>false)
 | .fadr p off=>(match o with | .fieldAddr ty (.tmp q) f=>decide (p=q) && Ug P ty f off | _=>false)
 | .ldf s off sz ag=>(match o with | .load t (.tmp q)=>Zw P t sz && Xn P t ag && TU pt q s off | _=>false)
 | .ldfm s off=>(match o with | .load t (.tmp q)=>Xn P t false && TU pt q s off | _=>false)
 | .ld p sz ag=>(match o with | .load t (.tmp q)=>decide (p=q) && Zw P t sz && Xn P t ag | _=>false)
 | .ldg p sz ag=>(match o with | .load t (.tmp q)=>decide (p=q) && Zw P t sz && Xn P t ag | _=>false)
 | .ldm p=>(match o with | .load t (.tmp q)=>decide (p=q) && Xn P t false | _=>false)
 | .stf s off sz x=>(match o with | .store t (.tmp q) y=>Zw P t sz && okO num x y && TU pt q s off | _=>false)
 | .stn s off sz x _=>(match o with | .store t (.tmp q) y=>Zw P t sz && okO num x y && TU pt q s off | _=>false)
 | .stfm s off n=>(match o with | .store t (.tmp q) (.tmp n2)=>decide (n=n2) && Zw P t 1 && TU pt q s off | _=>false)
 | .st p sz x=>(match o with | .store t (.tmp q) y=>decide (p=q) && Zw P t sz && okO num x y | _=>false)
 | .stm p n=>(match o with | .store t (.tmp q) (.tmp n2)=>decide (p=q) && decide (n=n2) && Zw P t 1 | _=>false)
 | .bin op x y=>(match o with | .binOp op2 _ x2 y2 _=>decide (op=op2) && okO num x x2 && okO num y y2 | _=>false)
 | .eqb ne x y=>(match o with | .binOp op2 t x2 y2 _=>decide (op2=if ne then .neq else .eql) && Kt P t && okO num x x2 && okO num y y2 | _=>false)
 | .eqn ne x=>(match o with | .binOp op2 t x2 (.const .nilIface) _=>decide (op2=if ne then .neq else .eql) && Mo P t && okO num x x2 | _=>false)
 | .eqa ne ks x y=>(match o with | .binOp op2 t x2 y2 _=>decide (op2=if ne then .neq else .eql) && QaB P t ks && okO num x x2 && okO num y y2 | _=>false)
 | .isn ne x=>(match o with | .binOp op2 t x2 (.const (.slice none 0 0)) _=>decide (op2=if ne then .neq else .eql) && slT P t && okO num x x2 | _=>false)
 | .un op x=>(match o with | .unOp op2 _ x2=>decide (op=op2) && okO num x x2 | _=>false)
 | .conv k x=>(match o with | .convert s t x2=>QaQ P s t k && okO num x x2 | _=>false)
 | .call f args=>(match o with | .call ⟨.value (.func g),⟨ys⟩,_⟩=>decide (num f=some g) && Ys num args ys | _=>false)
 | .callq f args=>(match o with | .call ⟨.value (.func g),⟨ys⟩,_⟩=>decide (num f=some g) && Ys num args ys | _=>false)
 | .callv g args=>(match o with | .call ⟨.value x2,⟨ys⟩,_⟩=>okO num g x2 && Ys num args ys | _=>false)
 | .lens x=>(match o with | .call c=>Td num .len x c (OG P) | _=>false)
 | .lenl x=>(match o with | .call c=>Td num .len x c (slT P) | _=>false)
 | .app bytes sz s x=>(match o with | .call ⟨.builtin .append,⟨[s2,x2]⟩,⟨[t,t2]⟩⟩=>O7 P t t2 && Wt P t bytes sz && okO num s s2 && okO num x x2 | _=>false)
 | .appg bytes sz s x=>(match o with | .call ⟨.builtin .append,⟨[s2,x2]⟩,⟨[t,t2]⟩⟩=>O7 P t t2 && Wt P t bytes sz && okO num s s2 && okO num x x2 | _=>false)
 | .appz bytes sz n x=>(match o with | .call ⟨.builtin .append,⟨[.tmp n2,x2]⟩,⟨[t,t2]⟩⟩=>O7 P t t2 && decide (n=n2) && Wt P t bytes sz && okO num x x2 | _=>false)
 | .zlit=>(match o with | .buildSlice t 0 ⟨[]⟩=>(match P.underlying t with | some (.slice e)=>(match P.info? e with | some i=>UY P t i.size 0 | none=>false) | _=>false) | _=>false)
 | .nilp=>(match o with | .move (.const (.pointer none))=>true | .assign (.const (.pointer none))=>true | _=>false)
 | .appzz s x=>(match o with | .call ⟨.builtin .append,⟨[s2,x2]⟩,⟨[t,t2]⟩⟩=>decide (t=t2) && (match P.underlying t with | some (.slice e)=>(match P.info? e with | some i=>Wt P t i.bytes i.size | none=>false) | _=>false) && okO num s s2 && okO num x x2 | _=>false)
 | .frz n _=>(match o with | .move (.tmp t)=>decide (n=t) | .assign (.tmp t)=>decide (n=t) | _=>false)
 | .clr sz x=>(match o with | .call c=>Td num .clear x c (fun t=>Qam P t sz) | _=>false)
 | .mx x y=>(match o with | .call ⟨.builtin .max,⟨[x2,y2]⟩,_⟩=>okO num x x2 && okO num y y2 | _=>false)
 | .mn x y=>(match o with | .call ⟨.builtin .min,⟨[x2,y2]⟩,_⟩=>okO num x x2 && okO num y y2 | _=>false)
 | .mksl sz parts=>(match o with | .buildSlice t n ⟨ps⟩=>decide (n=ps.length) && decide (ps.map (·.1)=List.range n) && UY P t sz n && Ys num parts (ps.map (·.2)) | _=>false)
 | .mksg sz parts=>(match o with | .buildSlice t n ⟨ps⟩=>decide (n=ps.length) && decide (ps.map (·.1)=List.range n) && UY P t sz n && Ys num parts (ps.map (·.2)) | _=>false)
 | .mkst zs parts=>(match o with | .build t ⟨ps⟩=>QbG P num t zs parts ps | _=>false)
 | .idxa sz x i=>(match o with | .indexAddr t x2 i2=>Y1 P t sz && okO num x x2 && okO num i i2 | _=>false)
 | .idx x i=>(match o with | .index t x2 i2=>OG P t && okO num x x2 && okO num i i2 | _=>false)
 | .slcs x lo hi=>(match o with | .slice t x2 lo2 hi2 none=>OG P t && okO num x x2 && XR num lo lo2 && XR num hi hi2 | _=>false)
 | .slcl sz x lo hi=>(match o with | .slice t x2 lo2 hi2 none=>Y1 P t sz && okO num x x2 && XR num lo lo2 && XR num hi hi2 | _=>false)
 | .slz sz x=>(match o with | .slice t x2 none (some (.const (.int _ 0))) (some (.const (.int _ 0)))=>Y1 P t sz && okO num x x2 | _=>false)
 | .pick c x y=>(match o with | .pick c2 x2 y2=>okO num c c2 && okO num x x2 && okO num y y2 | _=>false)
 | .ext x i=>(match o with | .extract x2 i2=>decide (i=i2) && okO num x x2 | _=>false)
 | .mkfn f caps=>(match o with | .makeFunc (.func g) ⟨[]⟩ ⟨cs⟩=>decide (num f=some g) && Ys num caps cs | _=>false)
 | .nilck x=>(match o with | .nilCheck x2=>okO num x x2 | _=>false)
 | .fld off sz ag x=>(match o with | .field t x2 f=>Er P t f off sz ag && okO num x x2 | _=>false)
 | .mkg bytes sz zs x=>(match o with | .makeSlice t (.tmp l) (.tmp c)=>decide (l=c) && mkT P t bytes sz zs && okO num x (.tmp l) | _=>false)
 | .mkz bytes sz zs x=>(match o with | .makeSlice t (.tmp l) (.tmp c)=>decide (l=c) && mkT P t bytes sz zs && okO num x (.tmp l) | _=>false)
 | .ldfz s off sz _ _=>(match o with | .load t (.tmp q)=>Zw P t sz && Xn P t true && TU pt q s off | _=>false)
 | .apn bytes sz zs s x=>(match o with | .call ⟨.builtin .append,⟨[s2,x2]⟩,⟨[t,t2]⟩⟩=>Wt P t bytes sz && mkT P t bytes sz zs && Ez P t2 && okO num s s2 && okO num x x2 | _=>false)
 | .appM bytes sz s x=>(match o with | .call ⟨.builtin .append,⟨[s2,x2]⟩,⟨[t,t2]⟩⟩=>O7 P t t2 && Wt P t bytes sz && okO num s s2 && okO num x x2 | _=>false)
 | .stq p sz x _=>(match o with | .store t (.tmp q) y=>decide (p=q) && Zw P t sz && okO num x y | _=>false)
 | .slcx sz x lo hi=>(match o with | .slice t x2 lo2 hi2 none=>Y1 P t sz && okO num x x2 && XR num lo lo2 && XR num hi hi2 | _=>false)
 | .slcc sz x lo hi mx=>(match o with | .slice t x2 lo2 (some hi2) (some mx2)=>Y1 P t sz && okO num x x2 && XR num lo lo2 && okO num hi hi2 && okO num mx mx2 | _=>false)
 | .mkm=>(match o with | .makeMap _ none=>true | _=>false)
 | .lkm s ok x i z=>(match o with | .lookup t x2 i2 ok2=>decide (ok=ok2) && lkT P s t z && okO num x x2 && okO num i i2 | _=>false)
 | .upm s x k y=>(match o with | .mapUpdate t x2 k2 y2=>EJ P s t && okO num x x2 && okO num k k2 && okO num y y2 | _=>false)
theorem AP {ps:List (Nat×Operand)} (h:ps.map (·.1)=List.range ps.length): (ps.map (·.2)).zipIdx.map (fun p=>(p.2,p.1))=ps:=by
 apply List.ext_getElem?;intro i;rw[List.getElem?_map,List.getElem?_zipIdx,List.getElem?_map];cases hp:ps[i]? with
 | none=>rfl
 | some p=>
  have hlt:i < ps.length:=by
   rcases Nat.lt_or_ge i ps.length with h | h
   ·exact h
   ·rw[List.getElem?_eq_none h]at hp;cases hp
  have:=congrArg (fun l=>l[i]?) h;simp only[List.getElem?_map,hp,Option.map_some,List.getElem?_range hlt,Option.some.injEq]at this;simp[← this]
section
variable {P:Program} {num:Nat→Option Nat} {β:List Blk} {w w':World} {m:Nat→Nat} {ν:Own} {N:Nat} {w0:World} {m0:Nat→Nat} {T:Nat→Prop} {β0:List Blk} {σ σ1:St} {a:Act}
 {o:Oper} {next:Act→World→Prop} {Q:Exit→Act→World→Prop} {K:ZJ} {v:AV}
theorem Uf {pt:Nat→Nat→Nat→Bool} {q s off:Nat} (h:TU pt q s off=true) (hpt: ∀q s off,pt q s off=true→W9 a q s off):W9 a q s off∨(q=s∧off=0):=by
 unfold TU at h;simp only[Bool.or_eq_true,Bool.and_eq_true,decide_eq_true_eq]at h;exact h.imp (hpt _ _ _) id
theorem Qa3 [Dr] {Γ:Yg} (hI:Inv num N w0 m0 T β0 σ a w m β ν) (hE:XI P num) (hK:KOk P num Γ K) (hG:Γ.G w0) (hGb:Γ.Gb≤w0.heap.size) (hT: ∀b,T b→Γ.Gb≤b)
  {pt:Nat→Nat→Nat→Bool} (hpt: ∀q s off,pt q s off=true→W9 a q s off) {x:AOp} (hok:Qa2 P num pt x o.op=true) (he:Qg K x σ=some (v,σ1))
  (h: ∀(u:Value) (w':World) (m':Nat→Nat) (β':List Blk) (ν':Own),Inv num N w0 m0 T β0 σ1 a w' m' β' ν'→UP num β' w' m' ν' .f (fun i=> .fc i) v u→
   (∀s off,x= .fad s off→∃b,a.tmps.getD s undef= .pointer (some ⟨b,0,none⟩)∧u= .pointer (some ⟨b,off,none⟩))→next (a.put o.dst u) w'):o.wp P a w next Q:=by
 have hA: (∀s off,x≠ .fad s off)→Aft num N w0 m0 T β0 σ1 a v fun u w'=>next (a.put o.dst u) w':=fun hne u w' m' β' ν' k1 k2=>h u w' m' β' ν' k1 k2 fun s off e=>absurd e (hne s off);have hS: (∀s off,x≠ .fad s off)→∀w' m' β' ν',Inv num N w0 m0 T β0 σ1 a w' m' β' ν'→v= .undef→next (a.put o.dst undef) w':=fun hne w' m' β' ν' k1 k2=>h undef w' m' β' ν' k1 (by subst k2;exact trivial) fun s off e=>absurd e (hne s off);cases x <;> simp only[Qa2]at hok
 case mov x=>
  split at hok
  ·rename_i y ho;exact Bv hI (.inl ho) hok he (hA (by simp))
  ·rename_i y ho;exact Bv hI (.inr ho) hok he (hA (by simp))
  ·cases hok
 case mvs n=>
  split at hok
  ·rename_i y ho;simp only[decide_eq_true_eq]at hok;subst hok;exact Bw hI (.inl ho) he (hA (by simp))
  ·rename_i y ho;simp only[decide_eq_true_eq]at hok;subst hok;exact Bw hI (.inr ho) he (hA (by simp))
  ·cases hok
 case box x=>
  split at hok
  ·rename_i t y ho;exact Qg6 hI ho hok he (hA (by simp))
  ·cases hok
 case alloc zs=>
  split at hok
  ·rename_i t ho;exact QaC hI ho hok he (hA (by simp))
  ·cases hok
 case gbox x=>
  split at hok
  ·rename_i t y ho;exact Qd1 hI ho hok he (hA (by simp))
  ·cases hok
 case galloc zs=>
  split at hok
  ·rename_i t ho;exact Bu hI ho hok he (hA (by simp))
  ·cases hok
 case fad s off=>
  split at hok
  ·rename_i ty q f ho;have hbx: ∃cs,σ.env s= .bx cs:=by
    simp only[Qg]at he;split at he
    ·exact⟨_,by assumption⟩
    ·cases he
   obtain⟨cs,hcs⟩:=hbx;obtain⟨b,cur,e,h1,h2,_⟩:=hI.box_at (q:=s) (off:=0) hcs (.inr ⟨rfl,rfl⟩);simp only[Bool.or_eq_true,Bool.and_eq_true,decide_eq_true_eq,List.any_eq_true,List.mem_range]at hok;rcases hok with⟨rfl,hf⟩ | ⟨o2,ho2,hp,hf⟩
   ·refine Bs hI ho hf h2 he fun k1 k2=> ?_;rw[Nat.zero_add];refine h _ w m β ν k1 (by subst k2;exact trivial) fun s2 off2 e=> ?_;injection e with e1 e2
    subst e1 e2;exact⟨b,h2,rfl⟩
   ·obtain⟨b2,p1,p2⟩:=hpt _ _ _ hp;refine Bs hI ho hf (show a.eval (.tmp q)=_ from p2) he fun k1 k2=> ?_;rw[show o2+ (off - o2)=off by omega];refine h _ w m β ν k1 (by subst k2;exact trivial) fun s2 off2 e=> ?_;injection e with e1 e2
    subst e1 e2;exact⟨b2,p1,rfl⟩
  ·cases hok
 case fadr p off=>
  split at hok
  ·rename_i ty q f ho;simp only[Bool.and_eq_true,decide_eq_true_eq]at hok;obtain⟨rfl,hf⟩:=hok;exact Qd0 hI ho hf he (hA (by simp))
  ·cases hok
 case ldf s off sz ag=>
  split at hok
  ·rename_i t q ho;simp only[Bool.and_eq_true]at hok;exact Qhf hI ho hok.1.1 hok.1.2 (Uf hok.2 hpt) he (hA (by simp))
  ·cases hok
 case ldfm s off=>
  split at hok
  ·rename_i t q ho;simp only[Bool.and_eq_true]at hok;exact Qd3 hI ho hok.1 (Uf hok.2 hpt) he (hA (by simp))
  ·cases hok
 case ld p sz ag=>
  split at hok
  ·rename_i t q ho;simp only[Bool.and_eq_true,decide_eq_true_eq]at hok;obtain⟨⟨rfl,h1⟩,h2⟩:=hok;exact QiC hI ho h1 h2 he (hA (by simp))
  ·cases hok
 case ldg p sz ag=>
  split at hok
  ·rename_i t q ho;simp only[Bool.and_eq_true,decide_eq_true_eq]at hok;obtain⟨⟨rfl,h1⟩,h2⟩:=hok;exact Qhg hI ho h1 h2 he (hA (by simp))
  ·cases hok
 case ldm p=>
  split at hok
  ·rename_i t q ho;simp only[Bool.and_eq_true,decide_eq_true_eq]at hok;obtain⟨rfl,h2⟩:=hok;exact Qhh hI ho h2 he (hA (by simp))
  ·cases hok
 case stf s off sz x=>
  split at hok
  ·rename_i t q y ho;simp only[Bool.and_eq_true]at hok;exact Qhn hI ho hok.1.1 hok.1.2 (Uf hok.2 hpt) he (hS (by simp))
  ·cases hok
 case stn s off sz x zs=>
  split at hok
  ·rename_i t q y ho;simp only[Bool.and_eq_true]at hok;exact Qhp hI ho hok.1.1 hok.1.2 (Uf hok.2 hpt) he (hS (by simp))
  ·cases hok
 case stfm s off n=>
  split at hok
  ·rename_i t q n2 ho;simp only[Bool.and_eq_true,decide_eq_true_eq]at hok;obtain⟨⟨rfl,h1⟩,h2⟩:=hok;exact Qeg hI ho h1 (Uf h2 hpt) he (hS (by simp))
  ·cases hok
 case st p sz x=>
  split at hok
  ·rename_i t q y ho;simp only[Bool.and_eq_true,decide_eq_true_eq]at hok;obtain⟨⟨rfl,h1⟩,h2⟩:=hok;exact Qb5 hI ho h1 h2 he (hS (by simp))
  ·cases hok
 case stm p n=>
  split at hok
  ·rename_i t q n2 ho;simp only[Bool.and_eq_true,decide_eq_true_eq]at hok;obtain⟨⟨rfl,rfl⟩,h1⟩:=hok;exact Qho hI ho h1 he (hS (by simp))
  ·cases hok
 case bin op x y=>
  split at hok
  ·rename_i op2 t x2 y2 t2 ho;simp only[Bool.and_eq_true,decide_eq_true_eq]at hok;obtain⟨⟨rfl,h1⟩,h2⟩:=hok;exact Qg5 hI ho h1 h2 he (hA (by simp))
  ·cases hok
 case eqb ne x y=>
  split at hok
  ·rename_i op2 t x2 y2 t2 ho;simp only[Bool.and_eq_true,decide_eq_true_eq]at hok;obtain⟨⟨⟨rfl,h1⟩,h2⟩,h3⟩:=hok;exact Qg9 hI ho h1 h2 h3 he (hA (by simp))
  ·cases hok
 case eqn ne x=>
  split at hok
  ·rename_i op2 t x2 t2 ho;simp only[Bool.and_eq_true,decide_eq_true_eq]at hok;obtain⟨⟨rfl,h1⟩,h2⟩:=hok;exact Qha hI ho h1 h2 he (hA (by simp))
  ·cases hok
 case eqa ne ks x y=>
  split at hok
  ·rename_i op2 t x2 y2 t2 ho;simp only[Bool.and_eq_true,decide_eq_true_eq]at hok;obtain⟨⟨⟨rfl,h1⟩,h2⟩,h3⟩:=hok;exact Qg8 hI ho h1 h2 h3 he (hA (by simp))
  ·cases hok
 case isn ne x=>
  split at hok
  ·rename_i op2 t x2 t2 ho;simp only[Bool.and_eq_true,decide_eq_true_eq]at hok;obtain⟨⟨rfl,h1⟩,h2⟩:=hok;exact Qhe hI ho h1 h2 he (hA (by simp))
  ·cases hok
 case un op x=>
  split at hok
  ·rename_i op2 t x2 ho;simp only[Bool.and_eq_true,decide_eq_true_eq]at hok;obtain⟨rfl,h1⟩:=hok;exact QiF hI ho h1 he (hA (by simp))
  ·cases hok
 case conv k x=>
  split at hok
  ·rename_i s t x2 ho;simp only[Bool.and_eq_true]at hok;exact QdZ hI ho hok.1 hok.2 he (hA (by simp))
  ·cases hok
 case call f args=>
  split at hok
  ·rename_i g ys ts ho;simp only[Bool.and_eq_true,decide_eq_true_eq]at hok;exact Fj hI hE hK hG hGb hT ho hok.1 hok.2 he (hA (by simp))
  ·cases hok
 case callq f args=>
  split at hok
  ·rename_i g ys ts ho;simp only[Bool.and_eq_true,decide_eq_true_eq]at hok;exact QaE hI hE hK hG hGb hT ho hok.1 hok.2 he (hA (by simp))
  ·cases hok
 case callv g args=>
  split at hok
  ·rename_i x2 ys ts ho;simp only[Bool.and_eq_true]at hok;exact QaF hI hE hK hG hGb hT ho hok.1 hok.2 he (hA (by simp))
  ·cases hok
 case lens x=>
  split at hok
  ·rename_i c ho;unfold Td at hok;split at hok
   ·rename_i b2 y t;simp only[Bool.and_eq_true,decide_eq_true_eq]at hok;obtain⟨⟨rfl,h1⟩,h2⟩:=hok;exact Qd6 hI ho h1 h2 he (hA (by simp))
   ·cases hok
  ·cases hok
 case lenl x=>
  split at hok
  ·rename_i c ho;unfold Td at hok;split at hok
   ·rename_i b2 y t;simp only[Bool.and_eq_true,decide_eq_true_eq]at hok;obtain⟨⟨rfl,h1⟩,h2⟩:=hok;exact Qd5 hI ho h1 h2 he (hA (by simp))
   ·cases hok
  ·cases hok
 case app bytes sz s x=>
  split at hok
  ·rename_i s2 x2 t t2 ho;simp only[Bool.and_eq_true]at hok;obtain⟨⟨⟨h0,h1⟩,h2⟩,h3⟩:=hok;exact PD ho h0 (Qg4 hI rfl h1 h2 h3 he (hA (by simp)))
  ·cases hok
 case appg bytes sz s x=>
  split at hok
  ·rename_i s2 x2 t t2 ho;simp only[Bool.and_eq_true]at hok;obtain⟨⟨⟨h0,h1⟩,h2⟩,h3⟩:=hok;exact PD ho h0 (QdX hI rfl h1 h2 h3 he (hA (by simp)))
  ·cases hok
 case appz bytes sz n x=>
  split at hok
  ·rename_i n2 x2 t t2 ho;simp only[Bool.and_eq_true,decide_eq_true_eq]at hok;obtain⟨⟨⟨h0,rfl⟩,h2⟩,h3⟩:=hok;exact PD ho h0 (QdY hI rfl h2 h3 he (hA (by simp)))
  ·cases hok
 case zlit=>
  split at hok
  ·rename_i t ho;split at hok
   ·split at hok
    ·exact Qeh hI ho hok he (hA (by simp))
    ·cases hok
   ·cases hok
  ·cases hok
 case nilp=>
  simp only[Qg,Option.some.injEq,Prod.mk.injEq]at he;obtain⟨rfl,rfl⟩:=he;split at hok
  ·rename_i ho;exact Qp (u:= .pointer none) (w':=w) (by simp[execOp,ho,Act.eval]) (h _ _ _ _ _ hI trivial (by simp))
  ·rename_i ho;exact Qp (u:= .pointer none) (w':=w) (by simp[execOp,ho,Act.eval]) (h _ _ _ _ _ hI trivial (by simp))
  ·cases hok
 case appzz s x=>
  split at hok
  ·rename_i s2 x2 t t2 ho;simp only[Bool.and_eq_true,decide_eq_true_eq]at hok;obtain⟨⟨⟨rfl,h1⟩,h2⟩,h3⟩:=hok;split at h1
   ·split at h1
    ·exact QaD hI ho h1 h2 h3 he (hA (by simp))
    ·cases h1
   ·cases h1
  ·cases hok
 case frz n sz=>
  split at hok
  ·rename_i y ho;simp only[decide_eq_true_eq]at hok;subst hok;exact Bt hI (.inl ho) he (hA (by simp))
  ·rename_i y ho;simp only[decide_eq_true_eq]at hok;subst hok;exact Bt hI (.inr ho) he (hA (by simp))
  ·cases hok
 case clr sz x=>
  split at hok
  ·rename_i c ho;unfold Td at hok;split at hok
   ·rename_i b2 y t;simp only[Bool.and_eq_true,decide_eq_true_eq]at hok;obtain⟨⟨rfl,h1⟩,h2⟩:=hok;exact Qg7 hI ho h1 h2 he (hA (by simp))
   ·cases hok
  ·cases hok
 case mx x y=>
  split at hok
  ·rename_i x2 y2 ts ho;simp only[Bool.and_eq_true]at hok;exact QiE hI ho hok.1 hok.2 he (hA (by simp))
  ·cases hok
 case mn x y=>
  split at hok
  ·rename_i x2 y2 ts ho;simp only[Bool.and_eq_true]at hok;exact QiD hI ho hok.1 hok.2 he (hA (by simp))
  ·cases hok
 case mksl sz parts=>
  split at hok
  ·rename_i t n ps ho;simp only[Bool.and_eq_true,decide_eq_true_eq]at hok;obtain⟨⟨⟨rfl,h1⟩,h2⟩,h3⟩:=hok;have hz:=AP h1;refine Qd9 (ps:=ps.map (·.2)) (t:=t) hI ?_ (by simpa using h2) h3 he (hA (by simp));rw[ho,hz,List.length_map]
  ·cases hok
 case mksg sz parts=>
  split at hok
  ·rename_i t n ps ho;simp only[Bool.and_eq_true,decide_eq_true_eq]at hok;obtain⟨⟨⟨rfl,h1⟩,h2⟩,h3⟩:=hok;have hz:=AP h1;refine Qd8 (ps:=ps.map (·.2)) (t:=t) hI ?_ (by simpa using h2) h3 he (hA (by simp));rw[ho,hz,List.length_map]
  ·cases hok
 case mkst zs parts=>
  split at hok
  ·rename_i t ps ho;exact Qea hI ho hok he (hA (by simp))
  ·cases hok
 case idxa sz x i=>
  split at hok
  ·rename_i t x2 i2 ho;simp only[Bool.and_eq_true]at hok;exact Qd2 hI ho hok.1.1 hok.1.2 hok.2 he (hA (by simp))
  ·cases hok
 case idx x i=>
  split at hok
  ·rename_i t x2 i2 ho;simp only[Bool.and_eq_true]at hok;exact Qhd hI ho hok.1.1 hok.1.2 hok.2 he (hA (by simp))
  ·cases hok
 case slcs x lo hi=>
  split at hok
  ·rename_i t x2 lo2 hi2 ho;simp only[Bool.and_eq_true]at hok;exact Qee hI ho hok.1.1.1 hok.1.1.2 hok.1.2 hok.2 he (hA (by simp))
  ·cases hok
 case slcl sz x lo hi=>
  split at hok
  ·rename_i t x2 lo2 hi2 ho;simp only[Bool.and_eq_true]at hok;exact Qed hI ho hok.1.1.1 hok.1.1.2 hok.1.2 hok.2 he (hA (by simp))
  ·cases hok
 case slz sz x=>
  split at hok
  ·rename_i t x2 k1 k2 ho;simp only[Bool.and_eq_true]at hok;exact Qhm hI ho hok.1 hok.2 he (hA (by simp))
  ·cases hok
 case pick c x y=>
  split at hok
  ·rename_i c2 x2 y2 ho;simp only[Bool.and_eq_true]at hok;exact Qeb hI ho hok.1.1 hok.1.2 hok.2 he (hA (by simp))
  ·cases hok
 case ext x i=>
  split at hok
  ·rename_i x2 i2 ho;simp only[Bool.and_eq_true,decide_eq_true_eq]at hok;obtain⟨rfl,h1⟩:=hok;exact Qhb hI ho h1 he (hA (by simp))
  ·cases hok
 case mkfn f caps=>
  split at hok
  ·rename_i g cs ho;simp only[Bool.and_eq_true,decide_eq_true_eq]at hok;exact Qd7 hI ho hok.1 hok.2 he (hA (by simp))
  ·cases hok
 case nilck x=>
  split at hok
  ·rename_i x2 ho;exact QaG hI ho hok he (hA (by simp))
  ·cases hok
 case fld off sz ag x=>
  split at hok
  ·rename_i t x2 f ho;simp only[Bool.and_eq_true]at hok;exact Qhc hI ho hok.1 hok.2 he (hA (by simp))
  ·cases hok
 case mkg bytes sz zs x=>
  split at hok
  ·rename_i t l c ho;simp only[Bool.and_eq_true,decide_eq_true_eq]at hok;obtain⟨⟨rfl,h1⟩,h2⟩:=hok;exact Qhj hI ho h1 h2 he (hA (by simp))
  ·cases hok
 case mkz bytes sz zs x=>
  split at hok
  ·rename_i t l c ho;simp only[Bool.and_eq_true,decide_eq_true_eq]at hok;obtain⟨⟨rfl,h1⟩,h2⟩:=hok;exact Qhl hI ho h1 h2 he (hA (by simp))
  ·cases hok
 case ldfz s off sz fo fz=>
  split at hok
  ·rename_i t q ho;simp only[Bool.and_eq_true]at hok;exact Qd4 hI ho hok.1.1 hok.1.2 (Uf hok.2 hpt) he (hA (by simp))
  ·cases hok
 case appM bytes sz s x=>
  split at hok
  ·rename_i s2 x2 t t2 ho;simp only[Bool.and_eq_true]at hok;obtain⟨⟨⟨h0,h1⟩,h2⟩,h3⟩:=hok;exact PD ho h0 (QdW hI rfl h1 h2 h3 he (hA (by simp)))
  ·cases hok
 case apn bytes sz zs s x=>
  split at hok
  ·rename_i s2 x2 t t2 ho;simp only[Bool.and_eq_true]at hok;obtain⟨⟨⟨⟨h0,h1⟩,h2⟩,h3⟩,h4⟩:=hok;exact Qg3 hI ho h0 h1 h2 h3 h4 he (hA (by simp))
  ·cases hok
 case stq p sz x q=>
  split at hok
  ·rename_i t q2 y ho;simp only[Bool.and_eq_true,decide_eq_true_eq]at hok;obtain⟨⟨rfl,h1⟩,h2⟩:=hok;have he2:Qg K (.st p sz x) σ=some (v,σ1):=by
    simp only[Qg]at he ⊢;split at he
    ·rename_i i o2 i2 o3 e1 e2;rw[e1];split at he
     ·cases he
     ·exact he
    ·cases he
   exact Qb5 hI ho h1 h2 he2 (hS (by simp))
  ·cases hok
 case slcx sz x lo hi=>
  split at hok
  ·rename_i ho;simp only[Bool.and_eq_true]at hok;exact Qef hI ho hok.1.1.1 hok.1.1.2 hok.1.2 hok.2 he (hA (by simp))
  ·cases hok
 case slcc sz x lo hi mx=>
  split at hok
  ·rename_i ho;simp only[Bool.and_eq_true]at hok;exact Qec hI ho hok.1.1.1.1 hok.1.1.1.2 hok.1.1.2 hok.1.2 hok.2 he (hA (by simp))
  ·cases hok
 case mkm=>
  split at hok
  ·rename_i t ho;exact Qhk hI ho he (hA (by simp))
  ·cases hok
 case lkm s ok x i z=>
  split at hok
  ·rename_i t x2 i2 ok2 ho;simp only[Bool.and_eq_true,decide_eq_true_eq]at hok;obtain⟨⟨⟨rfl,h1⟩,h2⟩,h3⟩:=hok;exact Qhi hI ho h1 h2 h3 he (hA (by simp))
  ·cases hok
 case upm s x k y=>
  split at hok
  ·rename_i t x2 k2 y2 ho;simp only[Bool.and_eq_true]at hok;obtain⟨⟨⟨h1,h2⟩,h3⟩,h4⟩:=hok;exact Qhq hI ho h1 h2 h3 h4 he (hS (by simp))
  ·cases hok
end
end Go.Am
namespace Go.Am
def rdO:AO→List Nat
 | .t n=>[n]
 | .c _=>[]
def TE (xs:List AO):List Nat:=xs.flatMap rdO
def UW:Option AO→List Nat
 | some x=>rdO x
 | none=>[]
def QQ:AOp→List Nat
 | .mov x=>rdO x
 | .mvs n=>[n]
 | .box x=>rdO x
 | .alloc _=>[]
 | .gbox x=>rdO x
 | .galloc _=>[]
 | .fad s _=>[s]
 | .fadr p _=>[p]
 | .ldf s _ _ _=>[s]
 | .ldfm s _=>[s]
 | .ld p _ _=>[p]
 | .ldg p _ _=>[p]
 | .ldm p=>[p]
 | .stf s _ _ x=>s:: rdO x
 | .stn s _ _ x _=>s:: rdO x
 | .stfm s _ n=>[s,n]
 | .st p _ x=>p:: rdO x
 | .stm p n=>[p,n]
 | .bin _ x y=>rdO x ++ rdO y
 | .eqb _ x y=>rdO x ++ rdO y
 | .eqn _ x=>rdO x
 | .eqa _ _ x y=>rdO x ++ rdO y
 | .isn _ x=>rdO x
 | .un _ x=>rdO x
 | .conv _ x=>rdO x
 | .call _ args=>TE args
 | .callq _ args=>TE args
 | .callv g args=>rdO g ++ TE args
 | .lens x=>rdO x
 | .lenl x=>rdO x
 | .app _ _ s x=>rdO s ++ rdO x
 | .appg _ _ s x=>rdO s ++ rdO x
 | .appz _ _ n x=>n:: rdO x
 | .frz n _=>[n]
 | .zlit=>[]
 | .nilp=>[]
 | .appzz s x=>rdO s ++ rdO x
 | .clr _ x=>rdO x
 | .mx x y=>rdO x ++ rdO y
 | .mn x y=>rdO x ++ rdO y
 | .mksl _ parts=>TE parts
 | .mksg _ parts=>TE parts
 | .mkst _ parts=>TE (parts.map fun p=>p.2.2)
 | .idxa _ x i=>rdO x ++ rdO i
 | .idx x i=>rdO x ++ rdO i
 | .slcs x lo hi=>rdO x ++ (UW lo ++ UW hi)
 | .slcl _ x lo hi=>rdO x ++ (UW lo ++ UW hi)
 | .slz _ x=>rdO x
 | .pick c a b=>rdO c ++ (rdO a ++ rdO b)
 | .ext x _=>rdO x
 | .mkfn _ caps=>TE caps
 | .nilck x=>rdO x
 | .mkm=>[]
 | .ldfz s _ _ _ _=>[s]
 | .mkg _ _ _ x=>rdO x
 | .mkz _ _ _ x=>rdO x
 | .fld _ _ _ x=>rdO x
 | .appM _ _ s x=>rdO s ++ rdO x
 | .apn _ _ _ s x=>rdO s ++ rdO x
 | .stq p _ x q=>p:: q:: rdO x
 | .slcx _ x lo hi=>rdO x ++ (UW lo ++ UW hi)
 | .slcc _ x lo hi mx=>rdO x ++ (UW lo ++ (rdO hi ++ rdO mx))
 | .lkm _ _ x i _=>rdO x ++ rdO i
 | .upm _ x k y=>rdO x ++ (rdO k ++ rdO y)
def Ym:AOp→List Nat
 | .mvs n=>[n]
 | .ldfm s _=>[s]
 | .stf s _ _ _=>[s]
 | .stn s _ _ _ _=>[s]
 | .stfm s _ n=>[s,n]
 | .stm _ n=>[n]
 | .app _ _ s _=>rdO s
 | .appg _ _ s _=>rdO s
 | .appz _ _ n _=>[n]
 | .frz n _=>[n]
 | .ldfz s _ _ _ _=>[s]
 | _=>[]
def Q5:AOp→Nat
 | .gbox _=>2
 | .galloc _=>2
 | .ldg _ _ _=>1
 | .ldm _=>2
 | .st _ _ _=>2
 | .stm _ _=>2
 | .call _ _=>2
 | .callq _ _=>1
 | .callv _ _=>2
 | .appg _ _ _ _=>2
 | .appz _ _ _ _=>2
 | .frz _ _=>2
 | .clr _ _=>2
 | .mkm=>2
 | .ldfz _ _ _ _ _=>2
 | .mkg _ _ _ _=>2
 | .mksg _ _=>2
 | .lkm _ _ _ _ _=>1
 | .appM _ _ _ _=>2
 | .apn _ _ _ _ _=>2
 | .slcx _ _ _ _=>1
 | .stq _ _ _ _=>2
 | .upm _ _ _ _=>2
 | _=>0
def QA (op:AOp) (τ s:St):St:={env:=fun j=>if j∈Ym op then s.env j else τ.env j,bs:=if Q5 op=2 then s.bs else τ.bs}
theorem QH {op:AOp} {τ s:St} (h:Ym op=[]) (hb:Q5 op≠2):QA op τ s=τ:=by
 unfold QA;rw[h];simp[hb]
theorem Qw {ρ ρ':Nat→AV} {x:AO} (h: ∀j∈rdO x,ρ' j=ρ j):val ρ' x=val ρ x:=by
 cases x with
 | t n=>simp only[val];rw[h n (by simp[rdO])]
 | c v=>rfl
theorem WC [Dr] {ρ ρ':Nat→AV}: ∀{xs:List AO},(∀j∈TE xs,ρ' j=ρ j)→xs.map (val ρ')=xs.map (val ρ)
 | [],_=>rfl
 | x:: xs,h=>by
  simp only[List.map_cons];rw[Qw (fun j hj=>h j (by simp[TE];exact .inl hj)),WC (fun j hj=>h j (by simp only[TE,List.flatMap_cons,List.mem_append];exact .inr hj))]
theorem W4 [Dr] {ρ ρ':Nat→AV} {x:Option AO} (h: ∀j∈UW x,ρ' j=ρ j):x.map (val ρ')=x.map (val ρ):=by
 cases x with
 | none=>rfl
 | some x=>simp only[Option.map_some];rw[Qw (by simpa[UW]using h)]
theorem Yl {s t:St} (h1: ∀j,s.env j=t.env j) (h2:s.bs=t.bs):s=t:=by
 cases s;cases t
 simp only[St.mk.injEq];exact⟨funext h1,h2⟩
theorem LP {σ τ:St} {n sz:Nat} (h0:τ.env n=σ.env n) (h1:τ.bs=σ.bs):ZO τ n sz=(ZO σ n sz).map fun p=>(p.1,{env:=upd τ.env n .undef,bs:=p.2.bs}):=by
 unfold ZO;rw[h0,h1];split
 ·split
  ·split
   ·simp
   ·rename_i id _ _ _ _ _ _;cases σ.bs[id]? with
    | none=>rfl
    | some cs=>
     simp only[Option.bind_some];split <;> rfl
  ·split <;> simp
 ·rfl
theorem O0 {σ:St} {n sz:Nat} {p:AV×St} (h:ZO σ n sz=some p):p.2.env=upd σ.env n .undef:=by
 unfold ZO at h;split at h
 ·split at h
  ·split at h
   ·injection h with h;subst h;rfl
   ·rename_i id _ _ _ _ _ _;cases hb:σ.bs[id]? with
    | none=>rw[hb]at h;cases h
    | some cs=>
     rw[hb]at h;simp only[Option.bind_some]at h;split at h
     ·injection h with h;subst h;rfl
     ·cases h
  ·split at h
   ·injection h with h;subst h;rfl
   ·cases h
 ·cases h
set_option maxHeartbeats 1000000 in
theorem Mi [Dr] {K:ZJ} {op:AOp} {σ τ:St} (hr: ∀j∈QQ op,τ.env j=σ.env j) (hb:Q5 op≠0→τ.bs=σ.bs):
  Qg K op τ=(Qg K op σ).map fun p=>(p.1,QA op τ p.2):=by
 cases op
 case mov x=>
  have hm: ∀s':St,QA (.mov x) τ s'=τ:=fun _=>QH rfl (show(0:Nat)≠2 by omega);simp only[Qg];rw[Qw hr];split <;> simp[hm]
 case mvs n=>
  have h0:=hr n (by simp[QQ]);simp only[Qg,h0];split
  ·simp only[Option.map_some,Option.some.injEq,Prod.mk.injEq,true_and];exact Yl (fun j=>by simp only[QA,Ym,upd,List.mem_singleton];split <;> rfl) (by simp[QA,Q5])
  ·rfl
 case box x=>
  have hm: ∀s':St,QA (.box x) τ s'=τ:=fun _=>QH rfl (show(0:Nat)≠2 by omega);simp only[Qg];rw[Qw hr];simp[hm,Function.comp_def]
 case alloc zs=>
  have hm: ∀s':St,QA (.alloc zs) τ s'=τ:=fun _=>QH rfl (show(0:Nat)≠2 by omega);simp[Qg,hm]
 case gbox x=>
  have h0:=hb (by simp[Q5]);simp only[Qg,h0];rw[Qw hr]
  cases cellsOf (val σ.env x)with
  | none=>rfl
  | some cs=>
   simp only[Option.map_some,Option.some.injEq,Prod.mk.injEq,true_and];exact Yl (fun j=>by simp[QA,Ym]) (by simp[QA,Q5])
 case galloc zs=>
  have h0:=hb (by simp[Q5]);simp only[Qg,h0,Option.map_some,Option.some.injEq,Prod.mk.injEq,true_and];exact Yl (fun j=>by simp[QA,Ym]) (by simp[QA,Q5])
 case fad s off=>
  have hm: ∀s':St,QA (.fad s off) τ s'=τ:=fun _=>QH rfl (show(0:Nat)≠2 by omega)
  
  have h0:=hr s (by simp[QQ]);simp only[Qg,h0];split <;> simp[hm]
 case fadr p off=>
  have hm: ∀s':St,QA (.fadr p off) τ s'=τ:=fun _=>QH rfl (show(0:Nat)≠2 by omega)
  
  have h0:=hr p (by simp[QQ]);simp only[Qg,h0];split <;> simp[hm]
 case ldf s off sz ag=>
  have hm: ∀s':St,QA (.ldf s off sz ag) τ s'=τ:=fun _=>QH rfl (show(0:Nat)≠2 by omega)
  
  have h0:=hr s (by simp[QQ]);simp only[Qg,h0];split <;> simp[hm,Function.comp_def]
 case ldfm s off=>
  have h0:=hr s (by simp[QQ]);simp only[Qg,h0];split
  ·rename_i cs hcs;cases cs[off]? with
   | none=>rfl
   | some c=>
    simp only[Option.bind_some];split
    ·simp only[Option.map_some,Option.some.injEq,Prod.mk.injEq,true_and];exact Yl (fun j=>by simp only[QA,Ym,upd,List.mem_singleton];split <;> rfl) (by simp[QA,Q5])
    ·rfl
  ·rfl
 case ld p sz ag=>
  have hm: ∀s':St,QA (.ld p sz ag) τ s'=τ:=fun _=>QH rfl (show(0:Nat)≠2 by omega)
  
  have h0:=hr p (by simp[QQ]);simp only[Qg,h0];split <;> simp[hm,Function.comp_def]
 case ldg p sz ag=>
  have hm: ∀s':St,QA (.ldg p sz ag) τ s'=τ:=fun _=>QH rfl (show(1:Nat)≠2 by omega)
  
  have h0:=hr p (by simp[QQ]);have h1:=hb (by simp[Q5]);simp only[Qg,h0,h1];split
  ·rename_i i of hcs;cases σ.bs[i]? with
   | none=>rfl
   | some cs=>simp[hm,Function.comp_def]
  ·rfl
 case ldm p=>
  have h0:=hr p (by simp[QQ]);have h1:=hb (by simp[Q5]);simp only[Qg,h0,h1];split
  ·rename_i i of hcs;cases σ.bs[i]? with
   | none=>rfl
   | some cs=>
    simp only[Option.bind_some];cases cs[of]? with
    | none=>rfl
    | some c=>
     simp only[Option.bind_some];split
     ·simp only[Option.map_some,Option.some.injEq,Prod.mk.injEq,true_and];exact Yl (fun j=>by simp[QA,Ym]) (by simp[QA,Q5])
     ·rfl
  ·rfl
 case stf s off sz x=>
  have h0:=hr s (by simp[QQ]);simp only[Qg,h0];rw[Qw (fun j hj=>hr j (by simp[QQ,hj]))]
  split
  ·rename_i cs hcs;cases cellsOf (val σ.env x)with
   | none=>rfl
   | some vs=>
    simp only[Option.bind_some];split
    ·simp only[Option.map_some,Option.some.injEq,Prod.mk.injEq,true_and];exact Yl (fun j=>by simp only[QA,Ym,upd,List.mem_singleton];split <;> rfl) (by simp[QA,Q5])
    ·rfl
  ·rfl
 case stn s off sz x zs=>
  have h0:=hr s (by simp[QQ]);simp only[Qg,h0];rw[Qw (fun j hj=>hr j (by simp[QQ,hj]))]
  split
  ·rename_i cs hcs;cases cellsOf (val σ.env x)with
   | none=>rfl
   | some vs=>
    simp only[Option.bind_some];split
    ·simp only[Option.map_some,Option.some.injEq,Prod.mk.injEq,true_and];exact Yl (fun j=>by simp only[QA,Ym,upd,List.mem_singleton];split <;> rfl) (by simp[QA,Q5])
    ·rfl
  ·rfl
 case stfm s off n=>
  have h0:=hr s (by simp[QQ]);have h1:=hr n (by simp[QQ]);simp only[Qg,h0,h1];split
  ·rename_i cs hcs;split
   ·simp only[Option.map_some,Option.some.injEq,Prod.mk.injEq,true_and];refine Yl (fun j=> ?_) (by simp[QA,Q5]);simp only[QA,Ym,upd,List.mem_cons,List.not_mem_nil,or_false];by_cases e1:j=s <;> by_cases e2:j=n <;> simp[e1,e2]
   ·rfl
  ·rfl
 case st p sz x=>
  have h0:=hr p (by simp[QQ]);have h1:=hb (by simp[Q5]);simp only[Qg,h0,h1];rw[Qw (fun j hj=>hr j (by simp[QQ,hj]))]
  split
  ·rename_i i of hcs;cases σ.bs[i]? with
   | none=>rfl
   | some cs=>
    simp only[Option.bind_some];cases cellsOf (val σ.env x)with
    | none=>rfl
    | some vs=>
     simp only[Option.bind_some];split
     ·simp only[Option.map_some,Option.some.injEq,Prod.mk.injEq,true_and];exact Yl (fun j=>by simp[QA,Ym]) (by simp[QA,Q5])
     ·rfl
  ·rfl
 case stm p n=>
  have h0:=hr p (by simp[QQ]);have h1:=hb (by simp[Q5]);have h2:=hr n (by simp[QQ]);simp only[Qg,h0,h1,h2];split
  ·rename_i i of hcs;cases σ.bs[i]? with
   | none=>rfl
   | some cs=>
    simp only[Option.bind_some];split
    ·simp only[Option.map_some,Option.some.injEq,Prod.mk.injEq,true_and];exact Yl (fun j=>by simp only[QA,Ym,upd,List.mem_singleton];split <;> rfl) (by simp[QA,Q5])
    ·rfl
  ·rfl
 case bin op x y=>
  have hm: ∀s':St,QA (.bin op x y) τ s'=τ:=fun _=>QH rfl (show(0:Nat)≠2 by omega);simp only[Qg];rw[Qw (fun j hj=>hr j (by simp[QQ,hj])),Qw (x:=y) (fun j hj=>hr j (by simp[QQ,hj]))];simp[hm,Function.comp_def]
 case eqb ne x y=>
  have hm: ∀s':St,QA (.eqb ne x y) τ s'=τ:=fun _=>QH rfl (show(0:Nat)≠2 by omega);simp only[Qg];rw[Qw (fun j hj=>hr j (by simp[QQ,hj])),Qw (x:=y) (fun j hj=>hr j (by simp[QQ,hj]))];split <;> simp[hm]
 case eqn ne x=>
  have hm: ∀s':St,QA (.eqn ne x) τ s'=τ:=fun _=>QH rfl (show(0:Nat)≠2 by omega);simp only[Qg];rw[Qw hr];split <;> simp[hm]
 case eqa ne ks x y=>
  have hm: ∀s':St,QA (.eqa ne ks x y) τ s'=τ:=fun _=>QH rfl (show(0:Nat)≠2 by omega);simp only[Qg];rw[Qw (fun j hj=>hr j (by simp[QQ,hj])),Qw (x:=y) (fun j hj=>hr j (by simp[QQ,hj]))];split <;> simp[hm,Function.comp_def]
 case isn ne x=>
  have hm: ∀s':St,QA (.isn ne x) τ s'=τ:=fun _=>QH rfl (show(0:Nat)≠2 by omega);simp only[Qg];rw[Qw hr];split <;> simp[hm]
 case un op x=>
  have hm: ∀s':St,QA (.un op x) τ s'=τ:=fun _=>QH rfl (show(0:Nat)≠2 by omega);simp only[Qg];rw[Qw hr];simp[hm,Function.comp_def]
 case conv k x=>
  have hm: ∀s':St,QA (.conv k x) τ s'=τ:=fun _=>QH rfl (show(0:Nat)≠2 by omega);simp only[Qg];rw[Qw hr];split <;> simp[hm]
 case call f args=>
  have h0:=hb (by simp[Q5]);simp only[Qg,h0];rw[WC hr]
  split
  ·simp only[Option.map_map,Function.comp_def];congr 1
  ·rfl
 case callq f args=>
  have h0:=hb (by simp[Q5]);have hm: ∀s':St,QA (.callq f args) τ s'=τ:=fun _=>QH rfl (show(1:Nat)≠2 by omega);simp only[Qg,h0];rw[WC hr]
  split
  ·cases K f (args.map (val σ.env)) σ.bs with
   | none=>rfl
   | some p=>
    simp only[Option.bind_some];split
    ·simp[hm]
    ·rfl
  ·rfl
 case callv g args=>
  have h0:=hb (by simp[Q5]);simp only[Qg,h0];rw[WC (fun j hj=>hr j (by simp[QQ,hj])),Qw (fun j hj=>hr j (by simp[QQ,hj]))]
  split
  ·split
   ·simp only[Option.map_map,Function.comp_def];congr 1
   ·rfl
  ·rfl
 case lens x=>
  have hm: ∀s':St,QA (.lens x) τ s'=τ:=fun _=>QH rfl (show(0:Nat)≠2 by omega);simp only[Qg];rw[Qw hr];split <;> simp[hm]
 case lenl x=>
  have hm: ∀s':St,QA (.lenl x) τ s'=τ:=fun _=>QH rfl (show(0:Nat)≠2 by omega);simp only[Qg];rw[Qw hr];split <;> simp[hm]
 case app bytes sz s x=>
  simp only[Qg];rw[Qw (x:=x) (fun j hj=>hr j (by simp[QQ,hj]))]
  cases s with
  | t n=>
   have h0:=hr n (by simp[QQ,rdO]);simp only[h0];split
   ·rename_i sz1 xs ρ o2 sz2 ys e1 e2;simp only[Prod.mk.injEq]at e1;obtain⟨e1,rfl⟩:=e1;simp only[e1,e2];split
    ·simp only[Option.map_some,Option.some.injEq,Prod.mk.injEq,true_and];exact Yl (fun j=>by simp only[QA,Ym,rdO,upd,List.mem_singleton];split <;> rfl) (by simp[QA,Q5])
    ·rfl
   ·rename_i hne;split
    ·rename_i sz1 xs ρ o2 sz2 ys e1 e2;simp only[Prod.mk.injEq]at e1;exact(hne sz1 xs _ o2 sz2 ys (by simp only[Prod.mk.injEq];exact⟨e1.1,rfl⟩) e2).elim
    ·rfl
  | c vc=>
   have hm: ∀s':St,QA (.app bytes sz (.c vc) x) τ s'=τ:=fun _=>QH rfl (show(0:Nat)≠2 by omega);simp only[hm];split
   ·rename_i sz1 xs ρ o2 sz2 ys e1 e2;simp only[Prod.mk.injEq]at e1;obtain⟨rfl,rfl⟩:=e1;simp only[e2];split <;> rfl
   ·rename_i hne;split
    ·rename_i sz1 xs ρ o2 sz2 ys e1 e2;simp only[Prod.mk.injEq]at e1;exact(hne sz1 xs _ o2 sz2 ys (by simp only[Prod.mk.injEq];exact⟨e1.1,rfl⟩) e2).elim
    ·rfl
 case frz n sz=>
  have h0:=hr n (by simp[QQ]);have h1:=hb (by simp[Q5]);simp only[Qg,LP h0 h1];cases hf:ZO σ n sz with
  | none=>rfl
  | some p=>
   simp only[Option.map_some,Option.some.injEq,Prod.mk.injEq,true_and];exact Yl (fun j=>by simp only[QA,Ym,O0 hf,upd,List.mem_singleton];split <;> rfl) (by simp[QA,Q5])
 case appz bytes sz n x=>
  have h0:=hr n (by simp[QQ]);have h1:=hb (by simp[Q5]);simp only[Qg,LP h0 h1];rw[Qw (x:=x) (fun j hj=>hr j (by simp[QQ,hj]))]
  cases hf:ZO σ n sz with
  | none=>rfl
  | some p=>
   obtain⟨v,s⟩:=p;have he:=O0 hf;simp only at he;cases v <;> simp only[Option.map_some] <;> try rfl
   rename_i ow sz1 xs;cases ow <;> try rfl
   cases hx:val σ.env x <;> (try simp only[]) <;> try rfl
   split
   ·simp only[Option.map_some,Option.some.injEq,Prod.mk.injEq,true_and];exact Yl (fun j=>by simp only[QA,Ym,he,upd,List.mem_singleton];split <;> rfl) (by simp[QA,Q5])
   ·rfl
 case clr sz x=>
  have h1:=hb (by simp[Q5]);simp only[Qg,h1];rw[Qw hr]
  split
  ·split
   ·split
    ·simp only[Option.map_some,Option.some.injEq,Prod.mk.injEq,true_and];exact Yl (fun j=>by simp[QA,Ym]) (by simp[QA,Q5,h1])
    ·rename_i id _ _ _ _ _ _;cases σ.bs[id]? with
     | none=>rfl
     | some cs=>
      simp only[Option.bind_some];split
      ·simp only[Option.map_some,Option.some.injEq,Prod.mk.injEq,true_and];exact Yl (fun j=>by simp[QA,Ym]) (by simp[QA,Q5])
      ·rfl
   ·rfl
  ·rfl
 case appg bytes sz s x=>
  have hb1:=hb (by simp[Q5]);simp only[Qg,hb1];rw[Qw (x:=x) (fun j hj=>hr j (by simp[QQ,hj]))]
  cases s with
  | t n=>
   have h0:=hr n (by simp[QQ,rdO]);simp only[h0];cases hn:σ.env n <;> (try simp only[]) <;> try rfl
   rename_i ow sz1 xs;cases ow <;> try rfl
   cases xs <;> try rfl
   cases hx:val σ.env x <;> (try simp only[]) <;> try rfl
   split
   ·split
    ·rfl
    ·simp only[Option.map_some,Option.some.injEq,Prod.mk.injEq,true_and];exact Yl (fun j=>by simp only[QA,Ym,rdO,upd,List.mem_singleton];split <;> rfl) (by simp[QA,Q5])
   ·rfl
  | c vc=>
   cases vc <;> (try simp only[]) <;> try rfl
   rename_i ow sz1 xs;cases ow <;> try rfl
   cases xs <;> try rfl
   cases hx:val σ.env x <;> (try simp only[]) <;> try rfl
   split
   ·split
    ·rfl
    ·simp only[Option.map_some,Option.some.injEq,Prod.mk.injEq,true_and];exact Yl (fun j=>by simp[QA,Ym,rdO]) (by simp[QA,Q5])
   ·rfl
 case zlit=>
  have hm: ∀s':St,QA .zlit τ s'=τ:=fun _=>QH rfl (show(0:Nat)≠2 by omega);simp[Qg,hm]
 case nilp=>
  have hm: ∀s':St,QA .nilp τ s'=τ:=fun _=>QH rfl (show(0:Nat)≠2 by omega);simp[Qg,hm]
 case appzz s x=>
  have hm: ∀s':St,QA (.appzz s x) τ s'=τ:=fun _=>QH rfl (show(0:Nat)≠2 by omega);simp only[Qg];rw[Qw (fun j hj=>hr j (by simp[QQ,hj])),Qw (x:=x) (fun j hj=>hr j (by simp[QQ,hj]))];split
  ·simp[hm]
  ·rfl
 case mx x y=>
  have hm: ∀s':St,QA (.mx x y) τ s'=τ:=fun _=>QH rfl (show(0:Nat)≠2 by omega);simp only[Qg];rw[Qw (fun j hj=>hr j (by simp[QQ,hj])),Qw (x:=y) (fun j hj=>hr j (by simp[QQ,hj]))];split
  ·split <;> simp[hm]
  ·rfl
 case mn x y=>
  have hm: ∀s':St,QA (.mn x y) τ s'=τ:=fun _=>QH rfl (show(0:Nat)≠2 by omega);simp only[Qg];rw[Qw (fun j hj=>hr j (by simp[QQ,hj])),Qw (x:=y) (fun j hj=>hr j (by simp[QQ,hj]))];split
  ·split <;> simp[hm]
  ·rfl
 case mksl sz parts=>
  have hm: ∀s':St,QA (.mksl sz parts) τ s'=τ:=fun _=>QH rfl (show(0:Nat)≠2 by omega);simp only[Qg];rw[WC hr];simp[hm,Function.comp_def]
 case mksg sz parts=>
  have h0:=hb (by simp[Q5]);simp only[Qg,h0];rw[WC hr]
  cases Yx sz (parts.map (val σ.env))with
  | none=>rfl
  | some xs=>
   simp only[Option.map_some,Option.some.injEq,Prod.mk.injEq,true_and];exact Yl (fun j=>by simp[QA,Ym]) (by simp[QA,Q5])
 case mkst zs parts=>
  have hm: ∀s':St,QA (.mkst zs parts) τ s'=τ:=fun _=>QH rfl (show(0:Nat)≠2 by omega)
  
  simp only[Qg];have:parts.map (fun p=>(p.1,p.2.1,val τ.env p.2.2))=parts.map (fun p=>(p.1,p.2.1,val σ.env p.2.2)):=by
   apply List.map_congr_left;intro p hp;rw[Qw (fun j hj=>hr j (by simp only[QQ,TE,List.mem_flatMap,List.mem_map];exact⟨p.2.2,⟨p,hp,rfl⟩,hj⟩))]
  rw[this];simp[hm,Function.comp_def]
 case idxa sz x i=>
  have hm: ∀s':St,QA (.idxa sz x i) τ s'=τ:=fun _=>QH rfl (show(0:Nat)≠2 by omega);simp only[Qg];rw[Qw (fun j hj=>hr j (by simp[QQ,hj])),Qw (x:=i) (fun j hj=>hr j (by simp[QQ,hj]))];split
  ·split <;> simp[hm,Function.comp_def]
  ·split <;> simp[hm]
  ·rfl
 case idx x i=>
  have hm: ∀s':St,QA (.idx x i) τ s'=τ:=fun _=>QH rfl (show(0:Nat)≠2 by omega);simp only[Qg];rw[Qw (fun j hj=>hr j (by simp[QQ,hj])),Qw (x:=i) (fun j hj=>hr j (by simp[QQ,hj]))];split
  ·split <;> simp[hm,Function.comp_def]
  ·rfl
 case slcs x lo hi=>
  have hm: ∀s':St,QA (.slcs x lo hi) τ s'=τ:=fun _=>QH rfl (show(0:Nat)≠2 by omega)
  
  simp only[Qg];rw[Qw (fun j hj=>hr j (by simp[QQ,hj])),W4 (x:=lo) (fun j hj=>hr j (by simp[QQ,hj])),W4 (x:=hi) (fun j hj=>hr j (by simp[QQ,hj]))]
  split
  ·cases Q9 _ _ (hi.map (val σ.env))with
   | none=>rfl
   | some H=>simp[hm,Function.comp_def]
  ·rfl
 case slcl sz x lo hi=>
  have hm: ∀s':St,QA (.slcl sz x lo hi) τ s'=τ:=fun _=>QH rfl (show(0:Nat)≠2 by omega)
  
  simp only[Qg];rw[Qw (fun j hj=>hr j (by simp[QQ,hj])),W4 (x:=lo) (fun j hj=>hr j (by simp[QQ,hj])),W4 (x:=hi) (fun j hj=>hr j (by simp[QQ,hj]))]
  split
  ·split
   ·cases Q9 _ _ (hi.map (val σ.env))with
    | none=>rfl
    | some H=>simp[hm,Function.comp_def]
   ·rfl
  ·split
   ·cases Q9 _ _ (hi.map (val σ.env))with
    | none=>rfl
    | some H=>simp[hm,Function.comp_def]
   ·split
    ·cases Q9 _ _ (hi.map (val σ.env))with
     | none=>rfl
     | some H=>simp[hm,Function.comp_def]
    ·rfl
  ·rfl
 case slz sz x=>
  have hm: ∀s':St,QA (.slz sz x) τ s'=τ:=fun _=>QH rfl (show(0:Nat)≠2 by omega);simp only[Qg];rw[Qw hr];split
  ·split <;> simp[hm]
  ·rfl
 case pick c x y=>
  have hm: ∀s':St,QA (.pick c x y) τ s'=τ:=fun _=>QH rfl (show(0:Nat)≠2 by omega)
  
  simp only[Qg];rw[Qw (fun j hj=>hr j (by simp[QQ,hj])),Qw (x:=x) (fun j hj=>hr j (by simp[QQ,hj])),Qw (x:=y) (fun j hj=>hr j (by simp[QQ,hj]))]
  split
  ·split <;> simp[hm]
  ·split <;> simp[hm]
  ·rfl
 case ext x i=>
  have hm: ∀s':St,QA (.ext x i) τ s'=τ:=fun _=>QH rfl (show(0:Nat)≠2 by omega)
  
  simp only[Qg];rw[Qw hr]
  split
  ·rename_i vs hv;cases vs[i]? with
   | none=>rfl
   | some c=>simp only[Option.bind_some];split <;> simp[hm]
  ·rfl
 case mkfn f caps=>
  have hm: ∀s':St,QA (.mkfn f caps) τ s'=τ:=fun _=>QH rfl (show(0:Nat)≠2 by omega);simp only[Qg];rw[WC hr];split <;> simp[hm]
 case nilck x=>
  have hm: ∀s':St,QA (.nilck x) τ s'=τ:=fun _=>QH rfl (show(0:Nat)≠2 by omega);simp only[Qg];rw[Qw hr];split <;> simp[hm]
 case fld off sz ag x=>
  have hm: ∀s':St,QA (.fld off sz ag x) τ s'=τ:=fun _=>QH rfl (show(0:Nat)≠2 by omega);simp only[Qg];rw[Qw hr];split <;> simp[hm,Function.comp_def]
 case mkg bytes sz zs x=>
  have h0:=hb (by simp[Q5]);simp only[Qg,h0];rw[Qw hr]
  split
  ·split
   ·simp only[Option.map_some,Option.some.injEq,Prod.mk.injEq,true_and];exact Yl (fun j=>by simp[QA,Ym]) (by simp[QA,Q5])
   ·rfl
  ·rfl
 case mkz bytes sz zs x=>
  have hm: ∀s':St,QA (.mkz bytes sz zs x) τ s'=τ:=fun _=>QH rfl (show(0:Nat)≠2 by omega);simp only[Qg];rw[Qw hr]
  split
  ·split
   ·simp[hm]
   ·rfl
  ·rfl
 case ldfz s off sz fo fz=>
  have h0:=hr s (by simp[QQ]);have h1:=hb (by simp[Q5]);simp only[Qg,h0,h1];split
  ·rename_i cs hcs;split
   ·rename_i id o sz1 k hfo;split
    ·cases σ.bs[id]? with
     | none=>rfl
     | some c2=>
      simp only[Option.bind_some];split
      ·cases Z0 (cs.set fo (.sl false fz (ZL c2 o fz k))) off sz true with
       | none=>rfl
       | some v2=>
        simp only[Option.map_some,Option.some.injEq,Prod.mk.injEq,true_and];exact Yl (fun j=>by simp only[QA,Ym,upd,List.mem_singleton];split <;> rfl) (by simp[QA,Q5])
      ·rfl
    ·split
     ·cases Z0 (cs.set fo (.sl false fz [])) off sz true with
      | none=>rfl
      | some v2=>
       simp only[Option.map_some,Option.some.injEq,Prod.mk.injEq,true_and];exact Yl (fun j=>by simp only[QA,Ym,List.mem_singleton];split <;> simp_all) (by simp[QA,Q5,h1])
     ·rfl
   ·rfl
  ·rfl
 case appM bytes sz s x=>
  have h0:=hb (by simp[Q5]);simp only[Qg,h0];rw[Qw (x:=s) (fun j hj=>hr j (by simp[QQ,hj])),Qw (x:=x) (fun j hj=>hr j (by simp[QQ,hj]))]
  simp only[Option.map_map,Function.comp_def];congr 1
 case apn bytes sz zs s x=>
  have h0:=hb (by simp[Q5]);simp only[Qg,h0];rw[Qw (x:=s) (fun j hj=>hr j (by simp[QQ,hj])),Qw (x:=x) (fun j hj=>hr j (by simp[QQ,hj]))]
  split
  ·split
   ·simp only[Option.map_map,Function.comp_def];congr 1
   ·rfl
  ·rfl
 case stq p sz x q=>
  have h0:=hr p (by simp[QQ]);have h2:=hr q (by simp[QQ]);have h1:=hb (by simp[Q5]);simp only[Qg,h0,h1,h2];rw[Qw (fun j hj=>hr j (by simp[QQ,hj]))]
  split
  ·rename_i i of i2 of2 hcs hcs2;split
   ·rfl
   ·cases σ.bs[i]? with
    | none=>rfl
    | some cs=>
     simp only[Option.bind_some];cases cellsOf (val σ.env x)with
     | none=>rfl
     | some vs=>
      simp only[Option.bind_some];split
      ·simp only[Option.map_some,Option.some.injEq,Prod.mk.injEq,true_and];exact Yl (fun j=>by simp[QA,Ym]) (by simp[QA,Q5])
      ·rfl
  ·rfl
 case slcx sz x lo hi=>
  have hm: ∀s':St,QA (.slcx sz x lo hi) τ s'=τ:=fun _=>QH rfl (show(1:Nat)≠2 by omega);have h0:=hb (by simp[Q5]);simp only[Qg,h0];rw[Qw (fun j hj=>hr j (by simp[QQ,hj])),W4 (x:=lo) (fun j hj=>hr j (by simp[QQ,hj])),W4 (x:=hi) (fun j hj=>hr j (by simp[QQ,hj]))]
  split
  ·rename_i id of sz1 kn hA;split
   ·cases σ.bs[id]? with
    | none=>rfl
    | some cs=>
     simp only[Option.bind_some];cases Q9 _ _ (hi.map (val σ.env))with
     | none=>rfl
     | some H=>simp[hm,Function.comp_def]
   ·rfl
  ·rfl
 case slcc sz x lo hi mx=>
  have hm: ∀s':St,QA (.slcc sz x lo hi mx) τ s'=τ:=fun _=>QH rfl (show(0:Nat)≠2 by omega);simp only[Qg];rw[Qw (x:=x) (fun j hj=>hr j (by simp[QQ,hj])),W4 (x:=lo) (fun j hj=>hr j (by simp[QQ,hj])),Qw (x:=hi) (fun j hj=>hr j (by simp[QQ,hj])),Qw (x:=mx) (fun j hj=>hr j (by simp[QQ,hj]))]
  split
  ·cases Q9 _ _ (some (val σ.env mx))with
   | none=>rfl
   | some M=>
    simp only[Option.bind_some];cases Q9 _ _ (some (val σ.env hi))with
    | none=>rfl
    | some H=>simp[hm,Function.comp_def]
  ·cases Q9 _ _ (some (val σ.env mx))with
   | none=>rfl
   | some M=>
    simp only[Option.bind_some];cases Q9 _ _ (some (val σ.env hi))with
    | none=>rfl
    | some H=>simp[hm,Function.comp_def]
  ·rfl
 case mkm=>
  have h0:=hb (by simp[Q5]);simp only[Qg,h0,Option.map_some,Option.some.injEq,Prod.mk.injEq,true_and];exact Yl (fun j=>by simp[QA,Ym]) (by simp[QA,Q5])
 case lkm s ok x i z=>
  have hm: ∀s':St,QA (.lkm s ok x i z) τ s'=τ:=fun _=>QH rfl (show(1:Nat)≠2 by omega);have h1:=hb (by simp[Q5]);simp only[Qg,h1];rw[Qw (fun j hj=>hr j (by simp[QQ,hj])),Qw (x:=i) (fun j hj=>hr j (by simp[QQ,hj]))]
  split
  ·rename_i id hid;cases σ.bs[id]? with
   | none=>rfl
   | some cs=>
    simp only[Option.bind_some];split
    ·rfl
    ·cases Us s (cs.drop 1) (val σ.env i)with
     | none=>rfl
     | some r=>
      simp only[Option.bind_some];split <;> simp[hm]
  ·rfl
 case upm s x k y=>
  have h1:=hb (by simp[Q5]);simp only[Qg,h1];rw[Qw (fun j hj=>hr j (by simp[QQ,hj])),Qw (x:=k) (fun j hj=>hr j (by simp[QQ,hj])),Qw (x:=y) (fun j hj=>hr j (by simp[QQ,hj]))]
  split
  ·rename_i id hid;cases σ.bs[id]? with
   | none=>rfl
   | some cs=>
    simp only[Option.bind_some];split
    ·rfl
    ·cases TM s (cs.drop 1) (val σ.env k) (val σ.env y).strip with
     | none=>rfl
     | some ys=>
      simp only[Option.map_some,Option.some.injEq,Prod.mk.injEq,true_and];exact Yl (fun j=>by simp[QA,Ym]) (by simp[QA,Q5])
  ·rfl
end Go.Am
namespace Go.Am
def rdA (x:Qr):List Nat:=QQ x.op ++ (match x.guard with
 | some (t,_)=>[t]
 | none=>[])
def wrA (x:Qr):List Nat:=Ym x.op ++ x.dst.toList
def Ej (a b:List Nat):Bool:=a.all fun j=> !b.contains j
def Ey (x y:Qr):Bool:=Ej (wrA x) (rdA y ++ wrA y) && Ej (wrA y) (rdA x) &&
 (decide (Q5 x.op=0) || decide (Q5 y.op=0) || (decide (Q5 x.op=1) && decide (Q5 y.op=1)))
def WH (x:Qr) (τ s:St):St:={env:=fun j=>if j∈wrA x then s.env j else τ.env j,bs:=if Q5 x.op=2 then s.bs else τ.bs}
theorem PB (ρ:Nat→AV) (d:Option Nat) (v:AV) (j:Nat):ZR ρ d v j=if j∈d.toList then v else ρ j:=by
 cases d with
 | none=>simp[ZR]
 | some d=>simp[ZR,upd]
theorem Eq [Dr] {K:ZJ} {op:AOp} {σ σ1:St} {v:AV} (h:Qg K op σ=some (v,σ1)):σ1=QA op σ σ1:=by
 have:=Mi (K:=K) (op:=op) (σ:=σ) (τ:=σ) (fun _ _=>rfl) (fun _=>rfl);rw[h]at this;simp only[Option.map_some,Option.some.injEq,Prod.mk.injEq,true_and]at this;exact this
theorem Ux [Dr] {K:ZJ} {x:Qr} {σ τ:St} (hr: ∀j∈rdA x,τ.env j=σ.env j) (hb:Q5 x.op≠0→τ.bs=σ.bs):
  Zr K x τ=(Zr K x σ).map (WH x τ):=by
 have he:=Mi (K:=K) (op:=x.op) (σ:=σ) (τ:=τ) (fun j hj=>hr j (by simp[rdA,hj])) hb;have hbody: ((Qg K x.op τ).map fun p=>({p.2 with env:=ZR p.2.env x.dst p.1}:St))=((Qg K x.op σ).map fun p=>({p.2 with env:=ZR p.2.env x.dst p.1}:St)).map (WH x τ):=by
  rw[he];simp only[Option.map_map,Function.comp_def];congr 1;funext p;refine Yl (fun j=> ?_) ?_
  ·simp only[WH,QA,wrA,List.mem_append,PB];by_cases h1:j∈x.dst.toList <;> by_cases h2:j∈Ym x.op <;> simp[h1,h2]
  ·simp[WH,QA]
 unfold Zr;cases hg:x.guard with
 | none=>exact hbody
 | some tb=>
  obtain⟨t,b⟩:=tb;simp only;rw[hr t (by simp[rdA,hg])];have hskip: (some {τ with env:=ZR τ.env x.dst (.tup [])}:Option St)=(some ({σ with env:=ZR σ.env x.dst (.tup [])}:St)).map (WH x τ):=by
   simp only[Option.map_some,Option.some.injEq];refine Yl (fun j=> ?_) ?_
   ·simp only[WH,wrA,List.mem_append,PB];by_cases h1:j∈x.dst.toList
    ·simp[h1]
    ·by_cases h2:j∈Ym x.op
     ·simp only[h1,h2,if_false,or_false,if_true];exact hr j (by
       have: ∀op:AOp,∀j∈Ym op,j∈QQ op:=by
        intro op j hj;cases op <;> simp only[Ym,QQ,List.mem_cons,List.mem_append,List.not_mem_nil,or_false]at hj ⊢ <;> first | exact hj | exact .inl hj | exact .inr hj | (exact hj.elim)
       simp only[rdA,List.mem_append];exact .inl (this _ _ h2))
     ·simp[h1,h2]
   ·simp only[WH];by_cases h2:Q5 x.op=2
    ·simp only[h2,if_true];exact hb (by omega)
    ·simp[h2]
  split
  ·split
   ·exact hbody
   ·exact hskip
  ·exact hskip
  ·rfl
theorem LI {a b:List Nat} (h:Ej a b=true): ∀j∈a,j ∉ b:=by
 unfold Ej at h;rw[List.all_eq_true]at h;intro j hj;simpa using h j hj
theorem EY [Dr] {K:ZJ} {x y:Qr} {σ σ1 σ2:St} (hi:Ey x y=true) (h1:Zr K x σ=some σ1) (h2:Zr K y σ1=some σ2):
  ∃τ,Zr K y σ=some τ∧Zr K x τ=some σ2:=by
 unfold Ey at hi;simp only[Bool.and_eq_true,Bool.or_eq_true,decide_eq_true_eq]at hi;obtain⟨⟨hi1,hi2⟩,hi3⟩:=hi;have d1:=LI hi1;have d2:=LI hi2;have f1:=Ux (K:=K) (x:=x) (σ:=σ) (τ:=σ) (fun _ _=>rfl) (fun _=>rfl);rw[h1]at f1;simp only[Option.map_some,Option.some.injEq]at f1;have f2:=Ux (K:=K) (x:=y) (σ:=σ1) (τ:=σ1) (fun _ _=>rfl) (fun _=>rfl);rw[h2]at f2;simp only[Option.map_some,Option.some.injEq]at f2;have e1: ∀j,σ1.env j=if j∈wrA x then σ1.env j else σ.env j:=fun j=>congrArg (fun s:St=>s.env j) f1
 have b1:σ1.bs=if Q5 x.op=2 then σ1.bs else σ.bs:=congrArg St.bs f1
 have e2: ∀j,σ2.env j=if j∈wrA y then σ2.env j else σ1.env j:=fun j=>congrArg (fun s:St=>s.env j) f2
 have b2:σ2.bs=if Q5 y.op=2 then σ2.bs else σ1.bs:=congrArg St.bs f2
 have g1:=Ux (K:=K) (x:=y) (σ:=σ1) (τ:=σ) (fun j hj=>by
  rw[e1 j,if_neg (fun h=>d1 j h (List.mem_append_left _ hj))]) (fun hne=>by
  rw[b1,if_neg (by omega)])
 rw[h2,Option.map_some]at g1;have g2:=Ux (K:=K) (x:=x) (σ:=σ) (τ:=WH y σ σ2) (fun j hj=>by
  simp only[WH];rw[if_neg (fun h=>d2 j h hj)]) (fun hne=>by
  simp only[WH];rw[if_neg (by omega)])
 rw[h1,Option.map_some]at g2;refine⟨_,g1,?_⟩;rw[g2];congr 1;refine Yl (fun j=> ?_) ?_
 ·simp only[WH];by_cases hx:j∈wrA x
  ·rw[if_pos hx,e2 j,if_neg (fun h=>d1 j hx (List.mem_append_right _ h))]
  ·rw[if_neg hx];by_cases hy:j∈wrA y
   ·rw[if_pos hy]
   ·rw[if_neg hy,e2 j,if_neg hy,e1 j,if_neg hx]
 ·simp only[WH];by_cases hx:Q5 x.op=2
  ·rw[if_pos hx,b2,if_neg (by omega)]
  ·rw[if_neg hx];by_cases hy:Q5 y.op=2
   ·rw[if_pos hy]
   ·rw[if_neg hy,b2,if_neg hy,b1,if_neg hx]
def EP (x y:Qr):Bool:=match x.op,y.op with
 | .stq _ _ _ q,.st q2 _ _=>decide (q=q2) && decide (x.dst=none) && decide (y.dst=none) && decide (x.guard=none) && decide (y.guard=none)
 | _,_=>false
theorem EQ {K:ZJ} {x y:Qr} {σ σ1 σ2:St} (hi:EP x y=true) (h1:Zr K x σ=some σ1) (h2:Zr K y σ1=some σ2):
  ∃τ,Zr K y σ=some τ∧Zr K x τ=some σ2:=by
 unfold EP at hi;split at hi
 ·rename_i p sz v q q2 sz2 v2 hx hy;simp only[Bool.and_eq_true,decide_eq_true_eq]at hi;obtain⟨⟨⟨⟨rfl,e1⟩,e2⟩,e3⟩,e4⟩:=hi;simp only[Zr,hx,e3,e1,Qg,ZR]at h1 ⊢;simp only[Zr,hy,e4,e2,Qg,ZR]at h2 ⊢;split at h1
  ·rename_i i o i2 o2 g1 g2;split at h1
   ·cases h1
   ·rename_i hne;cases hb:σ.bs[i]? with
    | none=>rw[hb]at h1;cases h1
    | some cs=>
     rw[hb]at h1;cases hv:cellsOf (val σ.env v)with
     | none=>rw[hv]at h1;cases h1
     | some vs=>
      rw[hv]at h1;simp only[Option.bind_some]at h1;split at h1
      ·rename_i hc;simp only[Option.map_some,Option.some.injEq]at h1;subst h1;simp only at h2;rw[g2]at h2 ⊢;simp only[List.getElem?_set_ne hne]at h2;simp only;cases hb2:σ.bs[i2]? with
       | none=>rw[hb2]at h2;cases h2
       | some cs2=>
        rw[hb2]at h2;simp only[Option.bind_some]at h2 ⊢;cases hv2:cellsOf (val σ.env v2)with
        | none=>rw[hv2]at h2;cases h2
        | some vs2=>
         rw[hv2]at h2;simp only[Option.bind_some]at h2 ⊢;split at h2
         ·rename_i hc2;simp only[Option.map_some,Option.some.injEq]at h2;subst h2;rw[if_pos hc2,Option.map_some];refine⟨_,rfl,?_⟩;simp only[g1,g2,hv,Option.bind_some,List.getElem?_set_ne (fun e=>hne e.symm),hb,if_neg hne,if_pos hc,Option.map_some];rw[List.set_comm _ _ hne]
         ·cases h2
      ·cases h1
  ·cases h1
 ·cases hi
def Ol (x y:Qr):Bool:=Ey x y || EP x y
theorem Gi [Dr] {K:ZJ} {x y:Qr} {σ σ1 σ2:St} (hi:Ol x y=true) (h1:Zr K x σ=some σ1) (h2:Zr K y σ1=some σ2):
  ∃τ,Zr K y σ=some τ∧Zr K x τ=some σ2:=by
 unfold Ol at hi;rw[Bool.or_eq_true]at hi;rcases hi with hi | hi
 ·exact EY hi h1 h2
 ·exact EQ hi h1 h2
theorem OA [Dr] {K:ZJ} (f:Nat→Qr) (i:Nat): ∀(L:List Nat) (σ σn:St),L.Pairwise (· < ·)→i∈L→(∀j∈L,j < i→Ol (f j) (f i)=true)→
  Zn K (L.map f) σ=some σn→∃σ',Zr K (f i) σ=some σ'∧Zn K ((L.erase i).map f) σ'=some σn
 | [],_,_,_,hi,_,_=>by simp at hi
 | j:: L,σ,σn,hp,hi,hd,hr=>by
  simp only[List.map_cons,Zn]at hr;cases h1:Zr K (f j) σ with
  | none=>rw[h1]at hr;cases hr
  | some σ1=>
   rw[h1,Option.bind_some]at hr;by_cases hji:j=i
   ·subst hji;exact⟨σ1,h1,by rw[List.erase_cons_head];exact hr⟩
   ·have hiL:i∈L:=by
     rcases List.mem_cons.1 hi with h | h
     ·exact absurd h.symm hji
     ·exact h
    have hlt:j < i:=(List.pairwise_cons.1 hp).1 i hiL;obtain⟨σ2,g1,g2⟩:=OA f i L σ1 σn (List.pairwise_cons.1 hp).2 hiL (fun k hk=>hd k (List.mem_cons_of_mem _ hk)) hr;obtain⟨τ,k1,k2⟩:=Gi (hd j (by simp) hlt) h1 g1;refine⟨τ,k1,?_⟩;rw[List.erase_cons_tail (by simpa using hji),List.map_cons,Zn,k2,Option.bind_some];exact g2
end Go.Am
