/-
  Am12, Am13.
-/
import Derived.Test.YtkijgpjgngncpaaGreatDoorG06
set_option linter.all false
namespace Go.Am
def SD (pt:Nat→Nat→Nat→Bool) (q s off:Nat):Bool:=pt q s off || (decide (q=s) && decide (off=0))
def TZ (num:Nat→Option Nat) (b:Builtin) (x:AO) (c:Call) (ty:TypeId→Bool):Bool:=
 match c with
 | ⟨.builtin b',⟨[y]⟩,⟨[t]⟩⟩=>decide (b=b') && ty t && okO num x y
 | _=>false
def As (P:Program) (num:Nat→Option Nat) (pt:Nat→Nat→Nat→Bool) (x:AOp) (o:Op):Bool:=
 match x with
 | .mov x=>(match o with | .move y=>okO num x y | .assign y=>okO num x y | _=>false)
 | .mvs n=>(match o with | .move (.tmp t)=>decide (n=t) | .assign (.tmp t)=>decide (n=t) | _=>false)
 | .box x=>(match o with | .box _ y=>okO num x y | _=>false)
 | .alloc zs=>(match o with | .alloc t=>TB P t zs | _=>false)
 | .gbox x=>(match o with | .box _ y=>okO num x y | _=>false)
 | .galloc zs=>(match o with | .alloc t=>TB P t zs | _=>false)
 | .fad s off=>(match o with
  | .fieldAddr ty (.tmp q) f=>(decide (q=s) && UR P ty f off) || (List.range (off+1)).any fun o2=>pt q s o2 && UR P ty f (off - o2)
  | .indexAddr ty (.tmp q) (.const (.int _ i))=>decide (q=s) && L9 P ty i off
  | _=>false)
 | .fadr p off=>(match o with | .fieldAddr ty (.tmp q) f=>decide (p=q) && UR P ty f off | _=>false)
 | .ldf s off sz ag=>(match o with | .load t (.tmp q)=>Zh P t sz && Xi P t ag && SD pt q s off | _=>false)
 | .ldfm s off=>(match o with | .load t (.tmp q)=>Xi P t false && SD pt q s off | _=>false)
 | .ld p sz ag=>(match o with | .load t (.tmp q)=>decide (p=q) && Zh P t sz && Xi P t ag | _=>false)
 | .ldg p sz ag=>(match o with | .load t (.tmp q)=>decide (p=q) && Zh P t sz && Xi P t ag | _=>false)
 | .ldm p=>(match o with | .load t (.tmp q)=>decide (p=q) && Xi P t false | _=>false)
 | .stf s off sz x=>(match o with | .store t (.tmp q) y=>Zh P t sz && okO num x y && SD pt q s off | _=>false)
 | .stn s off sz x _=>(match o with | .store t (.tmp q) y=>Zh P t sz && okO num x y && SD pt q s off | _=>false)
 | .stfm s off n=>(match o with | .store t (.tmp q) (.tmp n2)=>decide (n=n2) && Zh P t 1 && SD pt q s off | _=>false)
 | .st p sz x=>(match o with | .store t (.tmp q) y=>decide (p=q) && Zh P t sz && okO num x y | _=>false)
 | .stm p n=>(match o with | .store t (.tmp q) (.tmp n2)=>decide (p=q) && decide (n=n2) && Zh P t 1 | _=>false)
 | .bin op x y=>(match o with | .binOp op2 _ x2 y2 _=>decide (op=op2) && okO num x x2 && okO num y y2 | _=>false)
 | .eqb ne x y=>(match o with | .binOp op2 t x2 y2 _=>decide (op2=if ne then .neq else .eql) && Kb P t && okO num x x2 && okO num y y2 | _=>false)
 | .eqn ne x=>(match o with | .binOp op2 t x2 (.const .nilIface) _=>decide (op2=if ne then .neq else .eql) && N2 P t && okO num x x2 | _=>false)
 | .eqa ne ks x y=>(match o with | .binOp op2 t x2 y2 _=>decide (op2=if ne then .neq else .eql) && BR P t ks && okO num x x2 && okO num y y2 | _=>false)
 | .isn ne x=>(match o with | .binOp op2 t x2 (.const (.slice none 0 0)) _=>decide (op2=if ne then .neq else .eql) && slT P t && okO num x x2 | _=>false)
 | .un op x=>(match o with | .unOp op2 _ x2=>decide (op=op2) && okO num x x2 | _=>false)
 | .conv k x=>(match o with | .convert s t x2=>Ad P s t k && okO num x x2 | _=>false)
 | .call f args=>(match o with | .call ⟨.value (.func g),⟨ys⟩,_⟩=>decide (num f=some g) && Yk num args ys | _=>false)
 | .callq f args=>(match o with | .call ⟨.value (.func g),⟨ys⟩,_⟩=>decide (num f=some g) && Yk num args ys | _=>false)
 | .callv g args=>(match o with | .call ⟨.value x2,⟨ys⟩,_⟩=>okO num g x2 && Yk num args ys | _=>false)
 | .lens x=>(match o with | .call c=>TZ num .len x c (Ol P) | _=>false)
 | .lenl x=>(match o with | .call c=>TZ num .len x c (slT P) | _=>false)
 | .app bytes sz s x=>(match o with | .call ⟨.builtin .append,⟨[s2,x2]⟩,⟨[t,t2]⟩⟩=>OI P t t2 && Wz P t bytes sz && okO num s s2 && okO num x x2 | _=>false)
 | .appg bytes sz s x=>(match o with | .call ⟨.builtin .append,⟨[s2,x2]⟩,⟨[t,t2]⟩⟩=>OI P t t2 && Wz P t bytes sz && okO num s s2 && okO num x x2 | _=>false)
 | .appz bytes sz n x=>(match o with | .call ⟨.builtin .append,⟨[.tmp n2,x2]⟩,⟨[t,t2]⟩⟩=>OI P t t2 && decide (n=n2) && Wz P t bytes sz && okO num x x2 | _=>false)
 | .zlit=>(match o with | .buildSlice t 0 ⟨[]⟩=>(match P.underlying t with | some (.slice e)=>(match P.info? e with | some i=>TR P t i.size 0 | none=>false) | _=>false) | _=>false)
 | .nilp=>(match o with | .move (.const (.pointer none))=>true | .assign (.const (.pointer none))=>true | _=>false)
 | .appzz s x=>(match o with | .call ⟨.builtin .append,⟨[s2,x2]⟩,⟨[t,t2]⟩⟩=>decide (t=t2) && (match P.underlying t with | some (.slice e)=>(match P.info? e with | some i=>Wz P t i.bytes i.size | none=>false) | _=>false) && okO num s s2 && okO num x x2 | _=>false)
 | .frz n _=>(match o with | .move (.tmp t)=>decide (n=t) | .assign (.tmp t)=>decide (n=t) | _=>false)
 | .clr sz x=>(match o with | .call c=>TZ num .clear x c (fun t=>Bx P t sz) | _=>false)
 | .mx x y=>(match o with | .call ⟨.builtin .max,⟨[x2,y2]⟩,_⟩=>okO num x x2 && okO num y y2 | _=>false)
 | .mn x y=>(match o with | .call ⟨.builtin .min,⟨[x2,y2]⟩,_⟩=>okO num x x2 && okO num y y2 | _=>false)
 | .mksl sz parts=>(match o with | .buildSlice t n ⟨ps⟩=>decide (n=ps.length) && decide (ps.map (·.1)=List.range n) && TR P t sz n && Yk num parts (ps.map (·.2)) | _=>false)
 | .mksg sz parts=>(match o with | .buildSlice t n ⟨ps⟩=>decide (n=ps.length) && decide (ps.map (·.1)=List.range n) && TR P t sz n && Yk num parts (ps.map (·.2)) | _=>false)
 | .mkst zs parts=>(match o with | .build t ⟨ps⟩=>Ia P num t zs parts ps | _=>false)
 | .idxa sz x i=>(match o with | .indexAddr t x2 i2=>Y4 P t sz && okO num x x2 && okO num i i2 | _=>false)
 | .idx x i=>(match o with | .index t x2 i2=>Ol P t && okO num x x2 && okO num i i2 | _=>false)
 | .slcs x lo hi=>(match o with | .slice t x2 lo2 hi2 none=>Ol P t && okO num x x2 && XT num lo lo2 && XT num hi hi2 | _=>false)
 | .slcl sz x lo hi=>(match o with | .slice t x2 lo2 hi2 none=>Y4 P t sz && okO num x x2 && XT num lo lo2 && XT num hi hi2 | _=>false)
 | .slz sz x=>(match o with | .slice t x2 none (some (.const (.int _ 0))) (some (.const (.int _ 0)))=>Y4 P t sz && okO num x x2 | _=>false)
 | .pick c x y=>(match o with | .pick c2 x2 y2=>okO num c c2 && okO num x x2 && okO num y y2 | _=>false)
 | .ext x i=>(match o with | .extract x2 i2=>decide (i=i2) && okO num x x2 | _=>false)
 | .mkfn f caps=>(match o with | .makeFunc (.func g) ⟨[]⟩ ⟨cs⟩=>decide (num f=some g) && Yk num caps cs | _=>false)
 | .nilck x=>(match o with | .nilCheck x2=>okO num x x2 | _=>false)
 | .fld off sz ag x=>(match o with | .field t x2 f=>G1 P t f off sz ag && okO num x x2 | _=>false)
 | .mkg bytes sz zs x=>(match o with | .makeSlice t (.tmp l) (.tmp c)=>decide (l=c) && mkT P t bytes sz zs && okO num x (.tmp l) | _=>false)
 | .mkp bytes sz zs x=>(match o with | .makeSlice t (.tmp l) (.tmp c)=>decide (l=c) && mkT P t bytes sz zs && okO num x (.tmp l) | _=>false)
 | .extm n=>(match o with | .extract (.tmp t) i=>decide (n=t) && decide (i=0) | _=>false)
 | .mkstP _ zs parts=>(match o with | .build t ⟨ps⟩=>Ia P num t zs parts ps | _=>false)
 | .mkz bytes sz zs x=>(match o with | .makeSlice t (.tmp l) (.tmp c)=>decide (l=c) && mkT P t bytes sz zs && okO num x (.tmp l) | _=>false)
 | .bstr x=>(match o with | .convert s t x2=>GD P s t && okO num x x2 | _=>false)
 | .ldfz s off sz _ _=>(match o with | .load t (.tmp q)=>Zh P t sz && Xi P t true && SD pt q s off | _=>false)
 | .apn bytes sz zs s x=>(match o with | .call ⟨.builtin .append,⟨[s2,x2]⟩,⟨[t,t2]⟩⟩=>Wz P t bytes sz && mkT P t bytes sz zs && G6 P t2 && okO num s s2 && okO num x x2 | _=>false)
 | .appM bytes sz s x=>(match o with | .call ⟨.builtin .append,⟨[s2,x2]⟩,⟨[t,t2]⟩⟩=>OI P t t2 && Wz P t bytes sz && okO num s s2 && okO num x x2 | _=>false)
 | .stp p sz x _=>(match o with | .store t (.tmp q) y=>decide (p=q) && Zh P t sz && okO num x y | _=>false)
 | .stq p sz x _=>(match o with | .store t (.tmp q) y=>decide (p=q) && Zh P t sz && okO num x y | _=>false)
 | .slcx sz x lo hi=>(match o with | .slice t x2 lo2 hi2 none=>Y4 P t sz && okO num x x2 && XT num lo lo2 && XT num hi hi2 | _=>false)
 | .slcc sz x lo hi mx=>(match o with | .slice t x2 lo2 (some hi2) (some mx2)=>Y4 P t sz && okO num x x2 && XT num lo lo2 && okO num hi hi2 && okO num mx mx2 | _=>false)
 | .mkm=>(match o with | .makeMap _ none=>true | _=>false)
 | .lkm s ok x i z=>(match o with | .lookup t x2 i2 ok2=>decide (ok=ok2) && lkT P s t z && okO num x x2 && okO num i i2 | _=>false)
 | .upm s x k y=>(match o with | .mapUpdate t x2 k2 y2=>Fe P s t && okO num x x2 && okO num k k2 && okO num y y2 | _=>false)
 | .mpe s x k z=>(match o with | .mapEntry t x2 k2=>lkT P s t z && okO num x x2 && okO num k k2 | _=>false)
 | .ensf x st n _=>(match o with | .entryStore _ x2 s2 (.tmp t)=>decide (n=t) && okO num x x2 && okO num st s2 | _=>false)
 | .ens x st y=>(match o with | .entryStore _ x2 s2 y2=>okO num x x2 && okO num st s2 && okO num y y2 | _=>false)
theorem CF {ps:List (Nat×Operand)} (h:ps.map (·.1)=List.range ps.length): (ps.map (·.2)).zipIdx.map (fun p=>(p.2,p.1))=ps:=by
 apply List.ext_getElem?;intro i;rw[List.getElem?_map,List.getElem?_zipIdx,List.getElem?_map];cases hp:ps[i]? with
 | none=>rfl
 | some p=>
  have hlt:i < ps.length:=by
   rcases Nat.lt_or_ge i ps.length with h | h
   ·exact h
   ·rw[List.getElem?_eq_none h]at hp;cases hp
  have:=congrArg (fun l=>l[i]?) h;simp only[List.getElem?_map,hp,Option.map_some,List.getElem?_range hlt,Option.some.injEq]at this;simp[← this]
section
variable {P:Program} {num:Nat→Option Nat} {β:List Blk} {w w':World} {m:Nat→Nat} {ν:Own} {N:Nat} {w0:World} {m0:Nat→Nat} {T:Nat→Prop} {β0:List Blk} {σ σ1:St} {a:Act}
 {o:Oper} {next:Act→World→Prop} {Q:Exit→Act→World→Prop} {K:ZK} {v:AV}
theorem UP {pt:Nat→Nat→Nat→Bool} {q s off:Nat} (h:SD pt q s off=true) (hpt: ∀q s off,pt q s off=true→Vh a q s off):Vh a q s off∨(q=s∧off=0):=by
 unfold SD at h;simp only[Bool.or_eq_true,Bool.and_eq_true,decide_eq_true_eq]at h;exact h.imp (hpt _ _ _) id
theorem Au [Dr] {Γ:Yi} (hI:Inv num N w0 m0 T β0 σ a w m β ν) (hE:XJ P num) (hK:KOk P num Γ K) (hG:Γ.G w0) (hGb:Γ.Gb≤w0.heap.size) (hT: ∀b,T b→Γ.Gb≤b)
  {pt:Nat→Nat→Nat→Bool} (hpt: ∀q s off,pt q s off=true→Vh a q s off) {x:AOp} (hok:As P num pt x o.op=true) (he:Qe K x σ=some (v,σ1))
  (h: ∀(u:Value) (w':World) (m':Nat→Nat) (β':List Blk) (ν':Own),Inv num N w0 m0 T β0 σ1 a w' m' β' ν'→Uf num β' w' m' ν' .f (fun i=> .fc i) v u→
   (∀s off,x= .fad s off→∃b,a.tmps.getD s undef= .pointer (some ⟨b,0,none⟩)∧u= .pointer (some ⟨b,off,none⟩))→next (a.put o.dst u) w'):o.wp P a w next Q:=by
 have hA: (∀s off,x≠ .fad s off)→Aft num N w0 m0 T β0 σ1 a v fun u w'=>next (a.put o.dst u) w':=fun hne u w' m' β' ν' k1 k2=>h u w' m' β' ν' k1 k2 fun s off e=>absurd e (hne s off);have hS: (∀s off,x≠ .fad s off)→∀w' m' β' ν',Inv num N w0 m0 T β0 σ1 a w' m' β' ν'→v= .undef→next (a.put o.dst undef) w':=fun hne w' m' β' ν' k1 k2=>h undef w' m' β' ν' k1 (by subst k2;exact trivial) fun s off e=>absurd e (hne s off);cases x <;> simp only[As]at hok
 case mov x=>
  split at hok
  ·rename_i y ho;exact E9 hI (.inl ho) hok he (hA (by simp))
  ·rename_i y ho;exact E9 hI (.inr ho) hok he (hA (by simp))
  ·cases hok
 case mvs n=>
  split at hok
  ·rename_i y ho;simp only[decide_eq_true_eq]at hok;subst hok;exact Da hI (.inl ho) he (hA (by simp))
  ·rename_i y ho;simp only[decide_eq_true_eq]at hok;subst hok;exact Da hI (.inr ho) he (hA (by simp))
  ·cases hok
 case box x=>
  split at hok
  ·rename_i t y ho;exact Qd0 hI ho hok he (hA (by simp))
  ·cases hok
 case alloc zs=>
  split at hok
  ·rename_i t ho;exact BS hI ho hok he (hA (by simp))
  ·cases hok
 case gbox x=>
  split at hok
  ·rename_i t y ho;exact Qb4 hI ho hok he (hA (by simp))
  ·cases hok
 case galloc zs=>
  split at hok
  ·rename_i t ho;exact E8 hI ho hok he (hA (by simp))
  ·cases hok
 case fad s off=>
  split at hok
  ·rename_i ty q f ho;have hbx: ∃cs,σ.env s= .bx cs:=by
    simp only[Qe]at he;split at he
    ·exact⟨_,by assumption⟩
    ·cases he
   obtain⟨cs,hcs⟩:=hbx;obtain⟨b,cur,e,h1,h2,_⟩:=hI.box_at (q:=s) (off:=0) hcs (.inr ⟨rfl,rfl⟩);simp only[Bool.or_eq_true,Bool.and_eq_true,decide_eq_true_eq,List.any_eq_true,List.mem_range]at hok;rcases hok with⟨rfl,hf⟩ | ⟨o2,ho2,hp,hf⟩
   ·refine E6 hI ho hf h2 he fun k1 k2=> ?_;rw[Nat.zero_add];refine h _ w m β ν k1 (by subst k2;exact trivial) fun s2 off2 e=> ?_;injection e with e1 e2
    subst e1 e2;exact⟨b,h2,rfl⟩
   ·obtain⟨b2,p1,p2⟩:=hpt _ _ _ hp;refine E6 hI ho hf (show a.eval (.tmp q)=_ from p2) he fun k1 k2=> ?_;rw[show o2+ (off - o2)=off by omega];refine h _ w m β ν k1 (by subst k2;exact trivial) fun s2 off2 e=> ?_;injection e with e1 e2
    subst e1 e2;exact⟨b2,p1,rfl⟩
  ·rename_i ty q k i ho;have hbx: ∃cs,σ.env s= .bx cs:=by
    simp only[Qe]at he;split at he
    ·exact⟨_,by assumption⟩
    ·cases he
   obtain⟨cs,hcs⟩:=hbx;obtain⟨b,cur,e,h1,h2,_⟩:=hI.box_at (q:=s) (off:=0) hcs (.inr ⟨rfl,rfl⟩);simp only[Bool.and_eq_true,decide_eq_true_eq]at hok;obtain⟨rfl,hf⟩:=hok;refine Qb2 hI ho hf h2 he fun k1 k2=> ?_;rw[Nat.zero_add];refine h _ w m β ν k1 (by subst k2;exact trivial) fun s2 off2 e=> ?_;injection e with e1 e2
   subst e1 e2;exact⟨b,h2,rfl⟩
  ·cases hok
 case fadr p off=>
  split at hok
  ·rename_i ty q f ho;simp only[Bool.and_eq_true,decide_eq_true_eq]at hok;obtain⟨rfl,hf⟩:=hok;exact Qb3 hI ho hf he (hA (by simp))
  ·cases hok
 case ldf s off sz ag=>
  split at hok
  ·rename_i t q ho;simp only[Bool.and_eq_true]at hok;exact Qea hI ho hok.1.1 hok.1.2 (UP hok.2 hpt) he (hA (by simp))
  ·cases hok
 case ldfm s off=>
  split at hok
  ·rename_i t q ho;simp only[Bool.and_eq_true]at hok;exact Qb6 hI ho hok.1 (UP hok.2 hpt) he (hA (by simp))
  ·cases hok
 case ld p sz ag=>
  split at hok
  ·rename_i t q ho;simp only[Bool.and_eq_true,decide_eq_true_eq]at hok;obtain⟨⟨rfl,h1⟩,h2⟩:=hok;exact Qfp hI ho h1 h2 he (hA (by simp))
  ·cases hok
 case ldg p sz ag=>
  split at hok
  ·rename_i t q ho;simp only[Bool.and_eq_true,decide_eq_true_eq]at hok;obtain⟨⟨rfl,h1⟩,h2⟩:=hok;exact Qeb hI ho h1 h2 he (hA (by simp))
  ·cases hok
 case ldm p=>
  split at hok
  ·rename_i t q ho;simp only[Bool.and_eq_true,decide_eq_true_eq]at hok;obtain⟨rfl,h2⟩:=hok;exact Qec hI ho h2 he (hA (by simp))
  ·cases hok
 case stf s off sz x=>
  split at hok
  ·rename_i t q y ho;simp only[Bool.and_eq_true]at hok;exact Qek hI ho hok.1.1 hok.1.2 (UP hok.2 hpt) he (hS (by simp))
  ·cases hok
 case stn s off sz x zs=>
  split at hok
  ·rename_i t q y ho;simp only[Bool.and_eq_true]at hok;exact Qem hI ho hok.1.1 hok.1.2 (UP hok.2 hpt) he (hS (by simp))
  ·cases hok
 case stfm s off n=>
  split at hok
  ·rename_i t q n2 ho;simp only[Bool.and_eq_true,decide_eq_true_eq]at hok;obtain⟨⟨rfl,h1⟩,h2⟩:=hok;exact Qci hI ho h1 (UP h2 hpt) he (hS (by simp))
  ·cases hok
 case st p sz x=>
  split at hok
  ·rename_i t q y ho;simp only[Bool.and_eq_true,decide_eq_true_eq]at hok;obtain⟨⟨rfl,h1⟩,h2⟩:=hok;exact GX hI ho h1 h2 he (hS (by simp))
  ·cases hok
 case stm p n=>
  split at hok
  ·rename_i t q n2 ho;simp only[Bool.and_eq_true,decide_eq_true_eq]at hok;obtain⟨⟨rfl,rfl⟩,h1⟩:=hok;exact Qel hI ho h1 he (hS (by simp))
  ·cases hok
 case bin op x y=>
  split at hok
  ·rename_i op2 t x2 y2 t2 ho;simp only[Bool.and_eq_true,decide_eq_true_eq]at hok;obtain⟨⟨rfl,h1⟩,h2⟩:=hok;exact QdZ hI ho h1 h2 he (hA (by simp))
  ·cases hok
 case eqb ne x y=>
  split at hok
  ·rename_i op2 t x2 y2 t2 ho;simp only[Bool.and_eq_true,decide_eq_true_eq]at hok;obtain⟨⟨⟨rfl,h1⟩,h2⟩,h3⟩:=hok;exact Qd4 hI ho h1 h2 h3 he (hA (by simp))
  ·cases hok
 case eqn ne x=>
  split at hok
  ·rename_i op2 t x2 t2 ho;simp only[Bool.and_eq_true,decide_eq_true_eq]at hok;obtain⟨⟨rfl,h1⟩,h2⟩:=hok;exact Qd5 hI ho h1 h2 he (hA (by simp))
  ·cases hok
 case eqa ne ks x y=>
  split at hok
  ·rename_i op2 t x2 y2 t2 ho;simp only[Bool.and_eq_true,decide_eq_true_eq]at hok;obtain⟨⟨⟨rfl,h1⟩,h2⟩,h3⟩:=hok;exact Qd3 hI ho h1 h2 h3 he (hA (by simp))
  ·cases hok
 case isn ne x=>
  split at hok
  ·rename_i op2 t x2 t2 ho;simp only[Bool.and_eq_true,decide_eq_true_eq]at hok;obtain⟨⟨rfl,h1⟩,h2⟩:=hok;exact Qd9 hI ho h1 h2 he (hA (by simp))
  ·cases hok
 case un op x=>
  split at hok
  ·rename_i op2 t x2 ho;simp only[Bool.and_eq_true,decide_eq_true_eq]at hok;obtain⟨rfl,h1⟩:=hok;exact Qfs hI ho h1 he (hA (by simp))
  ·cases hok
 case conv k x=>
  split at hok
  ·rename_i s t x2 ho;simp only[Bool.and_eq_true]at hok;exact QbZ hI ho hok.1 hok.2 he (hA (by simp))
  ·cases hok
 case call f args=>
  split at hok
  ·rename_i g ys ts ho;simp only[Bool.and_eq_true,decide_eq_true_eq]at hok;exact HQ hI hE hK hG hGb hT ho hok.1 hok.2 he (hA (by simp))
  ·cases hok
 case callq f args=>
  split at hok
  ·rename_i g ys ts ho;simp only[Bool.and_eq_true,decide_eq_true_eq]at hok;exact BU hI hE hK hG hGb hT ho hok.1 hok.2 he (hA (by simp))
  ·cases hok
 case callv g args=>
  split at hok
  ·rename_i x2 ys ts ho;simp only[Bool.and_eq_true]at hok;exact BV hI hE hK hG hGb hT ho hok.1 hok.2 he (hA (by simp))
  ·cases hok
 case lens x=>
  split at hok
  ·rename_i c ho;unfold TZ at hok;split at hok
   ·rename_i b2 y t;simp only[Bool.and_eq_true,decide_eq_true_eq]at hok;obtain⟨⟨rfl,h1⟩,h2⟩:=hok;exact Qb9 hI ho h1 h2 he (hA (by simp))
   ·cases hok
  ·cases hok
 case lenl x=>
  split at hok
  ·rename_i c ho;unfold TZ at hok;split at hok
   ·rename_i b2 y t;simp only[Bool.and_eq_true,decide_eq_true_eq]at hok;obtain⟨⟨rfl,h1⟩,h2⟩:=hok;exact Qb8 hI ho h1 h2 he (hA (by simp))
   ·cases hok
  ·cases hok
 case app bytes sz s x=>
  split at hok
  ·rename_i s2 x2 t t2 ho;simp only[Bool.and_eq_true]at hok;obtain⟨⟨⟨h0,h1⟩,h2⟩,h3⟩:=hok;exact Pe ho h0 (QdY hI rfl h1 h2 h3 he (hA (by simp)))
  ·cases hok
 case appg bytes sz s x=>
  split at hok
  ·rename_i s2 x2 t t2 ho;simp only[Bool.and_eq_true]at hok;obtain⟨⟨⟨h0,h1⟩,h2⟩,h3⟩:=hok;exact Pe ho h0 (QbW hI rfl h1 h2 h3 he (hA (by simp)))
  ·cases hok
 case appz bytes sz n x=>
  split at hok
  ·rename_i n2 x2 t t2 ho;simp only[Bool.and_eq_true,decide_eq_true_eq]at hok;obtain⟨⟨⟨h0,rfl⟩,h2⟩,h3⟩:=hok;exact Pe ho h0 (QbX hI rfl h2 h3 he (hA (by simp)))
  ·cases hok
 case zlit=>
  split at hok
  ·rename_i t ho;split at hok
   ·split at hok
    ·exact Qcj hI ho hok he (hA (by simp))
    ·cases hok
   ·cases hok
  ·cases hok
 case nilp=>
  simp only[Qe,Option.some.injEq,Prod.mk.injEq]at he;obtain⟨rfl,rfl⟩:=he;split at hok
  ·rename_i ho;exact Ql (u:= .pointer none) (w':=w) (by simp[execOp,ho,Act.eval]) (h _ _ _ _ _ hI ((QE rfl).2 ⟨rfl,trivial⟩) (by simp))
  ·rename_i ho;exact Ql (u:= .pointer none) (w':=w) (by simp[execOp,ho,Act.eval]) (h _ _ _ _ _ hI ((QE rfl).2 ⟨rfl,trivial⟩) (by simp))
  ·cases hok
 case appzz s x=>
  split at hok
  ·rename_i s2 x2 t t2 ho;simp only[Bool.and_eq_true,decide_eq_true_eq]at hok;obtain⟨⟨⟨rfl,h1⟩,h2⟩,h3⟩:=hok;split at h1
   ·split at h1
    ·exact BT hI ho h1 h2 h3 he (hA (by simp))
    ·cases h1
   ·cases h1
  ·cases hok
 case frz n sz=>
  split at hok
  ·rename_i y ho;simp only[decide_eq_true_eq]at hok;subst hok;exact E7 hI (.inl ho) he (hA (by simp))
  ·rename_i y ho;simp only[decide_eq_true_eq]at hok;subst hok;exact E7 hI (.inr ho) he (hA (by simp))
  ·cases hok
 case clr sz x=>
  split at hok
  ·rename_i c ho;unfold TZ at hok;split at hok
   ·rename_i b2 y t;simp only[Bool.and_eq_true,decide_eq_true_eq]at hok;obtain⟨⟨rfl,h1⟩,h2⟩:=hok;exact Qd1 hI ho h1 h2 he (hA (by simp))
   ·cases hok
  ·cases hok
 case mx x y=>
  split at hok
  ·rename_i x2 y2 ts ho;simp only[Bool.and_eq_true]at hok;exact Qfr hI ho hok.1 hok.2 he (hA (by simp))
  ·cases hok
 case mn x y=>
  split at hok
  ·rename_i x2 y2 ts ho;simp only[Bool.and_eq_true]at hok;exact Qfq hI ho hok.1 hok.2 he (hA (by simp))
  ·cases hok
 case mksl sz parts=>
  split at hok
  ·rename_i t n ps ho;simp only[Bool.and_eq_true,decide_eq_true_eq]at hok;obtain⟨⟨⟨rfl,h1⟩,h2⟩,h3⟩:=hok;have hz:=CF h1;refine Qcc (ps:=ps.map (·.2)) (t:=t) hI ?_ (by simpa using h2) h3 he (hA (by simp));rw[ho,hz,List.length_map]
  ·cases hok
 case mksg sz parts=>
  split at hok
  ·rename_i t n ps ho;simp only[Bool.and_eq_true,decide_eq_true_eq]at hok;obtain⟨⟨⟨rfl,h1⟩,h2⟩,h3⟩:=hok;have hz:=CF h1;refine Qcb (ps:=ps.map (·.2)) (t:=t) hI ?_ (by simpa using h2) h3 he (hA (by simp));rw[ho,hz,List.length_map]
  ·cases hok
 case mkst zs parts=>
  split at hok
  ·rename_i t ps ho;exact HR hI ho hok he (hA (by simp))
  ·cases hok
 case idxa sz x i=>
  split at hok
  ·rename_i t x2 i2 ho;simp only[Bool.and_eq_true]at hok;exact Qb5 hI ho hok.1.1 hok.1.2 hok.2 he (hA (by simp))
  ·cases hok
 case idx x i=>
  split at hok
  ·rename_i t x2 i2 ho;simp only[Bool.and_eq_true]at hok;exact Qd8 hI ho hok.1.1 hok.1.2 hok.2 he (hA (by simp))
  ·cases hok
 case slcs x lo hi=>
  split at hok
  ·rename_i t x2 lo2 hi2 ho;simp only[Bool.and_eq_true]at hok;exact Qcg hI ho hok.1.1.1 hok.1.1.2 hok.1.2 hok.2 he (hA (by simp))
  ·cases hok
 case slcl sz x lo hi=>
  split at hok
  ·rename_i t x2 lo2 hi2 ho;simp only[Bool.and_eq_true]at hok;exact Qcf hI ho hok.1.1.1 hok.1.1.2 hok.1.2 hok.2 he (hA (by simp))
  ·cases hok
 case slz sz x=>
  split at hok
  ·rename_i t x2 k1 k2 ho;simp only[Bool.and_eq_true]at hok;exact Qej hI ho hok.1 hok.2 he (hA (by simp))
  ·cases hok
 case pick c x y=>
  split at hok
  ·rename_i c2 x2 y2 ho;simp only[Bool.and_eq_true]at hok;exact Qcd hI ho hok.1.1 hok.1.2 hok.2 he (hA (by simp))
  ·cases hok
 case ext x i=>
  split at hok
  ·rename_i x2 i2 ho;simp only[Bool.and_eq_true,decide_eq_true_eq]at hok;obtain⟨rfl,h1⟩:=hok;exact Qd6 hI ho h1 he (hA (by simp))
  ·cases hok
 case mkfn f caps=>
  split at hok
  ·rename_i g cs ho;simp only[Bool.and_eq_true,decide_eq_true_eq]at hok;exact Qca hI ho hok.1 hok.2 he (hA (by simp))
  ·cases hok
 case nilck x=>
  split at hok
  ·rename_i x2 ho;exact BX hI ho hok he (hA (by simp))
  ·cases hok
 case fld off sz ag x=>
  split at hok
  ·rename_i t x2 f ho;simp only[Bool.and_eq_true]at hok;exact Qd7 hI ho hok.1 hok.2 he (hA (by simp))
  ·cases hok
 case mkg bytes sz zs x=>
  split at hok
  ·rename_i t l c ho;simp only[Bool.and_eq_true,decide_eq_true_eq]at hok;obtain⟨⟨rfl,h1⟩,h2⟩:=hok;exact Qee hI ho h1 h2 he (hA (by simp))
  ·cases hok
 case mkp bytes sz zs x=>
  split at hok
  ·rename_i t l c ho;simp only[Bool.and_eq_true,decide_eq_true_eq]at hok;obtain⟨⟨rfl,h1⟩,h2⟩:=hok;exact Qeg hI ho h1 h2 he (hA (by simp))
  ·cases hok
 case extm n=>
  split at hok
  ·rename_i t i ho;simp only[Bool.and_eq_true,decide_eq_true_eq]at hok;obtain⟨rfl,rfl⟩:=hok;exact Qb1 hI ho he (hA (by simp))
  ·cases hok
 case mkstP n zs parts=>
  split at hok
  ·rename_i t ps ho;exact BW hI ho hok he (hA (by simp))
  ·cases hok
 case mkz bytes sz zs x=>
  split at hok
  ·rename_i t l c ho;simp only[Bool.and_eq_true,decide_eq_true_eq]at hok;obtain⟨⟨rfl,h1⟩,h2⟩:=hok;exact Qeh hI ho h1 h2 he (hA (by simp))
  ·cases hok
 case bstr x=>
  split at hok
  ·rename_i s t2 x2 ho;simp only[Bool.and_eq_true]at hok;exact QbY hI ho hok.1 hok.2 he (hA (by simp))
  ·cases hok
 case ldfz s off sz fo fz=>
  split at hok
  ·rename_i t q ho;simp only[Bool.and_eq_true]at hok;exact Qb7 hI ho hok.1.1 hok.1.2 (UP hok.2 hpt) he (hA (by simp))
  ·cases hok
 case appM bytes sz s x=>
  split at hok
  ·rename_i s2 x2 t t2 ho;simp only[Bool.and_eq_true]at hok;obtain⟨⟨⟨h0,h1⟩,h2⟩,h3⟩:=hok;exact Pe ho h0 (QbV hI rfl h1 h2 h3 he (hA (by simp)))
  ·cases hok
 case apn bytes sz zs s x=>
  split at hok
  ·rename_i s2 x2 t t2 ho;simp only[Bool.and_eq_true]at hok;obtain⟨⟨⟨⟨h0,h1⟩,h2⟩,h3⟩,h4⟩:=hok;exact QdX hI ho h0 h1 h2 h3 h4 he (hA (by simp))
  ·cases hok
 case stq p sz x q=>
  split at hok
  ·rename_i t q2 y ho;simp only[Bool.and_eq_true,decide_eq_true_eq]at hok;obtain⟨⟨rfl,h1⟩,h2⟩:=hok;have he2:Qe K (.st p sz x) σ=some (v,σ1):=by
    simp only[Qe]at he ⊢;split at he
    ·rename_i i o2 i2 o3 e1 e2;rw[e1];split at he
     ·cases he
     ·exact he
    ·cases he
   exact GX hI ho h1 h2 he2 (hS (by simp))
  ·cases hok
 case stp p sz x q=>
  split at hok
  ·rename_i t q2 y ho;simp only[Bool.and_eq_true,decide_eq_true_eq]at hok;obtain⟨⟨rfl,h1⟩,h2⟩:=hok;have he2:Qe K (.st p sz x) σ=some (v,σ1):=by
    simp only[Qe]at he ⊢;split at he
    ·rename_i i o2 i2 o3 e1 e2;rw[e1];split at he
     ·cases he
     ·exact he
    ·cases he
   exact GX hI ho h1 h2 he2 (hS (by simp))
  ·cases hok
 case slcx sz x lo hi=>
  split at hok
  ·rename_i ho;simp only[Bool.and_eq_true]at hok;exact Qch hI ho hok.1.1.1 hok.1.1.2 hok.1.2 hok.2 he (hA (by simp))
  ·cases hok
 case slcc sz x lo hi mx=>
  split at hok
  ·rename_i ho;simp only[Bool.and_eq_true]at hok;exact Qce hI ho hok.1.1.1.1 hok.1.1.1.2 hok.1.1.2 hok.1.2 hok.2 he (hA (by simp))
  ·cases hok
 case mkm=>
  split at hok
  ·rename_i t ho;exact Qef hI ho he (hA (by simp))
  ·cases hok
 case lkm s ok x i z=>
  split at hok
  ·rename_i t x2 i2 ok2 ho;simp only[Bool.and_eq_true,decide_eq_true_eq]at hok;obtain⟨⟨⟨rfl,h1⟩,h2⟩,h3⟩:=hok;exact Qed hI ho h1 h2 h3 he (hA (by simp))
  ·cases hok
 case upm s x k y=>
  split at hok
  ·rename_i t x2 k2 y2 ho;simp only[Bool.and_eq_true]at hok;obtain⟨⟨⟨h1,h2⟩,h3⟩,h4⟩:=hok;exact Qen hI ho h1 h2 h3 h4 he (hS (by simp))
  ·cases hok
 case mpe s x k z=>
  split at hok
  ·rename_i t x2 k2 ho;simp only[Bool.and_eq_true]at hok;obtain⟨⟨h1,h2⟩,h3⟩:=hok;exact Qei hI ho h1 h2 h3 he (hA (by simp))
  ·cases hok
 case ensf x st n sz=>
  split at hok
  ·rename_i t x2 s2 t2 ho;simp only[Bool.and_eq_true,decide_eq_true_eq]at hok;obtain⟨⟨rfl,h1⟩,h2⟩:=hok;exact Qb0 hI ho h1 h2 he (hS (by simp))
  ·cases hok
 case ens x st y=>
  split at hok
  ·rename_i t x2 s2 y2 ho;simp only[Bool.and_eq_true]at hok;obtain⟨⟨h1,h2⟩,h3⟩:=hok;exact Qd2 hI ho h1 h2 h3 he (hS (by simp))
  ·cases hok
end
end Go.Am
namespace Go.Am
def rdO:AO→List Nat
 | .t n=>[n]
 | .c _=>[]
def U3 (xs:List AO):List Nat:=xs.flatMap rdO
def TQ:Option AO→List Nat
 | some x=>rdO x
 | none=>[]
def QC:AOp→List Nat
 | .mov x=>rdO x
 | .mvs n=>[n]
 | .box x=>rdO x
 | .alloc _=>[]
 | .gbox x=>rdO x
 | .galloc _=>[]
 | .fad s _=>[s]
 | .fadr p _=>[p]
 | .ldf s _ _ _=>[s]
 | .ldfm s _=>[s]
 | .ld p _ _=>[p]
 | .ldg p _ _=>[p]
 | .ldm p=>[p]
 | .stf s _ _ x=>s:: rdO x
 | .stn s _ _ x _=>s:: rdO x
 | .stfm s _ n=>[s,n]
 | .st p _ x=>p:: rdO x
 | .stm p n=>[p,n]
 | .bin _ x y=>rdO x ++ rdO y
 | .eqb _ x y=>rdO x ++ rdO y
 | .eqn _ x=>rdO x
 | .eqa _ _ x y=>rdO x ++ rdO y
 | .isn _ x=>rdO x
 | .un _ x=>rdO x
 | .conv _ x=>rdO x
 | .call _ args=>U3 args
 | .callq _ args=>U3 args
 | .callv g args=>rdO g ++ U3 args
 | .lens x=>rdO x
 | .lenl x=>rdO x
 | .app _ _ s x=>rdO s ++ rdO x
 | .appg _ _ s x=>rdO s ++ rdO x
 | .appz _ _ n x=>n:: rdO x
 | .frz n _=>[n]
 | .zlit=>[]
 | .nilp=>[]
 | .appzz s x=>rdO s ++ rdO x
 | .clr _ x=>rdO x
 | .mx x y=>rdO x ++ rdO y
 | .mn x y=>rdO x ++ rdO y
 | .mksl _ parts=>U3 parts
 | .mksg _ parts=>U3 parts
 | .mkst _ parts=>U3 (parts.map fun p=>p.2.2)
 | .idxa _ x i=>rdO x ++ rdO i
 | .idx x i=>rdO x ++ rdO i
 | .slcs x lo hi=>rdO x ++ (TQ lo ++ TQ hi)
 | .slcl _ x lo hi=>rdO x ++ (TQ lo ++ TQ hi)
 | .slz _ x=>rdO x
 | .pick c a b=>rdO c ++ (rdO a ++ rdO b)
 | .ext x _=>rdO x
 | .mkfn _ caps=>U3 caps
 | .nilck x=>rdO x
 | .mkm=>[]
 | .ldfz s _ _ _ _=>[s]
 | .mkg _ _ _ x=>rdO x
 | .mkz _ _ _ x=>rdO x
 | .mkp _ _ _ x=>rdO x
 | .extm n=>[n]
 | .mkstP n _ parts=>n:: U3 (parts.map fun p=>p.2.2)
 | .bstr x=>rdO x
 | .fld _ _ _ x=>rdO x
 | .appM _ _ s x=>rdO s ++ rdO x
 | .apn _ _ _ s x=>rdO s ++ rdO x
 | .stq p _ x q=>p:: q:: rdO x
 | .stp p _ x q=>p:: q:: rdO x
 | .slcx _ x lo hi=>rdO x ++ (TQ lo ++ TQ hi)
 | .slcc _ x lo hi mx=>rdO x ++ (TQ lo ++ (rdO hi ++ rdO mx))
 | .lkm _ _ x i _=>rdO x ++ rdO i
 | .upm _ x k y=>rdO x ++ (rdO k ++ rdO y)
 | .mpe _ x k _=>rdO x ++ rdO k
 | .ens x st y=>rdO x ++ (rdO st ++ rdO y)
 | .ensf x st n _=>n:: (rdO x ++ rdO st)
def ZR:AOp→List Nat
 | .mvs n=>[n]
 | .ldfm s _=>[s]
 | .stf s _ _ _=>[s]
 | .stn s _ _ _ _=>[s]
 | .stfm s _ n=>[s,n]
 | .stm _ n=>[n]
 | .app _ _ s _=>rdO s
 | .appg _ _ s _=>rdO s
 | .appz _ _ n _=>[n]
 | .frz n _=>[n]
 | .ldfz s _ _ _ _=>[s]
 | .extm n=>[n]
 | .ensf _ _ n _=>[n]
 | .mkstP n _ _=>[n]
 | _=>[]
def QT:AOp→Nat
 | .gbox _=>2
 | .galloc _=>2
 | .ldg _ _ _=>1
 | .ldm _=>2
 | .st _ _ _=>2
 | .stm _ _=>2
 | .call _ _=>2
 | .callq _ _=>1
 | .callv _ _=>2
 | .appg _ _ _ _=>2
 | .appz _ _ _ _=>2
 | .frz _ _=>2
 | .clr _ _=>2
 | .mkm=>2
 | .ldfz _ _ _ _ _=>2
 | .mkg _ _ _ _=>2
 | .mkstP _ _ _=>2
 | .mksg _ _=>2
 | .lkm _ _ _ _ _=>1
 | .appM _ _ _ _=>2
 | .apn _ _ _ _ _=>2
 | .slcx _ _ _ _=>1
 | .stq _ _ _ _=>2
 | .stp _ _ _ _=>2
 | .upm _ _ _ _=>2
 | .mpe _ _ _ _=>2
 | .ens _ _ _=>2
 | .ensf _ _ _ _=>2
 | _=>0
def Qp (op:AOp) (τ s:St):St:={env:=fun j=>if j∈ZR op then s.env j else τ.env j,bs:=if QT op=2 then s.bs else τ.bs}
theorem QA {op:AOp} {τ s:St} (h:ZR op=[]) (hb:QT op≠2):Qp op τ s=τ:=by
 unfold Qp;rw[h];simp[hb]
theorem Qk {ρ ρ':Nat→AV} {x:AO} (h: ∀j∈rdO x,ρ' j=ρ j):val ρ' x=val ρ x:=by
 cases x with
 | t n=>simp only[val];rw[h n (by simp[rdO])]
 | c v=>rfl
theorem WI [Dr] {ρ ρ':Nat→AV}: ∀{xs:List AO},(∀j∈U3 xs,ρ' j=ρ j)→xs.map (val ρ')=xs.map (val ρ)
 | [],_=>rfl
 | x:: xs,h=>by
  simp only[List.map_cons];rw[Qk (fun j hj=>h j (by simp[U3];exact .inl hj)),WI (fun j hj=>h j (by simp only[U3,List.flatMap_cons,List.mem_append];exact .inr hj))]
theorem Ve [Dr] {ρ ρ':Nat→AV} {x:Option AO} (h: ∀j∈TQ x,ρ' j=ρ j):x.map (val ρ')=x.map (val ρ):=by
 cases x with
 | none=>rfl
 | some x=>simp only[Option.map_some];rw[Qk (by simpa[TQ]using h)]
theorem ZM {s t:St} (h1: ∀j,s.env j=t.env j) (h2:s.bs=t.bs):s=t:=by
 cases s;cases t
 simp only[St.mk.injEq];exact⟨funext h1,h2⟩
theorem PY {σ τ:St} {n sz:Nat} (h0:τ.env n=σ.env n) (h1:τ.bs=σ.bs):Zb τ n sz=(Zb σ n sz).map fun p=>(p.1,{env:=upd τ.env n .undef,bs:=p.2.bs}):=by
 unfold Zb;rw[h0,h1];split
 ·split
  ·split
   ·simp
   ·rename_i id _ _ _ _ _ _;cases σ.bs[id]? with
    | none=>rfl
    | some cs=>
     simp only[Option.bind_some];split <;> rfl
  ·split <;> simp
 ·rfl
theorem TX {σ:St} {n sz:Nat} {p:AV×St} (h:Zb σ n sz=some p):p.2.env=upd σ.env n .undef:=by
 unfold Zb at h;split at h
 ·split at h
  ·split at h
   ·injection h with h;subst h;rfl
   ·rename_i id _ _ _ _ _ _;cases hb:σ.bs[id]? with
    | none=>rw[hb]at h;cases h
    | some cs=>
     rw[hb]at h;simp only[Option.bind_some]at h;split at h
     ·injection h with h;subst h;rfl
     ·cases h
  ·split at h
   ·injection h with h;subst h;rfl
   ·cases h
 ·cases h
theorem ON {σ τ:St} {x st v:AV} (h:τ.bs=σ.bs):Uo τ x st v=(Uo σ x st v).map fun p=>(p.1,{env:=τ.env,bs:=p.2.bs}):=by
 unfold Uo;split
 ·rw[h];rename_i id n;cases σ.bs[id]? with
  | none=>rfl
  | some cs=>
   simp only[Option.bind_some];split
   ·rfl
   ·split <;> rfl
 ·rfl
theorem Lg {σ:St} {x st v:AV} {p:AV×St} (h:Uo σ x st v=some p):p.2.env=σ.env:=by
 unfold Uo at h;split at h
 ·rename_i id n;cases hb:σ.bs[id]? with
  | none=>rw[hb]at h;cases h
  | some cs=>
   rw[hb]at h;simp only[Option.bind_some]at h;split at h
   ·cases h
   ·split at h
    ·injection h with h;subst h;rfl
    ·cases h
 ·cases h
set_option maxHeartbeats 1000000 in
theorem NS [Dr] {K:ZK} {op:AOp} {σ τ:St} (hr: ∀j∈QC op,τ.env j=σ.env j) (hb:QT op≠0→τ.bs=σ.bs):
  Qe K op τ=(Qe K op σ).map fun p=>(p.1,Qp op τ p.2):=by
 cases op
 case mov x=>
  have hm: ∀s':St,Qp (.mov x) τ s'=τ:=fun _=>QA rfl (show(0:Nat)≠2 by omega);simp only[Qe];rw[Qk hr];split <;> simp[hm]
 case mvs n=>
  have h0:=hr n (by simp[QC]);simp only[Qe,h0];split
  ·simp only[Option.map_some,Option.some.injEq,Prod.mk.injEq,true_and];exact ZM (fun j=>by simp only[Qp,ZR,upd,List.mem_singleton];split <;> rfl) (by simp[Qp,QT])
  ·rfl
 case box x=>
  have hm: ∀s':St,Qp (.box x) τ s'=τ:=fun _=>QA rfl (show(0:Nat)≠2 by omega);simp only[Qe];rw[Qk hr];simp[hm,Function.comp_def]
 case alloc zs=>
  have hm: ∀s':St,Qp (.alloc zs) τ s'=τ:=fun _=>QA rfl (show(0:Nat)≠2 by omega);simp[Qe,hm]
 case gbox x=>
  have h0:=hb (by simp[QT]);simp only[Qe,h0];rw[Qk hr]
  cases cellsOf (val σ.env x)with
  | none=>rfl
  | some cs=>
   simp only[Option.map_some,Option.some.injEq,Prod.mk.injEq,true_and];exact ZM (fun j=>by simp[Qp,ZR]) (by simp[Qp,QT])
 case galloc zs=>
  have h0:=hb (by simp[QT]);simp only[Qe,h0,Option.map_some,Option.some.injEq,Prod.mk.injEq,true_and];exact ZM (fun j=>by simp[Qp,ZR]) (by simp[Qp,QT])
 case fad s off=>
  have hm: ∀s':St,Qp (.fad s off) τ s'=τ:=fun _=>QA rfl (show(0:Nat)≠2 by omega)
  
  have h0:=hr s (by simp[QC]);simp only[Qe,h0];split <;> simp[hm]
 case fadr p off=>
  have hm: ∀s':St,Qp (.fadr p off) τ s'=τ:=fun _=>QA rfl (show(0:Nat)≠2 by omega)
  
  have h0:=hr p (by simp[QC]);simp only[Qe,h0];split <;> simp[hm]
 case ldf s off sz ag=>
  have hm: ∀s':St,Qp (.ldf s off sz ag) τ s'=τ:=fun _=>QA rfl (show(0:Nat)≠2 by omega)
  
  have h0:=hr s (by simp[QC]);simp only[Qe,h0];split <;> simp[hm,Function.comp_def]
 case ldfm s off=>
  have h0:=hr s (by simp[QC]);simp only[Qe,h0];split
  ·rename_i cs hcs;cases cs[off]? with
   | none=>rfl
   | some c=>
    simp only[Option.bind_some];split
    ·simp only[Option.map_some,Option.some.injEq,Prod.mk.injEq,true_and];exact ZM (fun j=>by simp only[Qp,ZR,upd,List.mem_singleton];split <;> rfl) (by simp[Qp,QT])
    ·rfl
  ·rfl
 case ld p sz ag=>
  have hm: ∀s':St,Qp (.ld p sz ag) τ s'=τ:=fun _=>QA rfl (show(0:Nat)≠2 by omega)
  
  have h0:=hr p (by simp[QC]);simp only[Qe,h0];split <;> simp[hm,Function.comp_def]
 case ldg p sz ag=>
  have hm: ∀s':St,Qp (.ldg p sz ag) τ s'=τ:=fun _=>QA rfl (show(1:Nat)≠2 by omega)
  
  have h0:=hr p (by simp[QC]);have h1:=hb (by simp[QT]);simp only[Qe,h0,h1];split
  ·rename_i i of hcs;cases σ.bs[i]? with
   | none=>rfl
   | some cs=>simp[hm,Function.comp_def]
  ·rfl
 case ldm p=>
  have h0:=hr p (by simp[QC]);have h1:=hb (by simp[QT]);simp only[Qe,h0,h1];split
  ·rename_i i of hcs;cases σ.bs[i]? with
   | none=>rfl
   | some cs=>
    simp only[Option.bind_some];cases cs[of]? with
    | none=>rfl
    | some c=>
     simp only[Option.bind_some];split
     ·simp only[Option.map_some,Option.some.injEq,Prod.mk.injEq,true_and];exact ZM (fun j=>by simp[Qp,ZR]) (by simp[Qp,QT])
     ·rfl
  ·rfl
 case stf s off sz x=>
  have h0:=hr s (by simp[QC]);simp only[Qe,h0];rw[Qk (fun j hj=>hr j (by simp[QC,hj]))]
  split
  ·rename_i cs hcs;cases cellsOf (val σ.env x)with
   | none=>rfl
   | some vs=>
    simp only[Option.bind_some];split
    ·simp only[Option.map_some,Option.some.injEq,Prod.mk.injEq,true_and];exact ZM (fun j=>by simp only[Qp,ZR,upd,List.mem_singleton];split <;> rfl) (by simp[Qp,QT])
    ·rfl
  ·rfl
 case stn s off sz x zs=>
  have h0:=hr s (by simp[QC]);simp only[Qe,h0];rw[Qk (fun j hj=>hr j (by simp[QC,hj]))]
  split
  ·rename_i cs hcs;cases cellsOf (val σ.env x)with
   | none=>rfl
   | some vs=>
    simp only[Option.bind_some];split
    ·simp only[Option.map_some,Option.some.injEq,Prod.mk.injEq,true_and];exact ZM (fun j=>by simp only[Qp,ZR,upd,List.mem_singleton];split <;> rfl) (by simp[Qp,QT])
    ·rfl
  ·rfl
 case stfm s off n=>
  have h0:=hr s (by simp[QC]);have h1:=hr n (by simp[QC]);simp only[Qe,h0,h1];split
  ·rename_i cs hcs;split
   ·simp only[Option.map_some,Option.some.injEq,Prod.mk.injEq,true_and];refine ZM (fun j=> ?_) (by simp[Qp,QT]);simp only[Qp,ZR,upd,List.mem_cons,List.not_mem_nil,or_false];by_cases e1:j=s <;> by_cases e2:j=n <;> simp[e1,e2]
   ·rfl
  ·rfl
 case st p sz x=>
  have h0:=hr p (by simp[QC]);have h1:=hb (by simp[QT]);simp only[Qe,h0,h1];rw[Qk (fun j hj=>hr j (by simp[QC,hj]))]
  split
  ·rename_i i of hcs;cases σ.bs[i]? with
   | none=>rfl
   | some cs=>
    simp only[Option.bind_some];cases cellsOf (val σ.env x)with
    | none=>rfl
    | some vs=>
     simp only[Option.bind_some];split
     ·simp only[Option.map_some,Option.some.injEq,Prod.mk.injEq,true_and];exact ZM (fun j=>by simp[Qp,ZR]) (by simp[Qp,QT])
     ·rfl
  ·rfl
 case stm p n=>
  have h0:=hr p (by simp[QC]);have h1:=hb (by simp[QT]);have h2:=hr n (by simp[QC]);simp only[Qe,h0,h1,h2];split
  ·rename_i i of hcs;cases σ.bs[i]? with
   | none=>rfl
   | some cs=>
    simp only[Option.bind_some];split
    ·simp only[Option.map_some,Option.some.injEq,Prod.mk.injEq,true_and];exact ZM (fun j=>by simp only[Qp,ZR,upd,List.mem_singleton];split <;> rfl) (by simp[Qp,QT])
    ·rfl
  ·rfl
 case bin op x y=>
  have hm: ∀s':St,Qp (.bin op x y) τ s'=τ:=fun _=>QA rfl (show(0:Nat)≠2 by omega);simp only[Qe];rw[Qk (fun j hj=>hr j (by simp[QC,hj])),Qk (x:=y) (fun j hj=>hr j (by simp[QC,hj]))];simp[hm,Function.comp_def]
 case eqb ne x y=>
  have hm: ∀s':St,Qp (.eqb ne x y) τ s'=τ:=fun _=>QA rfl (show(0:Nat)≠2 by omega);simp only[Qe];rw[Qk (fun j hj=>hr j (by simp[QC,hj])),Qk (x:=y) (fun j hj=>hr j (by simp[QC,hj]))];split <;> simp[hm]
 case eqn ne x=>
  have hm: ∀s':St,Qp (.eqn ne x) τ s'=τ:=fun _=>QA rfl (show(0:Nat)≠2 by omega);simp only[Qe];rw[Qk hr];split <;> simp[hm]
 case eqa ne ks x y=>
  have hm: ∀s':St,Qp (.eqa ne ks x y) τ s'=τ:=fun _=>QA rfl (show(0:Nat)≠2 by omega);simp only[Qe];rw[Qk (fun j hj=>hr j (by simp[QC,hj])),Qk (x:=y) (fun j hj=>hr j (by simp[QC,hj]))];split <;> simp[hm,Function.comp_def]
 case isn ne x=>
  have hm: ∀s':St,Qp (.isn ne x) τ s'=τ:=fun _=>QA rfl (show(0:Nat)≠2 by omega);simp only[Qe];rw[Qk hr];split <;> simp[hm]
 case un op x=>
  have hm: ∀s':St,Qp (.un op x) τ s'=τ:=fun _=>QA rfl (show(0:Nat)≠2 by omega);simp only[Qe];rw[Qk hr];simp[hm,Function.comp_def]
 case conv k x=>
  have hm: ∀s':St,Qp (.conv k x) τ s'=τ:=fun _=>QA rfl (show(0:Nat)≠2 by omega);simp only[Qe];rw[Qk hr];split <;> simp[hm]
 case call f args=>
  have h0:=hb (by simp[QT]);simp only[Qe,h0];rw[WI hr]
  split
  ·simp only[Option.map_map,Function.comp_def];congr 1
  ·rfl
 case callq f args=>
  have h0:=hb (by simp[QT]);have hm: ∀s':St,Qp (.callq f args) τ s'=τ:=fun _=>QA rfl (show(1:Nat)≠2 by omega);simp only[Qe,h0];rw[WI hr]
  split
  ·cases K f (args.map (val σ.env)) σ.bs with
   | none=>rfl
   | some p=>
    simp only[Option.bind_some];split
    ·simp[hm]
    ·rfl
  ·rfl
 case callv g args=>
  have h0:=hb (by simp[QT]);simp only[Qe,h0];rw[WI (fun j hj=>hr j (by simp[QC,hj])),Qk (fun j hj=>hr j (by simp[QC,hj]))]
  split
  ·split
   ·simp only[Option.map_map,Function.comp_def];congr 1
   ·rfl
  ·rfl
 case lens x=>
  have hm: ∀s':St,Qp (.lens x) τ s'=τ:=fun _=>QA rfl (show(0:Nat)≠2 by omega);simp only[Qe];rw[Qk hr];split <;> simp[hm]
 case lenl x=>
  have hm: ∀s':St,Qp (.lenl x) τ s'=τ:=fun _=>QA rfl (show(0:Nat)≠2 by omega);simp only[Qe];rw[Qk hr];split <;> simp[hm]
 case app bytes sz s x=>
  simp only[Qe];rw[Qk (x:=x) (fun j hj=>hr j (by simp[QC,hj]))]
  cases s with
  | t n=>
   have h0:=hr n (by simp[QC,rdO]);simp only[h0];split
   ·rename_i sz1 xs ρ o2 sz2 ys e1 e2;simp only[Prod.mk.injEq]at e1;obtain⟨e1,rfl⟩:=e1;simp only[e1,e2];split
    ·simp only[Option.map_some,Option.some.injEq,Prod.mk.injEq,true_and];exact ZM (fun j=>by simp only[Qp,ZR,rdO,upd,List.mem_singleton];split <;> rfl) (by simp[Qp,QT])
    ·rfl
   ·rename_i hne;split
    ·rename_i sz1 xs ρ o2 sz2 ys e1 e2;simp only[Prod.mk.injEq]at e1;exact(hne sz1 xs _ o2 sz2 ys (by simp only[Prod.mk.injEq];exact⟨e1.1,rfl⟩) e2).elim
    ·rfl
  | c vc=>
   have hm: ∀s':St,Qp (.app bytes sz (.c vc) x) τ s'=τ:=fun _=>QA rfl (show(0:Nat)≠2 by omega);simp only[hm];split
   ·rename_i sz1 xs ρ o2 sz2 ys e1 e2;simp only[Prod.mk.injEq]at e1;obtain⟨rfl,rfl⟩:=e1;simp only[e2];split <;> rfl
   ·rename_i hne;split
    ·rename_i sz1 xs ρ o2 sz2 ys e1 e2;simp only[Prod.mk.injEq]at e1;exact(hne sz1 xs _ o2 sz2 ys (by simp only[Prod.mk.injEq];exact⟨e1.1,rfl⟩) e2).elim
    ·rfl
 case frz n sz=>
  have h0:=hr n (by simp[QC]);have h1:=hb (by simp[QT]);simp only[Qe,PY h0 h1];cases hf:Zb σ n sz with
  | none=>rfl
  | some p=>
   simp only[Option.map_some,Option.some.injEq,Prod.mk.injEq,true_and];exact ZM (fun j=>by simp only[Qp,ZR,TX hf,upd,List.mem_singleton];split <;> rfl) (by simp[Qp,QT])
 case appz bytes sz n x=>
  have h0:=hr n (by simp[QC]);have h1:=hb (by simp[QT]);simp only[Qe,PY h0 h1];rw[Qk (x:=x) (fun j hj=>hr j (by simp[QC,hj]))]
  cases hf:Zb σ n sz with
  | none=>rfl
  | some p=>
   obtain⟨v,s⟩:=p;have he:=TX hf;simp only at he;cases v <;> simp only[Option.map_some] <;> try rfl
   rename_i ow sz1 xs;cases ow <;> try rfl
   cases hx:val σ.env x <;> (try simp only[]) <;> try rfl
   split
   ·simp only[Option.map_some,Option.some.injEq,Prod.mk.injEq,true_and];exact ZM (fun j=>by simp only[Qp,ZR,he,upd,List.mem_singleton];split <;> rfl) (by simp[Qp,QT])
   ·rfl
 case clr sz x=>
  have h1:=hb (by simp[QT]);simp only[Qe,h1];rw[Qk hr]
  split
  ·split
   ·split
    ·simp only[Option.map_some,Option.some.injEq,Prod.mk.injEq,true_and];exact ZM (fun j=>by simp[Qp,ZR]) (by simp[Qp,QT,h1])
    ·rename_i id _ _ _ _ _ _;cases σ.bs[id]? with
     | none=>rfl
     | some cs=>
      simp only[Option.bind_some];split
      ·simp only[Option.map_some,Option.some.injEq,Prod.mk.injEq,true_and];exact ZM (fun j=>by simp[Qp,ZR]) (by simp[Qp,QT])
      ·rfl
   ·rfl
  ·rfl
 case appg bytes sz s x=>
  have hb1:=hb (by simp[QT]);simp only[Qe,hb1];rw[Qk (x:=x) (fun j hj=>hr j (by simp[QC,hj]))]
  cases s with
  | t n=>
   have h0:=hr n (by simp[QC,rdO]);simp only[h0];cases hn:σ.env n <;> (try simp only[]) <;> try rfl
   rename_i ow sz1 xs;cases ow <;> try rfl
   cases xs <;> try rfl
   cases hx:val σ.env x <;> (try simp only[]) <;> try rfl
   split
   ·split
    ·rfl
    ·simp only[Option.map_some,Option.some.injEq,Prod.mk.injEq,true_and];exact ZM (fun j=>by simp only[Qp,ZR,rdO,upd,List.mem_singleton];split <;> rfl) (by simp[Qp,QT])
   ·rfl
  | c vc=>
   cases vc <;> (try simp only[]) <;> try rfl
   rename_i ow sz1 xs;cases ow <;> try rfl
   cases xs <;> try rfl
   cases hx:val σ.env x <;> (try simp only[]) <;> try rfl
   split
   ·split
    ·rfl
    ·simp only[Option.map_some,Option.some.injEq,Prod.mk.injEq,true_and];exact ZM (fun j=>by simp[Qp,ZR,rdO]) (by simp[Qp,QT])
   ·rfl
 case zlit=>
  have hm: ∀s':St,Qp .zlit τ s'=τ:=fun _=>QA rfl (show(0:Nat)≠2 by omega);simp[Qe,hm]
 case nilp=>
  have hm: ∀s':St,Qp .nilp τ s'=τ:=fun _=>QA rfl (show(0:Nat)≠2 by omega);simp[Qe,hm]
 case appzz s x=>
  have hm: ∀s':St,Qp (.appzz s x) τ s'=τ:=fun _=>QA rfl (show(0:Nat)≠2 by omega);simp only[Qe];rw[Qk (fun j hj=>hr j (by simp[QC,hj])),Qk (x:=x) (fun j hj=>hr j (by simp[QC,hj]))];split
  ·simp[hm]
  ·rfl
 case mx x y=>
  have hm: ∀s':St,Qp (.mx x y) τ s'=τ:=fun _=>QA rfl (show(0:Nat)≠2 by omega);simp only[Qe];rw[Qk (fun j hj=>hr j (by simp[QC,hj])),Qk (x:=y) (fun j hj=>hr j (by simp[QC,hj]))];split
  ·split <;> simp[hm]
  ·rfl
 case mn x y=>
  have hm: ∀s':St,Qp (.mn x y) τ s'=τ:=fun _=>QA rfl (show(0:Nat)≠2 by omega);simp only[Qe];rw[Qk (fun j hj=>hr j (by simp[QC,hj])),Qk (x:=y) (fun j hj=>hr j (by simp[QC,hj]))];split
  ·split <;> simp[hm]
  ·rfl
 case mksl sz parts=>
  have hm: ∀s':St,Qp (.mksl sz parts) τ s'=τ:=fun _=>QA rfl (show(0:Nat)≠2 by omega);simp only[Qe];rw[WI hr];simp[hm,Function.comp_def]
 case mksg sz parts=>
  have h0:=hb (by simp[QT]);simp only[Qe,h0];rw[WI hr]
  cases Yp sz (parts.map (val σ.env))with
  | none=>rfl
  | some xs=>
   simp only[Option.map_some,Option.some.injEq,Prod.mk.injEq,true_and];exact ZM (fun j=>by simp[Qp,ZR]) (by simp[Qp,QT])
 case mkst zs parts=>
  have hm: ∀s':St,Qp (.mkst zs parts) τ s'=τ:=fun _=>QA rfl (show(0:Nat)≠2 by omega)
  
  simp only[Qe];have:parts.map (fun p=>(p.1,p.2.1,val τ.env p.2.2))=parts.map (fun p=>(p.1,p.2.1,val σ.env p.2.2)):=by
   apply List.map_congr_left;intro p hp;rw[Qk (fun j hj=>hr j (by simp only[QC,U3,List.mem_flatMap,List.mem_map];exact⟨p.2.2,⟨p,hp,rfl⟩,hj⟩))]
  rw[this];simp[hm,Function.comp_def]
 case idxa sz x i=>
  have hm: ∀s':St,Qp (.idxa sz x i) τ s'=τ:=fun _=>QA rfl (show(0:Nat)≠2 by omega);simp only[Qe];rw[Qk (fun j hj=>hr j (by simp[QC,hj])),Qk (x:=i) (fun j hj=>hr j (by simp[QC,hj]))];split
  ·split <;> simp[hm,Function.comp_def]
  ·split <;> simp[hm]
  ·rfl
 case idx x i=>
  have hm: ∀s':St,Qp (.idx x i) τ s'=τ:=fun _=>QA rfl (show(0:Nat)≠2 by omega);simp only[Qe];rw[Qk (fun j hj=>hr j (by simp[QC,hj])),Qk (x:=i) (fun j hj=>hr j (by simp[QC,hj]))];split
  ·split <;> simp[hm,Function.comp_def]
  ·rfl
 case slcs x lo hi=>
  have hm: ∀s':St,Qp (.slcs x lo hi) τ s'=τ:=fun _=>QA rfl (show(0:Nat)≠2 by omega)
  
  simp only[Qe];rw[Qk (fun j hj=>hr j (by simp[QC,hj])),Ve (x:=lo) (fun j hj=>hr j (by simp[QC,hj])),Ve (x:=hi) (fun j hj=>hr j (by simp[QC,hj]))]
  split
  ·cases Q3 _ _ (hi.map (val σ.env))with
   | none=>rfl
   | some H=>simp[hm,Function.comp_def]
  ·rfl
 case slcl sz x lo hi=>
  have hm: ∀s':St,Qp (.slcl sz x lo hi) τ s'=τ:=fun _=>QA rfl (show(0:Nat)≠2 by omega)
  
  simp only[Qe];rw[Qk (fun j hj=>hr j (by simp[QC,hj])),Ve (x:=lo) (fun j hj=>hr j (by simp[QC,hj])),Ve (x:=hi) (fun j hj=>hr j (by simp[QC,hj]))]
  split
  ·split
   ·cases Q3 _ _ (hi.map (val σ.env))with
    | none=>rfl
    | some H=>simp[hm,Function.comp_def]
   ·rfl
  ·split
   ·cases Q3 _ _ (hi.map (val σ.env))with
    | none=>rfl
    | some H=>simp[hm,Function.comp_def]
   ·split
    ·cases Q3 _ _ (hi.map (val σ.env))with
     | none=>rfl
     | some H=>simp[hm,Function.comp_def]
    ·rfl
  ·rfl
 case slz sz x=>
  have hm: ∀s':St,Qp (.slz sz x) τ s'=τ:=fun _=>QA rfl (show(0:Nat)≠2 by omega);simp only[Qe];rw[Qk hr];split
  ·split <;> simp[hm]
  ·rfl
 case pick c x y=>
  have hm: ∀s':St,Qp (.pick c x y) τ s'=τ:=fun _=>QA rfl (show(0:Nat)≠2 by omega)
  
  simp only[Qe];rw[Qk (fun j hj=>hr j (by simp[QC,hj])),Qk (x:=x) (fun j hj=>hr j (by simp[QC,hj])),Qk (x:=y) (fun j hj=>hr j (by simp[QC,hj]))]
  split
  ·split <;> simp[hm]
  ·split <;> simp[hm]
  ·rfl
 case ext x i=>
  have hm: ∀s':St,Qp (.ext x i) τ s'=τ:=fun _=>QA rfl (show(0:Nat)≠2 by omega)
  
  simp only[Qe];rw[Qk hr]
  split
  ·rename_i vs hv;cases vs[i]? with
   | none=>rfl
   | some c=>simp only[Option.bind_some];split <;> simp[hm]
  ·rfl
 case mkfn f caps=>
  have hm: ∀s':St,Qp (.mkfn f caps) τ s'=τ:=fun _=>QA rfl (show(0:Nat)≠2 by omega);simp only[Qe];rw[WI hr];split <;> simp[hm]
 case nilck x=>
  have hm: ∀s':St,Qp (.nilck x) τ s'=τ:=fun _=>QA rfl (show(0:Nat)≠2 by omega);simp only[Qe];rw[Qk hr];split <;> simp[hm]
 case fld off sz ag x=>
  have hm: ∀s':St,Qp (.fld off sz ag x) τ s'=τ:=fun _=>QA rfl (show(0:Nat)≠2 by omega);simp only[Qe];rw[Qk hr];split <;> simp[hm,Function.comp_def]
 case mkg bytes sz zs x=>
  have h0:=hb (by simp[QT]);simp only[Qe,h0];rw[Qk hr]
  split
  ·split
   ·simp only[Option.map_some,Option.some.injEq,Prod.mk.injEq,true_and];exact ZM (fun j=>by simp[Qp,ZR]) (by simp[Qp,QT])
   ·rfl
  ·rfl
 case bstr x=>
  have hm: ∀s':St,Qp (.bstr x) τ s'=τ:=fun _=>QA rfl (show(0:Nat)≠2 by omega);simp only[Qe];rw[Qk hr]
  split
  ·rename_i o xs _;cases Pb xs <;> simp[hm]
  ·rfl
 case mkz bytes sz zs x=>
  have hm: ∀s':St,Qp (.mkz bytes sz zs x) τ s'=τ:=fun _=>QA rfl (show(0:Nat)≠2 by omega);simp only[Qe];rw[Qk hr]
  split
  ·split
   ·simp[hm]
   ·rfl
  ·rfl
 case ldfz s off sz fo fz=>
  have h0:=hr s (by simp[QC]);have h1:=hb (by simp[QT]);simp only[Qe,h0,h1];split
  ·rename_i cs hcs;split
   ·rename_i id o sz1 k hfo;split
    ·cases σ.bs[id]? with
     | none=>rfl
     | some c2=>
      simp only[Option.bind_some];split
      ·cases ZV (cs.set fo (.sl false fz (QY c2 o fz k))) off sz true with
       | none=>rfl
       | some v2=>
        simp only[Option.map_some,Option.some.injEq,Prod.mk.injEq,true_and];exact ZM (fun j=>by simp only[Qp,ZR,upd,List.mem_singleton];split <;> rfl) (by simp[Qp,QT])
      ·rfl
    ·split
     ·cases ZV (cs.set fo (.sl false fz [])) off sz true with
      | none=>rfl
      | some v2=>
       simp only[Option.map_some,Option.some.injEq,Prod.mk.injEq,true_and];exact ZM (fun j=>by simp only[Qp,ZR,List.mem_singleton];split <;> simp_all) (by simp[Qp,QT,h1])
     ·rfl
   ·rfl
  ·rfl
 case appM bytes sz s x=>
  have h0:=hb (by simp[QT]);simp only[Qe,h0];rw[Qk (x:=s) (fun j hj=>hr j (by simp[QC,hj])),Qk (x:=x) (fun j hj=>hr j (by simp[QC,hj]))]
  simp only[Option.map_map,Function.comp_def];congr 1
 case apn bytes sz zs s x=>
  have h0:=hb (by simp[QT]);simp only[Qe,h0];rw[Qk (x:=s) (fun j hj=>hr j (by simp[QC,hj])),Qk (x:=x) (fun j hj=>hr j (by simp[QC,hj]))]
  split
  ·split
   ·simp only[Option.map_map,Function.comp_def];congr 1
   ·rfl
  ·rfl
 case stq p sz x q=>
  have h0:=hr p (by simp[QC]);have h2:=hr q (by simp[QC]);have h1:=hb (by simp[QT]);simp only[Qe,h0,h1,h2];rw[Qk (fun j hj=>hr j (by simp[QC,hj]))]
  split
  ·rename_i i of i2 of2 hcs hcs2;split
   ·rfl
   ·cases σ.bs[i]? with
    | none=>rfl
    | some cs=>
     simp only[Option.bind_some];cases cellsOf (val σ.env x)with
     | none=>rfl
     | some vs=>
      simp only[Option.bind_some];split
      ·simp only[Option.map_some,Option.some.injEq,Prod.mk.injEq,true_and];exact ZM (fun j=>by simp[Qp,ZR]) (by simp[Qp,QT])
      ·rfl
  ·rfl
 case stp p sz x q=>
  have h0:=hr p (by simp[QC]);have h2:=hr q (by simp[QC]);have h1:=hb (by simp[QT]);simp only[Qe,h0,h1,h2];rw[Qk (fun j hj=>hr j (by simp[QC,hj]))]
  split
  ·rename_i i of i2 of2 hcs hcs2;split
   ·rfl
   ·cases σ.bs[i]? with
    | none=>rfl
    | some cs=>
     simp only[Option.bind_some];cases cellsOf (val σ.env x)with
     | none=>rfl
     | some vs=>
      simp only[Option.bind_some];split
      ·simp only[Option.map_some,Option.some.injEq,Prod.mk.injEq,true_and];exact ZM (fun j=>by simp[Qp,ZR]) (by simp[Qp,QT])
      ·rfl
  ·rfl
 case slcx sz x lo hi=>
  have hm: ∀s':St,Qp (.slcx sz x lo hi) τ s'=τ:=fun _=>QA rfl (show(1:Nat)≠2 by omega);have h0:=hb (by simp[QT]);simp only[Qe,h0];rw[Qk (fun j hj=>hr j (by simp[QC,hj])),Ve (x:=lo) (fun j hj=>hr j (by simp[QC,hj])),Ve (x:=hi) (fun j hj=>hr j (by simp[QC,hj]))]
  split
  ·rename_i id of sz1 kn hA;split
   ·cases σ.bs[id]? with
    | none=>rfl
    | some cs=>
     simp only[Option.bind_some];cases Q3 _ _ (hi.map (val σ.env))with
     | none=>rfl
     | some H=>simp[hm,Function.comp_def]
   ·rfl
  ·rfl
 case slcc sz x lo hi mx=>
  have hm: ∀s':St,Qp (.slcc sz x lo hi mx) τ s'=τ:=fun _=>QA rfl (show(0:Nat)≠2 by omega);simp only[Qe];rw[Qk (x:=x) (fun j hj=>hr j (by simp[QC,hj])),Ve (x:=lo) (fun j hj=>hr j (by simp[QC,hj])),Qk (x:=hi) (fun j hj=>hr j (by simp[QC,hj])),Qk (x:=mx) (fun j hj=>hr j (by simp[QC,hj]))]
  split
  ·cases Q3 _ _ (some (val σ.env mx))with
   | none=>rfl
   | some M=>
    simp only[Option.bind_some];cases Q3 _ _ (some (val σ.env hi))with
    | none=>rfl
    | some H=>simp[hm,Function.comp_def]
  ·cases Q3 _ _ (some (val σ.env mx))with
   | none=>rfl
   | some M=>
    simp only[Option.bind_some];cases Q3 _ _ (some (val σ.env hi))with
    | none=>rfl
    | some H=>simp[hm,Function.comp_def]
  ·rfl
 case mkm=>
  have h0:=hb (by simp[QT]);simp only[Qe,h0,Option.map_some,Option.some.injEq,Prod.mk.injEq,true_and];exact ZM (fun j=>by simp[Qp,ZR]) (by simp[Qp,QT])
 case lkm s ok x i z=>
  have hm: ∀s':St,Qp (.lkm s ok x i z) τ s'=τ:=fun _=>QA rfl (show(1:Nat)≠2 by omega);have h1:=hb (by simp[QT]);simp only[Qe,h1];rw[Qk (fun j hj=>hr j (by simp[QC,hj])),Qk (x:=i) (fun j hj=>hr j (by simp[QC,hj]))]
  split
  ·rename_i id hid;cases σ.bs[id]? with
   | none=>rfl
   | some cs=>
    simp only[Option.bind_some];split
    ·rfl
    ·cases Yy s (cs.drop 1) (val σ.env i)with
     | none=>rfl
     | some r=>
      simp only[Option.bind_some];split <;> simp[hm]
  ·rfl
 case upm s x k y=>
  have h1:=hb (by simp[QT]);simp only[Qe,h1];rw[Qk (fun j hj=>hr j (by simp[QC,hj])),Qk (x:=k) (fun j hj=>hr j (by simp[QC,hj])),Qk (x:=y) (fun j hj=>hr j (by simp[QC,hj]))]
  split
  ·rename_i id hid;cases σ.bs[id]? with
   | none=>rfl
   | some cs=>
    simp only[Option.bind_some];split
    ·rfl
    ·cases Ss s (cs.drop 1) (val σ.env k) (val σ.env y).strip with
     | none=>rfl
     | some ys=>
      simp only[Option.map_some,Option.some.injEq,Prod.mk.injEq,true_and];exact ZM (fun j=>by simp[Qp,ZR]) (by simp[Qp,QT])
  ·rfl
 case mpe s x k z=>
  have h1:=hb (by simp[QT]);simp only[Qe,h1];rw[Qk (fun j hj=>hr j (by simp[QC,hj])),Qk (x:=k) (fun j hj=>hr j (by simp[QC,hj]))]
  split
  ·rename_i id hid;cases σ.bs[id]? with
   | none=>rfl
   | some cs=>
    simp only[Option.bind_some];split
    ·rfl
    ·cases Yy s (cs.drop 1) (val σ.env k)with
     | none=>rfl
     | some r=>
      cases r with
      | none=>
       simp only[Option.map_some,Option.some.injEq,Prod.mk.injEq,Option.isSome_none,Bool.false_eq_true,if_false,true_and];exact ZM (fun j=>by simp[Qp,ZR]) (by simp[Qp,QT])
      | some r=>
       simp only[Option.map_some,Option.some.injEq,Prod.mk.injEq,Option.isSome_some,if_true,true_and];exact ZM (fun j=>by simp[Qp,ZR]) (by simp[Qp,QT,h1])
  ·rfl
 case ens x st y=>
  have h1:=hb (by simp[QT]);simp only[Qe];rw[Qk (fun j hj=>hr j (by simp[QC,hj])),Qk (x:=st) (fun j hj=>hr j (by simp[QC,hj])),Qk (x:=y) (fun j hj=>hr j (by simp[QC,hj]))]
  rw[ON h1];cases he:Uo σ (val σ.env x) (val σ.env st) (val σ.env y)with
  | none=>rfl
  | some p=>
   simp only[Option.map_some,Option.some.injEq,Prod.mk.injEq,true_and];exact ZM (fun j=>by simp[Qp,ZR]) (by simp[Qp,QT])
 case ensf x st n sz=>
  have h0:=hr n (by simp[QC]);have h1:=hb (by simp[QT]);simp only[Qe,PY h0 h1];cases hf:Zb σ n sz with
  | none=>rfl
  | some p=>
   have hpe:=TX hf;simp only[Option.map_some,Option.bind_some];have hup: ∀j∈QC (.ensf x st n sz),upd τ.env n .undef j=p.2.env j:=fun j hj=>by
    rw[hpe];simp only[upd];split
    ·rfl
    ·exact hr j hj
   rw[Qk (ρ:=p.2.env) (x:=x) (fun j hj=>hup j (by simp[QC,hj])),Qk (ρ:=p.2.env) (x:=st) (fun j hj=>hup j (by simp[QC,hj]))];rw[ON (σ:=p.2) (τ:={env:=upd τ.env n .undef,bs:=p.2.bs}) rfl];cases he:Uo p.2 (val p.2.env x) (val p.2.env st) p.1 with
   | none=>rfl
   | some q=>
    have hq:=Lg he;simp only[Option.map_some,Option.some.injEq,Prod.mk.injEq,true_and];exact ZM (fun j=>by simp only[Qp,ZR,hq,hpe,upd,List.mem_singleton];split <;> rfl) (by simp[Qp,QT])
 case mkp bytes sz zs x=>
  have hm: ∀s':St,Qp (.mkp bytes sz zs x) τ s'=τ:=fun _=>QA rfl (show(0:Nat)≠2 by omega);simp only[Qe];rw[Qk hr]
  split
  ·split
   ·simp[hm]
   ·rfl
  ·rfl
 case extm n=>
  have h0:=hr n (by simp[QC]);simp only[Qe,h0];split
  ·simp only[Option.map_some,Option.some.injEq,Prod.mk.injEq,true_and];exact ZM (fun j=>by simp only[Qp,ZR,upd,List.mem_singleton];split <;> rfl) (by simp[Qp,QT])
  ·rfl
 case mkstP n zs parts=>
  have h0:=hr n (by simp[QC]);have h1:=hb (by simp[QT]);simp only[Qe,h0,h1];split
  ·rename_i sz cs hcs;split
   ·have hp:parts.map (fun p=>(p.1,p.2.1,val (upd τ.env n (.gs σ.bs.length 0 sz (cs.length / sz))) p.2.2))=parts.map (fun p=>(p.1,p.2.1,val (upd σ.env n (.gs σ.bs.length 0 sz (cs.length / sz))) p.2.2)):=by
     apply List.map_congr_left;intro p hp;have:val (upd τ.env n (.gs σ.bs.length 0 sz (cs.length / sz))) p.2.2=val (upd σ.env n (.gs σ.bs.length 0 sz (cs.length / sz))) p.2.2:=Qk fun j hj=>by
      simp only[upd];split
      ·rfl
      ·exact hr j (by simp only[QC,U3,List.mem_cons,List.mem_flatMap,List.mem_map];exact .inr ⟨p.2.2,⟨p,hp,rfl⟩,hj⟩)
     rw[this]
    rw[hp];cases X3 zs (parts.map fun p=>(p.1,p.2.1,val (upd σ.env n (.gs σ.bs.length 0 sz (cs.length / sz))) p.2.2))with
    | none=>rfl
    | some c=>
     simp only[Option.map_some,Option.some.injEq,Prod.mk.injEq,true_and];exact ZM (fun j=>by simp only[Qp,ZR,upd,List.mem_singleton];split <;> rfl) (by simp[Qp,QT])
   ·rfl
  ·rfl
end Go.Am
