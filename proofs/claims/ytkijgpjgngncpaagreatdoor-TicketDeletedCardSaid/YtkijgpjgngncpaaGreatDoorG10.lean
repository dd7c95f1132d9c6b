/-
  Am20, Am27.
-/
import Derived.Test.YtkijgpjgngncpaaGreatDoorG09
import Derived.Carry
import Derived.ReadAgain
import Derived.ChangeSame
import Derived.OpenShut
set_option linter.all false
namespace Go.Am
def KLe (K K':ZK):Prop:=∀f args bs r,K f args bs=some r→K' f args bs=some r
theorem Dc {K K':ZK} (h:KLe K K') {op:AOp} {σ:St} {p:AV×St} (he:Qe K op σ=some p):Qe K' op σ=some p:=by
 cases op <;> try exact he
 case call f args=>
  simp only[Qe]at he ⊢;split at he
  ·rename_i hok;rw[if_pos hok];cases hk:K f (args.map (val σ.env)) σ.bs with
   | none=>rw[hk]at he;cases he
   | some r=>rw[hk]at he;rw[h _ _ _ _ hk];exact he
  ·cases he
 case callq f args=>
  simp only[Qe]at he ⊢;split at he
  ·rename_i hok;rw[if_pos hok];cases hk:K f (args.map (val σ.env)) σ.bs with
   | none=>rw[hk]at he;cases he
   | some r=>rw[hk]at he;rw[h _ _ _ _ hk];exact he
  ·cases he
 case callv g args=>
  simp only[Qe]at he ⊢;split at he
  ·rename_i f caps hf;split at he
   ·rename_i hok;rw[if_pos hok];cases hk:K f (args.map (val σ.env)++ caps) σ.bs with
    | none=>rw[hk]at he;cases he
    | some r=>rw[hk]at he;rw[h _ _ _ _ hk];exact he
   ·cases he
  ·cases he
theorem Mk {K K':ZK} (h:KLe K K') {o:Qn} {σ s:St} (he:Zj K o σ=some s):Zj K' o σ=some s:=by
 have key: ((Qe K o.op σ).map fun p=>({p.2 with env:=ZH p.2.env o.dst p.1}:St))=some s→((Qe K' o.op σ).map fun p=>({p.2 with env:=ZH p.2.env o.dst p.1}:St))=some s:=fun he=>by
  cases hx:Qe K o.op σ with
  | none=>rw[hx]at he;cases he
  | some p=>rw[hx]at he;rw[Dc h hx];exact he
 unfold Zj at he ⊢;split at he
 ·exact key he
 ·split at he
  ·split at he
   ·rename_i hc;rw[if_pos hc];exact key he
   ·rename_i hc;rw[if_neg hc];exact he
  ·exact he
  ·cases he
theorem Ti {K K':ZK} (h:KLe K K'): ∀{os:List Qn} {σ s:St},Zn K os σ=some s→Zn K' os σ=some s
 | [],_,_,he=>he
 | o:: os,σ,s,he=>by
  simp only[Zn]at he ⊢;cases ho:Zj K o σ with
  | none=>rw[ho]at he;cases he
  | some s1=>
   rw[ho]at he;rw[Mk h ho];exact Ti h he
theorem SG {f g:St→Option (Ex×St)} (h: ∀s x,f s=some x→g s=some x): ∀{n m:Nat} {σ:St} {x:Ex×St},n≤m→UU f n σ=some x→UU g m σ=some x
 | 0,_,_,_,_,he=>by simp[UU]at he
 | n+1,0,_,_,hnm,_=>by omega
 | n+1,m+1,σ,x,hnm,he=>by
  simp only[UU]at he ⊢;split at he
  ·rename_i s hf;rw[h _ _ hf];exact SG h (by omega) he
  ·rename_i hne;have:=h _ _ he;rw[this];obtain⟨e,s⟩:=x;cases e
   ·exact absurd he (hne s)
   ·rfl
   ·rfl
theorem SO {K K':ZK} (h:KLe K K') {n m:Nat} (hnm:n≤m): ∀{c:AC} {σ:St} {x:Ex×St},Zg K n c σ=some x→Zg K' m c σ=some x:=by
 intro c
 induction c with
 | bad=>intro σ x he;simp[Zg]at he
 | skip=>intro σ x he;exact he
 | reg d ops=>
  intro σ x he;simp only[Zg]at he ⊢;cases ho:Zn K ops σ with
  | none=>rw[ho]at he;cases he
  | some s=>rw[ho]at he;rw[Ti h ho];exact he
 | seq a b iha ihb=>
  intro σ x he;simp only[Zg]at he ⊢;split at he
  ·rename_i s ha;rw[iha ha];exact ihb he
  ·rename_i hne;rw[iha he];obtain⟨e,s⟩:=x;cases e
   ·exact absurd he (hne s)
   ·rfl
   ·rfl
 | cond c a b iha ihb=>
  intro σ x he;simp only[Zg]at he ⊢;split at he
  ·exact iha he
  ·exact ihb he
  ·cases he
 | block id c ih=>
  intro σ x he;simp only[Zg]at he ⊢;split at he
  ·rename_i i s hc;rw[ih hc];exact he
  ·rename_i hne;rw[ih he];obtain⟨e,s⟩:=x;cases e
   ·rfl
   ·exact absurd he (hne _ s)
   ·rfl
 | loop c ih=>
  intro σ x he;simp only[Zg]at he ⊢;exact SG (fun s x hx=>ih hx) hnm he
 | exit id=>intro σ x he;exact he
 | ret=>intro σ x he;exact he
theorem XY {T:Nat→Option AFn}: ∀{n m:Nat},n≤m→KLe (ZL T n) (ZL T m)
 | 0,_,_=>fun _ _ _ _ h=>by simp[ZL]at h
 | n+1,0,h=>by omega
 | n+1,m+1,h=>fun f args bs r he=>by
  simp only[ZL]at he ⊢;split at he
  ·cases he
  ·rename_i g hg;exact he
  ·rename_i fn hf;split at he
   ·rename_i hl;rw[if_pos hl];have hr: ∀x,Zg (ZL T n) n fn.body {env:=YN args,bs}=some x→Zg (ZL T m) m fn.body {env:=YN args,bs}=some x:=fun x hx=>SO (XY (by omega)) (by omega) hx;split at he
    ·rename_i s hs;rw[hr _ hs];exact he
    ·rename_i s hs;rw[hr _ hs];exact he
    ·cases he
   ·cases he
open Classical in
noncomputable def call (T:Nat→Option AFn):ZK:=fun f args bs=>if h: ∃r n,ZL T n f args bs=some r then some h.choose else none
open Classical in
noncomputable def run (T:Nat→Option AFn) (c:AC) (σ:St):Option (Ex×St):=if h: ∃x n,Zg (ZL T n) n c σ=some x then some h.choose else none
section
variable {T:Nat→Option AFn}
theorem W8 {f:Nat} {args:List AV} {bs:List (List AV)} {r:AV×List (List AV)}:call T f args bs=some r↔∃n,ZL T n f args bs=some r:=by
 have huniq: ∀{r1 r2:AV×List (List AV)} {n m:Nat},ZL T n f args bs=some r1→ZL T m f args bs=some r2→r1=r2:=fun {r1 r2 n m} h1 h2=>by
  have g1:=XY (T:=T) (Nat.le_max_left n m) _ _ _ _ h1;have g2:=XY (T:=T) (Nat.le_max_right n m) _ _ _ _ h2;rw[g1]at g2;injection g2
 unfold call;constructor
 ·intro h;split at h
  ·rename_i hx;injection h with h
   obtain⟨n,hn⟩:=hx.choose_spec;exact⟨n,h▸hn⟩
  ·cases h
 ·rintro⟨n,hn⟩
  have hx: ∃r n,ZL T n f args bs=some r:=⟨r,n,hn⟩;rw[dif_pos hx];obtain⟨m,hm⟩:=hx.choose_spec;rw[huniq hm hn]
theorem Zc {c:AC} {σ:St} {x:Ex×St}:run T c σ=some x↔∃n,Zg (ZL T n) n c σ=some x:=by
 have huniq: ∀{r1 r2:Ex×St} {n m:Nat},Zg (ZL T n) n c σ=some r1→Zg (ZL T m) m c σ=some r2→r1=r2:=fun {r1 r2 n m} h1 h2=>by
  have g1:=SO (XY (T:=T) (Nat.le_max_left n m)) (Nat.le_max_left n m) h1;have g2:=SO (XY (T:=T) (Nat.le_max_right n m)) (Nat.le_max_right n m) h2;rw[g1]at g2;injection g2
 unfold run;constructor
 ·intro h;split at h
  ·rename_i hx;injection h with h
   obtain⟨n,hn⟩:=hx.choose_spec;exact⟨n,h▸hn⟩
  ·cases h
 ·rintro⟨n,hn⟩
  have hx: ∃x n,Zg (ZL T n) n c σ=some x:=⟨x,n,hn⟩;rw[dif_pos hx];obtain⟨m,hm⟩:=hx.choose_spec;rw[huniq hm hn]
theorem LN (n:Nat):KLe (ZL T n) (call T):=fun _ _ _ _ h=>W8.2 ⟨n,h⟩
theorem BZ {op:AOp} {σ:St} {p:AV×St} (h:Qe (call T) op σ=some p): ∃n,Qe (ZL T n) op σ=some p:=by
 cases op <;> try exact⟨0,h⟩
 case call f args=>
  simp only[Qe]at h ⊢;split at h
  ·rename_i hok;simp only[hok,if_true];cases hk:call T f (args.map (val σ.env)) σ.bs with
   | none=>rw[hk]at h;cases h
   | some r=>
    obtain⟨n,hn⟩:=W8.1 hk;rw[hk]at h;exact⟨n,by rw[hn];exact h⟩
  ·cases h
 case callq f args=>
  simp only[Qe]at h ⊢;split at h
  ·rename_i hok;simp only[hok,if_true];cases hk:call T f (args.map (val σ.env)) σ.bs with
   | none=>rw[hk]at h;cases h
   | some r=>
    obtain⟨n,hn⟩:=W8.1 hk;rw[hk]at h;exact⟨n,by rw[hn];exact h⟩
  ·cases h
 case callv g args=>
  simp only[Qe]at h ⊢;split at h
  ·rename_i f caps hf;split at h
   ·rename_i hok;simp only[hok,if_true];cases hk:call T f (args.map (val σ.env)++ caps) σ.bs with
    | none=>rw[hk]at h;cases h
    | some r=>
     obtain⟨n,hn⟩:=W8.1 hk;rw[hk]at h;exact⟨n,by rw[hn];exact h⟩
   ·cases h
  ·cases h
theorem D0 {o:Qn} {σ s:St} (h:Zj (call T) o σ=some s): ∃n,Zj (ZL T n) o σ=some s:=by
 have key: ((Qe (call T) o.op σ).map fun p=>({p.2 with env:=ZH p.2.env o.dst p.1}:St))=some s→∃n,((Qe (ZL T n) o.op σ).map fun p=>({p.2 with env:=ZH p.2.env o.dst p.1}:St))=some s:=fun he=>by
  cases hx:Qe (call T) o.op σ with
  | none=>rw[hx]at he;cases he
  | some p=>
   obtain⟨n,hn⟩:=BZ hx;rw[hx]at he;exact⟨n,by rw[hn];exact he⟩
 unfold Zj at h ⊢;split at h
 ·exact key h
 ·split at h
  ·split at h
   ·rename_i hc;obtain⟨n,hn⟩:=key h;exact⟨n,by rw[if_pos hc];exact hn⟩
   ·rename_i hc;exact⟨0,by rw[if_neg hc];exact h⟩
  ·exact⟨0,h⟩
  ·cases h
theorem Ml: ∀{os:List Qn} {σ s:St},Zn (call T) os σ=some s→∃n,Zn (ZL T n) os σ=some s
 | [],_,_,h=>⟨0,h⟩
 | o:: os,σ,s,h=>by
  simp only[Zn]at h;cases ho:Zj (call T) o σ with
  | none=>rw[ho]at h;cases h
  | some s1=>
   rw[ho]at h;obtain⟨n,hn⟩:=D0 ho;obtain⟨m,hm⟩:=Ml (os:=os) h;refine⟨max n m,?_⟩;simp only[Zn];rw[Mk (XY (Nat.le_max_left n m)) hn];exact Ti (XY (Nat.le_max_right n m)) hm
theorem Tx {n m:Nat} (h:n≤m) {c:AC} {σ:St} {x:Ex×St} (hr:Zg (ZL T n) n c σ=some x):Zg (ZL T m) m c σ=some x:=SO (XY h) h hr
theorem T0 {α:Type} {a b:Option α} (h: ∀x,a=some x↔b=some x):a=b:=by
 cases a with
 | none=>cases b with
  | none=>rfl
  | some y=>exact absurd ((h y).2 rfl) (by simp)
 | some x=>exact((h x).1 rfl).symm
theorem AW (σ:St):run T .skip σ=some (.normal,σ):=Zc.2 ⟨0,rfl⟩
theorem Qc0 (σ:St):run T .ret σ=some (.ret,σ):=Zc.2 ⟨0,rfl⟩
theorem AQ (id:Nat) (σ:St):run T (.exit id) σ=some (.exit id,σ):=Zc.2 ⟨0,rfl⟩
theorem QcZ (d:Bool) (ops:List Qn) (σ:St):run T (.reg d ops) σ=(Zn (call T) ops σ).map fun s=>(.normal,s):=by
 apply T0;intro x;rw[Zc];simp only[Zg];constructor
 ·rintro⟨n,h⟩
  cases ho:Zn (ZL T n) ops σ with
  | none=>rw[ho]at h;cases h
  | some s=>rw[ho]at h;rw[Ti (LN n) ho];exact h
 ·intro h;cases ho:Zn (call T) ops σ with
  | none=>rw[ho]at h;cases h
  | some s=>
   obtain⟨n,hn⟩:=Ml ho;rw[ho]at h;exact⟨n,by rw[hn];exact h⟩
theorem Qc1 (a b:AC) (σ:St):run T (.seq a b) σ=match run T a σ with
  | some (.normal,s)=>run T b s
  | r=>r:=by
 apply T0;intro x;rw[Zc];constructor
 ·rintro⟨n,h⟩
  simp only[Zg]at h;split at h
  ·rename_i s hs;rw[Zc.2 ⟨n,hs⟩];exact Zc.2 ⟨n,h⟩
  ·rename_i hne;rw[Zc.2 ⟨n,h⟩];obtain⟨e,s⟩:=x;cases e
   ·exact absurd h (hne s)
   ·rfl
   ·rfl
 ·intro h;split at h
  ·rename_i s hs;obtain⟨n,hn⟩:=Zc.1 hs;obtain⟨m,hm⟩:=Zc.1 h;refine⟨max n m,?_⟩;simp only[Zg];rw[Tx (Nat.le_max_left n m) hn];exact Tx (Nat.le_max_right n m) hm
  ·rename_i hne;obtain⟨n,hn⟩:=Zc.1 h;refine⟨n,?_⟩;simp only[Zg];rw[hn];obtain⟨e,s⟩:=x;cases e
   ·exact absurd h (hne s)
   ·rfl
   ·rfl
theorem AP (c:AO) (a b:AC) (σ:St):run T (.cond c a b) σ=match val σ.env c with
  | .bool true=>run T a σ
  | .bool false=>run T b σ
  | _=>none:=by
 apply T0;intro x;rw[Zc];simp only[Zg];cases hv:val σ.env c <;> try simp
 rename_i b;cases b
 ·exact Zc.symm
 ·exact Zc.symm
theorem D1 (id:Nat) (c:AC) (σ:St):run T (.block id c) σ=match run T c σ with
  | some (.exit i,s)=>some (if i=id then .normal else .exit i,s)
  | r=>r:=by
 apply T0;intro x;rw[Zc];simp only[Zg];constructor
 ·rintro⟨n,h⟩
  split at h
  ·rename_i i s hs;rw[Zc.2 ⟨n,hs⟩];exact h
  ·rename_i hne;rw[Zc.2 ⟨n,h⟩];obtain⟨e,s⟩:=x;cases e
   ·rfl
   ·exact absurd h (hne _ s)
   ·rfl
 ·intro h;split at h
  ·rename_i i s hs;obtain⟨n,hn⟩:=Zc.1 hs;exact⟨n,by rw[hn];exact h⟩
  ·rename_i hne;obtain⟨n,hn⟩:=Zc.1 h;refine⟨n,?_⟩;rw[hn];obtain⟨e,s⟩:=x;cases e
   ·rfl
   ·exact absurd h (hne _ s)
   ·rfl
theorem AR (c:AC) (σ:St):run T (.loop c) σ=match run T c σ with
  | some (.normal,s)=>run T (.loop c) s
  | r=>r:=by
 apply T0;intro x;rw[Zc];constructor
 ·rintro⟨n,h⟩
  simp only[Zg]at h;cases n with
  | zero=>simp[UU]at h
  | succ n=>
   simp only[UU]at h;split at h
   ·rename_i s hs;rw[Zc.2 ⟨n+1,hs⟩];refine Zc.2 ⟨n+1,?_⟩;simp only[Zg];exact SG (fun _ _ h=>h) (by omega) h
   ·rename_i hne;rw[Zc.2 ⟨n+1,h⟩];obtain⟨e,s⟩:=x;cases e
    ·exact absurd h (hne s)
    ·rfl
    ·rfl
 ·intro h;split at h
  ·rename_i s hs;obtain⟨n,hn⟩:=Zc.1 hs;obtain⟨m,hm⟩:=Zc.1 h;refine⟨max n m+1,?_⟩;simp only[Zg]at hm ⊢;simp only[UU];rw[Tx (m:=max n m+1) (by omega) hn];exact SG (fun s x hx=>Tx (by omega) hx) (by omega) hm
  ·rename_i hne;obtain⟨n,hn⟩:=Zc.1 h;refine⟨n+1,?_⟩;simp only[Zg,UU];rw[Tx (m:=n+1) (by omega) hn];obtain⟨e,s⟩:=x;cases e
   ·exact absurd h (hne s)
   ·rfl
   ·rfl
theorem HA (f:Nat) (args:List AV) (bs:List (List AV)):call T f args bs=match T f with
  | none=>none
  | some (.orc g)=>g args bs
  | some (.code fn)=>
   if args.length=fn.nparams then
    match run T fn.body {env:=YN args,bs}with
    | some (.normal,σ)=>YF fn bs σ
    | some (.ret,σ)=>YF fn bs σ
    | _=>none
   else none:=by
 apply T0;intro x;rw[W8];constructor
 ·rintro⟨n,h⟩
  cases n with
  | zero=>simp[ZL]at h
  | succ n=>
   simp only[ZL]at h;split at h
   ·cases h
   ·rename_i g hg;simp only[hg];exact h
   ·rename_i fn hf;simp only[hf];split at h
    ·rename_i hl;rw[if_pos hl];split at h
     ·rename_i s hs;rw[Zc.2 ⟨n,hs⟩];exact h
     ·rename_i s hs;rw[Zc.2 ⟨n,hs⟩];exact h
     ·cases h
    ·cases h
 ·intro h;split at h
  ·cases h
  ·rename_i g hg;exact⟨1,by simp only[ZL,hg];exact h⟩
  ·rename_i fn hf;split at h
   ·rename_i hl;split at h
    ·rename_i s hs;obtain⟨n,hn⟩:=Zc.1 hs;exact⟨n+1,by simp only[ZL,hf,hl,if_true,hn];exact h⟩
    ·rename_i s hs;obtain⟨n,hn⟩:=Zc.1 hs;exact⟨n+1,by simp only[ZL,hf,hl,if_true,hn];exact h⟩
    ·cases h
   ·cases h
end
end Go.Am
namespace Go.Am
open Go.RowKit Go.ChangeShapes Go.WideShapes
section
variable {P:Program} {num:Nat→Option Nat} {tb:Nat→Option AFn} {W:World}
theorem Dw [Dr] (hF:Mr P num (glob P) tb) {f g:Nat} (hnum:num f=some g) {args:List AV} {vs:Array Value} (hG:N7 P W) (hok:Y5 args=true) (hvs:vs.size=args.length)
  (hrep: ∀(i:Nat) (c:AV),args[i]? =some c→∃u,vs[i]? =some u∧Qc num [] W (mW W) c u) (hc:call tb f args []=some (.bool true,[])):
  Calls P g vs W fun e W'=>e= .returned (.bool true)∧Below W.heap.size W W':=by
 obtain⟨n,hn⟩:=W8.1 hc;refine(SX hF n f g args [] _ _ hnum hn hok W (mW W) [] (fun _=>none) vs hG (Qcp hG) hvs hrep ⟨rfl,fun i cs k h=>by simp at h⟩ (fun b p h=>by cases h)).mono fun e W' he=> ?_;obtain⟨v,m',β',ν',he,_,hS,_,_,hr,_,_⟩:=he;simp only[Qc]at hr;subst hr;exact⟨he,hS.os,hS.tape,hS.output,hS.size,fun k hk=>(hS.same k hk (fun⟨p,hp⟩=>by cases hp)).1⟩
section
variable {H:Type} {enc:TypeId×Value→H} {S:List TypeId} {base b0:Nat} {spare:Nat→Bool} {held:Bool} {r:Reach}
theorem Pr (K:Kids P (· < P.types.size)) (hz: ∀t e,t < P.types.size→P.underlying t=some (.slice e)→0 < P.cellsOf e) {W':World} (hb:Below W.heap.size W W') {sp:Nat→Bool}:
  ∀{ts:List TypeId} {vs:List Value} {ds:List (DataW H)} {ps:List MemPlace},(∀t∈ts,t < P.types.size)→DataW.TrodAll enc P W 0 (fun _=>true) true ts vs ds ps→(∀p∈ps,p.block < W.heap.size)→(∀p∈ps,sp p.block=true)→
   DataW.TrodAll enc P W' 0 sp true ts vs ds ps
 | [],[],[],_,_,h,_,_=>h
 | _:: _,_:: _,_:: _,_,hT,⟨p,q,⟨n,h1⟩,h2,e⟩,hlt,hs=>by
  subst e;refine⟨p,q,⟨n,?_⟩,Pr K hz hb (fun t ht=>hT t (List.mem_cons_of_mem _ ht)) h2 (fun x hx=>hlt x (List.mem_append_right _ hx)) (fun x hx=>hs x (List.mem_append_right _ hx)),rfl⟩;exact DataW.trod_carry n _ _ _ (DataW.trod_respare K hz n _ _ _ (hT _ (List.mem_cons_self ..)) h1 (fun x hx=>hs x (List.mem_append_left _ hx))) (fun x hx=>hb.same (hlt x (List.mem_append_left _ hx)))
theorem post_of_below {f:Func} {s:ChangeSpec} {apart fresh handsOn again:Bool} {W W':World} {args:Array Value} {v:Value} {ds gs:List (DataW H)} {before pa pv:List MemPlace}
  (hW:DataW.Whole enc P f.params.toList s.vars apart W args.toList ds gs before)
  (hres: ∀(b:Nat) (sp:Nat→Bool) (hd:Bool),DataW.TrodAll enc P W' b sp hd f.resultTypes.toList (v.resultList f.resultTypes.size) (s.fn H (ds ++ gs)).results [])
  (hargs: ∀sp:Nat→Bool,(∀p∈before,sp p.block=true)→DataW.TrodAll enc P W' 0 sp true f.params.toList args.toList (s.fn H (ds ++ gs)).args pa)
  (hvars: ∀sp:Nat→Bool,(∀p∈before,sp p.block=true)→DataW.TrodVars enc P W' sp s.vars (s.fn H (ds ++ gs)).vars pv)
  (hps:before=pa ++ pv) (hb:Below W.heap.size W W')
  (hok: ∀(j:Nat) (t:TypeId) (r:Value),f.resultTypes[j]? =some t→(v.resultList f.resultTypes.size)[j]? =some r→Value.okWide P W' .any 0 t r):
  s.post enc P f apart fresh handsOn again W args v W':=by
 have hlt: ∀p∈before,p.block < W.heap.size:=fun p hp=>hW.lt p hp;have hold: ∀p∈before,(fun b=>decide (b < W.heap.size)) p.block=true:=fun p hp=>by simpa using hlt p hp
 refine⟨ds,gs,before,[],pa,pv,hW,hres _ _ _,hargs _ hold,hvars _ hold,World.keptBut_mono (fun p hp=>⟨hp,?_⟩) (hb.frame (·∈before)),fun _=> ?_⟩
 ·rw[hps,List.mem_append]at hp;exact Or.inr hp
 ·obtain⟨_,_,_,_,_,hz,hn⟩:=hW;refine⟨hok,_,_,([]++ pa)++ pv,⟨[]++ pa,pv,trodAll_append (hargs _ (fun _ _=>rfl)) (hres _ _ _),hvars _ (fun _ _=>rfl),rfl,?_,?_⟩,?_⟩
  ·intro b off hp;have hin:MemPlace.cell b off∈before:=by rw[hps];simpa using hp
   rw[hb.frozen (hlt _ hin)];exact hz b off hin
  ·intro ha;have:=hn ha;rw[hps]at this;simpa using this
  ·intro p hp _;rw[hps];simpa using hp
end
end
end Go.Am
