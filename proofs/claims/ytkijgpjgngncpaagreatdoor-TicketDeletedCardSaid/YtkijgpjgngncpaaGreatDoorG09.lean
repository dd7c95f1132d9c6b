/-
  Am17, Am18, Am19, Am24, Am25, Am26.
-/
import Derived.Test.YtkijgpjgngncpaaGreatDoorG08
import Derived.Lib.AtoiAll
import Derived.Below
import Derived.Lib.Bytealg
import Derived.Lib.IndexAny
import Derived.Lib.ItoaNum
import Derived.Lib.LaidTab
import Derived.Lib.ConvBytes
import Derived.Sort.Grow
import Derived.Deep.Draws
import Derived.Lib.AtoiErrMem
import Derived.SizedLaws
import Derived.Deep.Slices
import Derived.ChangeArms
import Derived.DataReads
set_option linter.all false
namespace Go.Am
def YK (P:Program):List TC→List ResultVar→Bool
 | [],[]=>true
 | .tmp t:: rs,.tmp t2:: vs=>decide (t=t2) && YK P rs vs
 | .cell t sz ag:: rs,.cell t2 ty:: vs=>decide (t=t2) && Zh P ty sz && Xi P ty ag && YK P rs vs
 | .own t:: rs,.tmp t2:: vs=>decide (t=t2) && YK P rs vs
 | _,_=>false
def Fl (P:Program) (num:Nat→Option Nat) (f:Qg) (fn:Func):Bool:=
 decide (f.ntmps=fn.ntmps) && decide (f.nparams≤f.ntmps) && YK P f.res fn.results.toList && (match fn.body with
  | some c=>Yh P num f.ntmps f.body c
  | none=>false)
def WX [Dr] (P:Program) (num:Nat→Option Nat) (Γ:Yi) (h:List AV→List (List AV)→Option (AV×List (List AV))) (g:Nat):Prop:=
 ∀(args:List AV) (bs:List (List AV)) (r:AV) (bs':List (List AV)),h args bs=some (r,bs')→Y5 args=true→
  ∀(w:World) (m:Nat→Nat) (β:List Blk) (ν:Own) (vs:Array Value),Γ.G w→Γ.Gb≤w.heap.size→vs.size=args.length→
   (∀(i:Nat) (c:AV),args[i]? =some c→∃u,vs[i]? =some u∧Qc num β w m c u)→TH num β w m ν bs→
   (∀b p,ν b=some p→b < w.heap.size∧Γ.Gb≤b∧p.isG=true)→
   Calls P g vs w (VJ num β bs' r w m ν)
def Ec [Dr] (P:Program) (num:Nat→Option Nat) (Γ:Yi) (h:List AV→Option AV) (g:Nat):Prop:=
 ∀(args:List AV) (r:AV),h args=some r→Y5 args=true→∀(w:World) (m:Nat→Nat) (β:List Blk) (vs:Array Value),Γ.G w→Γ.Gb≤w.heap.size→vs.size=args.length→
  (∀(i:Nat) (c:AV),args[i]? =some c→∃u,vs[i]? =some u∧Qc num β w m c u)→
  Calls P g vs w fun e w'=>∃v m' ν',e= .returned v∧Zl (fun _=>False) w m w' m'∧r.ok=true∧Qc num β w' m' r v∧Q6 w' m' ν' .f r v∧∀b p,ν' b=some p→b < w'.heap.size∧w.heap.size≤b∧p= .f
def Z2 (h:List AV→Option AV):List AV→List (List AV)→Option (AV×List (List AV)):=fun args bs=>(h args).map fun r=>(r,bs)
structure Mr [Dr] (P:Program) (num:Nat→Option Nat) (Γ:Yi) (tb:Nat→Option AFn):Prop where
 mix:P.follows .mixedOrders=true
 enters:XJ P num
 code: ∀(f g:Nat) (fn:Qg),num f=some g→tb f=some (.code fn)→∃F,P.funcs[g]? =some F∧Fl P num fn F=true
 orc: ∀(f g:Nat) (h:List AV→List (List AV)→Option (AV×List (List AV))),num f=some g→tb f=some (.orc h)→WX P num Γ h g
section
variable {P:Program} {num:Nat→Option Nat} {β:List Blk} {w w':World} {m:Nat→Nat} {ν:Own} {N:Nat} {w0:World} {m0:Nat→Nat} {T:Nat→Prop} {β0:List Blk} {σ:St} {a:Act} {tb:Nat→Option AFn}
def Fy:List TC→Nat→Bool
 | [.tmp t],n=>decide (t=n)
 | .own t:: _,n=>decide (t=n)
 | _,_=>false
def YH (rs:List TC) (ν:Own):Own:=fun b=>match ν b with
 | some (.s n)=>if Fy rs n then some .f else none
 | some p=>if p.isG then some p else none
 | none=>none
theorem S9 [Dr] (hI:Inv num N w0 m0 T β0 σ a w m β ν) {r:TC} {rv:ResultVar} {v:AV} (ho:YK P [r] [rv]=true) (hr:Wn σ.env r=some v):
  ∃u,(match rv with
   | .tmp t=>(pure (a.tmps.getD t undef):Sem Value)
   | .cell t ty=>do loadVar ty (← asAddr (a.tmps.getD t undef))).run P w= .ok u w∧v.ok=true∧Qc num β w m v u∧Q6 w m (YH [r] ν) .f v u:=by
 cases r with
 | tmp t=>
  cases rv with
  | cell t2 ty=>simp[YK]at ho
  | tmp t2=>
   simp only[YK,Bool.and_true,decide_eq_true_eq]at ho;subst ho;simp only[Wn]at hr;split at hr
   ·rename_i hk;injection hr with hr
    subst hr;obtain⟨_,h2⟩:=hI.at_ (n:=t) (fun e=>by rw[e]at hk;cases hk);have h3:=hI.slots t _ h2;rw[QE hk]at h3;refine⟨a.tmps.getD t undef,rfl,hk,h3.1,?_⟩;exact Xz (θ:=fun _=> .f) (fun b hb=>⟨rfl,rfl,by unfold YH;rw[hb];simp[Fy]⟩) h3.2
   ·cases hr
 | own t=>
  cases rv with
  | cell t2 ty=>simp[YK]at ho
  | tmp t2=>
   simp only[YK,Bool.and_true,decide_eq_true_eq]at ho;subst ho;simp only[Wn]at hr;split at hr
   ·rename_i sz xs hv;injection hr with hr
    subst hr;obtain⟨_,h2⟩:=hI.at_ (n:=t) (fun e=>by rw[e]at hv;cases hv);have h3:=hI.slots t _ h2;rw[hv,QE rfl]at h3;refine⟨a.tmps.getD t undef,rfl,rfl,h3.1,?_⟩;exact Xz (θ:=fun _=> .f) (fun b hb=>⟨rfl,rfl,by unfold YH;rw[hb];simp[Fy]⟩) h3.2
   ·cases hr
 | cell t sz ag=>
  cases rv with
  | tmp t2=>simp[YK]at ho
  | cell t2 ty=>
   simp only[YK,Bool.and_true,Bool.and_eq_true,decide_eq_true_eq]at ho;obtain⟨⟨rfl,h1⟩,h2⟩:=ho;simp only[Wn]at hr;split at hr
   ·rename_i cs hcs;obtain⟨b,cur,e,_,hq,hb,hz,hc⟩:=hI.box_at (q:=t) (off:=0) hcs (.inr ⟨rfl,rfl⟩);obtain⟨u,g1,g2,g3,g4⟩:=XI (w:=w) (num:=num) (β:=β) (m:=m) (ν:=YH [.cell t sz ag] ν) (o:=0) (b:=b) h1 h2 hr (fun i c hi=>by
     obtain⟨u,k1,k2,k3,_⟩:=hc i c hi;exact⟨u,by rw[Nat.zero_add,cell_of_row w b i cur e (0,0) hb];exact k1,k2,k3⟩)
    have hq2:a.tmps.getD t undef= .pointer (some ⟨b,0,none⟩):=hq;refine⟨u,?_,g2,g3,g4 _⟩;simp only[hq2,asAddr,Sem.run_bind,Sem.run_pure,Result.andThen_ok];exact g1
   ·cases hr
theorem Uw [Dr] (hI:Inv num N w0 m0 T β0 σ a w m β ν): ∀{rs:List TC} {rvs:List ResultVar} {vs:List AV},YK P rs rvs=true→YI σ.env rs=some vs→
  ∃us:List Value,(rvs.mapM fun(rv:ResultVar)=>(match rv with
   | .tmp t=>(pure (a.tmps.getD t undef):Sem Value)
   | .cell t ty=>do loadVar ty (← asAddr (a.tmps.getD t undef)))).run P w= .ok us w∧us.length=vs.length∧∀(i:Nat) (c:AV),vs[i]? =some c→∃u,us[i]? =some u∧c.ok=true∧Qc num β w m c u
 | [],[],vs,_,hr=>by
  simp only[YI,Option.some.injEq]at hr;subst hr;exact⟨[],by simp,rfl,fun i c h=>by simp at h⟩
 | r:: rs,rv:: rvs,vs,ho,hr=>by
  simp only[YI]at hr;split at hr
  ·rename_i v vs2 h1 h2;injection hr with hr
   subst hr;have ho2:YK P [r] [rv]=true∧YK P rs rvs=true:=by
    cases r <;> cases rv <;> simp only[YK,Bool.and_eq_true,Bool.and_true,Bool.false_eq_true]at ho ⊢ <;> first | exact ho | exact ho.elim
   obtain⟨u,g1,g2,g3,_⟩:=S9 (P:=P) hI ho2.1 h1;obtain⟨us,k1,k2,k3⟩:=Uw hI ho2.2 h2;refine⟨u:: us,?_,by simp[k2],fun i c hc=> ?_⟩
   ·rw[List.mapM_cons];simp only[Sem.run_bind,g1,Result.andThen_ok,k1,Sem.run_pure]
   ·cases i with
    | zero=>simp at hc;subst hc;exact⟨u,rfl,g2,g3⟩
    | succ i=>simpa using k3 i c (by simpa using hc)
  ·cases hr
 | [],_:: _,_,h,_=>by simp[YK]at h
 | r:: _,[],_,h,_=>by cases r <;> simp[YK]at h
theorem Sk [Dr] {Γ:Yi} {h:List AV→Option AV} {g:Nat} (hP:Ec P num Γ h g):WX P num Γ (Z2 h) g:=by
 intro args bs r bs' hc hok w m β ν vs hG hGb hvs hrep hbox hlt;unfold Z2 at hc;cases hh:h args with
 | none=>rw[hh]at hc;cases hc
 | some r2=>
  rw[hh]at hc;simp only[Option.map_some,Option.some.injEq,Prod.mk.injEq]at hc;obtain⟨rfl,rfl⟩:=hc;refine(hP args r2 hh hok w m β vs hG hGb hvs hrep).mono fun e w' he=> ?_;obtain⟨v,m',ν',rfl,hS,h1,h2,h3,h4⟩:=he;have hjoin: ∀b p,ν b=some p→(fun b=>match ν b with
    | some p=>some p
    | none=>ν' b:Own) b=some p:=fun b p hb=>by simp only[hb]
  refine⟨v,m',β,(fun b=>match ν b with
    | some p=>some p
    | none=>ν' b),rfl,Ge.refl β,⟨hS.os,hS.tape,hS.output,hS.size,fun b hb _=>hS.same b hb id,hS.le,hS.drawn⟩,⟨hbox.1,fun i cs b hb1 hb2 hne=> ?_⟩,h1,h2,?_,fun b p hp=> ?_⟩
  ·exact Xy (Ge.refl β) hS.le (fun x hx=>⟨(hS.same x (hlt x _ hx).1 id).1,(hS.same x (hlt x _ hx).1 id).2,hjoin x _ hx⟩)
    (fun j x hx=>⟨(hS.same x (hlt x _ hx).1 id).1,(hS.same x (hlt x _ hx).1 id).2,hjoin x _ hx⟩) (hbox.2 i cs b hb1 hb2 hne)
  ·refine Xz (θ:=id) (fun b hb=>⟨rfl,rfl,?_⟩) h3;have:=h4 b _ hb;cases hν:ν b with
   | none=>simp only;exact hb
   | some q=>have:=(hlt b q hν).1;omega
  ·simp only at hp;split at hp
   ·rename_i q hq;injection hp with hp
    subst hp;have:=hlt b q hq;exact⟨Nat.lt_of_lt_of_le this.1 hS.size,.inr ⟨q,hq⟩,.inl this.2.2⟩
   ·have:=h4 b p hp;exact⟨this.1,.inl this.2.1,.inr this.2.2⟩
theorem LF [Dr] {Γ:Yi} {f:Qg} {F:Func} {args:List AV} {bs:List (List AV)} {vs:Array Value} (hnp:args.length=f.nparams) (hnt:f.ntmps=F.ntmps) (hpt:f.nparams≤f.ntmps) (hok:Y5 args=true)
  (hvs:vs.size=args.length) (hrep: ∀(i:Nat) (c:AV),args[i]? =some c→∃u,vs[i]? =some u∧Qc num β w m c u) (hbox:TH num β w m ν bs)
  (hlt: ∀b p,ν b=some p→b < w.heap.size∧Γ.Gb≤b∧p.isG=true):
  Inv num f.ntmps w m (fun b=>∃p,ν b=some p) β {env:=YN args,bs} {tmps:=vs ++ Array.replicate (F.ntmps - vs.size) undef,defers:=[]} w m β ν:=by
 refine⟨rfl,by simp;omega,fun t ht=> ?_,fun t v hv=> ?_,hbox.1,hbox.2,fun b p hb=>⟨(hlt b p hb).1,.inr ⟨p,hb⟩⟩,Zl.refl _ w m,Ge.refl β⟩
 ·simp only[YN];rw[List.getD_eq_getElem?_getD,List.getElem?_eq_none (by omega)];rfl
 ·simp only[YN];rw[List.getD_eq_getElem?_getD];cases hat:args[t]? with
  | none=>exact trivial
  | some c=>
   obtain⟨u,g1,g2⟩:=hrep t c hat;have hck:c.ok=true:=by
    unfold Y5 at hok;rw[List.all_eq_true]at hok;exact hok c (List.mem_of_getElem? hat)
   have hlt2:t < vs.size:=by
    rcases Nat.lt_or_ge t vs.size with h | h
    ·exact h
    ·rw[Array.getElem?_eq_none h]at g1;cases g1
   rw[Array.getElem?_append_left hlt2,g1]at hv;injection hv with hv
   subst hv;simp only[Option.getD_some];exact(QE (by rw[So];exact hck)).2 ⟨by rw[Qx];exact g2,ZP _ _ _⟩
theorem KY [Dr]: ∀(xs ys:List (List AV)),Z9 xs ys=true→∀(i:Nat) (x y:List AV),xs[i]? =some x→ys[i]? =some y→x=y∨gpfreeL y=true
 | [],_,_,i,x,y,h,_=>by simp at h
 | a:: aq,[],h,_,_,_,_,_=>by simp[Z9]at h
 | a:: aq,b:: bs,h,i,x,y,hx,hy=>by
  simp only[Z9,Bool.and_eq_true,Bool.or_eq_true]at h;cases i with
  | zero=>
   simp at hx hy;subst hx hy;rcases h.1 with h1 | h1
   ·exact .inl (eqVL_eq _ _ h1)
   ·exact .inr h1
  | succ i=>exact KY aq bs h.2 i x y (by simpa using hx) (by simpa using hy)
theorem PT [Dr] {f:Qg} {F:Func} {bs bs':List (List AV)} {r:AV} (hres:YK P f.res F.results.toList=true) (hbox:TH num β w m ν bs) (σ':St) (hfin:YF f bs σ'=some (r,bs'))
  (a':Act) (w':World) (m':Nat→Nat) (β':List Blk) (ν':Own) (hI:Inv num f.ntmps w m (fun b=>∃p,ν b=some p) β σ' a' w' m' β' ν'):
  a'.defers=[]∧∃v,(results F a'.tmps).run P w'= .ok v w'∧VJ num β bs' r w m ν (.returned v) w':=by
 refine⟨hI.defers,?_⟩;have hboxes: ∀rs,Z9 bs (σ'.bs.take bs.length)=true→TH num β w' m' (YH rs ν') (σ'.bs.take bs.length):=fun rs hck=>by
  have hge:=hI.ge;have hle:bs.length≤σ'.bs.length:=by
   rw[← hI.blen];rcases Nat.lt_or_ge β'.length bs.length with h | h
   ·exfalso;have h0:β'.length < β.length:=by rw[hbox.1];exact h
    have:=hge β'.length _ (List.getElem?_eq_getElem h0);rw[List.getElem?_eq_none (Nat.le_refl _)]at this;cases this
   ·exact h
  refine⟨by rw[List.length_take,hbox.1];omega,fun i cs b h1 h2 hne=> ?_⟩
  ·have hck2:=KY _ _ hck i;have h10:=h1;rw[List.getElem?_take]at h1;split at h1
   ·have hb2:=hI.boxes i cs b h1 (hge i b h2) hne;obtain⟨x,hx⟩: ∃x,bs[i]? =some x:=⟨_,List.getElem?_eq_getElem (by assumption)⟩;have hb3:=hck2 x cs hx h10;rw[Tb]at hb3;have hent:x=cs→SU num β w m ν i b cs:=fun e=>by subst e;exact hbox.2 i x b hx h2 hne
    refine⟨fun hmp=> ?_,fun hmp=> ?_⟩
    ·obtain⟨cur,e,q1,q2,q3,q4,q5⟩:=hb2.1 hmp;refine⟨cur,e,q1,q2,q3,by unfold YH;rw[q4];rfl,fun j c hc=> ?_⟩;obtain⟨u,p1,p2,p3,p4⟩:=q5 j c hc;refine⟨u,p1,p2,?_,Xz (θ:=id) (fun x hx=>⟨rfl,rfl,by unfold YH;rw[hx];rfl⟩) p4⟩;rcases hb3 with e | hb3
     ·obtain⟨_,_,_,_,_,_,r5⟩:=(hent e).1 hmp;obtain⟨u0,_,_,r3,_⟩:=r5 j c hc;exact To hge c u0 u r3 p3
     ·exact Ws c u (hb3 j c hc) p3
    ·obtain⟨es,clock,xs,q1,q2,q3,q4,q5,q6⟩:=hb2.2 hmp;refine⟨es,clock,xs,q1,q2,by unfold YH;rw[q3];rfl,q4,q5,fun j c hc=> ?_⟩;obtain⟨e2,k,v,p1,p2,p3,p4⟩:=q6 j c hc;rcases hb3 with e | hb3
     ·obtain⟨_,_,xs0,_,_,_,r4,_,r6⟩:=(hent e).2 hmp;have hxs:xs0=xs:=by rw[q4]at r4;injection r4 with _ r4;exact r4.symm
      obtain⟨e3,k3,v3,_,g2,g3,g4⟩:=r6 j c (by rw[hxs];exact hc);rw[p2]at g2;injection g2 with g2
      injection g2 with g5 g2
      injection g2 with g6
      subst g5 g6;exact⟨e2,k,v,p1,p2,To hge k _ _ g3 p3,To hge v _ _ g4 p4⟩
     ·have hf:=hb3 (j+1) c (by rw[q4];simpa using hc);rw[p2]at hf;simp only[AV.gpfree,gpfreeL,Bool.and_true,Bool.and_eq_true]at hf;exact⟨e2,k,v,p1,p2,Ws k _ hf.1 p3,Ws v _ hf.2 p4⟩
   ·cases h1
 have hboxesAll: ∀rs,TH num β' w' m' (YH rs ν') σ'.bs:=fun rs=>by
  refine⟨hI.blen,fun i cs b h1 h2 hne=> ?_⟩;exact Xy (Ge.refl β') (Le.refl w' m') (fun x hx=>⟨rfl,rfl,by unfold YH;rw[hx];rfl⟩) (fun _ x hx=>⟨rfl,rfl,by unfold YH;rw[hx];rfl⟩) (hI.boxes i cs b h1 h2 hne)
 have hown: ∀rs b p,YH rs ν' b=some p→b < w'.heap.size∧(w.heap.size≤b∨∃q,ν b=some q)∧(p.isG=true∨p= .f):=fun rs b p hp=>by
  unfold YH at hp;split at hp
  ·rename_i n hn;split at hp
   ·injection hp with hp
    subst hp;have:=hI.lt b _ hn;exact⟨this.1,this.2,.inr rfl⟩
   ·cases hp
  ·rename_i q hq;split at hp
   ·rename_i hg;injection hp with hp
    subst hp;have:=hI.lt b _ hq;exact⟨this.1,this.2,.inl hg⟩
   ·cases hp
  ·cases hp
 have hrun: ∀us:List Value,(F.results.toList.mapM fun(rv:ResultVar)=>(match rv with
   | .tmp t=>(pure (a'.tmps.getD t undef):Sem Value)
   | .cell t ty=>do loadVar ty (← asAddr (a'.tmps.getD t undef)))).run P w'= .ok us w'→
   (results F a'.tmps).run P w'= .ok (if h:us.toArray.size=1 then us.toArray[0]else .tuple us.toArray) w':=fun us hus=>by
  unfold results;rw[Array.mapM_eq_mapM_toList];simp only[Sem.run_bind,Sem.run_map,Sem.run_pure];exact congrArg (fun z:Result (List Value)=>(z.andThen fun a w'=> .ok a.toArray w').andThen (fun(a:Array Value) w'=> .ok (if h:a.size=1 then a[0]else .tuple a) w')) hus
 unfold YF at hfin;split at hfin
 ·rename_i hown1;obtain⟨t0,rs0,hf0⟩: ∃t0 rs0,f.res= .own t0:: rs0:=by
   cases hfr:f.res with
   | nil=>rw[hfr]at hown1;cases hown1
   | cons r0 rs=>
    cases r0 with
    | own t0=>exact⟨t0,rs,rfl⟩
    | tmp t=>rw[hfr]at hown1;cases hown1
    | cell t sz ag=>rw[hfr]at hown1;cases hown1
  cases hv0:YI σ'.env f.res with
  | none=>rw[hv0]at hfin;cases hfin
  | some vs0=>
   rw[hv0]at hfin;obtain⟨us,k1,k2,k3⟩:=Uw hI hres hv0;rw[hf0]at hv0 hres;simp only[YI]at hv0;split at hv0
   case h_2=>cases hv0
   rename_i x1 x2 e1 e2;injection hv0 with hv0
   subst hv0;obtain⟨rv0,rvs0,hrv0⟩: ∃rv0 rvs0,F.results.toList=rv0:: rvs0:=by
    cases hfr:F.results.toList with
    | nil=>rw[hfr]at hres;simp[YK]at hres
    | cons rv0 rs=>exact⟨_,_,rfl⟩
   have hres1:YK P [.own t0] [rv0]=true:=by
    rw[hrv0]at hres;cases rv0 <;> simp only[YK,Bool.and_eq_true,Bool.and_true,Bool.false_eq_true]at hres ⊢ <;> first | exact hres.1 | exact hres.elim
   obtain⟨u,g1,g2,g3,g4⟩:=S9 (P:=P) hI hres1 e1;split at hfin
   case h_2=>cases hfin
   rename_i sz xs v2 vs hx;injection hx with hx
   injection hx with hx1 hx2
   subst hx1 hx2;obtain⟨us0,hus⟩: ∃us0,us=u:: us0:=by
    rw[hrv0]at k1;simp only[List.mapM_cons,Sem.run_bind,g1,Result.andThen_ok]at k1;cases hm: (rvs0.mapM fun(rv:ResultVar)=>(match rv with
     | .tmp t=>(pure (a'.tmps.getD t undef):Sem Value)
     | .cell t ty=>do loadVar ty (← asAddr (a'.tmps.getD t undef)))).run P w' with
    | ok us0 w2=>
     rw[hm]at k1;simp only[Result.andThen_ok,Sem.run_pure]at k1;injection k1 with k1
     exact⟨us0,k1.symm⟩
    | _=>rw[hm]at k1;simp[Result.andThen]at k1
   have hsz: ¬us.toArray.size=1:=by
    simp only[List.size_toArray,k2];simp
   have hret: (results F a'.tmps).run P w'= .ok (.tuple us.toArray) w':=by have:=hrun us k1;rwa[dif_neg hsz]at this
   have hrep:Qc num β' w' m' (.otup sz xs ((v2:: vs).map AV.strip)) (.tuple us.toArray):=by
    simp only[Qc]at g3 ⊢;refine⟨us.toArray,rfl,by simp[k2],⟨u,by simp[hus],g3⟩,?_⟩;rw[T7];intro i c hci;obtain⟨d,hd,rfl⟩:=QQ hci;obtain⟨x,q1,_,q3⟩:=k3 (i+1) d (by simpa using hd);exact⟨x,by rw[show 0+1+i=i+1 by omega];simpa using q1,by rw[Qx];exact q3⟩
   have hownT:Q6 w' m' (YH (.own t0:: rs0) ν') .f (.otup sz xs ((v2:: vs).map AV.strip)) (.tuple us.toArray):=⟨us.toArray,u,rfl,by simp[hus],g4⟩;split at hfin
   ·simp only[Option.some.injEq,Prod.mk.injEq]at hfin;obtain⟨rfl,rfl⟩:=hfin;exact⟨.tuple us.toArray,hret,.tuple us.toArray,m',β',YH (.own t0:: rs0) ν',rfl,hI.ge,hI.step,hboxesAll _,rfl,hrep,hownT,hown _⟩
   ·split at hfin
    ·rename_i hgp;simp only[Option.some.injEq,Prod.mk.injEq]at hfin;obtain⟨rfl,rfl⟩:=hfin;have hg2: (AV.otup sz xs ((v2:: vs).map AV.strip)).gpfree=true:=by
      have:=hgp.1;simp only[AV.gpfree,Bool.and_eq_true]at this ⊢;exact⟨this.1,LX this.2⟩
     exact⟨.tuple us.toArray,hret,.tuple us.toArray,m',β,YH (.own t0:: rs0) ν',rfl,Ge.refl β,hI.step,hboxes _ hgp.2,rfl,Ws _ _ hg2 hrep,hownT,hown _⟩
    ·cases hfin
 split at hfin
 ·rename_i v0 hv0;obtain⟨us,k1,k2,k3⟩:=Uw hI hres hv0;obtain⟨r0,hr0⟩: ∃r0,f.res=[r0]:=by
   cases hfr:f.res with
   | nil=>rw[hfr]at hv0;simp[YI]at hv0
   | cons r0 rs=>
    cases rs with
    | nil=>exact⟨r0,rfl⟩
    | cons r1 rs=>
     rw[hfr]at hv0;simp only[YI]at hv0;split at hv0
     ·rename_i x1 x2 e1 e2;split at e2
      ·injection e2 with e2
       subst e2;simp at hv0
      ·cases e2
     ·cases hv0
  obtain⟨rv0,hrv0⟩: ∃rv0,F.results.toList=[rv0]:=by
   cases hfr:F.results.toList with
   | nil=>rw[hfr,hr0]at hres;cases r0 <;> simp[YK]at hres
   | cons rv0 rs=>
    cases rs with
    | nil=>exact⟨rv0,rfl⟩
    | cons rv1 rs=>rw[hfr,hr0]at hres;cases r0 <;> cases rv0 <;> simp[YK]at hres
  rw[hr0,hrv0]at hres;rw[hr0]at hv0;simp only[YI]at hv0;split at hv0
  ·rename_i x1 x2 e1 e2;injection e2 with e2
   subst e2;injection hv0 with hv0
   injection hv0 with hv0 _
   subst hv0;obtain⟨u,g1,g2,g3,g4⟩:=S9 (P:=P) hI hres e1;have hus:us=[u]:=by
    rw[hrv0]at k1;simp only[List.mapM_cons,List.mapM_nil,Sem.run_bind,g1,Result.andThen_ok,Sem.run_pure]at k1;injection k1 with k1
    exact k1.symm
   subst hus;split at hfin
   ·simp only[Option.some.injEq,Prod.mk.injEq]at hfin;obtain⟨rfl,rfl⟩:=hfin;exact⟨u,hrun [u] k1,u,m',β',YH [r0] ν',rfl,hI.ge,hI.step,hboxesAll [r0],g2,g3,g4,hown [r0]⟩
   ·split at hfin
    ·rename_i hgp;simp only[Option.some.injEq,Prod.mk.injEq]at hfin;obtain⟨rfl,rfl⟩:=hfin;exact⟨u,hrun [u] k1,u,m',β,YH [r0] ν',rfl,Ge.refl β,hI.step,hboxes [r0] hgp.2,g2,Ws _ _ hgp.1 g3,g4,hown [r0]⟩
    ·cases hfin
  ·cases hv0
 ·rename_i vs0 hv0 hne;obtain⟨us,k1,k2,k3⟩:=Uw hI hres hne;have hsz: ¬us.toArray.size=1:=by
   simp only[List.size_toArray,k2];intro h1
   match vs0,h1 with
   | [v1],_=>exact hv0 v1 rfl
  have hret: (results F a'.tmps).run P w'= .ok (.tuple us.toArray) w':=by have:=hrun us k1;rwa[dif_neg hsz]at this
  split at hfin
  ·simp only[Option.some.injEq,Prod.mk.injEq]at hfin;obtain⟨rfl,rfl⟩:=hfin;refine⟨.tuple us.toArray,hret,.tuple us.toArray,m',β',YH [] ν',rfl,hI.ge,hI.step,hboxesAll [],rfl,?_,trivial,hown []⟩;simp only[Qc];refine⟨us.toArray,rfl,by simp[k2],?_⟩;rw[T7];intro i c hci;obtain⟨d,hd,rfl⟩:=QQ hci;obtain⟨u,g1,_,g3⟩:=k3 i d hd;exact⟨u,by simpa using g1,by rw[Qx];exact g3⟩
  ·split at hfin
   ·rename_i hgp;simp only[Option.some.injEq,Prod.mk.injEq]at hfin;obtain⟨rfl,rfl⟩:=hfin;refine⟨.tuple us.toArray,hret,.tuple us.toArray,m',β,YH [] ν',rfl,Ge.refl β,hI.step,hboxes [] hgp.2,rfl,?_,trivial,hown []⟩;simp only[Qc];refine⟨us.toArray,rfl,by simp[k2],?_⟩;rw[T7];intro i c hci;obtain⟨d,hd,rfl⟩:=QQ hci;obtain⟨u,g1,_,g3⟩:=k3 i d hd;have hgp1:=hgp.1;rw[Tb]at hgp1;exact⟨u,by simpa using g1,by rw[Qx];exact Ws d u (hgp1 i d hd) g3⟩
   ·cases hfin
 ·cases hfin
theorem SX [Dr] {Γ:Yi} (hF:Mr P num Γ tb): ∀n,KOk P num Γ (ZL tb n):=by
 intro n
 induction n with
 | zero=>intro f g args bs r bs' _ h;simp[ZL]at h
 | succ n ih=>
  intro f g args bs r bs' hfg hc hok w m β ν vs hG hGb hvs hrep hbox hlt;simp only[ZL]at hc;split at hc
  ·cases hc
  ·rename_i h htb;exact hF.orc f g h hfg htb args bs r bs' hc hok w m β ν vs hG hGb hvs hrep hbox hlt
  ·rename_i fn htb;split at hc
   ·rename_i hnp;obtain⟨F,hFf,hokF⟩:=hF.code f g fn hfg htb;unfold Fl at hokF;simp only[Bool.and_eq_true,decide_eq_true_eq]at hokF;obtain⟨⟨⟨hnt,hpt⟩,hres⟩,hbody⟩:=hokF;split at hbody
    ·rename_i cc hcc;have hInv:=LF (ν:=ν) hnp hnt hpt hok hvs hrep hbox hlt;refine calls_of_wp hFf hcc ?_;split at hc
     ·rename_i σ' hrc;refine X1 hF.mix hF.enters ih hG hGb (fun b hb=>by obtain⟨p,hp⟩:=hb;exact(hlt b p hp).2.1) fn.body cc hbody _ _ w m β ν .normal σ' _ hrc hInv fun a' w' m' β' ν' hI=> ?_;exact PT hres hbox σ' hc a' w' m' β' ν' hI
     ·rename_i σ' hrc;refine X1 hF.mix hF.enters ih hG hGb (fun b hb=>by obtain⟨p,hp⟩:=hb;exact(hlt b p hp).2.1) fn.body cc hbody _ _ w m β ν .ret σ' _ hrc hInv fun a' w' m' β' ν' hI=> ?_;exact PT hres hbox σ' hc a' w' m' β' ν' hI
     ·cases hc
    ·cases hbody
   ·cases hc
end
#print axioms SX
end Go.Am
namespace Go.Am
def cl0 (sz:Nat):AC:= .reg false [⟨some 2,.mov (.c (.sl true sz [])),none⟩]
def cl1:AC:= .reg false [⟨some 3,.mov (.t 0),none⟩,⟨some 4,.isn false (.t 3),none⟩]
def cl2 (g:Bool) (sz:Nat):AC:= .reg false [⟨some 2,.mov (.c (if g then .gs 0 0 0 0 else .sl true sz [])),none⟩]
def cl3 (g:Bool) (bytes sz:Nat):AC:= .reg false [⟨some 5,.mksl sz [],none⟩,⟨some 6,.mov (.t 0),none⟩,
 ⟨some 7,if g then .appg bytes sz (.t 5) (.t 6)else .app bytes sz (.t 5) (.t 6),none⟩,⟨some 2,if g then .mov (.t 7)else .mvs 7,none⟩]
def QdO:AC:= .reg false [⟨some 5,.zlit,none⟩,⟨some 6,.mov (.t 0),none⟩,⟨some 7,.appzz (.t 5) (.t 6),none⟩,⟨some 2,.mov (.t 7),none⟩]
def PI (g e:Bool) (bytes sz:Nat):AC:=if g && e then QdO else cl3 g bytes sz
def Wl (P:Program) (num:Nat→Option Nat) (g:Bool) (bytes sz:Nat) (F:Func):Bool:=
 decide (F.ntmps=8) && YK P [.tmp 2] F.results.toList && (match F.body with
  | some (.seq r0 (.seq (.seq r1 (.cond (.tmp 4) (.seq r2 .ret) .skip)) (.seq r3 .ret)))=>
   Yh P num 8 (cl0 sz) r0 && Yh P num 8 cl1 r1 && Yh P num 8 (cl2 g sz) r2 && (Yh P num 8 (PI g true bytes sz) r3 && Yh P num 8 (PI g false bytes sz) r3)
  | _=>false)
def XL (g:Bool) (bytes sz:Nat) (ys:List (List AV)) (bs:List (List AV)):Option (AV×List (List AV)):=
 if ys.length*bytes≤140737488355328 then
  (if g then(if ys.length=0 then some (.gs 0 0 0 0,bs)else if gpfreeE ys then some (.gs bs.length 0 sz ys.length,bs ++ [ys.flatten.map AV.strip])else none)
   else some (.sl true sz ys,bs))
  else none
def Zx (g:Bool) (bytes sz:Nat):List AV→List (List AV)→Option (AV×List (List AV))
 | [.sl _ s ys],bs=>if s=sz then XL g bytes sz ys bs else none
 | _,_=>none
def VB:Qg:={nparams:=1,ntmps:=8,res:=[.tmp 2],body:= .skip,keep:=true}
theorem Gd {K:ZK} {g:Bool} {bytes sz:Nat} {o:Bool} {ys:List (List AV)} {r:AV} {bs':List (List AV)} (σ:St) (h0:σ.env 0= .sl o sz ys) (h:XL g bytes sz ys σ.bs=some (r,bs')):
  ∃σ3,Zg K 0 (.seq (PI g ys.isEmpty bytes sz) .ret) σ=some (.ret,σ3)∧YF VB [] σ3=some (r,bs'):=by
 unfold XL at h;split at h
 ·rename_i hb;cases g
  ·simp only[Bool.false_eq_true,if_false,Option.some.injEq,Prod.mk.injEq]at h;obtain⟨rfl,rfl⟩:=h;refine⟨_,by simp[Zg,PI,cl3,Zn,Zj,Qe,Yp,ZH,upd,h0,val,AV.strip,AV.ok,hb];rfl,?_⟩;simp[YF,YI,Wn,VB,upd,AV.ok]
  ·simp only[if_true]at h;split at h
   ·rename_i hy;simp only[Option.some.injEq,Prod.mk.injEq]at h;obtain⟨rfl,rfl⟩:=h;have hy2:ys=[]:=List.eq_nil_of_length_eq_zero hy;subst hy2;refine⟨_,by simp[Zg,PI,QdO,Zn,Zj,Qe,ZH,upd,h0,val,AV.strip];rfl,?_⟩;simp[YF,YI,Wn,VB,upd,AV.ok]
   ·rename_i hy;split at h
    ·rename_i hgp;simp only[Option.some.injEq,Prod.mk.injEq]at h;obtain⟨rfl,rfl⟩:=h;have hy3:ys≠[]:=fun e=>hy (by rw[e];rfl);have hie:ys.isEmpty=false:=by cases ys <;> simp_all
     refine⟨_,by simp[Zg,PI,hie,cl3,Zn,Zj,Qe,Yp,ZH,upd,h0,val,AV.strip,AV.ok,hb,hy3];rfl,?_⟩;simp[YF,YI,Wn,VB,upd,AV.ok]
    ·cases h
 ·cases h
section
variable {P:Program} {num:Nat→Option Nat}
theorem X0 [Dr] {Γ:Yi} (hmix:P.follows .mixedOrders=true) (hE:XJ P num) {g:Bool} {bytes sz id:Nat} {F:Func} (hFf:P.funcs[id]? =some F) (hok:Wl P num g bytes sz F=true):
  WX P num Γ (Zx g bytes sz) id:=by
 intro args bs r bs' hc hokv w m β ν vs hG hGb hvs hrep hbox hlt;have hK:KOk P num Γ (fun _ _ _=>none):=fun _ _ _ _ _ _ _ h=>by cases h
 have hT: ∀b,(∃p,ν b=some p)→Γ.Gb≤b:=fun b hb=>by obtain⟨p,hp⟩:=hb;exact(hlt b p hp).2.1
 unfold Zx at hc;split at hc
 ·rename_i _ o s ys;split at hc
  ·rename_i hcond;subst hcond;unfold Wl at hok;simp only[Bool.and_eq_true,decide_eq_true_eq]at hok;obtain⟨⟨hnt,hres⟩,hbody⟩:=hok;split at hbody
   ·rename_i r0 r1 r2 r3 hcc;simp only[Bool.and_eq_true]at hbody;obtain⟨⟨⟨k0,k1⟩,k2⟩,k3⟩:=hbody;have hInv:=LF (num:=num) (f:=VB) (F:=F) (ν:=ν) (Γ:=Γ) rfl hnt.symm (show 1≤8 by omega) hokv hvs hrep hbox hlt;have hend:=PT (f:=VB) (F:=F) (r:=r) (bs':=bs') hres hbox;have hfin0: ∀σ' k,YF VB k σ'=YF VB [] σ':=fun σ' k=>by
     unfold YF;split <;> rfl
    refine calls_of_wp hFf hcc ?_;refine wp_seq ?_;refine X1 hmix hE hK hG hGb hT (n:=0) _ _ k0 _ _ w m β ν .normal _ _ (by simp[Zg,cl0,Zn,Zj,Qe,ZH,val,AV.ok];rfl) hInv fun a1 w1 m1 β1 ν1 hI1=> ?_;refine wp_seq (wp_seq ?_);cases ys with
    | nil=>
     refine X1 hmix hE hK hG hGb hT (n:=0) _ _ k1 _ _ w1 m1 β1 ν1 .normal _ _ (by simp[Zg,cl1,Zn,Zj,Qe,ZH,val,AV.ok,upd,YN,AV.strip];rfl) hI1 fun a2 w2 m2 β2 ν2 hI2=> ?_;have hb: ∃b,a2.eval (.tmp 4)= .bool b:=by
      obtain⟨_,h2⟩:=hI2.at_ (n:=4) (by simp[upd]);have h3:=hI2.slots 4 _ h2;simp only[upd]at h3;obtain⟨⟨b,h3⟩,_⟩:=h3;exact⟨b,h3⟩
     obtain⟨b,hb⟩:=hb;cases b
     ·refine wp_cond_false hb (wp_skip ?_);obtain⟨σ3,e1,e2⟩:=Gd (K:=fun _ _ _=>none) (o:=false) (σ:={env:=upd (upd (upd (YN [.sl o s []]) 2 (.sl true s [])) 3 (.sl false s [])) 4 .anyb,bs:=bs}) (by simp[upd,YN,AV.strip]) hc;exact X1 hmix hE hK hG hGb hT (n:=0) (.seq (PI g _ bytes s) .ret) (.seq r3 .ret) (by simp[Yh,k3]) _ _ w2 m2 β2 ν2 .ret σ3 _ e1 hI2 fun a3 w3 m3 β3 ν3 hI3=>hend σ3 (by rw[hfin0];exact e2) a3 w3 m3 β3 ν3 hI3
     ·refine wp_cond_true hb (wp_seq ?_);refine X1 hmix hE hK hG hGb hT (n:=0) _ _ k2 _ _ w2 m2 β2 ν2 .normal {env:=upd (upd (upd (upd (YN [.sl o s []]) 2 (.sl true s [])) 3 (.sl false s [])) 4 .anyb) 2 (if g then .gs 0 0 0 0 else .sl true s []),bs:=bs} _
       (by cases g <;> simp[Zg,cl2,Zn,Zj,Qe,ZH,val,AV.ok]) hI2 fun a3 w3 m3 β3 ν3 hI3=> ?_
      refine wp_ret ?_;refine hend _ ?_ a3 w3 m3 β3 ν3 hI3;rw[hfin0];cases g
      ·simp[XL]at hc;obtain⟨rfl,rfl⟩:=hc;simp[YF,YI,Wn,VB,upd,AV.ok]
      ·simp[XL]at hc;obtain⟨rfl,rfl⟩:=hc;simp[YF,YI,Wn,VB,upd,AV.ok]
    | cons y ys=>
     refine X1 hmix hE hK hG hGb hT (n:=0) _ _ k1 _ _ w1 m1 β1 ν1 .normal _ _ (by simp[Zg,cl1,Zn,Zj,Qe,ZH,val,AV.ok,upd,YN,AV.strip];rfl) hI1 fun a2 w2 m2 β2 ν2 hI2=> ?_;have hb:a2.eval (.tmp 4)= .bool false:=by
      obtain⟨_,h2⟩:=hI2.at_ (n:=4) (by simp[upd]);have h3:=hI2.slots 4 _ h2;simp only[upd]at h3;obtain⟨h3,_⟩:=h3;exact h3
     refine wp_cond_false hb (wp_skip ?_);obtain⟨σ3,e1,e2⟩:=Gd (K:=fun _ _ _=>none) (o:=false) (σ:={env:=upd (upd (upd (YN [.sl o s (y:: ys)]) 2 (.sl true s [])) 3 (.sl false s (y:: ys))) 4 (.bool false),bs:=bs}) (by simp[upd,YN,AV.strip]) hc;exact X1 hmix hE hK hG hGb hT (n:=0) (.seq (PI g _ bytes s) .ret) (.seq r3 .ret) (by simp[Yh,k3]) _ _ w2 m2 β2 ν2 .ret σ3 _ e1 hI2 fun a3 w3 m3 β3 ν3 hI3=>hend σ3 (by rw[hfin0];exact e2) a3 w3 m3 β3 ν3 hI3
   ·cases hbody
  ·cases hc
 ·cases hc
end
end Go.Am
namespace Go.Am
def O5:List AV→Option AV
 | [.str a,.str b]=>some (.int .i64 (if Op.bytesLess a b then -1 else if a == b then 0 else 1))
 | _=>none
def GQ:Nat→Nat→List UInt8→List UInt8
 | 0,_,acc=>acc
 | k+1,n,acc=>if n < 10 then(48+n).toUInt8:: acc else GQ k (n / 10) ((48+n % 10).toUInt8:: acc)
def ZN (n:Nat):List UInt8:=GQ (n+1) n []
def dec (n:Int):List UInt8:=if n < 0 then 45:: ZN n.natAbs else ZN n.natAbs
def Oz:List AV→Option AV
 | [.int .i64 n]=>if -9223372036854775808≤n∧n≤9223372036854775807 then some (.str (dec n))else none
 | _=>none
def Mv:List AV→Option AV
 | [.str s,.str cs]=>if(cs.all (· < 128) && s.all (· < 128) && decide (s.length < 1000000) && decide (cs.length < 1000000))=true then some (.bool (s.any fun b=>cs.contains b))else none
 | _=>none
def Ka:List AV→Option AV
 | [.str s]=>if s.length < 1000000 then
   (match Lib.atoiAll s with
    | .ok v=>some (.tup [.int .i64 v,.err true])
    | .range=>some (.tup [.int .i64 (Lib.atoiSat s),.err false])
    | _=>some (.tup [.int .i64 0,.err false]))
   else none
 | _=>none
def RJ:Nat→Nat→List UInt8
 | 0,_=>[]
 | k+1,n=>if n < 10 then [(48+n).toUInt8]else RJ k (n / 10)++ [(48+n % 10).toUInt8]
theorem Lb: ∀(k n:Nat) (acc:List UInt8),GQ k n acc=RJ k n ++ acc
 | 0,_,_=>rfl
 | k+1,n,acc=>by
  simp only[GQ,RJ];split
  ·rfl
  ·rw[Lb];simp
theorem M9: ∀(k n m:Nat),n < k→k≤m→RJ m n=RJ k n
 | 0,_,_,h,_=>by omega
 | k+1,n,0,_,h=>by omega
 | k+1,n,m+1,h,h2=>by
  simp only[RJ];split
  ·rfl
  ·rw[M9 k (n / 10) m (by omega) (by omega)]
theorem MC (n:Nat):ZN n=RJ (n+1) n:=by rw[ZN,Lb];simp
theorem X2 {n:Nat} (h:n < 10):ZN n=[(48+n).toUInt8]:=by rw[MC,RJ,if_pos h]
theorem Vi {n:Nat} (h: ¬n < 10):ZN n=ZN (n / 10)++ [(48+n % 10).toUInt8]:=by
 rw[MC,RJ,if_neg h,MC,M9 (n / 10+1) (n / 10) n (by omega) (by omega)]
theorem UO: ∀n:Nat,(ZN n).length≤n+1:=by
 intro n
 induction n using Nat.strongRecOn with
 | ind n ih=>
  by_cases h:n < 10
  ·rw[X2 h];simp
  ·rw[Vi h];have:=ih (n / 10) (by omega);simp;omega
theorem Wj (n:Nat):dec n=ZN n:=by
 have: ¬(n:Int) < 0:=by omega
 simp[dec,this]
end Go.Am
namespace Go.Am
open Go.RowKit
def MJ (P:Program):Nat:=max (max ((P.globalNamed "internal/strconv.uint64pow10").getD 0) ((P.globalNamed "strconv.ErrSyntax").getD 0)) ((P.globalNamed "strconv.ErrRange").getD 0)+1
theorem Nw [Dr] {P:Program} {X:Nat→Prop} {w w':World} {m m':Nat→Nat} {B:Nat} (hS:Zl X w m w' m') (hX: ∀b,X b→B≤b) (hb:B≤w.heap.size) {n:String} (hn: (P.globalNamed n).getD 0 < B):w'.var? P n=w.var? P n:=by
 unfold World.var?;cases hg:P.globalNamed n with
 | none=>rfl
 | some g=>
  rw[hg]at hn;simp only[Option.getD_some]at hn;simp only[Option.bind_some];rw[(hS.same g (by omega) (fun hx=>by have:=hX g hx;omega)).1]
theorem Cz {P:Program} {w:World} {n:String} {cs:Array Value} (h:w.var? P n=some cs): (P.globalNamed n).getD 0 < w.heap.size:=by
 unfold World.var? at h;cases hg:P.globalNamed n with
 | none=>rw[hg]at h;cases h
 | some g=>
  rw[hg]at h;simp only[Option.bind_some]at h;simp only[Option.getD_some];rcases Nat.lt_or_ge g w.heap.size with h1 | h1
  ·exact h1
  ·rw[Array.getElem?_eq_none h1]at h;cases h
def N7 (P:Program) (w:World):Prop:=Lib.TabIs P w "internal/strconv.uint64pow10" .u64 Lib.pow10Tab∧
 (P.globalNamed "strconv.ErrSyntax" ≠none→∃tp p,w.var? P "strconv.ErrSyntax" =some #[.iface tp p])∧(P.globalNamed "strconv.ErrRange" ≠none→∃tp p,w.var? P "strconv.ErrRange" =some #[.iface tp p])
theorem Qcp [Dr] {P:Program} {w:World} (h:N7 P w):MJ P≤w.heap.size:=by
 obtain⟨h1,h2,h3⟩:=h;have g1:=Cz h1;have key: ∀{n:String},(P.globalNamed n≠none→∃tp p,w.var? P n=some #[.iface tp p])→(P.globalNamed n).getD 0 < w.heap.size:=fun {n} hn=>by
  by_cases c:P.globalNamed n=none
  ·rw[c];simp only[Option.getD_none];omega
  ·obtain⟨_,_,h⟩:=hn c;exact Cz h
 have g2:=key h2;have g3:=key h3;unfold MJ;omega
def glob [Dr] (P:Program):Yi where
 G:=N7 P
 Gb:=MJ P
 step:=fun X w m w' m' hS hX hb hG=>by
  unfold N7 Lib.TabIs at *;rw[Nw hS hX hb (by unfold MJ;omega),Nw hS hX hb (by unfold MJ;omega),Nw hS hX hb (by unfold MJ;omega)];exact hG
theorem FV [Dr] {w w':World} {m:Nat→Nat} (h:Below w.heap.size w w') (hdr:Dr.d→w.drawn≤w'.drawn):Zl (fun _=>False) w m w' m:=by
 refine⟨h.os,h.tape,h.output,h.size,fun b hb _=>⟨h.block b hb,rfl⟩,fun b i u hu=> ?_,hdr⟩;unfold hg at hu ⊢;split at hu
 ·rename_i hi;rw[if_pos hi];have hb:b < w.heap.size:=by
   rcases Nat.lt_or_ge b w.heap.size with h1 | h1
   ·exact h1
   ·exfalso;unfold World.cell? at hu;rw[Array.getElem?_eq_none h1]at hu;cases hu
  unfold World.cell? at hu ⊢;rw[h.block b hb];exact hu
 ·cases hu
section
variable {P:Program} {num:Nat→Option Nat}
theorem Uu [Dr] {Γ:Yi} {h:List AV→Option AV} {g:Nat}
  (hc: ∀(args:List AV) (r:AV),h args=some r→∀(w:World) (m:Nat→Nat) (β:List Blk) (vs:Array Value),Γ.G w→vs.size=args.length→
   (∀(i:Nat) (c:AV),args[i]? =some c→∃u,vs[i]? =some u∧Qc num β w m c u)→
   Calls P g vs w fun e w'=>∃v,e= .returned v∧Below w.heap.size w w'∧(Dr.d→w.drawn≤w'.drawn)∧r.ok=true∧(∀w' m',Qc num β w' m' r v)∧(∀w' m' ν',Q6 w' m' ν' .f r v)):
  Ec P num Γ h g:=by
 intro args r hr hok w m β vs hG hGb hvs hrep;refine(hc args r hr w m β vs hG hvs hrep).mono fun e w' he=> ?_;obtain⟨v,he,hB,hdr,h1,h2,h3⟩:=he;exact⟨v,m,fun _=>none,he,FV hB hdr,h1,h2 w' m,h3 w' m _,fun b p hp=>by cases hp⟩
theorem QdH {vs:Array Value} {u:Value} (h:vs.size=1) (h0:vs[0]? =some u):vs= #[u]:=by
 apply Array.ext_getElem?;intro i;cases i with
 | zero=>rw[h0];rfl
 | succ i=>rw[Array.getElem?_eq_none (by omega),Array.getElem?_eq_none (by simp)]
theorem Ku {vs:Array Value} {u v:Value} (h:vs.size=2) (h0:vs[0]? =some u) (h1:vs[1]? =some v):vs= #[u,v]:=by
 apply Array.ext_getElem?;intro i
 match i with
 | 0=>rw[h0];rfl
 | 1=>rw[h1];rfl
 | i+2=>rw[Array.getElem?_eq_none (by omega),Array.getElem?_eq_none (by simp)]
theorem Yv (s:List UInt8): (⟨s.toArray⟩:ByteArray).data.toList=s:=by simp
theorem WA (s:List UInt8): (⟨s.toArray⟩:ByteArray).size=s.length:=by simp[ByteArray.size]
theorem SB: ∀a b:List UInt8,Lib.compareBytes a b=if Op.bytesLess a b then -1 else if a == b then 0 else 1
 | [],[]=>rfl
 | [],_:: _=>by simp[Lib.compareBytes,Op.bytesLess]
 | _:: _,[]=>by simp[Lib.compareBytes,Op.bytesLess]
 | a:: aq,b:: bs=>by
  simp only[Lib.compareBytes,Op.bytesLess,SB aq bs];by_cases h1:a < b
  ·simp[h1]
  ·by_cases h2:b < a
   ·have hne: (a == b)=false:=by
     rw[beq_eq_false_iff_ne];intro e;subst e;exact h1 h2
    simp[h1,h2,hne]
   ·have he:a=b:=by
     apply UInt8.toNat_inj.1;rw[UInt8.lt_iff_toNat_lt]at h1 h2;omega
    subst he;simp[h1]
theorem HF [Dr] {Γ:Yi} {g:Nat} (hC: ∀(a b:ByteArray) (w:World),Calls P g #[.string a,.string b] w fun e w'=>e= .returned (.int .i64 (Lib.compareBytes a.data.toList b.data.toList))∧w'=w):WX P num Γ (Z2 O5) g:=by
 refine Sk (Uu fun args r hr w m β vs hG hvs hrep=> ?_);unfold O5 at hr;split at hr
 ·rename_i a b;injection hr with hr
  subst hr;obtain⟨u,h0,h1⟩:=hrep 0 _ rfl;obtain⟨u2,h2,h3⟩:=hrep 1 _ rfl;simp only[Qc]at h1 h3;subst h1 h3;rw[Ku hvs h0 h2];refine(hC _ _ w).mono fun e w' he=> ?_;obtain⟨rfl,rfl⟩:=he;rw[Yv,Yv,SB];exact⟨_,rfl,Below.refl _ _,fun _=>Nat.le_refl _,rfl,fun _ _=>by simp only[Qc],fun _ _ _=>trivial⟩
 ·cases hr
theorem Rl (cs:List UInt8): ∀s:List UInt8,Lib.containsAny s cs=s.any fun b=>cs.contains b
 | []=>by simp[Lib.containsAny,Lib.indexAny]
 | b:: s=>by
  have ih:=Rl cs s;have hge:=Lib.indexAny_ge cs s;rw[List.any_cons,← ih];unfold Lib.containsAny;rw[Lib.indexAny];cases hc:cs.contains b
  ·simp only[Bool.false_or,Bool.false_eq_true,if_false];by_cases h1:Lib.indexAny s cs= -1
   ·simp[h1]
   ·have: (Lib.indexAny s cs == -1)=false:=by simpa using h1
    rw[this];simp only[Bool.false_eq_true,if_false];have h2:0≤Lib.indexAny s cs:=by omega
    have h3:0≤Lib.indexAny s cs+1:=by omega
    simp[h2,h3]
  ·simp
theorem Qa5 [Dr] {Γ:Yi} (hD: ¬Dr.d) {g:Nat} (hC: ∀(s chars:ByteArray) (w:World),s.size < 4294967281→chars.size < 4294967281→(∀(j:Nat) b,s.data.toList[j]? =some b→b.toNat < 128)→(∀(j:Nat) b,chars.data.toList[j]? =some b→b.toNat < 128)→
  Calls P g #[.string s,.string chars] w fun e w'=>e= .returned (.bool (Lib.containsAny s.data.toList chars.data.toList))∧Below w.heap.size w w'):WX P num Γ (Z2 Mv) g:=by
 refine Sk (Uu fun args r hr w m β vs hG hvs hrep=> ?_);unfold Mv at hr;split at hr
 ·rename_i s cs;split at hr
  ·rename_i hcond;injection hr with hr
   subst hr;simp only[Bool.and_eq_true,decide_eq_true_eq]at hcond;obtain⟨⟨⟨c1,c2⟩,c3⟩,c4⟩:=hcond;obtain⟨u,h0,h1⟩:=hrep 0 _ rfl;obtain⟨u2,h2,h3⟩:=hrep 1 _ rfl;simp only[Qc]at h1 h3;subst h1 h3;rw[Ku hvs h0 h2];have asc: ∀l:List UInt8,l.all (· < 128)=true→∀(j:Nat) b,(⟨l.toArray⟩:ByteArray).data.toList[j]? =some b→b.toNat < 128:=fun l hl j b hj=>by
    rw[Yv]at hj;rw[List.all_eq_true]at hl;have:=hl b (List.mem_of_getElem? hj);have h2:=of_decide_eq_true this;rw[UInt8.lt_iff_toNat_lt]at h2;exact h2
   refine(hC _ _ w (by rw[WA];omega) (by rw[WA];omega) (asc s c2) (asc cs c1)).mono fun e w' he=> ?_;obtain⟨rfl,hB⟩:=he;rw[Yv,Yv,Rl];exact⟨_,rfl,hB,fun h=>absurd h hD,rfl,fun _ _=>by simp only[Qc],fun _ _ _=>trivial⟩
  ·cases hr
 ·cases hr
theorem Pm: ∀n:Nat,Lib.decDigits n=ZN n:=by
 intro n
 induction n using Nat.strongRecOn with
 | ind n ih=>
  by_cases h:n < 10
  ·rw[Lib.decDigits_one h,X2 h]
  ·rw[Lib.decDigits,dif_neg h,Vi h,ih (n / 10) (by omega)]
theorem Qcs [Dr] (n:Int):Lib.itoa n=dec n:=by
 unfold Lib.itoa dec;split
 ·rw[Pm]
 ·rw[Pm];congr 1;omega
theorem GB (w:World) (k:Nat) (os:Array Obj):Below w.heap.size w (Sort.grow (w.drewN k) os):=
 ⟨rfl,rfl,rfl,by simp[Sort.grow,World.drewN],fun b hb=>by
  show((w.drewN k).heap ++ os)[b]? =_;rw[Array.getElem?_append_left (by simpa[World.drewN]using hb)];rfl⟩
theorem Ah [Dr] {g:Nat} (hC: ∀(n:Int),-9223372036854775808≤n→n≤9223372036854775807→∀(w:World),Lib.TabIs P w "internal/strconv.uint64pow10" .u64 Lib.pow10Tab→
  Calls P g #[.int .i64 n] w fun e w'=>e= .returned (.string ⟨(Lib.itoa n).toArray⟩)∧∃k os,w'=Sort.grow (w.drewN k) os):WX P num (glob P) (Z2 Oz) g:=by
 refine Sk (Uu fun args r hr w m β vs hG hvs hrep=> ?_);unfold Oz at hr;split at hr
 ·rename_i n;split at hr
  ·rename_i hn;injection hr with hr
   subst hr;obtain⟨u,h0,h1⟩:=hrep 0 _ rfl;simp only[Qc]at h1;subst h1;rw[QdH hvs h0];refine(hC n hn.1 hn.2 w hG.1).mono fun e w' he=> ?_;obtain⟨rfl,k,os,rfl⟩:=he;rw[Qcs];exact⟨_,rfl,GB w k os,fun _=>Nat.le_add_right _ _,rfl,fun _ _=>by simp only[Qc],fun _ _ _=>trivial⟩
  ·cases hr
 ·cases hr
theorem CX [Dr] (hD: ¬Dr.d) (hs0:P.globalNamed "strconv.ErrSyntax" ≠none) (hr0:P.globalNamed "strconv.ErrRange" ≠none) {g:Nat} (h1: ∀(s:ByteArray),s.size≤9223372036854775806→∀(v:Int),Lib.atoiAll s.data.toList= .ok v→∀(w:World),
   Calls P g #[.string s] w fun e w'=>e= .returned (.tuple #[.int .i64 v,.nilIface])∧Below w.heap.size w w')
  (h2: ∀(s:ByteArray),s.size≤281474976710656→Lib.atoiAll s.data.toList=Lib.NumEnd.syntax→∀(tp:TypeId) (p:Value) (w:World),w.var? P "strconv.ErrSyntax" =some #[.iface tp p]→
   Calls P g #[.string s] w fun e w'=>∃t x,e= .returned (.tuple #[.int .i64 0,.iface t x])∧Below w.heap.size w w')
  (h3: ∀(s:ByteArray),s.size≤281474976710656→Lib.atoiAll s.data.toList= .range→∀(tp:TypeId) (p:Value) (w:World),w.var? P "strconv.ErrRange" =some #[.iface tp p]→
   Calls P g #[.string s] w fun e w'=>∃t x,e= .returned (.tuple #[.int .i64 (Lib.atoiSat s.data.toList),.iface t x])∧Below w.heap.size w w'):
  WX P num (glob P) (Z2 Ka) g:=by
 refine Sk (Uu fun args r hr w m β vs hG hvs hrep=> ?_);unfold Ka at hr;split at hr
 ·rename_i s;split at hr
  ·rename_i hs;obtain⟨u,h0,hu⟩:=hrep 0 _ rfl;simp only[Qc]at hu;subst hu;rw[QdH hvs h0];obtain⟨hg1,hg2,hg3⟩:=hG;obtain⟨tp1,p1,hg2⟩:=hg2 hs0;obtain⟨tp2,p2,hg3⟩:=hg3 hr0;cases ha:Lib.atoiAll s with
   | ok v=>
    rw[ha]at hr;injection hr with hr
    subst hr;refine(h1 ⟨s.toArray⟩ (by rw[WA];omega) v (by rw[Yv];exact ha) w).mono fun e w' he=> ?_;obtain⟨rfl,hB⟩:=he;refine⟨_,rfl,hB,fun h=>absurd h hD,rfl,fun _ _=> ?_,fun _ _ _=>trivial⟩;simp only[Qc];exact⟨_,rfl,rfl,by simp[RepT,Qc]⟩
   | range=>
    rw[ha]at hr;injection hr with hr
    subst hr;refine(h3 ⟨s.toArray⟩ (by rw[WA];omega) (by rw[Yv];exact ha) tp2 p2 w hg3).mono fun e w' he=> ?_;obtain⟨t,x,rfl,hB⟩:=he;rw[Yv];refine⟨_,rfl,hB,fun h=>absurd h hD,rfl,fun _ _=> ?_,fun _ _ _=>trivial⟩;simp only[Qc];exact⟨_,rfl,rfl,by simp[RepT,Qc]⟩
   | _=>
    rw[ha]at hr;injection hr with hr
    subst hr;refine(h2 ⟨s.toArray⟩ (by rw[WA];omega) (by rw[Yv];exact ha) tp1 p1 w hg2).mono fun e w' he=> ?_;obtain⟨t,x,rfl,hB⟩:=he;refine⟨_,rfl,hB,fun h=>absurd h hD,rfl,fun _ _=> ?_,fun _ _ _=>trivial⟩;simp only[Qc];exact⟨_,rfl,rfl,by simp[RepT,Qc]⟩
  ·cases hr
 ·cases hr
end
end Go.Am
namespace Go.Am
section
variable {P:Program} {num:Nat→Option Nat} {tb:Nat→Option AFn}
def Ent (P:Program) (g:Nat):Prop:=∃fn,P.funcs[g]? =some fn∧(fn.name == "runtime.NumGoroutine")=false∧fn.body.isNone=false
theorem Fc {L:List (Nat×Nat)} {f g:Nat} (h:L.lookup f=some g): (f,g)∈L:=by
 induction L with
 | nil=>cases h
 | cons p L ih=>
  obtain⟨a,b⟩:=p;rw[List.lookup_cons]at h;by_cases hab:f=a
  ·subst hab;simp at h;subst h;simp
  ·have: (f == a)=false:=by simpa using hab
   rw[this]at h;exact List.mem_cons_of_mem _ (ih h)
theorem E5 [Dr] {L:List (Nat×Nat)} (h: ∀p∈L,Ent P p.2):XJ P (fun f=>L.lookup f):=fun f g hfg=>h (f,g) (Fc hfg)
theorem Xj {α:Type} {p:α→Prop} {a:α} {l:List α} (h:p a) (hl: ∀x∈l,p x): ∀x∈a:: l,p x:=fun x hx=>by
 rcases List.mem_cons.1 hx with rfl | hx
 ·exact h
 ·exact hl x hx
theorem Qep {α:Type} {p:α→Prop}: ∀x∈([]:List α),p x:=fun x hx=>by cases hx
def GV (P:Program) (g:Nat):Bool:=match P.funcs[g]? with
 | some fn=> !(fn.name == "runtime.NumGoroutine") && !fn.body.isNone
 | none=>false
theorem Wk [Dr] {L:List (Nat×Nat)} (h: (L.all fun p=>GV P p.2)=true):XJ P (fun f=>L.lookup f):=E5 fun p hp=>by
 have h1:=List.all_eq_true.1 h p hp;unfold GV at h1;split at h1
 ·rename_i fn hf;simp only[Bool.and_eq_true,Bool.not_eq_true']at h1;exact⟨fn,hf,h1.1,h1.2⟩
 ·cases h1
def Y8 (P:Program) (L:List (Nat×Nat)) (T:List (Nat×AFn)):Bool:=T.all fun p=>match p.2 with
 | .code fn=>(match L.lookup p.1 with
  | some g=>(match P.funcs[g]? with
   | some F=>Fl P (fun f=>L.lookup f) fn F
   | none=>false)
  | none=>true)
 | .orc _=>true
theorem XB {L:List (Nat×Nat)} {T:List (Nat×AFn)} (n:Nat) (h1:Y8 P L (T.take n)=true) (h2:Y8 P L (T.drop n)=true):Y8 P L T=true:=by
 unfold Y8 at *;rw[← List.take_append_drop n T,List.all_append,h1,h2];rfl
theorem OT {L:List (Nat×AFn)} {f:Nat} {g:AFn} (h:L.lookup f=some g): (f,g)∈L:=by
 induction L with
 | nil=>cases h
 | cons p L ih=>
  obtain⟨a,b⟩:=p;rw[List.lookup_cons]at h;by_cases hab:f=a
  ·subst hab;simp at h;subst h;simp
  ·have: (f == a)=false:=by simpa using hab
   rw[this]at h;exact List.mem_cons_of_mem _ (ih h)
def Oat [Dr] (P:Program) (L:List (Nat×Nat)) (Γ:Yi) (tb:Nat→Option AFn) (f:Nat):Prop:=∀g h,L.lookup f=some g→tb f=some (.orc h)→WX P (fun f=>L.lookup f) Γ h g
theorem YG [Dr] {L:List (Nat×Nat)} {Γ:Yi} {f g:Nat} {h:List AV→List (List AV)→Option (AV×List (List AV))} (ht:tb f=some (.orc h)) (hg:L.lookup f=some g) (hO:WX P (fun f=>L.lookup f) Γ h g):Oat P L Γ tb f:=
 fun g2 h2 e1 e2=>by
  rw[hg]at e1;rw[ht]at e2;injection e1 with e1
  injection e2 with e2
  injection e2 with e2
  subst e1;subst e2;exact hO
theorem Jn [Dr] {Γ:Yi} {L:List (Nat×Nat)} {T:List (Nat×AFn)} (os:List Nat) (htb: ∀f,tb f=T.lookup f) (hmix:P.follows .mixedOrders=true) (hE: (L.all fun p=>GV P p.2)=true) (hc:Y8 P L T=true)
  (ho: (T.all fun p=>match p.2 with | .orc _=>os.contains p.1 | .code _=>true)=true) (hO: ∀f∈os,Oat P L Γ tb f):Mr P (fun f=>L.lookup f) Γ tb where
 mix:=hmix
 enters:=Wk hE
 code:=fun f g fn hfg ht=>by
  rw[htb]at ht;have h1:=List.all_eq_true.1 hc _ (OT ht);simp only[hfg]at h1;split at h1
  ·rename_i F hF;exact⟨F,hF,h1⟩
  ·cases h1
 orc:=fun f g h hfg ht=>by
  have ht2:=ht;rw[htb]at ht2;have h1:=List.all_eq_true.1 ho _ (OT ht2);simp only at h1;exact hO f (by simpa using h1) g h hfg ht
end
end Go.Am
namespace Go.Am
def mW (w:World):Nat→Nat:=fun b=>match w.heap[b]? with
 | some (.cells c _ _)=>c.size
 | _=>0
theorem Qfu (w:World) (b i:Nat):hg w (mW w) b i=w.cell? ⟨b,i,none⟩:=by
 unfold hg mW World.cell?;cases h:w.heap[b]? with
 | none=>simp
 | some o=>
  cases o <;> simp
def Gx (R:TypeId→List AV→Prop):List Field→List AV→Prop
 | [],avs=>avs=[]
 | f:: fs,avs=>∃p q,avs=p ++ q∧R f.type p∧Gx R fs q
def Shp (B:Nat) (P:Program):Nat→TypeId→List AV→Prop
 | 0,_,_=>False
 | n+1,t,avs=>match P.underlying t with
  | some (.int k)=>∃i,avs=[.int k i]∧(Lit.int k i).wf=true
  | some .bool=>∃b,avs=[.bool b]
  | some .string=>∃s:List UInt8,avs=[.str s]∧s.length≤B
  | some (.slice e)=>∃xs:List (List AV),avs=[.sl false (P.cellsOf e) xs]∧xs.length*P.bytesOf e≤B∧∀x∈xs,Shp B P n e x
  | some (.struct fs)=>Gx (Shp B P n) fs.toList avs
  | _=>False
def JG (P:Program) (tot:Nat):List Field→Nat→Bool
 | [],o=>decide (o=tot)
 | f:: fs,o=>decide (f.offset=o) && JG P tot fs (o+P.cellsOf f.type)
def Fm (P:Program) (S:List TypeId):Bool:=S.all fun t=>match P.underlying t with
 | some (.int _)=>decide (P.cellsOf t=1)
 | some .bool=>decide (P.cellsOf t=1)
 | some .string=>decide (P.cellsOf t=1)
 | some (.slice e)=>S.contains e && decide (0 < P.cellsOf e) && decide (P.cellsOf t=1)
 | some (.struct fs)=>fs.toList.all (fun f=>S.contains f.type) && JG P (P.cellsOf t) fs.toList 0
 | _=>false
theorem HX {α:Type} {Q:Nat→α→Prop}: ∀{n:Nat},(∀i,i < n→∃x,Q i x)→∃xs:List α,xs.length=n∧∀i x,xs[i]? =some x→Q i x
 | 0,_=>⟨[],rfl,fun i x h=>by simp at h⟩
 | n+1,h=>by
  obtain⟨xs,h1,h2⟩:=HX (n:=n) fun i hi=>h i (by omega);obtain⟨x,hx⟩:=h n (by omega);refine⟨xs ++ [x],by simp[h1],fun i y hy=> ?_⟩;rcases Nat.lt_trichotomy i n with hi | hi | hi
  ·rw[List.getElem?_append_left (by omega)]at hy;exact h2 i y hy
  ·subst hi;rw[List.getElem?_append_right (by omega),h1,Nat.sub_self]at hy;simp at hy;subst hy;exact hx
  ·rw[List.getElem?_eq_none (by simp;omega)]at hy;cases hy
theorem Hi {H:Type} {P:Program} {e:TypeId} {ds:List (DataW H)}: ∀{d:DataW H},d∈ds→∀n∈d.weights P e,n∈DataW.weightsAll P e ds:=by
 induction ds with
 | nil=>intro d h;cases h
 | cons a ds ih=>
  intro d h n hn;simp only[DataW.weightsAll,List.mem_append];rcases List.mem_cons.1 h with rfl | h
  ·exact .inl hn
  ·exact .inr (ih h n hn)
section
variable {B:Nat} {H:Type} {enc:TypeId×Value→H} {P:Program} {w:World} {base:Nat} {spare:Nat→Bool} {held:Bool} {num:Nat→Option Nat} {β:List Blk} {S:List TypeId}
theorem FY [Dr] (hS:Fm P S=true): ∀(fuel:Nat) (t:TypeId) (cs:List Value) (x:DataW H×List MemPlace),t∈S→DataW.trod enc P w base spare held fuel t cs=some x→
  (∀n∈x.1.weights P t,n≤B)→∃avs,Shp B P fuel t avs∧avs.length=cs.length∧cs.length=P.cellsOf t∧RepC num β w (mW w) avs (fun i=>cs[i]?) 0:=by
 intro fuel
 induction fuel with
 | zero=>intro t cs x _ h;simp[DataW.trod]at h
 | succ fuel ih=>
  intro t cs x ht h hwt;have hs:=List.all_eq_true.1 hS t ht;simp only[Shp];split at hs
  ·rename_i k hu;simp only[decide_eq_true_eq]at hs;obtain⟨n,rfl,rfl,hwf⟩:=DataW.trod_int hu h;exact⟨_,⟨n,rfl,hwf⟩,rfl,by rw[hs];rfl,by simp[RepC,Qc];rfl⟩
  ·rename_i hu;simp only[decide_eq_true_eq]at hs;have: ∃b,cs=[.bool b]:=by
    unfold DataW.trod at h;rw[hu]at h;split at h <;> simp_all
   obtain⟨b,rfl⟩:=this;exact⟨_,⟨b,rfl⟩,rfl,by rw[hs];rfl,by simp[RepC,Qc];rfl⟩
  ·rename_i hu;simp only[decide_eq_true_eq]at hs;obtain⟨s,rfl,rfl,hmx⟩:=DataW.trod_string hu h;refine⟨_,⟨s.data.toList,rfl,hwt _ (by simp[DataW.weights])⟩,rfl,by rw[hs];rfl,?_⟩;simp only[RepC,Qc];exact⟨⟨_,rfl,rfl,by simp⟩,trivial⟩
  ·rename_i e hu;simp only[Bool.and_eq_true,decide_eq_true_eq]at hs;obtain⟨⟨hse,hc0⟩,hc1⟩:=hs;have he:e∈S:=by simpa using hse
   rcases DataW.trod_slice hu h with⟨rfl,rfl⟩ | ⟨a,len,cap,elems,rest,n,hn,rfl,rfl,hb,hl,hm,hlen,hel,_,_⟩
   ·refine⟨_,⟨[],rfl,by simp,by simp⟩,rfl,by rw[hc1];rfl,?_⟩;simp only[RepC,Qc];exact⟨⟨_,rfl,rfl,none,0,0,rfl,rfl,Nat.le_refl _,Nat.zero_le _,.inl trivial⟩,trivial⟩
   ·injection hn with hn
    subst hn;have hel2: ∀i,i < len→∃av,Shp B P fuel e av∧av.length=P.cellsOf e∧∃cs':List Value,(∀j,j < P.cellsOf e→w.cell? ((a.add (i*P.cellsOf e)).add j)=cs'[j]?)∧cs'.length=P.cellsOf e∧RepC num β w (mW w) av (fun j=>cs'[j]?) 0:=by
     intro i hi;have h1:=hel i hi;have h2:elems[i]? =some (elems[i]'(by omega)):=List.getElem?_eq_getElem (by omega);rw[h2]at h1;obtain⟨cs',g1,g2⟩:=Option.bind_eq_some_iff.1 h1;obtain⟨_,g3,g4⟩:=World.cells?_some g1;obtain⟨av,k1,k2,k3,k4⟩:=ih e cs' _ he g2 (fun n hn=>hwt n (by
      simp only[DataW.weights,hu,List.mem_cons,List.mem_append];right;left
      refine Hi (d:=(elems[i]'(by omega)).1) ?_ n hn;exact List.mem_map.2 ⟨_,List.getElem_mem _,rfl⟩))
     exact⟨av,k1,by rw[k2,k3],cs',g4,g3,k4⟩
    obtain⟨xs,x1,x2⟩:=HX hel2;refine⟨_,⟨xs,rfl,?_,fun x hx=> ?_⟩,rfl,by rw[hc1];rfl,?_⟩
    ·have:=hwt ((elems.length+rest.length)*P.bytesOf e) (by simp[DataW.weights,hu]);refine Nat.le_trans (Nat.mul_le_mul_right _ ?_) this;omega
    ·obtain⟨i,hi⟩:=List.getElem?_of_mem hx;exact(x2 i x hi).1
    ·simp only[RepC,Qc];refine⟨⟨_,rfl,rfl,some a,len,cap,rfl,x1,hl,hm,?_⟩,trivial⟩;by_cases h0:xs=[]
     ·exact .inl h0
     ·right;have hl0:0 < len:=by rw[← x1];exact List.length_pos_iff.2 h0
      have hsp:a.spot=none:=by
       obtain⟨av,_,_,cs',g4,g3,_⟩:=hel2 0 hl0;have h1:=g4 0 hc0;rw[List.getElem?_eq_getElem (by omega)]at h1;unfold World.cell? at h1;split at h1
       ·split at h1
        ·cases h1
        ·rename_i hq;simpa[Addr.add]using hq
       ·cases h1
      obtain⟨ab,ao,asp⟩:=a;simp only at hsp;subst hsp;refine⟨ab,ao,rfl,?_⟩;rw[YM];intro i x hx;obtain⟨k1,k2,cs',g4,g3,k4⟩:=x2 i x hx;refine⟨k2,?_⟩;rw[Zd]at k4 ⊢;intro j c hj;obtain⟨u,u1,u2,u3⟩:=k4 j c hj;have hjl:j < P.cellsOf e:=by
       rcases Nat.lt_or_ge j x.length with hh | hh
       ·omega
       ·rw[List.getElem?_eq_none hh]at hj;cases hj
      refine⟨u,?_,u2,u3⟩;rw[Qfu];have:=g4 j hjl;simp only[Nat.zero_add]at u1;rw[u1,Yd,Yd]at this;exact this
  ·rename_i fs hu;simp only[Bool.and_eq_true]at hs;obtain⟨hs1,hs2⟩:=hs;obtain⟨xs,n,hn,rfl,hcl,hxl,hf⟩:=DataW.trod_struct hu h;injection hn with hn
   subst hn;have key: ∀(l:List Field) (k o:Nat),fs.toList.drop k=l→JG P (P.cellsOf t) l o=true→∃avs,Gx (Shp B P fuel) l avs∧avs.length+o=P.cellsOf t∧RepC num β w (mW w) avs (fun i=>cs[i]?) o:=by
    intro l
    induction l with
    | nil=>
     intro k o _ hl;simp only[JG,decide_eq_true_eq]at hl;exact⟨[],rfl,by simpa using hl,by simp[RepC]⟩
    | cons f l ihl=>
     intro k o hk hl;simp only[JG,Bool.and_eq_true,decide_eq_true_eq]at hl;obtain⟨rfl,hl2⟩:=hl;have hkf:fs.toList[k]? =some f:=by
      have: (fs.toList.drop k)[0]? =some f:=by rw[hk];rfl
      simpa using this
     have hk2:fs.toList.drop (k+1)=l:=by
      rw[← List.drop_drop,hk];rfl
     obtain⟨q,q1,q2,q3⟩:=ihl (k+1) _ hk2 hl2;have hkf2:fs[k]? =some f:=by simpa using hkf
     have hfm:f.type∈S:=by
      have:=List.all_eq_true.1 hs1 f (List.mem_of_getElem? hkf);simpa using this
     have h1:=hf k f hkf2;have hkl:k < xs.length:=by
      rw[hxl];exact(Array.getElem?_eq_some_iff.1 hkf2).1
     rw[List.getElem?_eq_getElem hkl]at h1;obtain⟨p,p1,p2,p3,p4⟩:=ih f.type _ _ hfm h1 (fun n hn=>hwt n (by
      simp only[DataW.weights,hu];exact DataW.weights_mem_each (j:=k) (t:=f.type) (d:=xs[k].1) (by simp[hkf2]) (by simp[List.getElem?_eq_getElem hkl]) n hn))
     rw[p3]at p2;refine⟨p ++ q,⟨p,q,rfl,p1,q1⟩,by simp;omega,?_⟩;rw[Zd]at p4 q3 ⊢;intro i c hi;by_cases hil:i < p.length
     ·rw[List.getElem?_append_left hil]at hi;obtain⟨u,u1,u2,u3⟩:=p4 i c hi;refine⟨u,?_,u2,u3⟩;simp only[Nat.zero_add]at u1;rw[List.getElem?_take]at u1;split at u1
      ·rwa[List.getElem?_drop]at u1
      ·cases u1
     ·rw[List.getElem?_append_right (by omega)]at hi;obtain⟨u,u1,u2,u3⟩:=q3 (i - p.length) c hi;refine⟨u,?_,u2,u3⟩;rwa[show f.offset+P.cellsOf f.type+ (i - p.length)=f.offset+i by omega]at u1
   obtain⟨avs,a1,a2,a3⟩:=key fs.toList 0 0 (by simp) hs2;exact⟨avs,a1,by omega,hcl,a3⟩
  ·cases hs
end
end Go.Am
