/-
  Am16, Am17, Am18, Am19, Am24, Am25.
-/
import Derived.Test.YtmlbinmlblbfgaaGreatDoorG08
import Derived.Lib.AtoiAll
import Derived.Below
import Derived.Lib.Bytealg
import Derived.Lib.IndexAny
import Derived.Lib.ItoaNum
import Derived.Lib.LaidTab
import Derived.Lib.ConvBytes
import Derived.Sort.Grow
import Derived.Deep.Draws
import Derived.Lib.AtoiErrMem
set_option linter.all false
namespace Go.Am
def Vu (cops:Array Oper) (i k:Nat):Bool:=match cops[i]? with
 | some o=>o.after.any fun e=>Region.binds .any e && decide (e.on=k)
 | none=>false
def NR (cops:Array Oper):Nat->Nat->Nat->Bool
 | 0,_,_=>false
 | f+1,i,j=>Vu cops i j || (match cops[i]? with
  | some o=>o.after.any fun e=>Region.binds .any e && decide (j < e.on) && NR cops f e.on j
  | none=>false)
def Px (cops:Array Oper):Bool:=(List.range cops.size).all fun i=>match cops[i]? with
 | some o=>o.after.all fun e=> !Region.binds .any e || decide (e.on < i)
 | none=>true
def RB (xs:ZH) (i:Nat):Qy:=xs.getD i ⟨none,.alloc [],none⟩
def N7 (cops:Array Oper) (xs:ZH):Bool:=(List.range xs.length).all fun i=>(List.range i).all fun j=>PH (RB xs j) (RB xs i) || NR cops xs.length i j
def LK (P:Program) (num:Z3) (N:Nat) (draw:Bool) (cops:Array Oper) (xs:ZH):Bool:=
 if draw then Su P num N (Vu cops) cops xs && Px cops && N7 cops xs else Su P num N (fun i k=>decide (k < i)) cops xs
def R6:=@Array.any_eq_true'
def I0 {cops:Array Oper} {L:Nat->Prop} (hdown: ∀j k,L j->Vu cops j k=true->L k): ∀(f i j:Nat),(∀k,Vu cops i k=true->L k)->NR cops f i j=true->L j
 | 0,_,_,_,h=>by simp[NR]at h
 | f+1,i,j,hi,h=>by
  simp only[NR,XQ]at h;rcases h with h | h
  ·exact hi j h
  ·split at h
   ·rename_i o ho;rw[R6]at h;obtain⟨e,he,h⟩:=h;simp only[Qi,Qm]at h;have hL:L e.on:=hi e.on (by
     unfold Vu;rw[ho];simp only;rw[R6];exact⟨e,he,by simp[h.1.1]⟩)
    exact I0 hdown f e.on j (fun k hk=>hdown _ k hL hk) h.2
   ·cases h
def rem (n:Nat) (listed:Array Bool):XM:=(List.range n).filter fun i=> !listed.getD i true
def S1 {n i:Nat} {listed:Array Bool}:i∈rem n listed↔i < n/\listed.getD i true=false:=by
 unfold rem;rw[List.mem_filter,TY];simp
def JA:=@List.Pairwise.filter
def Lh {n i:Nat} {listed:Array Bool} (hn:listed.size=n) (hi:i∈rem n listed):rem n (listed.setIfInBounds i true)=(rem n listed).erase i:=by
 have hnd: (rem n listed).Nodup:=JA _ List.nodup_range;rw[List.Nodup.erase_eq_filter hnd];unfold rem;rw[List.filter_filter];apply List.filter_congr;intro x hx;rw[TY]at hx;by_cases hxi:x=i
 ·subst hxi;simp[hn,hx]
 ·rw[getD_set_ne true (fun e=>hxi e.symm)];simp[hxi]
section
variable {P:Program} {num:Nat->Option Nat} {β:List Blk} {w w':World} {m:Nat->Nat} {ν:Own} {N:Nat} {w0:World} {m0:Nat->Nat} {T:Nat->Prop} {β0:List Blk} {σ σ1 σ2:St} {a:Act}
 {next:Act->World->Prop} {Q:Exit->Act->World->Prop} {K:ZJ} {v:AV} {xs:List Qy} {cops:Array Oper}
def GI {i:Nat} (h:i < xs.length):xs[i]? =some (RB xs i):=by
 unfold RB;rw[Zr h];simp[h]
def PN {prec:Nat->Nat->Bool} (h:Su P num N prec cops xs=true):xs.length=cops.size:=by
 unfold Su at h;simp only[Qi,Qm]at h;exact h.1.1
def F6 [Dr] {Γ:Z1} (hE:Xu P num) (hK:KOk P num Γ K) (hG:Γ.G w0 m0) (hGb:Γ.Gb<=w0.heap.size) (hT: ∀b,T b->Γ.Gb<=b) {σn:St}
  (hall:Su P num N (Vu cops) cops xs=true) (hed:Px cops=true) (hap:N7 cops xs=true) (hQ: ∀a' w' m' β' ν',Inv num N w0 m0 T β0 σn a' w' m' β' ν'->Q .normal a' w'):
  ∀(fuel:Nat) (listed:Array Bool) (σ:St) (a:Act) (w:World) (m:Q9) (β:Ym) (ν:Own),listed.size=xs.length->(rem xs.length listed).length=fuel->
   Zz K ((rem xs.length listed).map (RB xs)) σ=some σn->(∀j k,listed.getD j false=true->Vu cops j k=true->listed.getD k false=true)->
   Inv num N w0 m0 T β0 σ a w m β ν->RS (entries xs) (fun j=>listed.getD j false=true) σ a->wpAny P .any cops Q fuel listed a w:=by
 intro fuel;have hlen:=PN hall;have hdownE: ∀i k,Vu cops i k=true->k < i:=fun i k h=>by
  unfold Vu at h;split at h
  ·rename_i o ho;rw[R6]at h;obtain⟨e,he,h⟩:=h;simp only[Qi,Qm]at h;have hi:i < cops.size:=(Rc.1 ho).1;unfold Px at hed;rw[YF]at hed;have:=hed i (TY.2 hi);rw[ho]at this;simp only[Cq,XQ,Tc,Qm]at this;rcases this e he with h1 | h1
   ·rw[h.1]at h1;cases h1
   ·omega
  ·cases h
 have hDor: ∀(listed:Array Bool) (j:Nat),listed.size=xs.length->j < xs.length->listed.getD j true=false\/listed.getD j false=true:=fun listed j h1 h2=>by
  rw[Tv,Tv,YL (by omega)];cases listed[j] <;> simp
 induction fuel with
 | zero=>
  intro listed σ a w m β ν hs hl hr _ hI _;have h0:rem xs.length listed=[]:=VK hl;rw[h0]at hr;injection hr with hr
  subst hr;refine⟨?_,hQ a w m β ν hI⟩;cases hrd:Region.ready .any cops listed with
  | nil=>rfl
  | cons i is=>
   exfalso;have hi:i∈Region.ready .any cops listed:=by rw[hrd];simp
   obtain⟨h1,o,h2,_⟩:=mem_ready.1 hi;have:i∈rem xs.length listed:=S1.2 ⟨by rw[hlen];exact(Rc.1 h2).1,h1⟩;rw[h0]at this;cases this
 | succ fuel ih=>
  intro listed σ a w m β ν hs hl hr hdown hI hRS;refine⟨fun h0=> ?_,fun i hi=> ?_⟩
  ·exfalso;cases hrem:rem xs.length listed with
   | nil=>rw[hrem]at hl;simp at hl
   | cons i is=>
    have hi:i∈rem xs.length listed:=by rw[hrem];simp
    obtain⟨h1,h2⟩:=S1.1 hi;have hsort: (rem xs.length listed).Pairwise (· < ·):=JA _ List.pairwise_lt_range;rw[hrem]at hsort;have hmin:=(Va.1 hsort).1;have hready:i∈Region.ready .any cops listed:=by
     refine mem_ready.2 ⟨h2,cops[i]'(by omega),YL _,fun e he hb=> ?_⟩;have hp:Vu cops i e.on=true:=by
      unfold Vu;rw[YL (by omega)];simp only;rw[R6];exact⟨e,he,by simp[hb]⟩
     have hlt:=hdownE i e.on hp;rcases hDor listed e.on hs (by omega)with h3 | h3
     ·have:e.on∈rem xs.length listed:=S1.2 ⟨by omega,h3⟩;rw[hrem]at this;rcases Yd.1 this with h4 | h4
      ·omega
      ·have:=hmin _ h4;omega
     ·exact h3
    rw[h0]at hready;cases hready
  ·obtain⟨h1,o,h2,h3⟩:=mem_ready.1 hi;have hin:i < xs.length:=by rw[hlen];exact(Rc.1 h2).1
   have hir:i∈rem xs.length listed:=S1.2 ⟨hin,h1⟩;have hpre: ∀k,Vu cops i k=true->listed.getD k false=true:=fun k hk=>by
    unfold Vu at hk;rw[h2]at hk;simp only at hk;rw[R6]at hk;obtain⟨e,he,hk⟩:=hk;simp only[Qi,Qm]at hk;rw[<- hk.2];exact h3 e he hk.1
   have hsort: (rem xs.length listed).Pairwise (· < ·):=JA _ List.pairwise_lt_range;have hind: ∀j∈rem xs.length listed,j < i->PH (RB xs j) (RB xs i)=true:=fun j hj hji=>by
    unfold N7 at hap;rw[YF]at hap;have:=hap i (TY.2 hin);rw[YF]at this;have:=this j (TY.2 hji);simp only[XQ]at this;rcases this with h | h
    ·exact h
    ·have hL:=I0 (L:=fun j=>listed.getD j false=true) hdown _ i j hpre h;obtain⟨k1,k2⟩:=S1.1 hj;rw[Tv,YL (by omega)]at hL k2;simp only[Ua]at hL k2;rw[hL]at k2;cases k2
   obtain⟨σ',g1,g2⟩:=PP (RB xs) i _ σ σn hsort hir hind hr;have hnD: ¬listed.getD i false=true:=fun h=>by
    rw[Tv,YL (by omega)]at h h1;simp only[Ua]at h h1;rw[h]at h1;cases h1
   refine Ou hI hE hK hG hGb hT hall (GI hin) hnD hpre hdown hRS g1 fun a' w' m' β' ν' k1 k2=> ?_;have hset: ∀j,(listed.setIfInBounds i true).getD j false=true->listed.getD j false=true\/j=i:=fun j hj=>by
    by_cases e:j=i
    ·exact .inr e
    ·rw[getD_set_ne false (fun h=>e h.symm)]at hj;exact .inl hj
   have hself: (listed.setIfInBounds i true).getD i false=true:=by simp[hs,hin]
   refine ih (listed.setIfInBounds i true) σ' a' w' m' β' ν' (by simpa using hs) ?_ ?_ (fun j k hj hk=> ?_) k1 (fun en hen hj hg=>k2 en hen (hset _ hj) hg)
   ·rw[Lh hs hir,List.length_erase_of_mem hir,hl];rfl
   ·rw[Lh hs hir];exact g2
   ·rcases hset j hj with h | h
    ·exact getD_set_true (hdown j k h hk)
    ·rw[h]at hk;exact getD_set_true (hpre k hk)
def Qaf [Dr]: (List.range xs.length).map (RB xs)=xs:=by
 apply TW;intro i;rw[Xm];by_cases hi:i < xs.length
 ·rw[SN hi,GI hi];rfl
 ·rw[QT (by simp;omega),QT (by omega)];rfl
def I1 [Dr] {Γ:Z1} (hmix:P.follows .mixedOrders=true) (hE:Xu P num) (hK:KOk P num Γ K) (hG:Γ.G w0 m0) (hGb:Γ.Gb<=w0.heap.size) (hT: ∀b,T b->Γ.Gb<=b) {σn:St} {id:Nat} {dr:Bool}
  (hok:LK P num N dr cops xs=true) (hI:Inv num N w0 m0 T β0 σ a w m β ν) (hr:Zz K xs σ=some σn) (hQ: ∀a' w' m' β' ν',Inv num N w0 m0 T β0 σn a' w' m' β' ν'->Q .normal a' w'):
  (Code.region id cops dr).wp P Q a w:=by
 cases dr
 ·simp only[LK,Zo,QC]at hok;refine wp_region ?_;rw[List.range_eq_range',<- PN hok];exact NS hE hK hG hGb hT hok hQ xs.length 0 σ a w m β ν (by omega) (by simpa using hr) hI (fun en _ hj _=>absurd hj (by omega))
 ·simp only[LK,QF,Qi]at hok;obtain⟨⟨h1,h2⟩,h3⟩:=hok;refine wp_region_any hmix ?_;have hlen:=PN h1;have hrem:rem xs.length (Array.replicate cops.size false)=List.range xs.length:=by
   unfold rem;rw[List.filter_eq_self];intro x hx;rw[TY]at hx;simp[<- hlen,hx]
  have hno: ∀j,(Array.replicate cops.size false).getD j false=false:=fun j=>by
   rw[Tv];by_cases h:j < cops.size <;> simp[h]
  rw[<- hlen];have hno': ∀j,(Array.replicate xs.length false).getD j false=false:=by rw[hlen];exact hno
  rw[<- hlen]at hrem;exact F6 hE hK hG hGb hT h1 h2 h3 hQ xs.length _ σ a w.drew m β ν (by simp) (by rw[hrem];simp) (by rw[hrem,Qaf];exact hr)
   (fun j k hj _=>by rw[hno']at hj;cases hj) hI.drew (fun en _ hj _=>by have h0:=hno' en.j;simp only[h0]at hj;cases hj)
def Ye (P:Program) (num:Z3) (N:Nat):AC->Code->Bool
 | .bad,_=>true
 | .skip,.skip=>true
 | .reg dr xs,.region _ ops dr2=>decide (dr=dr2) && LK P num N dr ops xs
 | .seq a b,.seq c d=>Ye P num N a c && Ye P num N b d
 | .cond c a b,.cond c2 a2 b2=>okO num c c2 && Ye P num N a a2 && Ye P num N b b2
 | .block id c,.block id2 c2=>decide (id=id2) && Ye P num N c c2
 | .loop c,.loop c2=>Ye P num N c c2
 | .exit id,.exit id2=>decide (id=id2)
 | .ret,.ret=>true
 | _,_=>false
def Ex.toExit:Ex->Exit
 | .normal=> .normal
 | .exit i=> .exit i
 | .ret=> .ret
def XS [Dr] {Γ:Z1} (hmix:P.follows .mixedOrders=true) (hE:Xu P num) (hK:KOk P num Γ K) (hG:Γ.G w0 m0) (hGb:Γ.Gb<=w0.heap.size) (hT: ∀b,T b->Γ.Gb<=b) {n:Nat}:
  ∀(c:AC) (cc:Code),Ye P num N c cc=true->∀(σ:St) (a:Act) (w:World) (m:Q9) (β:Ym) (ν:Own) (ex:Ex) (σ':St) (Q:Exit->Act->World->Prop),
   Q7 K n c σ=some (ex,σ')->Inv num N w0 m0 T β0 σ a w m β ν->(∀a' w' m' β' ν',Inv num N w0 m0 T β0 σ' a' w' m' β' ν'->Q ex.toExit a' w')->cc.wp P Q a w:=by
 intro c
 induction c with
 | bad=>
  intro cc hok σ a w m β ν ex σ' Q hr;simp[Q7]at hr
 | skip=>
  intro cc hok σ a w m β ν ex σ' Q hr hI hQ;cases cc <;> simp[Ye]at hok;simp only[Q7,Qs,QB]at hr;obtain⟨rfl,rfl⟩:=hr;exact wp_skip (hQ a w m β ν hI)
 | reg dr xs=>
  intro cc hok σ a w m β ν ex σ' Q hr hI hQ;cases cc <;> simp only[Ye,Qi,Qm]at hok <;> try (cases hok;done)
  obtain⟨rfl,hok⟩:=hok;simp only[Q7]at hr;cases h1:Zz K xs σ with
  | none=>rw[h1]at hr;cases hr
  | some s=>
   rw[h1]at hr;simp only[QA,Qs,QB]at hr;obtain⟨rfl,rfl⟩:=hr;exact I1 hmix hE hK hG hGb hT hok hI h1 hQ
 | seq x y ihx ihy=>
  intro cc hok σ a w m β ν ex σ' Q hr hI hQ;cases cc <;> simp only[Ye,Qi]at hok <;> try (cases hok;done)
  refine wp_seq ?_;simp only[Q7]at hr;split at hr
  ·rename_i s h1;refine ihx _ hok.1 σ a w m β ν .normal s _ h1 hI fun a' w' m' β' ν' k=> ?_;exact ihy _ hok.2 s a' w' m' β' ν' ex σ' Q hr k hQ
  ·rename_i hne;refine ihx _ hok.1 σ a w m β ν ex σ' _ hr hI fun a' w' m' β' ν' k=> ?_;cases ex
   ·exact absurd hr (hne σ')
   ·exact hQ a' w' m' β' ν' k
   ·exact hQ a' w' m' β' ν' k
 | cond c x y ihx ihy=>
  intro cc hok σ a w m β ν ex σ' Q hr hI hQ;cases cc <;> simp only[Ye,Qi]at hok <;> try (cases hok;done)
  obtain⟨⟨h0,h1⟩,h2⟩:=hok;simp only[Q7]at hr;split at hr
  ·rename_i hv;have g:=(hI.val h0 (by rw[hv];rfl)).1;rw[hv]at g;simp only[Qa]at g;exact wp_cond_true g (ihx _ h1 σ a w m β ν ex σ' Q hr hI hQ)
  ·rename_i hv;have g:=(hI.val h0 (by rw[hv];rfl)).1;rw[hv]at g;simp only[Qa]at g;exact wp_cond_false g (ihy _ h2 σ a w m β ν ex σ' Q hr hI hQ)
  ·cases hr
 | block id x ihx=>
  intro cc hok σ a w m β ν ex σ' Q hr hI hQ;cases cc <;> simp only[Ye,Qi,Qm]at hok <;> try (cases hok;done)
  obtain⟨rfl,hok⟩:=hok;refine wp_block ?_;simp only[Q7]at hr;split at hr
  ·rename_i i s h1;simp only[Qs,QB]at hr;obtain⟨rfl,rfl⟩:=hr;refine ihx _ hok σ a w m β ν (.exit i) s _ h1 hI fun a' w' m' β' ν' k=> ?_;have hq:=hQ a' w' m' β' ν' k;simp only[Ex.toExit,Exit.inBlock];split
   ·rename_i e;rw[Qh e]at hq;exact hq
   ·rename_i e;rw[Qe e]at hq;exact hq
  ·rename_i hne;refine ihx _ hok σ a w m β ν ex σ' _ hr hI fun a' w' m' β' ν' k=> ?_;have hq:=hQ a' w' m' β' ν' k;cases ex
   ·exact hq
   ·exact absurd hr (hne _ _)
   ·exact hq
 | loop x ihx=>
  intro cc hok σ a w m β ν ex σ' Q hr hI hQ;cases cc <;> simp only[Ye]at hok <;> try (cases hok;done)
  rename_i c2;simp only[Q7]at hr;refine wp_loop_rounds n ?_;have key: ∀(k:Nat) (σ:St) (a:Act) (w:World) (m:Q9) (β:Ym) (ν:Own),VB (Q7 K n x) k σ=some (ex,σ')->Inv num N w0 m0 T β0 σ a w m β ν->Code.rounds P c2 Q k a w:=by
   intro k
   induction k with
   | zero=>intro σ a w m β ν h;simp[VB]at h
   | succ k ih=>
    intro σ a w m β ν h hI;rw[rounds_succ];simp only[VB]at h;split at h
    ·rename_i s h1;refine ihx _ hok σ a w m β ν .normal s _ h1 hI fun a' w' m' β' ν' k2=> ?_;exact ih s a' w' m' β' ν' h k2
    ·rename_i hne;refine ihx _ hok σ a w m β ν ex σ' _ h hI fun a' w' m' β' ν' k2=> ?_;cases ex
     ·exact absurd h (hne σ')
     ·exact hQ a' w' m' β' ν' k2
     ·exact hQ a' w' m' β' ν' k2
  exact key n σ a w m β ν hr hI
 | exit id=>
  intro cc hok σ a w m β ν ex σ' Q hr hI hQ;cases cc <;> simp only[Ye,Qm]at hok <;> try (cases hok;done)
  subst hok;simp only[Q7,Qs,QB]at hr;obtain⟨rfl,rfl⟩:=hr;exact wp_exit (hQ a w m β ν hI)
 | ret=>
  intro cc hok σ a w m β ν ex σ' Q hr hI hQ;cases cc <;> simp[Ye]at hok;simp only[Q7,Qs,QB]at hr;obtain⟨rfl,rfl⟩:=hr;exact wp_ret (hQ a w m β ν hI)
end
end Go.Am
namespace Go.Am
def YH (P:Program):List To->List ResultVar->Bool
 | [],[]=>true
 | .tmp t:: rs,.tmp t2:: vs=>decide (t=t2) && YH P rs vs
 | .cell t sz ag:: rs,.cell t2 ty:: vs=>decide (t=t2) && Zv P ty sz && YX P ty ag && YH P rs vs
 | .own t:: rs,.tmp t2:: vs=>decide (t=t2) && YH P rs vs
 | _,_=>false
def FV (P:Program) (num:Z3) (f:Q3) (fn:Func):Bool:=
 decide (f.ntmps=fn.ntmps) && decide (f.nparams<=f.ntmps) && YH P f.res fn.results.toList && (match fn.body with
  | some c=>Ye P num f.ntmps f.body c
  | none=>false)
def XI [Dr] (P:Program) (num:Z3) (Γ:Z1) (h:Qf->Qd->Option (AV×Qd)) (g:Nat):Prop:=
 ∀(args:Qf) (bs:Qd) (r:AV) (bs':Qd),h args bs=some (r,bs')->Yw args=true->
  ∀(w:World) (m:Q9) (β:Ym) (ν:Own) (vs:QW),Γ.G w m->Γ.Gb<=w.heap.size->vs.size=args.length->
   (∀(i:Nat) (c:AV),args[i]? =some c->∃u,vs[i]? =some u/\Qa num β w m c u)->Tu num β w m ν bs->
   (∀b p,ν b=some p->b < w.heap.size/\Γ.Gb<=b/\p.isG=true)->
   Calls P g vs w (VQ num β bs' r w m ν)
def Co [Dr] (P:Program) (num:Z3) (Γ:Z1) (h:Qf->Xh) (g:Nat):Prop:=
 ∀(args:Qf) (r:AV),h args=some r->Yw args=true->∀(w:World) (m:Q9) (β:Ym) (vs:QW),Γ.G w m->Γ.Gb<=w.heap.size->vs.size=args.length->
  (∀(i:Nat) (c:AV),args[i]? =some c->∃u,vs[i]? =some u/\Qa num β w m c u)->
  Calls P g vs w fun e w'=>∃v m' ν',e= .returned v/\Zm (fun _=>False) w m w' m'/\r.ok=true/\Qa num β w' m' r v/\Q6 w' m' ν' .f r v/\∀b p,ν' b=some p->b < w'.heap.size/\w.heap.size<=b/\p= .f
def ZG (h:Qf->Xh):Qf->Qd->Option (AV×Qd):=fun args bs=>(h args).map fun r=>(r,bs)
structure N5 [Dr] (P:Program) (num:Nat->Option Nat) (Γ:Z1) (tb:Nat->Option AFn):Prop where
 mix:P.follows .mixedOrders=true
 nms: ∀k g,P.globalNamed (PV k)=some g->Γ.nm k g
 enters:Xu P num
 code: ∀(f g:Nat) (fn:Q3),num f=some g->tb f=some (.code fn)->∃F,P.funcs[g]? =some F/\FV P num fn F=true
 orc: ∀(f g:Nat) (h:List AV->List (List AV)->Option (AV×List (List AV))),num f=some g->tb f=some (.orc h)->XI P num Γ h g
section
variable {P:Program} {num:Nat->Option Nat} {β:List Blk} {w w':World} {m:Nat->Nat} {ν:Own} {N:Nat} {w0:World} {m0:Nat->Nat} {T:Nat->Prop} {β0:List Blk} {σ:St} {a:Act} {tb:Nat->Option AFn}
def F7:List To->Nat->Bool
 | [.tmp t],n=>decide (t=n)
 | .own t:: _,n=>decide (t=n)
 | _,_=>false
def YA (rs:List To) (ν:Own):Own:=fun b=>match ν b with
 | some (.s n)=>if F7 rs n then some .f else none
 | some p=>if p.isG then some p else none
 | none=>none
def Wf:=@Bool.and_true
def SC [Dr] (hI:Inv num N w0 m0 T β0 σ a w m β ν) {r:To} {rv:ResultVar} {v:AV} (ho:YH P [r] [rv]=true) (hr:Wi σ.env r=some v):
  ∃u,(match rv with
   | .tmp t=>(pure (a.tmps.getD t undef):Sem Value)
   | .cell t ty=>do loadVar ty (<- asAddr (a.tmps.getD t undef))).run P w= .ok u w/\v.ok=true/\Qa num β w m v u/\Q6 w m (YA [r] ν) .f v u:=by
 cases r with
 | tmp t=>
  cases rv with
  | cell t2 ty=>simp[YH]at ho
  | tmp t2=>
   simp only[YH,Wf,Qm]at ho;subst ho;simp only[Wi]at hr;split at hr
   ·rename_i hk;injection hr with hr
    subst hr;obtain⟨_,h2⟩:=hI.at_ (n:=t) (fun e=>by rw[e]at hk;cases hk);have h3:=hI.slots t _ h2;rw[QD hk]at h3;refine⟨a.tmps.getD t undef,rfl,hk,h3.1,?_⟩;exact YV (θ:=fun _=> .f) (fun b hb=>⟨rfl,rfl,by unfold YA;rw[hb];simp[F7]⟩) h3.2
   ·cases hr
 | own t=>
  cases rv with
  | cell t2 ty=>simp[YH]at ho
  | tmp t2=>
   simp only[YH,Wf,Qm]at ho;subst ho;simp only[Wi]at hr;split at hr
   ·rename_i sz xs hv;injection hr with hr
    subst hr;obtain⟨_,h2⟩:=hI.at_ (n:=t) (fun e=>by rw[e]at hv;cases hv);have h3:=hI.slots t _ h2;rw[hv,QD rfl]at h3;refine⟨a.tmps.getD t undef,rfl,rfl,h3.1,?_⟩;exact YV (θ:=fun _=> .f) (fun b hb=>⟨rfl,rfl,by unfold YA;rw[hb];simp[F7]⟩) h3.2
   ·cases hr
 | cell t sz ag=>
  cases rv with
  | tmp t2=>simp[YH]at ho
  | cell t2 ty=>
   simp only[YH,Wf,Qi,Qm]at ho;obtain⟨⟨rfl,h1⟩,h2⟩:=ho;simp only[Wi]at hr;split at hr
   ·rename_i cs hcs;obtain⟨b,cur,e,_,hq,hb,hz,hc⟩:=hI.box_at (q:=t) (off:=0) hcs (.inr ⟨rfl,rfl⟩);obtain⟨u,g1,g2,g3,g4⟩:=Xt (w:=w) (num:=num) (β:=β) (m:=m) (ν:=YA [.cell t sz ag] ν) (o:=0) (b:=b) h1 h2 hr (fun i c hi=>by
     obtain⟨u,k1,k2,k3,_⟩:=hc i c hi;exact⟨u,by rw[QP,cell_of_row w b i cur e (0,0) hb];exact k1,k2,k3⟩)
    have hq2:a.tmps.getD t undef= .pointer (some ⟨b,0,none⟩):=hq;refine⟨u,?_,g2,g3,g4 _⟩;simp only[hq2,asAddr,Sem.run_bind,Sem.run_pure,Result.andThen_ok];exact g1
   ·cases hr
def Ur [Dr] (hI:Inv num N w0 m0 T β0 σ a w m β ν): ∀{rs:List To} {rvs:List ResultVar} {vs:Qf},YH P rs rvs=true->YB σ.env rs=some vs->
  ∃us:Q8,(rvs.mapM fun(rv:ResultVar)=>(match rv with
   | .tmp t=>(pure (a.tmps.getD t undef):Sem Value)
   | .cell t ty=>do loadVar ty (<- asAddr (a.tmps.getD t undef)))).run P w= .ok us w/\us.length=vs.length/\∀(i:Nat) (c:AV),vs[i]? =some c->∃u,us[i]? =some u/\c.ok=true/\Qa num β w m c u
 | [],[],vs,_,hr=>by
  simp only[YB,Qs]at hr;subst hr;exact⟨[],by simp,rfl,fun i c h=>by simp at h⟩
 | r:: rs,rv:: rvs,vs,ho,hr=>by
  simp only[YB]at hr;split at hr
  ·rename_i v vs2 h1 h2;injection hr with hr
   subst hr;have ho2:YH P [r] [rv]=true/\YH P rs rvs=true:=by
    cases r <;> cases rv <;> simp only[YH,Qi,Wf,Zo]at ho ⊢ <;> first | exact ho | exact ho.elim
   obtain⟨u,g1,g2,g3,_⟩:=SC (P:=P) hI ho2.1 h1;obtain⟨us,k1,k2,k3⟩:=Ur hI ho2.2 h2;refine⟨u:: us,?_,by simp[k2],fun i c hc=> ?_⟩
   ·rw[Nn];simp only[Sem.run_bind,g1,Result.andThen_ok,k1,Sem.run_pure]
   ·cases i with
    | zero=>simp at hc;subst hc;exact⟨u,rfl,g2,g3⟩
    | succ i=>simpa using k3 i c (by simpa using hc)
  ·cases hr
 | [],_:: _,_,h,_=>by simp[YH]at h
 | r:: _,[],_,h,_=>by cases r <;> simp[YH]at h
def UU [Dr] {Γ:Z1} {h:Qf->Xh} {g:Nat} (hP:Co P num Γ h g):XI P num Γ (ZG h) g:=by
 intro args bs r bs' hc hok w m β ν vs hG hGb hvs hrep hbox hlt;unfold ZG at hc;cases hh:h args with
 | none=>rw[hh]at hc;cases hc
 | some r2=>
  rw[hh]at hc;simp only[QA,Qs,QB]at hc;obtain⟨rfl,rfl⟩:=hc;refine(hP args r2 hh hok w m β vs hG hGb hvs hrep).mono fun e w' he=> ?_;obtain⟨v,m',ν',rfl,hS,h1,h2,h3,h4⟩:=he;have hjoin: ∀b p,ν b=some p->(fun b=>match ν b with
    | some p=>some p
    | none=>ν' b:Own) b=some p:=fun b p hb=>by simp only[hb]
  refine⟨v,m',β,(fun b=>match ν b with
    | some p=>some p
    | none=>ν' b),rfl,Ge.refl β,⟨hS.os,hS.tape,hS.output,hS.size,fun b hb _=>hS.same b hb id,hS.le,hS.drawn⟩,⟨hbox.1,fun i cs b hb1 hb2 hne=> ?_⟩,h1,h2,?_,fun b p hp=> ?_⟩
  ·exact YU (Ge.refl β) hS.le (fun x hx=>⟨(hS.same x (hlt x _ hx).1 id).1,(hS.same x (hlt x _ hx).1 id).2,hjoin x _ hx⟩)
    (fun j x hx=>⟨(hS.same x (hlt x _ hx).1 id).1,(hS.same x (hlt x _ hx).1 id).2,hjoin x _ hx⟩) (hbox.2 i cs b hb1 hb2 hne)
  ·refine YV (θ:=id) (fun b hb=>⟨rfl,rfl,?_⟩) h3;have:=h4 b _ hb;cases hν:ν b with
   | none=>simp only;exact hb
   | some q=>have:=(hlt b q hν).1;omega
  ·simp only at hp;split at hp
   ·rename_i q hq;injection hp with hp
    subst hp;have:=hlt b q hq;exact⟨TV this.1 hS.size,.inr ⟨q,hq⟩,.inl this.2.2⟩
   ·have:=h4 b p hp;exact⟨this.1,.inl this.2.1,.inr this.2.2⟩
def WV:=@List.getD_eq_getElem?_getD
def Ll [Dr] {Γ:Z1} {f:Q3} {F:Func} {args:Qf} {bs:Qd} {vs:QW} (hnp:args.length=f.nparams) (hnt:f.ntmps=F.ntmps) (hpt:f.nparams<=f.ntmps) (hok:Yw args=true)
  (hvs:vs.size=args.length) (hrep: ∀(i:Nat) (c:AV),args[i]? =some c->∃u,vs[i]? =some u/\Qa num β w m c u) (hbox:Tu num β w m ν bs)
  (hlt: ∀b p,ν b=some p->b < w.heap.size/\Γ.Gb<=b/\p.isG=true):
  Inv num f.ntmps w m (fun b=>∃p,ν b=some p) β {env:=Ys args,bs} {tmps:=vs ++ Array.replicate (F.ntmps - vs.size) undef,defers:=[]} w m β ν:=by
 refine⟨rfl,by simp;omega,fun t ht=> ?_,fun t v hv=> ?_,hbox.1,hbox.2,fun b p hb=>⟨(hlt b p hb).1,.inr ⟨p,hb⟩⟩,Zm.refl _ w m,Ge.refl β⟩
 ·simp only[Ys];rw[WV,QT (by omega)];rfl
 ·simp only[Ys];rw[WV];cases hat:args[t]? with
  | none=>exact trivial
  | some c=>
   obtain⟨u,g1,g2⟩:=hrep t c hat;have hck:c.ok=true:=by
    unfold Yw at hok;rw[YF]at hok;exact hok c (WW hat)
   have hlt2:t < vs.size:=by
    rcases QL t vs.size with h | h
    ·exact h
    ·rw[XN h]at g1;cases g1
   rw[Vj hlt2,g1]at hv;injection hv with hv
   subst hv;simp only[Ua];exact(QD (by rw[Se];exact hck)).2 ⟨by rw[QE];exact g2,ZK _ _ _⟩
def J3 [Dr]: ∀(xs ys:Qd),Yc xs ys=true->∀(i:Nat) (x y:Qf),xs[i]? =some x->ys[i]? =some y->x=y\/QV y=true
 | [],_,_,i,x,y,h,_=>by simp at h
 | a:: aq,[],h,_,_,_,_,_=>by simp[Yc]at h
 | a:: aq,b:: bs,h,i,x,y,hx,hy=>by
  simp only[Yc,Qi,XQ]at h;cases i with
  | zero=>
   simp at hx hy;subst hx hy;rcases h.1 with h1 | h1
   ·exact .inl (XG _ _ h1)
   ·exact .inr h1
  | succ i=>exact J3 aq bs h.2 i x y (by simpa using hx) (by simpa using hy)
def PA [Dr] {f:Q3} {F:Func} {bs bs':Qd} {r:AV} (hres:YH P f.res F.results.toList=true) (hbox:Tu num β w m ν bs) (σ':St) (hfin:Yj f bs σ'=some (r,bs'))
  (a':Act) (w':World) (m':Q9) (β':Ym) (ν':Own) (hI:Inv num f.ntmps w m (fun b=>∃p,ν b=some p) β σ' a' w' m' β' ν'):
  a'.defers=[]/\∃v,(results F a'.tmps).run P w'= .ok v w'/\VQ num β bs' r w m ν (.returned v) w':=by
 refine⟨hI.defers,?_⟩;have hboxes: ∀rs,Yc bs (σ'.bs.take bs.length)=true->Tu num β w' m' (YA rs ν') (σ'.bs.take bs.length):=fun rs hck=>by
  have hge:=hI.ge;have hle:bs.length<=σ'.bs.length:=by
   rw[<- hI.blen];rcases QL β'.length bs.length with h | h
   ·exfalso;have h0:β'.length < β.length:=by rw[hbox.1];exact h
    have:=hge β'.length _ (Zr h0);rw[QT (Za _)]at this;cases this
   ·exact h
  refine⟨by rw[YO,hbox.1];omega,fun i cs b h1 h2 hne=> ?_⟩
  ·have hck2:=J3 _ _ hck i;have h10:=h1;rw[Ws]at h1;split at h1
   ·have hb2:=hI.boxes i cs b h1 (hge i b h2) hne;obtain⟨x,hx⟩: ∃x,bs[i]? =some x:=⟨_,Zr (by assumption)⟩;have hb3:=hck2 x cs hx h10;rw[UZ]at hb3;have hent:x=cs->Sz num β w m ν i b cs:=fun e=>by subst e;exact hbox.2 i x b hx h2 hne
    refine⟨fun hmp=> ?_,fun hmp=> ?_,hb2.2.2⟩
    ·obtain⟨cur,e,q1,q2,q3,q4,q5⟩:=hb2.1 hmp;refine⟨cur,e,q1,q2,q3,by unfold YA;rw[q4];rfl,fun j c hc=> ?_⟩;obtain⟨u,p1,p2,p3,p4⟩:=q5 j c hc;refine⟨u,p1,p2,?_,YV (θ:=id) (fun x hx=>⟨rfl,rfl,by unfold YA;rw[hx];rfl⟩) p4⟩;rcases hb3 with e | hb3
     ·obtain⟨_,_,_,_,_,_,r5⟩:=(hent e).1 hmp;obtain⟨u0,_,_,r3,_⟩:=r5 j c hc;exact U8 hge c u0 u r3 p3
     ·exact Wm c u (hb3 j c hc) p3
    ·obtain⟨es,clock,xs,q1,q2,q3,q4,q5,q6⟩:=hb2.2.1 hmp;refine⟨es,clock,xs,q1,q2,by unfold YA;rw[q3];rfl,q4,q5,fun j c hc=> ?_⟩;obtain⟨e2,k,v,p1,p2,p3,p4⟩:=q6 j c hc;rcases hb3 with e | hb3
     ·obtain⟨_,_,xs0,_,_,_,r4,_,r6⟩:=(hent e).2.1 hmp;have hxs:xs0=xs:=by rw[q4]at r4;injection r4 with _ r4;exact r4.symm
      obtain⟨e3,k3,v3,_,g2,g3,g4⟩:=r6 j c (by rw[hxs];exact hc);rw[p2]at g2;injection g2 with g2
      injection g2 with g5 g2
      injection g2 with g6
      subst g5 g6;exact⟨e2,k,v,p1,p2,U8 hge k _ _ g3 p3,U8 hge v _ _ g4 p4⟩
     ·have hf:=hb3 (j+1) c (by rw[q4];simpa using hc);rw[p2]at hf;simp only[AV.gpfree,QV,Wf,Qi]at hf;exact⟨e2,k,v,p1,p2,Wm k _ hf.1 p3,Wm v _ hf.2 p4⟩
   ·cases h1
 have hboxesAll: ∀rs,Tu num β' w' m' (YA rs ν') σ'.bs:=fun rs=>by
  refine⟨hI.blen,fun i cs b h1 h2 hne=> ?_⟩;exact YU (Ge.refl β') (Le.refl w' m') (fun x hx=>⟨rfl,rfl,by unfold YA;rw[hx];rfl⟩) (fun _ x hx=>⟨rfl,rfl,by unfold YA;rw[hx];rfl⟩) (hI.boxes i cs b h1 h2 hne)
 have hown: ∀rs b p,YA rs ν' b=some p->b < w'.heap.size/\(w.heap.size<=b\/∃q,ν b=some q)/\(p.isG=true\/p= .f):=fun rs b p hp=>by
  unfold YA at hp;split at hp
  ·rename_i n hn;split at hp
   ·injection hp with hp
    subst hp;have:=hI.lt b _ hn;exact⟨this.1,this.2,.inr rfl⟩
   ·cases hp
  ·rename_i q hq;split at hp
   ·rename_i hg;injection hp with hp
    subst hp;have:=hI.lt b _ hq;exact⟨this.1,this.2,.inl hg⟩
   ·cases hp
  ·cases hp
 have hrun: ∀us:Q8,(F.results.toList.mapM fun(rv:ResultVar)=>(match rv with
   | .tmp t=>(pure (a'.tmps.getD t undef):Sem Value)
   | .cell t ty=>do loadVar ty (<- asAddr (a'.tmps.getD t undef)))).run P w'= .ok us w'->
   (results F a'.tmps).run P w'= .ok (if h:us.toArray.size=1 then us.toArray[0]else .tuple us.toArray) w':=fun us hus=>by
  unfold results;rw[Ct];simp only[Sem.run_bind,Sem.run_map,Sem.run_pure];exact Xb (fun z:Result Q8=>(z.andThen fun a w'=> .ok a.toArray w').andThen (fun(a:QW) w'=> .ok (if h:a.size=1 then a[0]else .tuple a) w')) hus
 unfold Yj at hfin;split at hfin
 ·rename_i hown1;obtain⟨t0,rs0,hf0⟩: ∃t0 rs0,f.res= .own t0:: rs0:=by
   cases hfr:f.res with
   | nil=>rw[hfr]at hown1;cases hown1
   | cons r0 rs=>
    cases r0 with
    | own t0=>exact⟨t0,rs,rfl⟩
    | tmp t=>rw[hfr]at hown1;cases hown1
    | cell t sz ag=>rw[hfr]at hown1;cases hown1
  cases hv0:YB σ'.env f.res with
  | none=>rw[hv0]at hfin;cases hfin
  | some vs0=>
   rw[hv0]at hfin;obtain⟨us,k1,k2,k3⟩:=Ur hI hres hv0;rw[hf0]at hv0 hres;simp only[YB]at hv0;split at hv0
   case h_2=>cases hv0
   rename_i x1 x2 e1 e2;injection hv0 with hv0
   subst hv0;obtain⟨rv0,rvs0,hrv0⟩: ∃rv0 rvs0,F.results.toList=rv0:: rvs0:=by
    cases hfr:F.results.toList with
    | nil=>rw[hfr]at hres;simp[YH]at hres
    | cons rv0 rs=>exact⟨_,_,rfl⟩
   have hres1:YH P [.own t0] [rv0]=true:=by
    rw[hrv0]at hres;cases rv0 <;> simp only[YH,Qi,Wf,Zo]at hres ⊢ <;> first | exact hres.1 | exact hres.elim
   obtain⟨u,g1,g2,g3,g4⟩:=SC (P:=P) hI hres1 e1;split at hfin
   case h_2=>cases hfin
   rename_i sz xs v2 vs hx;injection hx with hx
   injection hx with hx1 hx2
   subst hx1 hx2;obtain⟨us0,hus⟩: ∃us0,us=u:: us0:=by
    rw[hrv0]at k1;simp only[Nn,Sem.run_bind,g1,Result.andThen_ok]at k1;cases hm: (rvs0.mapM fun(rv:ResultVar)=>(match rv with
     | .tmp t=>(pure (a'.tmps.getD t undef):Sem Value)
     | .cell t ty=>do loadVar ty (<- asAddr (a'.tmps.getD t undef)))).run P w' with
    | ok us0 w2=>
     rw[hm]at k1;simp only[Result.andThen_ok,Sem.run_pure]at k1;injection k1 with k1
     exact⟨us0,k1.symm⟩
    | _=>rw[hm]at k1;simp[Result.andThen]at k1
   have hsz: ¬us.toArray.size=1:=by
    simp only[Y4,k2];simp
   have hret: (results F a'.tmps).run P w'= .ok (.tuple us.toArray) w':=by have:=hrun us k1;rwa[dif_neg hsz]at this
   have hrep:Qa num β' w' m' (.otup sz xs ((v2:: vs).map AV.strip)) (.tuple us.toArray):=by
    simp only[Qa]at g3 ⊢;refine⟨us.toArray,rfl,by simp[k2],⟨u,by simp[hus],g3⟩,?_⟩;rw[TQ];intro i c hci;obtain⟨d,hd,rfl⟩:=Q0 hci;obtain⟨x,q1,_,q3⟩:=k3 (i+1) d (by simpa using hd);exact⟨x,by rw[show 0+1+i=i+1 by omega];simpa using q1,by rw[QE];exact q3⟩
   have hownT:Q6 w' m' (YA (.own t0:: rs0) ν') .f (.otup sz xs ((v2:: vs).map AV.strip)) (.tuple us.toArray):=⟨us.toArray,u,rfl,by simp[hus],g4⟩;split at hfin
   ·simp only[Qs,QB]at hfin;obtain⟨rfl,rfl⟩:=hfin;exact⟨.tuple us.toArray,hret,.tuple us.toArray,m',β',YA (.own t0:: rs0) ν',rfl,hI.ge,hI.step,hboxesAll _,rfl,hrep,hownT,hown _⟩
   ·split at hfin
    ·rename_i hgp;simp only[Qs,QB]at hfin;obtain⟨rfl,rfl⟩:=hfin;have hg2: (AV.otup sz xs ((v2:: vs).map AV.strip)).gpfree=true:=by
      have:=hgp.1;simp only[AV.gpfree,Qi]at this ⊢;exact⟨this.1,Lv this.2⟩
     exact⟨.tuple us.toArray,hret,.tuple us.toArray,m',β,YA (.own t0:: rs0) ν',rfl,Ge.refl β,hI.step,hboxes _ hgp.2,rfl,Wm _ _ hg2 hrep,hownT,hown _⟩
    ·cases hfin
 split at hfin
 ·rename_i v0 hv0;obtain⟨us,k1,k2,k3⟩:=Ur hI hres hv0;obtain⟨r0,hr0⟩: ∃r0,f.res=[r0]:=by
   cases hfr:f.res with
   | nil=>rw[hfr]at hv0;simp[YB]at hv0
   | cons r0 rs=>
    cases rs with
    | nil=>exact⟨r0,rfl⟩
    | cons r1 rs=>
     rw[hfr]at hv0;simp only[YB]at hv0;split at hv0
     ·rename_i x1 x2 e1 e2;split at e2
      ·injection e2 with e2
       subst e2;simp at hv0
      ·cases e2
     ·cases hv0
  obtain⟨rv0,hrv0⟩: ∃rv0,F.results.toList=[rv0]:=by
   cases hfr:F.results.toList with
   | nil=>rw[hfr,hr0]at hres;cases r0 <;> simp[YH]at hres
   | cons rv0 rs=>
    cases rs with
    | nil=>exact⟨rv0,rfl⟩
    | cons rv1 rs=>rw[hfr,hr0]at hres;cases r0 <;> cases rv0 <;> simp[YH]at hres
  rw[hr0,hrv0]at hres;rw[hr0]at hv0;simp only[YB]at hv0;split at hv0
  ·rename_i x1 x2 e1 e2;injection e2 with e2
   subst e2;injection hv0 with hv0
   injection hv0 with hv0 _
   subst hv0;obtain⟨u,g1,g2,g3,g4⟩:=SC (P:=P) hI hres e1;have hus:us=[u]:=by
    rw[hrv0]at k1;simp only[Nn,List.mapM_nil,Sem.run_bind,g1,Result.andThen_ok,Sem.run_pure]at k1;injection k1 with k1
    exact k1.symm
   subst hus;split at hfin
   ·simp only[Qs,QB]at hfin;obtain⟨rfl,rfl⟩:=hfin;exact⟨u,hrun [u] k1,u,m',β',YA [r0] ν',rfl,hI.ge,hI.step,hboxesAll [r0],g2,g3,g4,hown [r0]⟩
   ·split at hfin
    ·rename_i hgp;simp only[Qs,QB]at hfin;obtain⟨rfl,rfl⟩:=hfin;exact⟨u,hrun [u] k1,u,m',β,YA [r0] ν',rfl,Ge.refl β,hI.step,hboxes [r0] hgp.2,g2,Wm _ _ hgp.1 g3,g4,hown [r0]⟩
    ·cases hfin
  ·cases hv0
 ·rename_i vs0 hv0 hne;obtain⟨us,k1,k2,k3⟩:=Ur hI hres hne;have hsz: ¬us.toArray.size=1:=by
   simp only[Y4,k2];intro h1
   match vs0,h1 with
   | [v1],_=>exact hv0 v1 rfl
  have hret: (results F a'.tmps).run P w'= .ok (.tuple us.toArray) w':=by have:=hrun us k1;rwa[dif_neg hsz]at this
  split at hfin
  ·simp only[Qs,QB]at hfin;obtain⟨rfl,rfl⟩:=hfin;refine⟨.tuple us.toArray,hret,.tuple us.toArray,m',β',YA [] ν',rfl,hI.ge,hI.step,hboxesAll [],rfl,?_,trivial,hown []⟩;simp only[Qa];refine⟨us.toArray,rfl,by simp[k2],?_⟩;rw[TQ];intro i c hci;obtain⟨d,hd,rfl⟩:=Q0 hci;obtain⟨u,g1,_,g3⟩:=k3 i d hd;exact⟨u,by simpa using g1,by rw[QE];exact g3⟩
  ·split at hfin
   ·rename_i hgp;simp only[Qs,QB]at hfin;obtain⟨rfl,rfl⟩:=hfin;refine⟨.tuple us.toArray,hret,.tuple us.toArray,m',β,YA [] ν',rfl,Ge.refl β,hI.step,hboxes [] hgp.2,rfl,?_,trivial,hown []⟩;simp only[Qa];refine⟨us.toArray,rfl,by simp[k2],?_⟩;rw[TQ];intro i c hci;obtain⟨d,hd,rfl⟩:=Q0 hci;obtain⟨u,g1,_,g3⟩:=k3 i d hd;have hgp1:=hgp.1;rw[UZ]at hgp1;exact⟨u,by simpa using g1,by rw[QE];exact Wm d u (hgp1 i d hd) g3⟩
   ·cases hfin
 ·cases hfin
def SA [Dr] {Γ:Z1} (hF:N5 P num Γ tb): ∀n,KOk P num Γ (ZV tb n):=by
 intro n;refine⟨hF.nms,?_⟩
 induction n with
 | zero=>intro f g args bs r bs' _ h;simp[ZV]at h
 | succ n ih=>
  intro f g args bs r bs' hfg hc hok w m β ν vs hG hGb hvs hrep hbox hlt;simp only[ZV]at hc;split at hc
  ·cases hc
  ·rename_i h htb;exact hF.orc f g h hfg htb args bs r bs' hc hok w m β ν vs hG hGb hvs hrep hbox hlt
  ·rename_i fn htb;split at hc
   ·rename_i hnp;obtain⟨F,hFf,hokF⟩:=hF.code f g fn hfg htb;unfold FV at hokF;simp only[Qi,Qm]at hokF;obtain⟨⟨⟨hnt,hpt⟩,hres⟩,hbody⟩:=hokF;split at hbody
    ·rename_i cc hcc;have hInv:=Ll (ν:=ν) hnp hnt hpt hok hvs hrep hbox hlt;refine calls_of_wp hFf hcc ?_;split at hc
     ·rename_i σ' hrc;refine XS hF.mix hF.enters ⟨hF.nms,ih⟩ hG hGb (fun b hb=>by obtain⟨p,hp⟩:=hb;exact(hlt b p hp).2.1) fn.body cc hbody _ _ w m β ν .normal σ' _ hrc hInv fun a' w' m' β' ν' hI=> ?_;exact PA hres hbox σ' hc a' w' m' β' ν' hI
     ·rename_i σ' hrc;refine XS hF.mix hF.enters ⟨hF.nms,ih⟩ hG hGb (fun b hb=>by obtain⟨p,hp⟩:=hb;exact(hlt b p hp).2.1) fn.body cc hbody _ _ w m β ν .ret σ' _ hrc hInv fun a' w' m' β' ν' hI=> ?_;exact PA hres hbox σ' hc a' w' m' β' ν' hI
     ·cases hc
    ·cases hbody
   ·cases hc
end
#print axioms SA
end Go.Am
namespace Go.Am
def cl0 (sz:Nat):AC:= .reg false [⟨some 2,.mov (.c (.sl true sz [])),none⟩]
def cl1:AC:= .reg false [⟨some 3,.mov (.t 0),none⟩,⟨some 4,.isn false (.t 3),none⟩]
def cl2 (g:Bool) (sz:Nat):AC:= .reg false [⟨some 2,.mov (.c (if g then .gs 0 0 0 0 else .sl true sz [])),none⟩]
def cl3 (g:Bool) (bytes sz:Nat):AC:= .reg false [⟨some 5,.mksl sz [],none⟩,⟨some 6,.mov (.t 0),none⟩,
 ⟨some 7,if g then .appg bytes sz (.t 5) (.t 6)else .app bytes sz (.t 5) (.t 6),none⟩,⟨some 2,if g then .mov (.t 7)else .mvs 7,none⟩]
def Qg6:AC:= .reg false [⟨some 5,.zlit,none⟩,⟨some 6,.mov (.t 0),none⟩,⟨some 7,.appzz (.t 5) (.t 6),none⟩,⟨some 2,.mov (.t 7),none⟩]
def Pq (g e:Bool) (bytes sz:Nat):AC:=if g && e then Qg6 else cl3 g bytes sz
def UR (P:Program) (num:Z3) (g:Bool) (bytes sz:Nat) (F:Func):Bool:=
 decide (F.ntmps=8) && YH P [.tmp 2] F.results.toList && (match F.body with
  | some (.seq r0 (.seq (.seq r1 (.cond (.tmp 4) (.seq r2 .ret) .skip)) (.seq r3 .ret)))=>
   Ye P num 8 (cl0 sz) r0 && Ye P num 8 cl1 r1 && Ye P num 8 (cl2 g sz) r2 && (Ye P num 8 (Pq g true bytes sz) r3 && Ye P num 8 (Pq g false bytes sz) r3)
  | _=>false)
def Pr (g:Bool) (bytes sz:Nat) (ys:Qd) (bs:Qd):Option (AV×Qd):=
 if ys.length*bytes<=140737488355328 then
  (if g then(if ys.length=0 then some (.gs 0 0 0 0,bs)else if Yr ys then some (.gs bs.length 0 sz ys.length,bs ++ [ys.flatten.map AV.strip])else none)
   else some (.sl true sz ys,bs))
  else none
def WJ (g:Bool) (bytes sz:Nat):Qf->Qd->Option (AV×Qd)
 | [.sl _ s ys],bs=>if s=sz then Pr g bytes sz ys bs else none
 | _,_=>none
def VE:Q3:={nparams:=1,ntmps:=8,res:=[.tmp 2],body:= .skip,keep:=true}
def GO {K:ZJ} {g:Bool} {bytes sz:Nat} {o:Bool} {ys:Qd} {r:AV} {bs':Qd} (σ:St) (h0:σ.env 0= .sl o sz ys) (h:Pr g bytes sz ys σ.bs=some (r,bs')):
  ∃σ3,Q7 K 0 (.seq (Pq g ys.isEmpty bytes sz) .ret) σ=some (.ret,σ3)/\Yj VE [] σ3=some (r,bs'):=by
 unfold Pr at h;split at h
 ·rename_i hb;cases g
  ·simp only[Zo,QC,Qs,QB]at h;obtain⟨rfl,rfl⟩:=h;refine⟨_,by simp[Q7,Pq,cl3,Zz,Zw,Qg,Yq,ZS,upd,h0,val,AV.strip,AV.ok,hb];rfl,?_⟩;simp[Yj,YB,Wi,VE,upd,AV.ok]
  ·simp only[QF]at h;split at h
   ·rename_i hy;simp only[Qs,QB]at h;obtain⟨rfl,rfl⟩:=h;have hy2:ys=[]:=VK hy;subst hy2;refine⟨_,by simp[Q7,Pq,Qg6,Zz,Zw,Qg,ZS,upd,h0,val,AV.strip];rfl,?_⟩;simp[Yj,YB,Wi,VE,upd,AV.ok]
   ·rename_i hy;split at h
    ·rename_i hgp;simp only[Qs,QB]at h;obtain⟨rfl,rfl⟩:=h;have hy3:ys≠[]:=fun e=>hy (by rw[e];rfl);have hie:ys.isEmpty=false:=by cases ys <;> simp_all
     refine⟨_,by simp[Q7,Pq,hie,cl3,Zz,Zw,Qg,Yq,ZS,upd,h0,val,AV.strip,AV.ok,hb,hy3];rfl,?_⟩;simp[Yj,YB,Wi,VE,upd,AV.ok]
    ·cases h
 ·cases h
section
variable {P:Program} {num:Nat->Option Nat}
def Th [Dr] {Γ:Z1} (hnm: ∀k g,P.globalNamed (PV k)=some g->Γ.nm k g) (hmix:P.follows .mixedOrders=true) (hE:Xu P num) {g:Bool} {bytes sz id:Nat} {F:Func} (hFf:P.funcs[id]? =some F) (hok:UR P num g bytes sz F=true):
  XI P num Γ (WJ g bytes sz) id:=by
 intro args bs r bs' hc hokv w m β ν vs hG hGb hvs hrep hbox hlt;have hK:KOk P num Γ (fun _ _ _=>none):=⟨hnm,fun _ _ _ _ _ _ _ h=>by cases h⟩;have hT: ∀b,(∃p,ν b=some p)->Γ.Gb<=b:=fun b hb=>by obtain⟨p,hp⟩:=hb;exact(hlt b p hp).2.1
 unfold WJ at hc;split at hc
 ·rename_i _ o s ys;split at hc
  ·rename_i hcond;subst hcond;unfold UR at hok;simp only[Qi,Qm]at hok;obtain⟨⟨hnt,hres⟩,hbody⟩:=hok;split at hbody
   ·rename_i r0 r1 r2 r3 hcc;simp only[Qi]at hbody;obtain⟨⟨⟨k0,k1⟩,k2⟩,k3⟩:=hbody;have hInv:=Ll (num:=num) (f:=VE) (F:=F) (ν:=ν) (Γ:=Γ) rfl hnt.symm (show 1<=8 by omega) hokv hvs hrep hbox hlt;have hend:=PA (f:=VE) (F:=F) (r:=r) (bs':=bs') hres hbox;have hfin0: ∀σ' k,Yj VE k σ'=Yj VE [] σ':=fun σ' k=>by
     unfold Yj;split <;> rfl
    refine calls_of_wp hFf hcc ?_;refine wp_seq ?_;refine XS hmix hE hK hG hGb hT (n:=0) _ _ k0 _ _ w m β ν .normal _ _ (by simp[Q7,cl0,Zz,Zw,Qg,ZS,val,AV.ok];rfl) hInv fun a1 w1 m1 β1 ν1 hI1=> ?_;refine wp_seq (wp_seq ?_);cases ys with
    | nil=>
     refine XS hmix hE hK hG hGb hT (n:=0) _ _ k1 _ _ w1 m1 β1 ν1 .normal _ _ (by simp[Q7,cl1,Zz,Zw,Qg,ZS,val,AV.ok,upd,Ys,AV.strip];rfl) hI1 fun a2 w2 m2 β2 ν2 hI2=> ?_;have hb: ∃b,a2.eval (.tmp 4)= .bool b:=by
      obtain⟨_,h2⟩:=hI2.at_ (n:=4) (by simp[upd]);have h3:=hI2.slots 4 _ h2;simp only[upd]at h3;obtain⟨⟨b,h3⟩,_⟩:=h3;exact⟨b,h3⟩
     obtain⟨b,hb⟩:=hb;cases b
     ·refine wp_cond_false hb (wp_skip ?_);obtain⟨σ3,e1,e2⟩:=GO (K:=fun _ _ _=>none) (o:=false) (σ:={env:=upd (upd (upd (Ys [.sl o s []]) 2 (.sl true s [])) 3 (.sl false s [])) 4 .anyb,bs:=bs}) (by simp[upd,Ys,AV.strip]) hc;exact XS hmix hE hK hG hGb hT (n:=0) (.seq (Pq g _ bytes s) .ret) (.seq r3 .ret) (by simp[Ye,k3]) _ _ w2 m2 β2 ν2 .ret σ3 _ e1 hI2 fun a3 w3 m3 β3 ν3 hI3=>hend σ3 (by rw[hfin0];exact e2) a3 w3 m3 β3 ν3 hI3
     ·refine wp_cond_true hb (wp_seq ?_);refine XS hmix hE hK hG hGb hT (n:=0) _ _ k2 _ _ w2 m2 β2 ν2 .normal {env:=upd (upd (upd (upd (Ys [.sl o s []]) 2 (.sl true s [])) 3 (.sl false s [])) 4 .anyb) 2 (if g then .gs 0 0 0 0 else .sl true s []),bs:=bs} _
       (by cases g <;> simp[Q7,cl2,Zz,Zw,Qg,ZS,val,AV.ok]) hI2 fun a3 w3 m3 β3 ν3 hI3=> ?_
      refine wp_ret ?_;refine hend _ ?_ a3 w3 m3 β3 ν3 hI3;rw[hfin0];cases g
      ·simp[Pr]at hc;obtain⟨rfl,rfl⟩:=hc;simp[Yj,YB,Wi,VE,upd,AV.ok]
      ·simp[Pr]at hc;obtain⟨rfl,rfl⟩:=hc;simp[Yj,YB,Wi,VE,upd,AV.ok]
    | cons y ys=>
     refine XS hmix hE hK hG hGb hT (n:=0) _ _ k1 _ _ w1 m1 β1 ν1 .normal _ _ (by simp[Q7,cl1,Zz,Zw,Qg,ZS,val,AV.ok,upd,Ys,AV.strip];rfl) hI1 fun a2 w2 m2 β2 ν2 hI2=> ?_;have hb:a2.eval (.tmp 4)= .bool false:=by
      obtain⟨_,h2⟩:=hI2.at_ (n:=4) (by simp[upd]);have h3:=hI2.slots 4 _ h2;simp only[upd]at h3;obtain⟨h3,_⟩:=h3;exact h3
     refine wp_cond_false hb (wp_skip ?_);obtain⟨σ3,e1,e2⟩:=GO (K:=fun _ _ _=>none) (o:=false) (σ:={env:=upd (upd (upd (Ys [.sl o s (y:: ys)]) 2 (.sl true s [])) 3 (.sl false s (y:: ys))) 4 (.bool false),bs:=bs}) (by simp[upd,Ys,AV.strip]) hc;exact XS hmix hE hK hG hGb hT (n:=0) (.seq (Pq g _ bytes s) .ret) (.seq r3 .ret) (by simp[Ye,k3]) _ _ w2 m2 β2 ν2 .ret σ3 _ e1 hI2 fun a3 w3 m3 β3 ν3 hI3=>hend σ3 (by rw[hfin0];exact e2) a3 w3 m3 β3 ν3 hI3
   ·cases hbody
  ·cases hc
 ·cases hc
end
end Go.Am
namespace Go.Am
def OD:Qf->Xh
 | [.str a,.str b]=>some (.int .i64 (if Op.bytesLess a b then -1 else if a == b then 0 else 1))
 | _=>none
def FB:Nat->Nat->Qb->Qb
 | 0,_,acc=>acc
 | k+1,n,acc=>if n < 10 then(48+n).toUInt8:: acc else FB k (n / 10) ((48+n % 10).toUInt8:: acc)
def Yt (n:Nat):Qb:=FB (n+1) n []
def dec (n:Int):Qb:=if n < 0 then 45:: Yt n.natAbs else Yt n.natAbs
def NJ:Qf->Xh
 | [.int .i64 n]=>if -9223372036854775808<=n/\n<=9223372036854775807 then some (.str (dec n))else none
 | _=>none
def Nu:Qf->Xh
 | [.str s]=>if s.length < 1000000 then
   (match Lib.atoiAll s with
    | .ok v=>some (.tup [.int .i64 v,.err true])
    | .range=>some (.tup [.int .i64 (Lib.atoiSat s),.err false])
    | _=>some (.tup [.int .i64 0,.err false]))
   else none
 | _=>none
def Ro:Nat->Nat->Qb
 | 0,_=>[]
 | k+1,n=>if n < 10 then [(48+n).toUInt8]else Ro k (n / 10)++ [(48+n % 10).toUInt8]
def MT: ∀(k n:Nat) (acc:Qb),FB k n acc=Ro k n ++ acc
 | 0,_,_=>rfl
 | k+1,n,acc=>by
  simp only[FB,Ro];split
  ·rfl
  ·rw[MT];simp
def MS: ∀(k n m:Nat),n < k->k<=m->Ro m n=Ro k n
 | 0,_,_,h,_=>by omega
 | k+1,n,0,_,h=>by omega
 | k+1,n,m+1,h,h2=>by
  simp only[Ro];split
  ·rfl
  ·rw[MS k (n / 10) m (by omega) (by omega)]
def Mo (n:Nat):Yt n=Ro (n+1) n:=by rw[Yt,MT];simp
def Ug {n:Nat} (h:n < 10):Yt n=[(48+n).toUInt8]:=by rw[Mo,Ro,Qh h]
def Tx {n:Nat} (h: ¬n < 10):Yt n=Yt (n / 10)++ [(48+n % 10).toUInt8]:=by
 rw[Mo,Ro,Qe h,Mo,MS (n / 10+1) (n / 10) n (by omega) (by omega)]
end Go.Am
namespace Go.Am
open Go.RowKit
def SB (P:Program):Nat:=max (max ((P.globalNamed "internal/strconv.uint64pow10").getD 0) ((P.globalNamed "strconv.ErrSyntax").getD 0)) ((P.globalNamed "strconv.ErrRange").getD 0)+1
def UV [Dr] {P:Program} {X:Nat->Prop} {w w':World} {m m':Q9} {B:Nat} (hS:Zm X w m w' m') (hX: ∀b,X b->B<=b) (hb:B<=w.heap.size) {n:String} (hn: (P.globalNamed n).getD 0 < B):w'.var? P n=w.var? P n:=by
 unfold World.var?;cases hg:P.globalNamed n with
 | none=>rfl
 | some g=>
  rw[hg]at hn;simp only[Ua]at hn;simp only[Qt];rw[(hS.same g (by omega) (fun hx=>by have:=hX g hx;omega)).1]
def B6 {P:Program} {w:World} {n:String} {cs:QW} (h:w.var? P n=some cs): (P.globalNamed n).getD 0 < w.heap.size:=by
 unfold World.var? at h;cases hg:P.globalNamed n with
 | none=>rw[hg]at h;cases h
 | some g=>
  rw[hg]at h;simp only[Qt]at h;simp only[Ua];rcases QL g w.heap.size with h1 | h1
  ·exact h1
  ·rw[XN h1]at h;cases h
def So (P:Program) (w:World):Prop:=Lib.TabIs P w "internal/strconv.uint64pow10" .u64 Lib.pow10Tab/\
 (P.globalNamed "strconv.ErrSyntax" ≠none->∃tp p,w.var? P "strconv.ErrSyntax" =some #[.iface tp p])/\(P.globalNamed "strconv.ErrRange" ≠none->∃tp p,w.var? P "strconv.ErrRange" =some #[.iface tp p])
def Qc2 [Dr] {P:Program} {w:World} (h:So P w):SB P<=w.heap.size:=by
 obtain⟨h1,h2,h3⟩:=h;have g1:=B6 h1;have key: ∀{n:String},(P.globalNamed n≠none->∃tp p,w.var? P n=some #[.iface tp p])->(P.globalNamed n).getD 0 < w.heap.size:=fun {n} hn=>by
  by_cases c:P.globalNamed n=none
  ·rw[c];simp only[Option.getD_none];omega
  ·obtain⟨_,_,h⟩:=hn c;exact B6 h
 have g2:=key h2;have g3:=key h3;unfold SB;omega
def glob [Dr] (P:Program):Z1 where
 G:=fun w _=>So P w
 nm:=fun _ _=>False
 tab:=fun _ _ _ _ _ _ h=>h.elim
 Gb:=SB P
 step:=fun X w m w' m' hS hX hb hG=>by
  unfold So Lib.TabIs at *;rw[UV hS hX hb (by unfold SB;omega),UV hS hX hb (by unfold SB;omega),UV hS hX hb (by unfold SB;omega)];exact hG
def Et [Dr] {w w':World} {m:Q9} (h:Below w.heap.size w w') (hdr:Dr.d->w.drawn<=w'.drawn):Zm (fun _=>False) w m w' m:=by
 refine⟨h.os,h.tape,h.output,h.size,fun b hb _=>⟨h.block b hb,rfl⟩,fun b i u hu=> ?_,hdr⟩;unfold hg at hu ⊢;split at hu
 ·rename_i hi;rw[Qh hi];have hb:b < w.heap.size:=by
   rcases QL b w.heap.size with h1 | h1
   ·exact h1
   ·exfalso;unfold World.cell? at hu;rw[XN h1]at hu;cases hu
  unfold World.cell? at hu ⊢;rw[h.block b hb];exact hu
 ·cases hu
section
variable {P:Program} {num:Nat->Option Nat}
def Vv [Dr] {Γ:Z1} {h:Qf->Xh} {g:Nat}
  (hc: ∀(args:Qf) (r:AV),h args=some r->∀(w:World) (m:Q9) (β:Ym) (vs:QW),Γ.G w m->vs.size=args.length->
   (∀(i:Nat) (c:AV),args[i]? =some c->∃u,vs[i]? =some u/\Qa num β w m c u)->
   Calls P g vs w fun e w'=>∃v,e= .returned v/\Below w.heap.size w w'/\(Dr.d->w.drawn<=w'.drawn)/\r.ok=true/\(∀w' m',Qa num β w' m' r v)/\(∀w' m' ν',Q6 w' m' ν' .f r v)):
  Co P num Γ h g:=by
 intro args r hr hok w m β vs hG hGb hvs hrep;refine(hc args r hr w m β vs hG hvs hrep).mono fun e w' he=> ?_;obtain⟨v,he,hB,hdr,h1,h2,h3⟩:=he;exact⟨v,m,fun _=>none,he,Et hB hdr,h1,h2 w' m,h3 w' m _,fun b p hp=>by cases hp⟩
def Ao {vs:QW} {u:Value} (h:vs.size=1) (h0:vs[0]? =some u):vs= #[u]:=by
 apply R5;intro i;cases i with
 | zero=>rw[h0];rfl
 | succ i=>rw[XN (by omega),XN (by simp)]
def N8 {vs:QW} {u v:Value} (h:vs.size=2) (h0:vs[0]? =some u) (h1:vs[1]? =some v):vs= #[u,v]:=by
 apply R5;intro i
 match i with
 | 0=>rw[h0];rfl
 | 1=>rw[h1];rfl
 | i+2=>rw[XN (by omega),XN (by simp)]
def Yy (s:Qb): (⟨s.toArray⟩:ByteArray).data.toList=s:=by simp
def Vl (s:Qb): (⟨s.toArray⟩:ByteArray).size=s.length:=by simp[ByteArray.size]
def JB:=@beq_eq_false_iff_ne
def Pe:=@UInt8.toNat_inj
def TU:=@UInt8.lt_iff_toNat_lt
def Sj: ∀a b:Qb,Lib.compareBytes a b=if Op.bytesLess a b then -1 else if a == b then 0 else 1
 | [],[]=>rfl
 | [],_:: _=>by simp[Lib.compareBytes,Op.bytesLess]
 | _:: _,[]=>by simp[Lib.compareBytes,Op.bytesLess]
 | a:: aq,b:: bs=>by
  simp only[Lib.compareBytes,Op.bytesLess,Sj aq bs];by_cases h1:a < b
  ·simp[h1]
  ·by_cases h2:b < a
   ·have hne: (a == b)=false:=by
     rw[JB];intro e;subst e;exact h1 h2
    simp[h1,h2,hne]
   ·have he:a=b:=by
     apply Pe.1;rw[TU]at h1 h2;omega
    subst he;simp[h1]
def Gh [Dr] {Γ:Z1} {g:Nat} (hC: ∀(a b:ByteArray) (w:World),Calls P g #[.string a,.string b] w fun e w'=>e= .returned (.int .i64 (Lib.compareBytes a.data.toList b.data.toList))/\w'=w):XI P num Γ (ZG OD) g:=by
 refine UU (Vv fun args r hr w m β vs hG hvs hrep=> ?_);unfold OD at hr;split at hr
 ·rename_i a b;injection hr with hr
  subst hr;obtain⟨u,h0,h1⟩:=hrep 0 _ rfl;obtain⟨u2,h2,h3⟩:=hrep 1 _ rfl;simp only[Qa]at h1 h3;subst h1 h3;rw[N8 hvs h0 h2];refine(hC _ _ w).mono fun e w' he=> ?_;obtain⟨rfl,rfl⟩:=he;rw[Yy,Yy,Sj];exact⟨_,rfl,Below.refl _ _,fun _=>Za _,rfl,fun _ _=>by simp only[Qa],fun _ _ _=>trivial⟩
 ·cases hr
def RH: ∀n:Nat,Lib.decDigits n=Yt n:=by
 intro n
 induction n using Nat.strongRecOn with
 | ind n ih=>
  by_cases h:n < 10
  ·rw[Lib.decDigits_one h,Ug h]
  ·rw[Lib.decDigits,dif_neg h,Tx h,ih (n / 10) (by omega)]
def Qc6 [Dr] (n:Int):Lib.itoa n=dec n:=by
 unfold Lib.itoa dec;split
 ·rw[RH]
 ·rw[RH];congr 1;omega
def Fk (w:World) (k:Nat) (os:Array Obj):Below w.heap.size w (Sort.grow (w.drewN k) os):=
 ⟨rfl,rfl,rfl,by simp[Sort.grow,World.drewN],fun b hb=>by
  show((w.drewN k).heap ++ os)[b]? =_;rw[Vj (by simpa[World.drewN]using hb)];rfl⟩
def Qab [Dr] {Γ:Z1} (hGl: ∀w m,Γ.G w m->So P w) {g:Nat} (hC: ∀(n:Int),-9223372036854775808<=n->n<=9223372036854775807->∀(w:World),Lib.TabIs P w "internal/strconv.uint64pow10" .u64 Lib.pow10Tab->
  Calls P g #[.int .i64 n] w fun e w'=>e= .returned (.string ⟨(Lib.itoa n).toArray⟩)/\∃k os,w'=Sort.grow (w.drewN k) os):XI P num Γ (ZG NJ) g:=by
 refine UU (Vv fun args r hr w m β vs hG hvs hrep=> ?_);unfold NJ at hr;split at hr
 ·rename_i n;split at hr
  ·rename_i hn;injection hr with hr
   subst hr;obtain⟨u,h0,h1⟩:=hrep 0 _ rfl;simp only[Qa]at h1;subst h1;rw[Ao hvs h0];refine(hC n hn.1 hn.2 w (hGl w m hG).1).mono fun e w' he=> ?_;obtain⟨rfl,k,os,rfl⟩:=he;rw[Qc6];exact⟨_,rfl,Fk w k os,fun _=>Nat.le_add_right _ _,rfl,fun _ _=>by simp only[Qa],fun _ _ _=>trivial⟩
  ·cases hr
 ·cases hr
def Ap [Dr] {Γ:Z1} (hGl: ∀w m,Γ.G w m->So P w) (hD: ¬Dr.d) (hs0:P.globalNamed "strconv.ErrSyntax" ≠none) (hr0:P.globalNamed "strconv.ErrRange" ≠none) {g:Nat} (h1: ∀(s:ByteArray),s.size<=9223372036854775806->∀(v:Int),Lib.atoiAll s.data.toList= .ok v->∀(w:World),
   Calls P g #[.string s] w fun e w'=>e= .returned (.tuple #[.int .i64 v,.nilIface])/\Below w.heap.size w w')
  (h2: ∀(s:ByteArray),s.size<=281474976710656->Lib.atoiAll s.data.toList=Lib.NumEnd.syntax->∀(tp:TypeId) (p:Value) (w:World),w.var? P "strconv.ErrSyntax" =some #[.iface tp p]->
   Calls P g #[.string s] w fun e w'=>∃t x,e= .returned (.tuple #[.int .i64 0,.iface t x])/\Below w.heap.size w w')
  (h3: ∀(s:ByteArray),s.size<=281474976710656->Lib.atoiAll s.data.toList= .range->∀(tp:TypeId) (p:Value) (w:World),w.var? P "strconv.ErrRange" =some #[.iface tp p]->
   Calls P g #[.string s] w fun e w'=>∃t x,e= .returned (.tuple #[.int .i64 (Lib.atoiSat s.data.toList),.iface t x])/\Below w.heap.size w w'):
  XI P num Γ (ZG Nu) g:=by
 refine UU (Vv fun args r hr w m β vs hG hvs hrep=> ?_);unfold Nu at hr;split at hr
 ·rename_i s;split at hr
  ·rename_i hs;obtain⟨u,h0,hu⟩:=hrep 0 _ rfl;simp only[Qa]at hu;subst hu;rw[Ao hvs h0];obtain⟨hg1,hg2,hg3⟩:=hGl w m hG;obtain⟨tp1,p1,hg2⟩:=hg2 hs0;obtain⟨tp2,p2,hg3⟩:=hg3 hr0;cases ha:Lib.atoiAll s with
   | ok v=>
    rw[ha]at hr;injection hr with hr
    subst hr;refine(h1 ⟨s.toArray⟩ (by rw[Vl];omega) v (by rw[Yy];exact ha) w).mono fun e w' he=> ?_;obtain⟨rfl,hB⟩:=he;refine⟨_,rfl,hB,fun h=>absurd h hD,rfl,fun _ _=> ?_,fun _ _ _=>trivial⟩;simp only[Qa];exact⟨_,rfl,rfl,by simp[YI,Qa]⟩
   | range=>
    rw[ha]at hr;injection hr with hr
    subst hr;refine(h3 ⟨s.toArray⟩ (by rw[Vl];omega) (by rw[Yy];exact ha) tp2 p2 w hg3).mono fun e w' he=> ?_;obtain⟨t,x,rfl,hB⟩:=he;rw[Yy];refine⟨_,rfl,hB,fun h=>absurd h hD,rfl,fun _ _=> ?_,fun _ _ _=>trivial⟩;simp only[Qa];exact⟨_,rfl,rfl,by simp[YI,Qa]⟩
   | _=>
    rw[ha]at hr;injection hr with hr
    subst hr;refine(h2 ⟨s.toArray⟩ (by rw[Vl];omega) (by rw[Yy];exact ha) tp1 p1 w hg2).mono fun e w' he=> ?_;obtain⟨t,x,rfl,hB⟩:=he;refine⟨_,rfl,hB,fun h=>absurd h hD,rfl,fun _ _=> ?_,fun _ _ _=>trivial⟩;simp only[Qa];exact⟨_,rfl,rfl,by simp[YI,Qa]⟩
  ·cases hr
 ·cases hr
end
end Go.Am
namespace Go.Am
section
variable {P:Program} {num:Nat->Option Nat} {tb:Nat->Option AFn}
def Ent (P:Program) (g:Nat):Prop:=∃fn,P.funcs[g]? =some fn/\(fn.name == "runtime.NumGoroutine")=false/\fn.body.isNone=false
abbrev Ph:=List (Nat×Nat)
def FR {L:Ph} {f g:Nat} (h:L.lookup f=some g): (f,g)∈L:=by
 induction L with
 | nil=>cases h
 | cons p L ih=>
  obtain⟨a,b⟩:=p;rw[List.lookup_cons]at h;by_cases hab:f=a
  ·subst hab;simp at h;subst h;simp
  ·have: (f == a)=false:=by simpa using hab
   rw[this]at h;exact O9 _ (ih h)
def CK [Dr] {L:Ph} (h: ∀p∈L,Ent P p.2):Xu P (fun f=>L.lookup f):=fun f g hfg=>h (f,g) (FR hfg)
def XD {α:Type} {p:α->Prop} {a:α} {l:List α} (h:p a) (hl: ∀x∈l,p x): ∀x∈a:: l,p x:=fun x hx=>by
 rcases Yd.1 hx with rfl | hx
 ·exact h
 ·exact hl x hx
def QhL {α:Type} {p:α->Prop}: ∀x∈([]:List α),p x:=fun x hx=>by cases hx
def FE (P:Program) (g:Nat):Bool:=match P.funcs[g]? with
 | some fn=> !(fn.name == "runtime.NumGoroutine") && !fn.body.isNone
 | none=>false
def UJ [Dr] {L:Ph} (h: (L.all fun p=>FE P p.2)=true):Xu P (fun f=>L.lookup f):=CK fun p hp=>by
 have h1:=YF.1 h p hp;unfold FE at h1;split at h1
 ·rename_i fn hf;simp only[Qi,Tc]at h1;exact⟨fn,hf,h1.1,h1.2⟩
 ·cases h1
def YP (P:Program) (L:Ph) (T:List (Nat×AFn)):Bool:=T.all fun p=>match p.2 with
 | .code fn=>(match L.lookup p.1 with
  | some g=>(match P.funcs[g]? with
   | some F=>FV P (fun f=>L.lookup f) fn F
   | none=>false)
  | none=>true)
 | .orc _=>true
def Xc {L:Ph} {T:List (Nat×AFn)} (n:Nat) (h1:YP P L (T.take n)=true) (h2:YP P L (T.drop n)=true):YP P L T=true:=by
 unfold YP at *;rw[<- List.take_append_drop n T,W0,h1,h2];rfl
def Oq {L:List (Nat×AFn)} {f:Nat} {g:AFn} (h:L.lookup f=some g): (f,g)∈L:=by
 induction L with
 | nil=>cases h
 | cons p L ih=>
  obtain⟨a,b⟩:=p;rw[List.lookup_cons]at h;by_cases hab:f=a
  ·subst hab;simp at h;subst h;simp
  ·have: (f == a)=false:=by simpa using hab
   rw[this]at h;exact O9 _ (ih h)
def Oat [Dr] (P:Program) (L:Ph) (Γ:Z1) (tb:Xx) (f:Nat):Prop:=∀g h,L.lookup f=some g->tb f=some (.orc h)->XI P (fun f=>L.lookup f) Γ h g
def YY [Dr] {L:Ph} {Γ:Z1} {f g:Nat} {h:Qf->Qd->Option (AV×Qd)} (ht:tb f=some (.orc h)) (hg:L.lookup f=some g) (hO:XI P (fun f=>L.lookup f) Γ h g):Oat P L Γ tb f:=
 fun g2 h2 e1 e2=>by
  rw[hg]at e1;rw[ht]at e2;injection e1 with e1
  injection e2 with e2
  injection e2 with e2
  subst e1;subst e2;exact hO
def Il [Dr] {Γ:Z1} {L:Ph} {T:List (Nat×AFn)} (os:XM) (htb: ∀f,tb f=T.lookup f) (hmix:P.follows .mixedOrders=true) (hE: (L.all fun p=>FE P p.2)=true) (hc:YP P L T=true)
  (ho: (T.all fun p=>match p.2 with | .orc _=>os.contains p.1 | .code _=>true)=true) (hO: ∀f∈os,Oat P L Γ tb f) (hnm: ∀k g,P.globalNamed (PV k)=some g->Γ.nm k g):N5 P (fun f=>L.lookup f) Γ tb where
 mix:=hmix
 nms:=hnm
 enters:=UJ hE
 code:=fun f g fn hfg ht=>by
  rw[htb]at ht;have h1:=YF.1 hc _ (Oq ht);simp only[hfg]at h1;split at h1
  ·rename_i F hF;exact⟨F,hF,h1⟩
  ·cases h1
 orc:=fun f g h hfg ht=>by
  have ht2:=ht;rw[htb]at ht2;have h1:=YF.1 ho _ (Oq ht2);simp only at h1;exact hO f (by simpa using h1) g h hfg ht
end
end Go.Am
