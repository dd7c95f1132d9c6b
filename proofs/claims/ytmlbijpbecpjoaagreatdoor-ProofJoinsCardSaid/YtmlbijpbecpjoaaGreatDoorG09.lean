/-
  Am16, Am17, Am18, Am19, Am24, Am25.
-/
import Derived.Test.YtmlbijpbecpjoaaGreatDoorG08
import Derived.Lib.AtoiAll
import Derived.Below
import Derived.Lib.Bytealg
import Derived.Lib.IndexAny
import Derived.Lib.ItoaNum
import Derived.Lib.LaidTab
import Derived.Lib.ConvBytes
import Derived.Sort.Grow
import Derived.Deep.Draws
import Derived.Lib.AtoiErrMem
set_option linter.all false
namespace Go.Am
def Tn (cops:Array Oper) (i k:Nat):Bool:=match cops[i]? with
 | some o=>o.after.any fun e=>Region.binds .any e && decide (e.on=k)
 | none=>false
def JG (cops:Array Oper):Nat->Nat->Nat->Bool
 | 0,_,_=>false
 | f+1,i,j=>Tn cops i j || (match cops[i]? with
  | some o=>o.after.any fun e=>Region.binds .any e && decide (j < e.on) && JG cops f e.on j
  | none=>false)
def MO (cops:Array Oper):Bool:=(List.range cops.size).all fun i=>match cops[i]? with
 | some o=>o.after.all fun e=> !Region.binds .any e || decide (e.on < i)
 | none=>true
def NG (xs:Yj) (i:Nat):QM:=xs.getD i ⟨none,.alloc [],none⟩
def JW (cops:Array Oper) (xs:Yj):Bool:=(List.range xs.length).all fun i=>(List.range i).all fun j=>MY (NG xs j) (NG xs i) || JG cops xs.length i j
def HO (P:Program) (num:Y0) (N:Nat) (draw:Bool) (cops:Array Oper) (xs:Yj):Bool:=
 if draw then Oe P num N (Tn cops) cops xs && MO cops && JW cops xs else Oe P num N (fun i k=>decide (k < i)) cops xs
def Mm:=@Array.any_eq_true'
def Du {cops:Array Oper} {L:Nat->Prop} (hdown: ∀j k,L j->Tn cops j k=true->L k): ∀(f i j:Nat),(∀k,Tn cops i k=true->L k)->JG cops f i j=true->L j
 | 0,_,_,_,h=>by simp[JG]at h
 | f+1,i,j,hi,h=>by
  simp only[JG,Vu]at h;rcases h with h | h
  ·exact hi j h
  ·split at h
   ·rename_i o ho;rw[Mm]at h;obtain⟨e,he,h⟩:=h;simp only[Qo,Qv]at h;have hL:L e.on:=hi e.on (by
     unfold Tn;rw[ho];simp only;rw[Mm];exact⟨e,he,by simp[h.1.1]⟩)
    exact Du hdown f e.on j (fun k hk=>hdown _ k hL hk) h.2
   ·cases h
def rem (n:Nat) (listed:Array Bool):VH:=(List.range n).filter fun i=> !listed.getD i true
def Mo:=@List.mem_filter
def OV {n i:Nat} {listed:Array Bool}:i∈rem n listed↔i < n/\listed.getD i true=false:=by
 unfold rem;rw[Mo,Pq];simp
def KP:=@List.Pairwise.filter
def Hc {n i:Nat} {listed:Array Bool} (hn:listed.size=n) (hi:i∈rem n listed):rem n (listed.setIfInBounds i true)=(rem n listed).erase i:=by
 have hnd: (rem n listed).Nodup:=KP _ List.nodup_range;rw[List.Nodup.erase_eq_filter hnd];unfold rem;rw[List.filter_filter];apply List.filter_congr;intro x hx;rw[Pq]at hx;by_cases hxi:x=i
 ·subst hxi;simp[hn,hx]
 ·rw[getD_set_ne true (fun e=>hxi e.symm)];simp[hxi]
section
variable {P:Program} {num:Nat->Option Nat} {β:List Blk} {w w':World} {m:Nat->Nat} {ν:Own} {N:Nat} {w0:World} {m0:Nat->Nat} {T:Nat->Prop} {β0:List Blk} {σ σ1 σ2:St} {a:Act}
 {next:Act->World->Prop} {Q:Exit->Act->World->Prop} {K:Yo} {v:AV} {xs:List QM} {cops:Array Oper}
def BH {i:Nat} (h:i < xs.length):xs[i]? =some (NG xs i):=by
 unfold NG;rw[Zv h];simp[h]
def M7 {prec:Nat->Nat->Bool} (h:Oe P num N prec cops xs=true):xs.length=cops.size:=by
 unfold Oe at h;simp only[Qo,Qv]at h;exact h.1.1
def Qaq [Dr] {Γ:YU} (hE:Vj P num) (hK:KOk P num Γ K) (hG:Γ.G w0 m0) (hGb:Γ.Gb<=w0.heap.size) (hT: ∀b,T b->Γ.Gb<=b) {σn:St}
  (hall:Oe P num N (Tn cops) cops xs=true) (hed:MO cops=true) (hap:JW cops xs=true) (hQ: ∀a' w' m' β' ν',Inv num N w0 m0 T β0 σn a' w' m' β' ν'->Q .normal a' w'):
  ∀(fuel:Nat) (listed:Array Bool) (σ:St) (a:Act) (w:World) (m:ZF) (β:Xv) (ν:Own),listed.size=xs.length->(rem xs.length listed).length=fuel->
   Z9 K ((rem xs.length listed).map (NG xs)) σ=some σn->(∀j k,listed.getD j false=true->Tn cops j k=true->listed.getD k false=true)->
   Inv num N w0 m0 T β0 σ a w m β ν->RS (entries xs) (fun j=>listed.getD j false=true) σ a->wpAny P .any cops Q fuel listed a w:=by
 intro fuel;have hlen:=M7 hall;have hdownE: ∀i k,Tn cops i k=true->k < i:=fun i k h=>by
  unfold Tn at h;split at h
  ·rename_i o ho;rw[Mm]at h;obtain⟨e,he,h⟩:=h;simp only[Qo,Qv]at h;have hi:i < cops.size:=(Pa.1 ho).1;unfold MO at hed;rw[XK]at hed;have:=hed i (Pq.2 hi);rw[ho]at this;simp only[Qcy,Vu,Us,Qv]at this;rcases this e he with h1 | h1
   ·rw[h.1]at h1;cases h1
   ·omega
  ·cases h
 have hDor: ∀(listed:Array Bool) (j:Nat),listed.size=xs.length->j < xs.length->listed.getD j true=false\/listed.getD j false=true:=fun listed j h1 h2=>by
  rw[RD,RD,Wa (by omega)];cases listed[j] <;> simp
 induction fuel with
 | zero=>
  intro listed σ a w m β ν hs hl hr _ hI _;have h0:rem xs.length listed=[]:=YE hl;rw[h0]at hr;injection hr with hr
  subst hr;refine⟨?_,hQ a w m β ν hI⟩;cases hrd:Region.ready .any cops listed with
  | nil=>rfl
  | cons i is=>
   exfalso;have hi:i∈Region.ready .any cops listed:=by rw[hrd];simp
   obtain⟨h1,o,h2,_⟩:=mem_ready.1 hi;have:i∈rem xs.length listed:=OV.2 ⟨by rw[hlen];exact(Pa.1 h2).1,h1⟩;rw[h0]at this;cases this
 | succ fuel ih=>
  intro listed σ a w m β ν hs hl hr hdown hI hRS;refine⟨fun h0=> ?_,fun i hi=> ?_⟩
  ·exfalso;cases hrem:rem xs.length listed with
   | nil=>rw[hrem]at hl;simp at hl
   | cons i is=>
    have hi:i∈rem xs.length listed:=by rw[hrem];simp
    obtain⟨h1,h2⟩:=OV.1 hi;have hsort: (rem xs.length listed).Pairwise (· < ·):=KP _ List.pairwise_lt_range;rw[hrem]at hsort;have hmin:=(VK.1 hsort).1;have hready:i∈Region.ready .any cops listed:=by
     refine mem_ready.2 ⟨h2,cops[i]'(by omega),Wa _,fun e he hb=> ?_⟩;have hp:Tn cops i e.on=true:=by
      unfold Tn;rw[Wa (by omega)];simp only;rw[Mm];exact⟨e,he,by simp[hb]⟩
     have hlt:=hdownE i e.on hp;rcases hDor listed e.on hs (by omega)with h3 | h3
     ·have:e.on∈rem xs.length listed:=OV.2 ⟨by omega,h3⟩;rw[hrem]at this;rcases ZS.1 this with h4 | h4
      ·omega
      ·have:=hmin _ h4;omega
     ·exact h3
    rw[h0]at hready;cases hready
  ·obtain⟨h1,o,h2,h3⟩:=mem_ready.1 hi;have hin:i < xs.length:=by rw[hlen];exact(Pa.1 h2).1
   have hir:i∈rem xs.length listed:=OV.2 ⟨hin,h1⟩;have hpre: ∀k,Tn cops i k=true->listed.getD k false=true:=fun k hk=>by
    unfold Tn at hk;rw[h2]at hk;simp only at hk;rw[Mm]at hk;obtain⟨e,he,hk⟩:=hk;simp only[Qo,Qv]at hk;rw[<- hk.2];exact h3 e he hk.1
   have hsort: (rem xs.length listed).Pairwise (· < ·):=KP _ List.pairwise_lt_range;have hind: ∀j∈rem xs.length listed,j < i->MY (NG xs j) (NG xs i)=true:=fun j hj hji=>by
    unfold JW at hap;rw[XK]at hap;have:=hap i (Pq.2 hin);rw[XK]at this;have:=this j (Pq.2 hji);simp only[Vu]at this;rcases this with h | h
    ·exact h
    ·have hL:=Du (L:=fun j=>listed.getD j false=true) hdown _ i j hpre h;obtain⟨k1,k2⟩:=OV.1 hj;rw[RD,Wa (by omega)]at hL k2;simp only[Sg]at hL k2;rw[hL]at k2;cases k2
   obtain⟨σ',g1,g2⟩:=Lb (NG xs) i _ σ σn hsort hir hind hr;have hnD: ¬listed.getD i false=true:=fun h=>by
    rw[RD,Wa (by omega)]at h h1;simp only[Sg]at h h1;rw[h]at h1;cases h1
   refine LS hI hE hK hG hGb hT hall (BH hin) hnD hpre hdown hRS g1 fun a' w' m' β' ν' k1 k2=> ?_;have hset: ∀j,(listed.setIfInBounds i true).getD j false=true->listed.getD j false=true\/j=i:=fun j hj=>by
    by_cases e:j=i
    ·exact .inr e
    ·rw[getD_set_ne false (fun h=>e h.symm)]at hj;exact .inl hj
   have hself: (listed.setIfInBounds i true).getD i false=true:=by simp[hs,hin]
   refine ih (listed.setIfInBounds i true) σ' a' w' m' β' ν' (by simpa using hs) ?_ ?_ (fun j k hj hk=> ?_) k1 (fun en hen hj hg=>k2 en hen (hset _ hj) hg)
   ·rw[Hc hs hir,List.length_erase_of_mem hir,hl];rfl
   ·rw[Hc hs hir];exact g2
   ·rcases hset j hj with h | h
    ·exact getD_set_true (hdown j k h hk)
    ·rw[h]at hk;exact getD_set_true (hpre k hk)
def Qft [Dr]: (List.range xs.length).map (NG xs)=xs:=by
 apply UQ;intro i;rw[Wb];by_cases hi:i < xs.length
 ·rw[OE hi,BH hi];rfl
 ·rw[Q3 (by simp;omega),Q3 (by omega)];rfl
def Dv [Dr] {Γ:YU} (hmix:P.follows .mixedOrders=true) (hE:Vj P num) (hK:KOk P num Γ K) (hG:Γ.G w0 m0) (hGb:Γ.Gb<=w0.heap.size) (hT: ∀b,T b->Γ.Gb<=b) {σn:St} {id:Nat} {dr:Bool}
  (hok:HO P num N dr cops xs=true) (hI:Inv num N w0 m0 T β0 σ a w m β ν) (hr:Z9 K xs σ=some σn) (hQ: ∀a' w' m' β' ν',Inv num N w0 m0 T β0 σn a' w' m' β' ν'->Q .normal a' w'):
  (Code.region id cops dr).wp P Q a w:=by
 cases dr
 ·simp only[HO,Z3,Zd]at hok;refine wp_region ?_;rw[List.range_eq_range',<- M7 hok];exact JH hE hK hG hGb hT hok hQ xs.length 0 σ a w m β ν (by omega) (by simpa using hr) hI (fun en _ hj _=>absurd hj (by omega))
 ·simp only[HO,Zl,Qo]at hok;obtain⟨⟨h1,h2⟩,h3⟩:=hok;refine wp_region_any hmix ?_;have hlen:=M7 h1;have hrem:rem xs.length (Array.replicate cops.size false)=List.range xs.length:=by
   unfold rem;rw[List.filter_eq_self];intro x hx;rw[Pq]at hx;simp[<- hlen,hx]
  have hno: ∀j,(Array.replicate cops.size false).getD j false=false:=fun j=>by
   rw[RD];by_cases h:j < cops.size <;> simp[h]
  rw[<- hlen];have hno': ∀j,(Array.replicate xs.length false).getD j false=false:=by rw[hlen];exact hno
  rw[<- hlen]at hrem;exact Qaq hE hK hG hGb hT h1 h2 h3 hQ xs.length _ σ a w.drew m β ν (by simp) (by rw[hrem];simp) (by rw[hrem,Qft];exact hr)
   (fun j k hj _=>by rw[hno']at hj;cases hj) hI.drew (fun en _ hj _=>by have h0:=hno' en.j;simp only[h0]at hj;cases hj)
def Xk (P:Program) (num:Y0) (N:Nat):AC->Code->Bool
 | .bad,_=>true
 | .skip,.skip=>true
 | .reg dr xs,.region _ ops dr2=>decide (dr=dr2) && HO P num N dr ops xs
 | .seq a b,.seq c d=>Xk P num N a c && Xk P num N b d
 | .cond c a b,.cond c2 a2 b2=>okO num c c2 && Xk P num N a a2 && Xk P num N b b2
 | .block id c,.block id2 c2=>decide (id=id2) && Xk P num N c c2
 | .loop c,.loop c2=>Xk P num N c c2
 | .exit id,.exit id2=>decide (id=id2)
 | .ret,.ret=>true
 | _,_=>false
def Ex.toExit:Ex->Exit
 | .normal=> .normal
 | .exit i=> .exit i
 | .ret=> .ret
def VN [Dr] {Γ:YU} (hmix:P.follows .mixedOrders=true) (hE:Vj P num) (hK:KOk P num Γ K) (hG:Γ.G w0 m0) (hGb:Γ.Gb<=w0.heap.size) (hT: ∀b,T b->Γ.Gb<=b) {n:Nat}:
  ∀(c:AC) (cc:Code),Xk P num N c cc=true->∀(σ:St) (a:Act) (w:World) (m:ZF) (β:Xv) (ν:Own) (ex:Ex) (σ':St) (Q:Exit->Act->World->Prop),
   ZD K n c σ=some (ex,σ')->Inv num N w0 m0 T β0 σ a w m β ν->(∀a' w' m' β' ν',Inv num N w0 m0 T β0 σ' a' w' m' β' ν'->Q ex.toExit a' w')->cc.wp P Q a w:=by
 intro c
 induction c with
 | bad=>
  intro cc hok σ a w m β ν ex σ' Q hr;simp[ZD]at hr
 | skip=>
  intro cc hok σ a w m β ν ex σ' Q hr hI hQ;cases cc <;> simp[Xk]at hok;simp only[ZD,QD,QV]at hr;obtain⟨rfl,rfl⟩:=hr;exact wp_skip (hQ a w m β ν hI)
 | reg dr xs=>
  intro cc hok σ a w m β ν ex σ' Q hr hI hQ;cases cc <;> simp only[Xk,Qo,Qv]at hok <;> try (cases hok;done)
  obtain⟨rfl,hok⟩:=hok;simp only[ZD]at hr;cases h1:Z9 K xs σ with
  | none=>rw[h1]at hr;cases hr
  | some s=>
   rw[h1]at hr;simp only[QS,QD,QV]at hr;obtain⟨rfl,rfl⟩:=hr;exact Dv hmix hE hK hG hGb hT hok hI h1 hQ
 | seq x y ihx ihy=>
  intro cc hok σ a w m β ν ex σ' Q hr hI hQ;cases cc <;> simp only[Xk,Qo]at hok <;> try (cases hok;done)
  refine wp_seq ?_;simp only[ZD]at hr;split at hr
  ·rename_i s h1;refine ihx _ hok.1 σ a w m β ν .normal s _ h1 hI fun a' w' m' β' ν' k=> ?_;exact ihy _ hok.2 s a' w' m' β' ν' ex σ' Q hr k hQ
  ·rename_i hne;refine ihx _ hok.1 σ a w m β ν ex σ' _ hr hI fun a' w' m' β' ν' k=> ?_;cases ex
   ·exact absurd hr (hne σ')
   ·exact hQ a' w' m' β' ν' k
   ·exact hQ a' w' m' β' ν' k
 | cond c x y ihx ihy=>
  intro cc hok σ a w m β ν ex σ' Q hr hI hQ;cases cc <;> simp only[Xk,Qo]at hok <;> try (cases hok;done)
  obtain⟨⟨h0,h1⟩,h2⟩:=hok;simp only[ZD]at hr;split at hr
  ·rename_i hv;have g:=(hI.val h0 (by rw[hv];rfl)).1;rw[hv]at g;simp only[Qd]at g;exact wp_cond_true g (ihx _ h1 σ a w m β ν ex σ' Q hr hI hQ)
  ·rename_i hv;have g:=(hI.val h0 (by rw[hv];rfl)).1;rw[hv]at g;simp only[Qd]at g;exact wp_cond_false g (ihy _ h2 σ a w m β ν ex σ' Q hr hI hQ)
  ·cases hr
 | block id x ihx=>
  intro cc hok σ a w m β ν ex σ' Q hr hI hQ;cases cc <;> simp only[Xk,Qo,Qv]at hok <;> try (cases hok;done)
  obtain⟨rfl,hok⟩:=hok;refine wp_block ?_;simp only[ZD]at hr;split at hr
  ·rename_i i s h1;simp only[QD,QV]at hr;obtain⟨rfl,rfl⟩:=hr;refine ihx _ hok σ a w m β ν (.exit i) s _ h1 hI fun a' w' m' β' ν' k=> ?_;have hq:=hQ a' w' m' β' ν' k;simp only[Ex.toExit,Exit.inBlock];split
   ·rename_i e;rw[Qn e]at hq;exact hq
   ·rename_i e;rw[Qm e]at hq;exact hq
  ·rename_i hne;refine ihx _ hok σ a w m β ν ex σ' _ hr hI fun a' w' m' β' ν' k=> ?_;have hq:=hQ a' w' m' β' ν' k;cases ex
   ·exact hq
   ·exact absurd hr (hne _ _)
   ·exact hq
 | loop x ihx=>
  intro cc hok σ a w m β ν ex σ' Q hr hI hQ;cases cc <;> simp only[Xk]at hok <;> try (cases hok;done)
  rename_i c2;simp only[ZD]at hr;refine wp_loop_rounds n ?_;have key: ∀(k:Nat) (σ:St) (a:Act) (w:World) (m:ZF) (β:Xv) (ν:Own),Ts (ZD K n x) k σ=some (ex,σ')->Inv num N w0 m0 T β0 σ a w m β ν->Code.rounds P c2 Q k a w:=by
   intro k
   induction k with
   | zero=>intro σ a w m β ν h;simp[Ts]at h
   | succ k ih=>
    intro σ a w m β ν h hI;rw[rounds_succ];simp only[Ts]at h;split at h
    ·rename_i s h1;refine ihx _ hok σ a w m β ν .normal s _ h1 hI fun a' w' m' β' ν' k2=> ?_;exact ih s a' w' m' β' ν' h k2
    ·rename_i hne;refine ihx _ hok σ a w m β ν ex σ' _ h hI fun a' w' m' β' ν' k2=> ?_;cases ex
     ·exact absurd h (hne σ')
     ·exact hQ a' w' m' β' ν' k2
     ·exact hQ a' w' m' β' ν' k2
  exact key n σ a w m β ν hr hI
 | exit id=>
  intro cc hok σ a w m β ν ex σ' Q hr hI hQ;cases cc <;> simp only[Xk,Qv]at hok <;> try (cases hok;done)
  subst hok;simp only[ZD,QD,QV]at hr;obtain⟨rfl,rfl⟩:=hr;exact wp_exit (hQ a w m β ν hI)
 | ret=>
  intro cc hok σ a w m β ν ex σ' Q hr hI hQ;cases cc <;> simp[Xk]at hok;simp only[ZD,QD,QV]at hr;obtain⟨rfl,rfl⟩:=hr;exact wp_ret (hQ a w m β ν hI)
end
end Go.Am
namespace Go.Am
def X4 (P:Program):List Rx->List ResultVar->Bool
 | [],[]=>true
 | .tmp t:: rs,.tmp t2:: vs=>decide (t=t2) && X4 P rs vs
 | .cell t sz ag:: rs,.cell t2 ty:: vs=>decide (t=t2) && Z2 P ty sz && Ws P ty ag && X4 P rs vs
 | .own t:: rs,.tmp t2:: vs=>decide (t=t2) && X4 P rs vs
 | _,_=>false
def Qah (P:Program) (num:Y0) (f:Zi) (fn:Func):Bool:=
 decide (f.ntmps=fn.ntmps) && decide (f.nparams<=f.ntmps) && X4 P f.res fn.results.toList && (match fn.body with
  | some c=>Xk P num f.ntmps f.body c
  | none=>false)
def VF [Dr] (P:Program) (num:Y0) (Γ:YU) (h:Qh->Qa->Option (AV×Qa)) (g:Nat):Prop:=
 ∀(args:Qh) (bs:Qa) (r:AV) (bs':Qa),h args bs=some (r,bs')->XH args=true->
  ∀(w:World) (m:ZF) (β:Xv) (ν:Own) (vs:Ze),Γ.G w m->Γ.Gb<=w.heap.size->vs.size=args.length->
   (∀(i:Nat) (c:AV),args[i]? =some c->∃u,vs[i]? =some u/\Qd num β w m c u)->RC num β w m ν bs->
   (∀b p,ν b=some p->b < w.heap.size/\Γ.Gb<=b/\p.isG=true)->
   Calls P g vs w (TI num β bs' r w m ν)
def Qcs [Dr] (P:Program) (num:Y0) (Γ:YU) (h:Qh->WU) (g:Nat):Prop:=
 ∀(args:Qh) (r:AV),h args=some r->XH args=true->∀(w:World) (m:ZF) (β:Xv) (vs:Ze),Γ.G w m->Γ.Gb<=w.heap.size->vs.size=args.length->
  (∀(i:Nat) (c:AV),args[i]? =some c->∃u,vs[i]? =some u/\Qd num β w m c u)->
  Calls P g vs w fun e w'=>∃v m' ν',e= .returned v/\ZO (fun _=>False) w m w' m'/\r.ok=true/\Qd num β w' m' r v/\Zz w' m' ν' .f r v/\∀b p,ν' b=some p->b < w'.heap.size/\w.heap.size<=b/\p= .f
def YF (h:Qh->WU):Qh->Qa->Option (AV×Qa):=fun args bs=>(h args).map fun r=>(r,bs)
structure JT [Dr] (P:Program) (num:Nat->Option Nat) (Γ:YU) (tb:Nat->Option AFn):Prop where
 mix:P.follows .mixedOrders=true
 nms: ∀k g,P.globalNamed (Lj k)=some g->Γ.nm k g
 enters:Vj P num
 code: ∀(f g:Nat) (fn:Zi),num f=some g->tb f=some (.code fn)->∃F,P.funcs[g]? =some F/\Qah P num fn F=true
 orc: ∀(f g:Nat) (h:List AV->List (List AV)->Option (AV×List (List AV))),num f=some g->tb f=some (.orc h)->VF P num Γ h g
section
variable {P:Program} {num:Nat->Option Nat} {β:List Blk} {w w':World} {m:Nat->Nat} {ν:Own} {N:Nat} {w0:World} {m0:Nat->Nat} {T:Nat->Prop} {β0:List Blk} {σ:St} {a:Act} {tb:Nat->Option AFn}
def Qar:List Rx->Nat->Bool
 | [.tmp t],n=>decide (t=n)
 | .own t:: _,n=>decide (t=n)
 | _,_=>false
def XZ (rs:List Rx) (ν:Own):Own:=fun b=>match ν b with
 | some (.s n)=>if Qar rs n then some .f else none
 | some p=>if p.isG then some p else none
 | none=>none
def Ro:=@Bool.and_true
def Ot [Dr] (hI:Inv num N w0 m0 T β0 σ a w m β ν) {r:Rx} {rv:ResultVar} {v:AV} (ho:X4 P [r] [rv]=true) (hr:V9 σ.env r=some v):
  ∃u,(match rv with
   | .tmp t=>(pure (a.tmps.getD t undef):Sem Value)
   | .cell t ty=>do loadVar ty (<- asAddr (a.tmps.getD t undef))).run P w= .ok u w/\v.ok=true/\Qd num β w m v u/\Zz w m (XZ [r] ν) .f v u:=by
 cases r with
 | tmp t=>
  cases rv with
  | cell t2 ty=>simp[X4]at ho
  | tmp t2=>
   simp only[X4,Ro,Qv]at ho;subst ho;simp only[V9]at hr;split at hr
   ·rename_i hk;injection hr with hr
    subst hr;obtain⟨_,h2⟩:=hI.at_ (n:=t) (fun e=>by rw[e]at hk;cases hk);have h3:=hI.slots t _ h2;rw[QT hk]at h3;refine⟨a.tmps.getD t undef,rfl,hk,h3.1,?_⟩;exact Wn (θ:=fun _=> .f) (fun b hb=>⟨rfl,rfl,by unfold XZ;rw[hb];simp[Qar]⟩) h3.2
   ·cases hr
 | own t=>
  cases rv with
  | cell t2 ty=>simp[X4]at ho
  | tmp t2=>
   simp only[X4,Ro,Qv]at ho;subst ho;simp only[V9]at hr;split at hr
   ·rename_i sz xs hv;injection hr with hr
    subst hr;obtain⟨_,h2⟩:=hI.at_ (n:=t) (fun e=>by rw[e]at hv;cases hv);have h3:=hI.slots t _ h2;rw[hv,QT rfl]at h3;refine⟨a.tmps.getD t undef,rfl,rfl,h3.1,?_⟩;exact Wn (θ:=fun _=> .f) (fun b hb=>⟨rfl,rfl,by unfold XZ;rw[hb];simp[Qar]⟩) h3.2
   ·cases hr
 | cell t sz ag=>
  cases rv with
  | tmp t2=>simp[X4]at ho
  | cell t2 ty=>
   simp only[X4,Ro,Qo,Qv]at ho;obtain⟨⟨rfl,h1⟩,h2⟩:=ho;simp only[V9]at hr;split at hr
   ·rename_i cs hcs;obtain⟨b,cur,e,_,hq,hb,hz,hc⟩:=hI.box_at (q:=t) (off:=0) hcs (.inr ⟨rfl,rfl⟩);obtain⟨u,g1,g2,g3,g4⟩:=Vi (w:=w) (num:=num) (β:=β) (m:=m) (ν:=XZ [.cell t sz ag] ν) (o:=0) (b:=b) h1 h2 hr (fun i c hi=>by
     obtain⟨u,k1,k2,k3,_⟩:=hc i c hi;exact⟨u,by rw[Zk,cell_of_row w b i cur e (0,0) hb];exact k1,k2,k3⟩)
    have hq2:a.tmps.getD t undef= .pointer (some ⟨b,0,none⟩):=hq;refine⟨u,?_,g2,g3,g4 _⟩;simp only[hq2,asAddr,Sem.run_bind,Sem.run_pure,Result.andThen_ok];exact g1
   ·cases hr
def SB [Dr] (hI:Inv num N w0 m0 T β0 σ a w m β ν): ∀{rs:List Rx} {rvs:List ResultVar} {vs:Qh},X4 P rs rvs=true->X0 σ.env rs=some vs->
  ∃us:ZE,(rvs.mapM fun(rv:ResultVar)=>(match rv with
   | .tmp t=>(pure (a.tmps.getD t undef):Sem Value)
   | .cell t ty=>do loadVar ty (<- asAddr (a.tmps.getD t undef)))).run P w= .ok us w/\us.length=vs.length/\∀(i:Nat) (c:AV),vs[i]? =some c->∃u,us[i]? =some u/\c.ok=true/\Qd num β w m c u
 | [],[],vs,_,hr=>by
  simp only[X0,QD]at hr;subst hr;exact⟨[],by simp,rfl,fun i c h=>by simp at h⟩
 | r:: rs,rv:: rvs,vs,ho,hr=>by
  simp only[X0]at hr;split at hr
  ·rename_i v vs2 h1 h2;injection hr with hr
   subst hr;have ho2:X4 P [r] [rv]=true/\X4 P rs rvs=true:=by
    cases r <;> cases rv <;> simp only[X4,Qo,Ro,Z3]at ho ⊢ <;> first | exact ho | exact ho.elim
   obtain⟨u,g1,g2,g3,_⟩:=Ot (P:=P) hI ho2.1 h1;obtain⟨us,k1,k2,k3⟩:=SB hI ho2.2 h2;refine⟨u:: us,?_,by simp[k2],fun i c hc=> ?_⟩
   ·rw[K2];simp only[Sem.run_bind,g1,Result.andThen_ok,k1,Sem.run_pure]
   ·cases i with
    | zero=>simp at hc;subst hc;exact⟨u,rfl,g2,g3⟩
    | succ i=>simpa using k3 i c (by simpa using hc)
  ·cases hr
 | [],_:: _,_,h,_=>by simp[X4]at h
 | r:: _,[],_,h,_=>by cases r <;> simp[X4]at h
def S6 [Dr] {Γ:YU} {h:Qh->WU} {g:Nat} (hP:Qcs P num Γ h g):VF P num Γ (YF h) g:=by
 intro args bs r bs' hc hok w m β ν vs hG hGb hvs hrep hbox hlt;unfold YF at hc;cases hh:h args with
 | none=>rw[hh]at hc;cases hc
 | some r2=>
  rw[hh]at hc;simp only[QS,QD,QV]at hc;obtain⟨rfl,rfl⟩:=hc;refine(hP args r2 hh hok w m β vs hG hGb hvs hrep).mono fun e w' he=> ?_;obtain⟨v,m',ν',rfl,hS,h1,h2,h3,h4⟩:=he;have hjoin: ∀b p,ν b=some p->(fun b=>match ν b with
    | some p=>some p
    | none=>ν' b:Own) b=some p:=fun b p hb=>by simp only[hb]
  refine⟨v,m',β,(fun b=>match ν b with
    | some p=>some p
    | none=>ν' b),rfl,Ge.refl β,⟨hS.os,hS.tape,hS.output,hS.size,fun b hb _=>hS.same b hb id,hS.le,hS.drawn⟩,⟨hbox.1,fun i cs b hb1 hb2 hne=> ?_⟩,h1,h2,?_,fun b p hp=> ?_⟩
  ·exact Wm (Ge.refl β) hS.le (fun x hx=>⟨(hS.same x (hlt x _ hx).1 id).1,(hS.same x (hlt x _ hx).1 id).2,hjoin x _ hx⟩)
    (fun j x hx=>⟨(hS.same x (hlt x _ hx).1 id).1,(hS.same x (hlt x _ hx).1 id).2,hjoin x _ hx⟩) (hbox.2 i cs b hb1 hb2 hne)
  ·refine Wn (θ:=id) (fun b hb=>⟨rfl,rfl,?_⟩) h3;have:=h4 b _ hb;cases hν:ν b with
   | none=>simp only;exact hb
   | some q=>have:=(hlt b q hν).1;omega
  ·simp only at hp;split at hp
   ·rename_i q hq;injection hp with hp
    subst hp;have:=hlt b q hq;exact⟨Pj this.1 hS.size,.inr ⟨q,hq⟩,.inl this.2.2⟩
   ·have:=h4 b p hp;exact⟨this.1,.inl this.2.1,.inr this.2.2⟩
def U8:=@List.getD_eq_getElem?_getD
def Hg [Dr] {Γ:YU} {f:Zi} {F:Func} {args:Qh} {bs:Qa} {vs:Ze} (hnp:args.length=f.nparams) (hnt:f.ntmps=F.ntmps) (hpt:f.nparams<=f.ntmps) (hok:XH args=true)
  (hvs:vs.size=args.length) (hrep: ∀(i:Nat) (c:AV),args[i]? =some c->∃u,vs[i]? =some u/\Qd num β w m c u) (hbox:RC num β w m ν bs)
  (hlt: ∀b p,ν b=some p->b < w.heap.size/\Γ.Gb<=b/\p.isG=true):
  Inv num f.ntmps w m (fun b=>∃p,ν b=some p) β {env:=XB args,bs} {tmps:=vs ++ Array.replicate (F.ntmps - vs.size) undef,defers:=[]} w m β ν:=by
 refine⟨rfl,by simp;omega,fun t ht=> ?_,fun t v hv=> ?_,hbox.1,hbox.2,fun b p hb=>⟨(hlt b p hb).1,.inr ⟨p,hb⟩⟩,ZO.refl _ w m,Ge.refl β⟩
 ·simp only[XB];rw[U8,Q3 (by omega)];rfl
 ·simp only[XB];rw[U8];cases hat:args[t]? with
  | none=>exact trivial
  | some c=>
   obtain⟨u,g1,g2⟩:=hrep t c hat;have hck:c.ok=true:=by
    unfold XH at hok;rw[XK]at hok;exact hok c (WC hat)
   have hlt2:t < vs.size:=by
    rcases QR t vs.size with h | h
    ·exact h
    ·rw[VI h]at g1;cases g1
   rw[U7 hlt2,g1]at hv;injection hv with hv
   subst hv;simp only[Sg];exact(QT (by rw[PT];exact hck)).2 ⟨by rw[QU];exact g2,Yp _ _ _⟩
def Er [Dr]: ∀(xs ys:Qa),X6 xs ys=true->∀(i:Nat) (x y:Qh),xs[i]? =some x->ys[i]? =some y->x=y\/QY y=true
 | [],_,_,i,x,y,h,_=>by simp at h
 | a:: aq,[],h,_,_,_,_,_=>by simp[X6]at h
 | a:: aq,b:: bs,h,i,x,y,hx,hy=>by
  simp only[X6,Qo,Vu]at h;cases i with
  | zero=>
   simp at hx hy;subst hx hy;rcases h.1 with h1 | h1
   ·exact .inl (VE _ _ h1)
   ·exact .inr h1
  | succ i=>exact Er aq bs h.2 i x y (by simpa using hx) (by simpa using hy)
def MR [Dr] {f:Zi} {F:Func} {bs bs':Qa} {r:AV} (hres:X4 P f.res F.results.toList=true) (hbox:RC num β w m ν bs) (σ':St) (hfin:Xq f bs σ'=some (r,bs'))
  (a':Act) (w':World) (m':ZF) (β':Xv) (ν':Own) (hI:Inv num f.ntmps w m (fun b=>∃p,ν b=some p) β σ' a' w' m' β' ν'):
  a'.defers=[]/\∃v,(results F a'.tmps).run P w'= .ok v w'/\TI num β bs' r w m ν (.returned v) w':=by
 refine⟨hI.defers,?_⟩;have hboxes: ∀rs,X6 bs (σ'.bs.take bs.length)=true->RC num β w' m' (XZ rs ν') (σ'.bs.take bs.length):=fun rs hck=>by
  have hge:=hI.ge;have hle:bs.length<=σ'.bs.length:=by
   rw[<- hI.blen];rcases QR β'.length bs.length with h | h
   ·exfalso;have h0:β'.length < β.length:=by rw[hbox.1];exact h
    have:=hge β'.length _ (Zv h0);rw[Q3 (ZJ _)]at this;cases this
   ·exact h
  refine⟨by rw[Xf,hbox.1];omega,fun i cs b h1 h2 hne=> ?_⟩
  ·have hck2:=Er _ _ hck i;have h10:=h1;rw[VJ]at h1;split at h1
   ·have hb2:=hI.boxes i cs b h1 (hge i b h2) hne;obtain⟨x,hx⟩: ∃x,bs[i]? =some x:=⟨_,Zv (by assumption)⟩;have hb3:=hck2 x cs hx h10;rw[Rb]at hb3;have hent:x=cs->Oi num β w m ν i b cs:=fun e=>by subst e;exact hbox.2 i x b hx h2 hne
    refine⟨fun hmp=> ?_,fun hmp=> ?_,hb2.2.2⟩
    ·obtain⟨cur,e,q1,q2,q3,q4,q5⟩:=hb2.1 hmp;refine⟨cur,e,q1,q2,q3,by unfold XZ;rw[q4];rfl,fun j c hc=> ?_⟩;obtain⟨u,p1,p2,p3,p4⟩:=q5 j c hc;refine⟨u,p1,p2,?_,Wn (θ:=id) (fun x hx=>⟨rfl,rfl,by unfold XZ;rw[hx];rfl⟩) p4⟩;rcases hb3 with e | hb3
     ·obtain⟨_,_,_,_,_,_,r5⟩:=(hent e).1 hmp;obtain⟨u0,_,_,r3,_⟩:=r5 j c hc;exact Rl hge c u0 u r3 p3
     ·exact Ud c u (hb3 j c hc) p3
    ·obtain⟨es,clock,xs,q1,q2,q3,q4,q5,q6⟩:=hb2.2.1 hmp;refine⟨es,clock,xs,q1,q2,by unfold XZ;rw[q3];rfl,q4,q5,fun j c hc=> ?_⟩;obtain⟨e2,k,v,p1,p2,p3,p4⟩:=q6 j c hc;rcases hb3 with e | hb3
     ·obtain⟨_,_,xs0,_,_,_,r4,_,r6⟩:=(hent e).2.1 hmp;have hxs:xs0=xs:=by rw[q4]at r4;injection r4 with _ r4;exact r4.symm
      obtain⟨e3,k3,v3,_,g2,g3,g4⟩:=r6 j c (by rw[hxs];exact hc);rw[p2]at g2;injection g2 with g2
      injection g2 with g5 g2
      injection g2 with g6
      subst g5 g6;exact⟨e2,k,v,p1,p2,Rl hge k _ _ g3 p3,Rl hge v _ _ g4 p4⟩
     ·have hf:=hb3 (j+1) c (by rw[q4];simpa using hc);rw[p2]at hf;simp only[AV.gpfree,QY,Ro,Qo]at hf;exact⟨e2,k,v,p1,p2,Ud k _ hf.1 p3,Ud v _ hf.2 p4⟩
   ·cases h1
 have hboxesAll: ∀rs,RC num β' w' m' (XZ rs ν') σ'.bs:=fun rs=>by
  refine⟨hI.blen,fun i cs b h1 h2 hne=> ?_⟩;exact Wm (Ge.refl β') (Le.refl w' m') (fun x hx=>⟨rfl,rfl,by unfold XZ;rw[hx];rfl⟩) (fun _ x hx=>⟨rfl,rfl,by unfold XZ;rw[hx];rfl⟩) (hI.boxes i cs b h1 h2 hne)
 have hown: ∀rs b p,XZ rs ν' b=some p->b < w'.heap.size/\(w.heap.size<=b\/∃q,ν b=some q)/\(p.isG=true\/p= .f):=fun rs b p hp=>by
  unfold XZ at hp;split at hp
  ·rename_i n hn;split at hp
   ·injection hp with hp
    subst hp;have:=hI.lt b _ hn;exact⟨this.1,this.2,.inr rfl⟩
   ·cases hp
  ·rename_i q hq;split at hp
   ·rename_i hg;injection hp with hp
    subst hp;have:=hI.lt b _ hq;exact⟨this.1,this.2,.inl hg⟩
   ·cases hp
  ·cases hp
 have hrun: ∀us:ZE,(F.results.toList.mapM fun(rv:ResultVar)=>(match rv with
   | .tmp t=>(pure (a'.tmps.getD t undef):Sem Value)
   | .cell t ty=>do loadVar ty (<- asAddr (a'.tmps.getD t undef)))).run P w'= .ok us w'->
   (results F a'.tmps).run P w'= .ok (if h:us.toArray.size=1 then us.toArray[0]else .tuple us.toArray) w':=fun us hus=>by
  unfold results;rw[QcC];simp only[Sem.run_bind,Sem.run_map,Sem.run_pure];exact Wu (fun z:Result ZE=>(z.andThen fun a w'=> .ok a.toArray w').andThen (fun(a:Ze) w'=> .ok (if h:a.size=1 then a[0]else .tuple a) w')) hus
 unfold Xq at hfin;split at hfin
 ·rename_i hown1;obtain⟨t0,rs0,hf0⟩: ∃t0 rs0,f.res= .own t0:: rs0:=by
   cases hfr:f.res with
   | nil=>rw[hfr]at hown1;cases hown1
   | cons r0 rs=>
    cases r0 with
    | own t0=>exact⟨t0,rs,rfl⟩
    | tmp t=>rw[hfr]at hown1;cases hown1
    | cell t sz ag=>rw[hfr]at hown1;cases hown1
  cases hv0:X0 σ'.env f.res with
  | none=>rw[hv0]at hfin;cases hfin
  | some vs0=>
   rw[hv0]at hfin;obtain⟨us,k1,k2,k3⟩:=SB hI hres hv0;rw[hf0]at hv0 hres;simp only[X0]at hv0;split at hv0
   case h_2=>cases hv0
   rename_i x1 x2 e1 e2;injection hv0 with hv0
   subst hv0;obtain⟨rv0,rvs0,hrv0⟩: ∃rv0 rvs0,F.results.toList=rv0:: rvs0:=by
    cases hfr:F.results.toList with
    | nil=>rw[hfr]at hres;simp[X4]at hres
    | cons rv0 rs=>exact⟨_,_,rfl⟩
   have hres1:X4 P [.own t0] [rv0]=true:=by
    rw[hrv0]at hres;cases rv0 <;> simp only[X4,Qo,Ro,Z3]at hres ⊢ <;> first | exact hres.1 | exact hres.elim
   obtain⟨u,g1,g2,g3,g4⟩:=Ot (P:=P) hI hres1 e1;split at hfin
   case h_2=>cases hfin
   rename_i sz xs v2 vs hx;injection hx with hx
   injection hx with hx1 hx2
   subst hx1 hx2;obtain⟨us0,hus⟩: ∃us0,us=u:: us0:=by
    rw[hrv0]at k1;simp only[K2,Sem.run_bind,g1,Result.andThen_ok]at k1;cases hm: (rvs0.mapM fun(rv:ResultVar)=>(match rv with
     | .tmp t=>(pure (a'.tmps.getD t undef):Sem Value)
     | .cell t ty=>do loadVar ty (<- asAddr (a'.tmps.getD t undef)))).run P w' with
    | ok us0 w2=>
     rw[hm]at k1;simp only[Result.andThen_ok,Sem.run_pure]at k1;injection k1 with k1
     exact⟨us0,k1.symm⟩
    | _=>rw[hm]at k1;simp[Result.andThen]at k1
   have hsz: ¬us.toArray.size=1:=by
    simp only[WD,k2];simp
   have hret: (results F a'.tmps).run P w'= .ok (.tuple us.toArray) w':=by have:=hrun us k1;rwa[dif_neg hsz]at this
   have hrep:Qd num β' w' m' (.otup sz xs ((v2:: vs).map AV.strip)) (.tuple us.toArray):=by
    simp only[Qd]at g3 ⊢;refine⟨us.toArray,rfl,by simp[k2],⟨u,by simp[hus],g3⟩,?_⟩;rw[R8];intro i c hci;obtain⟨d,hd,rfl⟩:=Zn hci;obtain⟨x,q1,_,q3⟩:=k3 (i+1) d (by simpa using hd);exact⟨x,by rw[show 0+1+i=i+1 by omega];simpa using q1,by rw[QU];exact q3⟩
   have hownT:Zz w' m' (XZ (.own t0:: rs0) ν') .f (.otup sz xs ((v2:: vs).map AV.strip)) (.tuple us.toArray):=⟨us.toArray,u,rfl,by simp[hus],g4⟩;split at hfin
   ·simp only[QD,QV]at hfin;obtain⟨rfl,rfl⟩:=hfin;exact⟨.tuple us.toArray,hret,.tuple us.toArray,m',β',XZ (.own t0:: rs0) ν',rfl,hI.ge,hI.step,hboxesAll _,rfl,hrep,hownT,hown _⟩
   ·split at hfin
    ·rename_i hgp;simp only[QD,QV]at hfin;obtain⟨rfl,rfl⟩:=hfin;have hg2: (AV.otup sz xs ((v2:: vs).map AV.strip)).gpfree=true:=by
      have:=hgp.1;simp only[AV.gpfree,Qo]at this ⊢;exact⟨this.1,Hw this.2⟩
     exact⟨.tuple us.toArray,hret,.tuple us.toArray,m',β,XZ (.own t0:: rs0) ν',rfl,Ge.refl β,hI.step,hboxes _ hgp.2,rfl,Ud _ _ hg2 hrep,hownT,hown _⟩
    ·cases hfin
 split at hfin
 ·rename_i v0 hv0;obtain⟨us,k1,k2,k3⟩:=SB hI hres hv0;obtain⟨r0,hr0⟩: ∃r0,f.res=[r0]:=by
   cases hfr:f.res with
   | nil=>rw[hfr]at hv0;simp[X0]at hv0
   | cons r0 rs=>
    cases rs with
    | nil=>exact⟨r0,rfl⟩
    | cons r1 rs=>
     rw[hfr]at hv0;simp only[X0]at hv0;split at hv0
     ·rename_i x1 x2 e1 e2;split at e2
      ·injection e2 with e2
       subst e2;simp at hv0
      ·cases e2
     ·cases hv0
  obtain⟨rv0,hrv0⟩: ∃rv0,F.results.toList=[rv0]:=by
   cases hfr:F.results.toList with
   | nil=>rw[hfr,hr0]at hres;cases r0 <;> simp[X4]at hres
   | cons rv0 rs=>
    cases rs with
    | nil=>exact⟨rv0,rfl⟩
    | cons rv1 rs=>rw[hfr,hr0]at hres;cases r0 <;> cases rv0 <;> simp[X4]at hres
  rw[hr0,hrv0]at hres;rw[hr0]at hv0;simp only[X0]at hv0;split at hv0
  ·rename_i x1 x2 e1 e2;injection e2 with e2
   subst e2;injection hv0 with hv0
   injection hv0 with hv0 _
   subst hv0;obtain⟨u,g1,g2,g3,g4⟩:=Ot (P:=P) hI hres e1;have hus:us=[u]:=by
    rw[hrv0]at k1;simp only[K2,List.mapM_nil,Sem.run_bind,g1,Result.andThen_ok,Sem.run_pure]at k1;injection k1 with k1
    exact k1.symm
   subst hus;split at hfin
   ·simp only[QD,QV]at hfin;obtain⟨rfl,rfl⟩:=hfin;exact⟨u,hrun [u] k1,u,m',β',XZ [r0] ν',rfl,hI.ge,hI.step,hboxesAll [r0],g2,g3,g4,hown [r0]⟩
   ·split at hfin
    ·rename_i hgp;simp only[QD,QV]at hfin;obtain⟨rfl,rfl⟩:=hfin;exact⟨u,hrun [u] k1,u,m',β,XZ [r0] ν',rfl,Ge.refl β,hI.step,hboxes [r0] hgp.2,g2,Ud _ _ hgp.1 g3,g4,hown [r0]⟩
    ·cases hfin
  ·cases hv0
 ·rename_i vs0 hv0 hne;obtain⟨us,k1,k2,k3⟩:=SB hI hres hne;have hsz: ¬us.toArray.size=1:=by
   simp only[WD,k2];intro h1
   match vs0,h1 with
   | [v1],_=>exact hv0 v1 rfl
  have hret: (results F a'.tmps).run P w'= .ok (.tuple us.toArray) w':=by have:=hrun us k1;rwa[dif_neg hsz]at this
  split at hfin
  ·simp only[QD,QV]at hfin;obtain⟨rfl,rfl⟩:=hfin;refine⟨.tuple us.toArray,hret,.tuple us.toArray,m',β',XZ [] ν',rfl,hI.ge,hI.step,hboxesAll [],rfl,?_,trivial,hown []⟩;simp only[Qd];refine⟨us.toArray,rfl,by simp[k2],?_⟩;rw[R8];intro i c hci;obtain⟨d,hd,rfl⟩:=Zn hci;obtain⟨u,g1,_,g3⟩:=k3 i d hd;exact⟨u,by simpa using g1,by rw[QU];exact g3⟩
  ·split at hfin
   ·rename_i hgp;simp only[QD,QV]at hfin;obtain⟨rfl,rfl⟩:=hfin;refine⟨.tuple us.toArray,hret,.tuple us.toArray,m',β,XZ [] ν',rfl,Ge.refl β,hI.step,hboxes [] hgp.2,rfl,?_,trivial,hown []⟩;simp only[Qd];refine⟨us.toArray,rfl,by simp[k2],?_⟩;rw[R8];intro i c hci;obtain⟨d,hd,rfl⟩:=Zn hci;obtain⟨u,g1,_,g3⟩:=k3 i d hd;have hgp1:=hgp.1;rw[Rb]at hgp1;exact⟨u,by simpa using g1,by rw[QU];exact Ud d u (hgp1 i d hd) g3⟩
   ·cases hfin
 ·cases hfin
def Oj [Dr] {Γ:YU} (hF:JT P num Γ tb): ∀n,KOk P num Γ (YJ tb n):=by
 intro n;refine⟨hF.nms,?_⟩
 induction n with
 | zero=>intro f g args bs r bs' _ h;simp[YJ]at h
 | succ n ih=>
  intro f g args bs r bs' hfg hc hok w m β ν vs hG hGb hvs hrep hbox hlt;simp only[YJ]at hc;split at hc
  ·cases hc
  ·rename_i h htb;exact hF.orc f g h hfg htb args bs r bs' hc hok w m β ν vs hG hGb hvs hrep hbox hlt
  ·rename_i fn htb;split at hc
   ·rename_i hnp;obtain⟨F,hFf,hokF⟩:=hF.code f g fn hfg htb;unfold Qah at hokF;simp only[Qo,Qv]at hokF;obtain⟨⟨⟨hnt,hpt⟩,hres⟩,hbody⟩:=hokF;split at hbody
    ·rename_i cc hcc;have hInv:=Hg (ν:=ν) hnp hnt hpt hok hvs hrep hbox hlt;refine calls_of_wp hFf hcc ?_;split at hc
     ·rename_i σ' hrc;refine VN hF.mix hF.enters ⟨hF.nms,ih⟩ hG hGb (fun b hb=>by obtain⟨p,hp⟩:=hb;exact(hlt b p hp).2.1) fn.body cc hbody _ _ w m β ν .normal σ' _ hrc hInv fun a' w' m' β' ν' hI=> ?_;exact MR hres hbox σ' hc a' w' m' β' ν' hI
     ·rename_i σ' hrc;refine VN hF.mix hF.enters ⟨hF.nms,ih⟩ hG hGb (fun b hb=>by obtain⟨p,hp⟩:=hb;exact(hlt b p hp).2.1) fn.body cc hbody _ _ w m β ν .ret σ' _ hrc hInv fun a' w' m' β' ν' hI=> ?_;exact MR hres hbox σ' hc a' w' m' β' ν' hI
     ·cases hc
    ·cases hbody
   ·cases hc
end
#print axioms Oj
end Go.Am
namespace Go.Am
def cl0 (sz:Nat):AC:= .reg false [⟨some 2,.mov (.c (.sl true sz [])),none⟩]
def cl1:AC:= .reg false [⟨some 3,.mov (.t 0),none⟩,⟨some 4,.isn false (.t 3),none⟩]
def cl2 (g:Bool) (sz:Nat):AC:= .reg false [⟨some 2,.mov (.c (if g then .gs 0 0 0 0 else .sl true sz [])),none⟩]
def cl3 (g:Bool) (bytes sz:Nat):AC:= .reg false [⟨some 5,.mksl sz [],none⟩,⟨some 6,.mov (.t 0),none⟩,
 ⟨some 7,if g then .appg bytes sz (.t 5) (.t 6)else .app bytes sz (.t 5) (.t 6),none⟩,⟨some 2,if g then .mov (.t 7)else .mvs 7,none⟩]
def QmN:AC:= .reg false [⟨some 5,.zlit,none⟩,⟨some 6,.mov (.t 0),none⟩,⟨some 7,.appzz (.t 5) (.t 6),none⟩,⟨some 2,.mov (.t 7),none⟩]
def MJ (g e:Bool) (bytes sz:Nat):AC:=if g && e then QmN else cl3 g bytes sz
def Ti (P:Program) (num:Y0) (g:Bool) (bytes sz:Nat) (F:Func):Bool:=
 decide (F.ntmps=8) && X4 P [.tmp 2] F.results.toList && (match F.body with
  | some (.seq r0 (.seq (.seq r1 (.cond (.tmp 4) (.seq r2 .ret) .skip)) (.seq r3 .ret)))=>
   Xk P num 8 (cl0 sz) r0 && Xk P num 8 cl1 r1 && Xk P num 8 (cl2 g sz) r2 && (Xk P num 8 (MJ g true bytes sz) r3 && Xk P num 8 (MJ g false bytes sz) r3)
  | _=>false)
def TA (g:Bool) (bytes sz:Nat) (ys:Qa) (bs:Qa):Option (AV×Qa):=
 if ys.length*bytes<=140737488355328 then
  (if g then(if ys.length=0 then some (.gs 0 0 0 0,bs)else if Zw ys then some (.gs bs.length 0 sz ys.length,bs ++ [ys.flatten.map AV.strip])else none)
   else some (.sl true sz ys,bs))
  else none
def XC (g:Bool) (bytes sz:Nat):Qh->Qa->Option (AV×Qa)
 | [.sl _ s ys],bs=>if s=sz then TA g bytes sz ys bs else none
 | _,_=>none
def Tz:Zi:={nparams:=1,ntmps:=8,res:=[.tmp 2],body:= .skip,keep:=true}
def BK {K:Yo} {g:Bool} {bytes sz:Nat} {o:Bool} {ys:Qa} {r:AV} {bs':Qa} (σ:St) (h0:σ.env 0= .sl o sz ys) (h:TA g bytes sz ys σ.bs=some (r,bs')):
  ∃σ3,ZD K 0 (.seq (MJ g ys.isEmpty bytes sz) .ret) σ=some (.ret,σ3)/\Xq Tz [] σ3=some (r,bs'):=by
 unfold TA at h;split at h
 ·rename_i hb;cases g
  ·simp only[Z3,Zd,QD,QV]at h;obtain⟨rfl,rfl⟩:=h;refine⟨_,by simp[ZD,MJ,cl3,Z9,Z4,Qi,Xy,YC,upd,h0,val,AV.strip,AV.ok,hb];rfl,?_⟩;simp[Xq,X0,V9,Tz,upd,AV.ok]
  ·simp only[Zl]at h;split at h
   ·rename_i hy;simp only[QD,QV]at h;obtain⟨rfl,rfl⟩:=h;have hy2:ys=[]:=YE hy;subst hy2;refine⟨_,by simp[ZD,MJ,QmN,Z9,Z4,Qi,YC,upd,h0,val,AV.strip];rfl,?_⟩;simp[Xq,X0,V9,Tz,upd,AV.ok]
   ·rename_i hy;split at h
    ·rename_i hgp;simp only[QD,QV]at h;obtain⟨rfl,rfl⟩:=h;have hy3:ys≠[]:=fun e=>hy (by rw[e];rfl);have hie:ys.isEmpty=false:=by cases ys <;> simp_all
     refine⟨_,by simp[ZD,MJ,hie,cl3,Z9,Z4,Qi,Xy,YC,upd,h0,val,AV.strip,AV.ok,hb,hy3];rfl,?_⟩;simp[Xq,X0,V9,Tz,upd,AV.ok]
    ·cases h
 ·cases h
section
variable {P:Program} {num:Nat->Option Nat}
def UT [Dr] {Γ:YU} (hnm: ∀k g,P.globalNamed (Lj k)=some g->Γ.nm k g) (hmix:P.follows .mixedOrders=true) (hE:Vj P num) {g:Bool} {bytes sz id:Nat} {F:Func} (hFf:P.funcs[id]? =some F) (hok:Ti P num g bytes sz F=true):
  VF P num Γ (XC g bytes sz) id:=by
 intro args bs r bs' hc hokv w m β ν vs hG hGb hvs hrep hbox hlt;have hK:KOk P num Γ (fun _ _ _=>none):=⟨hnm,fun _ _ _ _ _ _ _ h=>by cases h⟩;have hT: ∀b,(∃p,ν b=some p)->Γ.Gb<=b:=fun b hb=>by obtain⟨p,hp⟩:=hb;exact(hlt b p hp).2.1
 unfold XC at hc;split at hc
 ·rename_i _ o s ys;split at hc
  ·rename_i hcond;subst hcond;unfold Ti at hok;simp only[Qo,Qv]at hok;obtain⟨⟨hnt,hres⟩,hbody⟩:=hok;split at hbody
   ·rename_i r0 r1 r2 r3 hcc;simp only[Qo]at hbody;obtain⟨⟨⟨k0,k1⟩,k2⟩,k3⟩:=hbody;have hInv:=Hg (num:=num) (f:=Tz) (F:=F) (ν:=ν) (Γ:=Γ) rfl hnt.symm (show 1<=8 by omega) hokv hvs hrep hbox hlt;have hend:=MR (f:=Tz) (F:=F) (r:=r) (bs':=bs') hres hbox;have hfin0: ∀σ' k,Xq Tz k σ'=Xq Tz [] σ':=fun σ' k=>by
     unfold Xq;split <;> rfl
    refine calls_of_wp hFf hcc ?_;refine wp_seq ?_;refine VN hmix hE hK hG hGb hT (n:=0) _ _ k0 _ _ w m β ν .normal _ _ (by simp[ZD,cl0,Z9,Z4,Qi,YC,val,AV.ok];rfl) hInv fun a1 w1 m1 β1 ν1 hI1=> ?_;refine wp_seq (wp_seq ?_);cases ys with
    | nil=>
     refine VN hmix hE hK hG hGb hT (n:=0) _ _ k1 _ _ w1 m1 β1 ν1 .normal _ _ (by simp[ZD,cl1,Z9,Z4,Qi,YC,val,AV.ok,upd,XB,AV.strip];rfl) hI1 fun a2 w2 m2 β2 ν2 hI2=> ?_;have hb: ∃b,a2.eval (.tmp 4)= .bool b:=by
      obtain⟨_,h2⟩:=hI2.at_ (n:=4) (by simp[upd]);have h3:=hI2.slots 4 _ h2;simp only[upd]at h3;obtain⟨⟨b,h3⟩,_⟩:=h3;exact⟨b,h3⟩
     obtain⟨b,hb⟩:=hb;cases b
     ·refine wp_cond_false hb (wp_skip ?_);obtain⟨σ3,e1,e2⟩:=BK (K:=fun _ _ _=>none) (o:=false) (σ:={env:=upd (upd (upd (XB [.sl o s []]) 2 (.sl true s [])) 3 (.sl false s [])) 4 .anyb,bs:=bs}) (by simp[upd,XB,AV.strip]) hc;exact VN hmix hE hK hG hGb hT (n:=0) (.seq (MJ g _ bytes s) .ret) (.seq r3 .ret) (by simp[Xk,k3]) _ _ w2 m2 β2 ν2 .ret σ3 _ e1 hI2 fun a3 w3 m3 β3 ν3 hI3=>hend σ3 (by rw[hfin0];exact e2) a3 w3 m3 β3 ν3 hI3
     ·refine wp_cond_true hb (wp_seq ?_);refine VN hmix hE hK hG hGb hT (n:=0) _ _ k2 _ _ w2 m2 β2 ν2 .normal {env:=upd (upd (upd (upd (XB [.sl o s []]) 2 (.sl true s [])) 3 (.sl false s [])) 4 .anyb) 2 (if g then .gs 0 0 0 0 else .sl true s []),bs:=bs} _
       (by cases g <;> simp[ZD,cl2,Z9,Z4,Qi,YC,val,AV.ok]) hI2 fun a3 w3 m3 β3 ν3 hI3=> ?_
      refine wp_ret ?_;refine hend _ ?_ a3 w3 m3 β3 ν3 hI3;rw[hfin0];cases g
      ·simp[TA]at hc;obtain⟨rfl,rfl⟩:=hc;simp[Xq,X0,V9,Tz,upd,AV.ok]
      ·simp[TA]at hc;obtain⟨rfl,rfl⟩:=hc;simp[Xq,X0,V9,Tz,upd,AV.ok]
    | cons y ys=>
     refine VN hmix hE hK hG hGb hT (n:=0) _ _ k1 _ _ w1 m1 β1 ν1 .normal _ _ (by simp[ZD,cl1,Z9,Z4,Qi,YC,val,AV.ok,upd,XB,AV.strip];rfl) hI1 fun a2 w2 m2 β2 ν2 hI2=> ?_;have hb:a2.eval (.tmp 4)= .bool false:=by
      obtain⟨_,h2⟩:=hI2.at_ (n:=4) (by simp[upd]);have h3:=hI2.slots 4 _ h2;simp only[upd]at h3;obtain⟨h3,_⟩:=h3;exact h3
     refine wp_cond_false hb (wp_skip ?_);obtain⟨σ3,e1,e2⟩:=BK (K:=fun _ _ _=>none) (o:=false) (σ:={env:=upd (upd (upd (XB [.sl o s (y:: ys)]) 2 (.sl true s [])) 3 (.sl false s (y:: ys))) 4 (.bool false),bs:=bs}) (by simp[upd,XB,AV.strip]) hc;exact VN hmix hE hK hG hGb hT (n:=0) (.seq (MJ g _ bytes s) .ret) (.seq r3 .ret) (by simp[Xk,k3]) _ _ w2 m2 β2 ν2 .ret σ3 _ e1 hI2 fun a3 w3 m3 β3 ν3 hI3=>hend σ3 (by rw[hfin0];exact e2) a3 w3 m3 β3 ν3 hI3
   ·cases hbody
  ·cases hc
 ·cases hc
end
end Go.Am
namespace Go.Am
def L7:Qh->WU
 | [.str a,.str b]=>some (.int .i64 (if Op.bytesLess a b then -1 else if a == b then 0 else 1))
 | _=>none
def AN:Nat->Nat->Qu->Qu
 | 0,_,acc=>acc
 | k+1,n,acc=>if n < 10 then(48+n).toUInt8:: acc else AN k (n / 10) ((48+n % 10).toUInt8:: acc)
def Nj (n:Nat):Qu:=AN (n+1) n []
def dec (n:Int):Qu:=if n < 0 then 45:: Nj n.natAbs else Nj n.natAbs
def HM:Qh->WU
 | [.int .i64 n]=>if -9223372036854775808<=n/\n<=9223372036854775807 then some (.str (dec n))else none
 | _=>none
def HI:Qh->WU
 | [.str s]=>if s.length < 1000000 then
   (match Lib.atoiAll s with
    | .ok v=>some (.tup [.int .i64 v,.err true])
    | .range=>some (.tup [.int .i64 (Lib.atoiSat s),.err false])
    | _=>some (.tup [.int .i64 0,.err false]))
   else none
 | _=>none
def Nk:Nat->Nat->Qu
 | 0,_=>[]
 | k+1,n=>if n < 10 then [(48+n).toUInt8]else Nk k (n / 10)++ [(48+n % 10).toUInt8]
def IK: ∀(k n:Nat) (acc:Qu),AN k n acc=Nk k n ++ acc
 | 0,_,_=>rfl
 | k+1,n,acc=>by
  simp only[AN,Nk];split
  ·rfl
  ·rw[IK];simp
def IJ: ∀(k n m:Nat),n < k->k<=m->Nk m n=Nk k n
 | 0,_,_,h,_=>by omega
 | k+1,n,0,_,h=>by omega
 | k+1,n,m+1,h,h2=>by
  simp only[Nk];split
  ·rfl
  ·rw[IJ k (n / 10) m (by omega) (by omega)]
def Ic (n:Nat):Nj n=Nk (n+1) n:=by rw[Nj,IK];simp
def AM {n:Nat} (h:n < 10):Nj n=[(48+n).toUInt8]:=by rw[Ic,Nk,Qn h]
def AL {n:Nat} (h: ¬n < 10):Nj n=Nj (n / 10)++ [(48+n % 10).toUInt8]:=by
 rw[Ic,Nk,Qm h,Ic,IJ (n / 10+1) (n / 10) n (by omega) (by omega)]
end Go.Am
namespace Go.Am
open Go.RowKit
def Oo (P:Program):Nat:=max (max ((P.globalNamed "internal/strconv.uint64pow10").getD 0) ((P.globalNamed "strconv.ErrSyntax").getD 0)) ((P.globalNamed "strconv.ErrRange").getD 0)+1
def S7 [Dr] {P:Program} {X:Nat->Prop} {w w':World} {m m':ZF} {B:Nat} (hS:ZO X w m w' m') (hX: ∀b,X b->B<=b) (hb:B<=w.heap.size) {n:String} (hn: (P.globalNamed n).getD 0 < B):w'.var? P n=w.var? P n:=by
 unfold World.var?;cases hg:P.globalNamed n with
 | none=>rfl
 | some g=>
  rw[hg]at hn;simp only[Sg]at hn;simp only[QC];rw[(hS.same g (by omega) (fun hx=>by have:=hX g hx;omega)).1]
def Qeb {P:Program} {w:World} {n:String} {cs:Ze} (h:w.var? P n=some cs): (P.globalNamed n).getD 0 < w.heap.size:=by
 unfold World.var? at h;cases hg:P.globalNamed n with
 | none=>rw[hg]at h;cases h
 | some g=>
  rw[hg]at h;simp only[QC]at h;simp only[Sg];rcases QR g w.heap.size with h1 | h1
  ·exact h1
  ·rw[VI h1]at h;cases h
def Oa (P:Program) (w:World):Prop:=Lib.TabIs P w "internal/strconv.uint64pow10" .u64 Lib.pow10Tab/\
 (P.globalNamed "strconv.ErrSyntax" ≠none->∃tp p,w.var? P "strconv.ErrSyntax" =some #[.iface tp p])/\(P.globalNamed "strconv.ErrRange" ≠none->∃tp p,w.var? P "strconv.ErrRange" =some #[.iface tp p])
def QiF [Dr] {P:Program} {w:World} (h:Oa P w):Oo P<=w.heap.size:=by
 obtain⟨h1,h2,h3⟩:=h;have g1:=Qeb h1;have key: ∀{n:String},(P.globalNamed n≠none->∃tp p,w.var? P n=some #[.iface tp p])->(P.globalNamed n).getD 0 < w.heap.size:=fun {n} hn=>by
  by_cases c:P.globalNamed n=none
  ·rw[c];simp only[Option.getD_none];omega
  ·obtain⟨_,_,h⟩:=hn c;exact Qeb h
 have g2:=key h2;have g3:=key h3;unfold Oo;omega
def glob [Dr] (P:Program):YU where
 G:=fun w _=>Oa P w
 nm:=fun _ _=>False
 tab:=fun _ _ _ _ _ _ h=>h.elim
 Gb:=Oo P
 step:=fun X w m w' m' hS hX hb hG=>by
  unfold Oa Lib.TabIs at *;rw[S7 hS hX hb (by unfold Oo;omega),S7 hS hX hb (by unfold Oo;omega),S7 hS hX hb (by unfold Oo;omega)];exact hG
def QaI [Dr] {w w':World} {m:ZF} (h:Below w.heap.size w w') (hdr:Dr.d->w.drawn<=w'.drawn):ZO (fun _=>False) w m w' m:=by
 refine⟨h.os,h.tape,h.output,h.size,fun b hb _=>⟨h.block b hb,rfl⟩,fun b i u hu=> ?_,hdr⟩;unfold hg at hu ⊢;split at hu
 ·rename_i hi;rw[Qn hi];have hb:b < w.heap.size:=by
   rcases QR b w.heap.size with h1 | h1
   ·exact h1
   ·exfalso;unfold World.cell? at hu;rw[VI h1]at hu;cases hu
  unfold World.cell? at hu ⊢;rw[h.block b hb];exact hu
 ·cases hu
section
variable {P:Program} {num:Nat->Option Nat}
def To [Dr] {Γ:YU} {h:Qh->WU} {g:Nat}
  (hc: ∀(args:Qh) (r:AV),h args=some r->∀(w:World) (m:ZF) (β:Xv) (vs:Ze),Γ.G w m->vs.size=args.length->
   (∀(i:Nat) (c:AV),args[i]? =some c->∃u,vs[i]? =some u/\Qd num β w m c u)->
   Calls P g vs w fun e w'=>∃v,e= .returned v/\Below w.heap.size w w'/\(Dr.d->w.drawn<=w'.drawn)/\r.ok=true/\(∀w' m',Qd num β w' m' r v)/\(∀w' m' ν',Zz w' m' ν' .f r v)):
  Qcs P num Γ h g:=by
 intro args r hr hok w m β vs hG hGb hvs hrep;refine(hc args r hr w m β vs hG hvs hrep).mono fun e w' he=> ?_;obtain⟨v,he,hB,hdr,h1,h2,h3⟩:=he;exact⟨v,m,fun _=>none,he,QaI hB hdr,h1,h2 w' m,h3 w' m _,fun b p hp=>by cases hp⟩
def Qez {vs:Ze} {u:Value} (h:vs.size=1) (h0:vs[0]? =some u):vs= #[u]:=by
 apply Ml;intro i;cases i with
 | zero=>rw[h0];rfl
 | succ i=>rw[VI (by omega),VI (by simp)]
def JX {vs:Ze} {u v:Value} (h:vs.size=2) (h0:vs[0]? =some u) (h1:vs[1]? =some v):vs= #[u,v]:=by
 apply Ml;intro i
 match i with
 | 0=>rw[h0];rfl
 | 1=>rw[h1];rfl
 | i+2=>rw[VI (by omega),VI (by simp)]
def XL (s:Qu): (⟨s.toArray⟩:ByteArray).data.toList=s:=by simp
def Ta (s:Qu): (⟨s.toArray⟩:ByteArray).size=s.length:=by simp[ByteArray.size]
def FK:=@beq_eq_false_iff_ne
def Pf:=@UInt8.lt_iff_toNat_lt
def P4: ∀a b:Qu,Lib.compareBytes a b=if Op.bytesLess a b then -1 else if a == b then 0 else 1
 | [],[]=>rfl
 | [],_:: _=>by simp[Lib.compareBytes,Op.bytesLess]
 | _:: _,[]=>by simp[Lib.compareBytes,Op.bytesLess]
 | a:: aq,b:: bs=>by
  simp only[Lib.compareBytes,Op.bytesLess,P4 aq bs];by_cases h1:a < b
  ·simp[h1]
  ·by_cases h2:b < a
   ·have hne: (a == b)=false:=by
     rw[FK];intro e;subst e;exact h1 h2
    simp[h1,h2,hne]
   ·have he:a=b:=by
     apply UInt8.toNat_inj.1;rw[Pf]at h1 h2;omega
    subst he;simp[h1]
def Bc [Dr] {Γ:YU} {g:Nat} (hC: ∀(a b:ByteArray) (w:World),Calls P g #[.string a,.string b] w fun e w'=>e= .returned (.int .i64 (Lib.compareBytes a.data.toList b.data.toList))/\w'=w):VF P num Γ (YF L7) g:=by
 refine S6 (To fun args r hr w m β vs hG hvs hrep=> ?_);unfold L7 at hr;split at hr
 ·rename_i a b;injection hr with hr
  subst hr;obtain⟨u,h0,h1⟩:=hrep 0 _ rfl;obtain⟨u2,h2,h3⟩:=hrep 1 _ rfl;simp only[Qd]at h1 h3;subst h1 h3;rw[JX hvs h0 h2];refine(hC _ _ w).mono fun e w' he=> ?_;obtain⟨rfl,rfl⟩:=he;rw[XL,XL,P4];exact⟨_,rfl,Below.refl _ _,fun _=>ZJ _,rfl,fun _ _=>by simp only[Qd],fun _ _ _=>trivial⟩
 ·cases hr
def NT: ∀n:Nat,Lib.decDigits n=Nj n:=by
 intro n
 induction n using Nat.strongRecOn with
 | ind n ih=>
  by_cases h:n < 10
  ·rw[Lib.decDigits_one h,AM h]
  ·rw[Lib.decDigits,dif_neg h,AL h,ih (n / 10) (by omega)]
def QiJ [Dr] (n:Int):Lib.itoa n=dec n:=by
 unfold Lib.itoa dec;split
 ·rw[NT]
 ·rw[NT];congr 1;omega
def Aq (w:World) (k:Nat) (os:Array Obj):Below w.heap.size w (Sort.grow (w.drewN k) os):=
 ⟨rfl,rfl,rfl,by simp[Sort.grow,World.drewN],fun b hb=>by
  show((w.drewN k).heap ++ os)[b]? =_;rw[U7 (by simpa[World.drewN]using hb)];rfl⟩
def Qfp [Dr] {Γ:YU} (hGl: ∀w m,Γ.G w m->Oa P w) {g:Nat} (hC: ∀(n:Int),-9223372036854775808<=n->n<=9223372036854775807->∀(w:World),Lib.TabIs P w "internal/strconv.uint64pow10" .u64 Lib.pow10Tab->
  Calls P g #[.int .i64 n] w fun e w'=>e= .returned (.string ⟨(Lib.itoa n).toArray⟩)/\∃k os,w'=Sort.grow (w.drewN k) os):VF P num Γ (YF HM) g:=by
 refine S6 (To fun args r hr w m β vs hG hvs hrep=> ?_);unfold HM at hr;split at hr
 ·rename_i n;split at hr
  ·rename_i hn;injection hr with hr
   subst hr;obtain⟨u,h0,h1⟩:=hrep 0 _ rfl;simp only[Qd]at h1;subst h1;rw[Qez hvs h0];refine(hC n hn.1 hn.2 w (hGl w m hG).1).mono fun e w' he=> ?_;obtain⟨rfl,k,os,rfl⟩:=he;rw[QiJ];exact⟨_,rfl,Aq w k os,fun _=>Nat.le_add_right _ _,rfl,fun _ _=>by simp only[Qd],fun _ _ _=>trivial⟩
  ·cases hr
 ·cases hr
def QeB [Dr] {Γ:YU} (hGl: ∀w m,Γ.G w m->Oa P w) (hD: ¬Dr.d) (hs0:P.globalNamed "strconv.ErrSyntax" ≠none) (hr0:P.globalNamed "strconv.ErrRange" ≠none) {g:Nat} (h1: ∀(s:ByteArray),s.size<=9223372036854775806->∀(v:Int),Lib.atoiAll s.data.toList= .ok v->∀(w:World),
   Calls P g #[.string s] w fun e w'=>e= .returned (.tuple #[.int .i64 v,.nilIface])/\Below w.heap.size w w')
  (h2: ∀(s:ByteArray),s.size<=281474976710656->Lib.atoiAll s.data.toList=Lib.NumEnd.syntax->∀(tp:TypeId) (p:Value) (w:World),w.var? P "strconv.ErrSyntax" =some #[.iface tp p]->
   Calls P g #[.string s] w fun e w'=>∃t x,e= .returned (.tuple #[.int .i64 0,.iface t x])/\Below w.heap.size w w')
  (h3: ∀(s:ByteArray),s.size<=281474976710656->Lib.atoiAll s.data.toList= .range->∀(tp:TypeId) (p:Value) (w:World),w.var? P "strconv.ErrRange" =some #[.iface tp p]->
   Calls P g #[.string s] w fun e w'=>∃t x,e= .returned (.tuple #[.int .i64 (Lib.atoiSat s.data.toList),.iface t x])/\Below w.heap.size w w'):
  VF P num Γ (YF HI) g:=by
 refine S6 (To fun args r hr w m β vs hG hvs hrep=> ?_);unfold HI at hr;split at hr
 ·rename_i s;split at hr
  ·rename_i hs;obtain⟨u,h0,hu⟩:=hrep 0 _ rfl;simp only[Qd]at hu;subst hu;rw[Qez hvs h0];obtain⟨hg1,hg2,hg3⟩:=hGl w m hG;obtain⟨tp1,p1,hg2⟩:=hg2 hs0;obtain⟨tp2,p2,hg3⟩:=hg3 hr0;cases ha:Lib.atoiAll s with
   | ok v=>
    rw[ha]at hr;injection hr with hr
    subst hr;refine(h1 ⟨s.toArray⟩ (by rw[Ta];omega) v (by rw[XL];exact ha) w).mono fun e w' he=> ?_;obtain⟨rfl,hB⟩:=he;refine⟨_,rfl,hB,fun h=>absurd h hD,rfl,fun _ _=> ?_,fun _ _ _=>trivial⟩;simp only[Qd];exact⟨_,rfl,rfl,by simp[X5,Qd]⟩
   | range=>
    rw[ha]at hr;injection hr with hr
    subst hr;refine(h3 ⟨s.toArray⟩ (by rw[Ta];omega) (by rw[XL];exact ha) tp2 p2 w hg3).mono fun e w' he=> ?_;obtain⟨t,x,rfl,hB⟩:=he;rw[XL];refine⟨_,rfl,hB,fun h=>absurd h hD,rfl,fun _ _=> ?_,fun _ _ _=>trivial⟩;simp only[Qd];exact⟨_,rfl,rfl,by simp[X5,Qd]⟩
   | _=>
    rw[ha]at hr;injection hr with hr
    subst hr;refine(h2 ⟨s.toArray⟩ (by rw[Ta];omega) (by rw[XL];exact ha) tp1 p1 w hg2).mono fun e w' he=> ?_;obtain⟨t,x,rfl,hB⟩:=he;refine⟨_,rfl,hB,fun h=>absurd h hD,rfl,fun _ _=> ?_,fun _ _ _=>trivial⟩;simp only[Qd];exact⟨_,rfl,rfl,by simp[X5,Qd]⟩
  ·cases hr
 ·cases hr
end
end Go.Am
namespace Go.Am
section
variable {P:Program} {num:Nat->Option Nat} {tb:Nat->Option AFn}
def Ent (P:Program) (g:Nat):Prop:=∃fn,P.funcs[g]? =some fn/\(fn.name == "runtime.NumGoroutine")=false/\fn.body.isNone=false
abbrev Mx:=List (Nat×Nat)
def Qac {L:Mx} {f g:Nat} (h:L.lookup f=some g): (f,g)∈L:=by
 induction L with
 | nil=>cases h
 | cons p L ih=>
  obtain⟨a,b⟩:=p;rw[List.lookup_cons]at h;by_cases hab:f=a
  ·subst hab;simp at h;subst h;simp
  ·have: (f == a)=false:=by simpa using hab
   rw[this]at h;exact Pg _ (ih h)
def QcX [Dr] {L:Mx} (h: ∀p∈L,Ent P p.2):Vj P (fun f=>L.lookup f):=fun f g hfg=>h (f,g) (Qac hfg)
def WX {α:Type} {p:α->Prop} {a:α} {l:List α} (h:p a) (hl: ∀x∈l,p x): ∀x∈a:: l,p x:=fun x hx=>by
 rcases ZS.1 hx with rfl | hx
 ·exact h
 ·exact hl x hx
def Qnw {α:Type} {p:α->Prop}: ∀x∈([]:List α),p x:=fun x hx=>by cases hx
def AR (P:Program) (g:Nat):Bool:=match P.funcs[g]? with
 | some fn=> !(fn.name == "runtime.NumGoroutine") && !fn.body.isNone
 | none=>false
def Tc [Dr] {L:Mx} (h: (L.all fun p=>AR P p.2)=true):Vj P (fun f=>L.lookup f):=QcX fun p hp=>by
 have h1:=XK.1 h p hp;unfold AR at h1;split at h1
 ·rename_i fn hf;simp only[Qo,Us]at h1;exact⟨fn,hf,h1.1,h1.2⟩
 ·cases h1
def Xt (P:Program) (L:Mx) (T:List (Nat×AFn)):Bool:=T.all fun p=>match p.2 with
 | .code fn=>(match L.lookup p.1 with
  | some g=>(match P.funcs[g]? with
   | some F=>Qah P (fun f=>L.lookup f) fn F
   | none=>false)
  | none=>true)
 | .orc _=>true
def KI:=@List.take_append_drop
def XW {L:Mx} {T:List (Nat×AFn)} (n:Nat) (h1:Xt P L (T.take n)=true) (h2:Xt P L (T.drop n)=true):Xt P L T=true:=by
 unfold Xt at *;rw[<- KI n T,Mq,h1,h2];rfl
def LP {L:List (Nat×AFn)} {f:Nat} {g:AFn} (h:L.lookup f=some g): (f,g)∈L:=by
 induction L with
 | nil=>cases h
 | cons p L ih=>
  obtain⟨a,b⟩:=p;rw[List.lookup_cons]at h;by_cases hab:f=a
  ·subst hab;simp at h;subst h;simp
  ·have: (f == a)=false:=by simpa using hab
   rw[this]at h;exact Pg _ (ih h)
def Oat [Dr] (P:Program) (L:Mx) (Γ:YU) (tb:Vm) (f:Nat):Prop:=∀g h,L.lookup f=some g->tb f=some (.orc h)->VF P (fun f=>L.lookup f) Γ h g
def XY [Dr] {L:Mx} {Γ:YU} {f g:Nat} {h:Qh->Qa->Option (AV×Qa)} (ht:tb f=some (.orc h)) (hg:L.lookup f=some g) (hO:VF P (fun f=>L.lookup f) Γ h g):Oat P L Γ tb f:=
 fun g2 h2 e1 e2=>by
  rw[hg]at e1;rw[ht]at e2;injection e1 with e1
  injection e2 with e2
  injection e2 with e2
  subst e1;subst e2;exact hO
def EU [Dr] {Γ:YU} {L:Mx} {T:List (Nat×AFn)} (os:VH) (htb: ∀f,tb f=T.lookup f) (hmix:P.follows .mixedOrders=true) (hE: (L.all fun p=>AR P p.2)=true) (hc:Xt P L T=true)
  (ho: (T.all fun p=>match p.2 with | .orc _=>os.contains p.1 | .code _=>true)=true) (hO: ∀f∈os,Oat P L Γ tb f) (hnm: ∀k g,P.globalNamed (Lj k)=some g->Γ.nm k g):JT P (fun f=>L.lookup f) Γ tb where
 mix:=hmix
 nms:=hnm
 enters:=Tc hE
 code:=fun f g fn hfg ht=>by
  rw[htb]at ht;have h1:=XK.1 hc _ (LP ht);simp only[hfg]at h1;split at h1
  ·rename_i F hF;exact⟨F,hF,h1⟩
  ·cases h1
 orc:=fun f g h hfg ht=>by
  have ht2:=ht;rw[htb]at ht2;have h1:=XK.1 ho _ (LP ht2);simp only at h1;exact hO f (by simpa using h1) g h hfg ht
end
end Go.Am
